/- The machine comes to these answers: part 3. -/
import Derived.Test.YtngajodhbioheaaQl0
import Derived.Test.YtngajodhbioheaaQr0
import Derived.Test.YtngajodhbioheaaQr1
set_option linter.all false
set_option maxRecDepth 100000
set_option maxHeartbeats 4000000
namespace Go.Dvm.C
open Go Go.Dvm Go.Dvm.I
def zbr3 (q : Nat) : Prop := ∀ (M : Nat) (hM : 8 * q ≤ M) (j : Nat) (hj : q ≤ j) (v0z : Bool) (v0l : List (Sl Int)) (v3 : Int) (v9z : Bool) (v9l : List (Sl Int)) (v10 v11 : Int) (r : (Ow Int)) (_ : znd q v0z v0l v3 v9z v9l v10 v11 = some r) (R : Option (List V)) (_ : some [(Ow.enc 1 (V.int .u8)) r] = R) (fr : Fr) (H : Hp) (_ : canon 0 [0, 3, 9, 10, 11] fr H = ([(0, (.sl v0z (List.map (Sl.enc (V.int .u8)) v0l))), (3, (.int .i64 v3)), (9, (.sl v9z (List.map (Sl.enc (V.int .u8)) v9l))), (10, (.int .i64 v10)), (11, (.int .i64 v11))], [])), fin zyv (unw T (orc T (M + 7)) (M + 7) 0 [.blk 0, .code zyr] (iter 0 [0, 3, 9, 10, 11] (exec T (orc T (M + 7)) (M + 7) 0 zya) j fr H)) = R
def zbr4 (q : Nat) : Prop := ∀ (M : Nat) (hM : 8 * q ≤ M) (j : Nat) (hj : q ≤ j) (v6len : Nat) (v25z : Bool) (v25l : List (Sl Int)) (v26 v27 : Int) (h0z : Bool) (h0l : List Int) (r : (Ow Int)) (_ : zna q v6len v25z v25l v26 v27 h0z h0l = some r) (R : Option (List V)) (_ : some [(Ow.enc 1 (V.int .u8)) r] = R) (fr : Fr) (H : Hp) (_ : canon 0 [6, 25, 26, 27] fr H = ([(6, (.vw 0 0 0 v6len 0)), (25, (.sl v25z (List.map (Sl.enc (V.int .u8)) v25l))), (26, (.int .i64 v26)), (27, (.int .i64 v27))], [(.row 0 h0z 1 (List.map (V.int .u8) h0l) true)])), fin zyv (unw T (orc T (M + 7)) (M + 7) 0 [.blk 2, .code zyp] (iter 0 [6, 25, 26, 27] (exec T (orc T (M + 7)) (M + 7) 0 zym) j fr H)) = R
def zbr5 (q : Nat) : Prop := ∀ (M : Nat) (hM : 8 * q ≤ M) (j : Nat) (hj : q ≤ j) (v25z : Bool) (v25l : List (Sl Int)) (v26 : Int) (r : (Ow Int)) (_ : znc q v25z v25l v26 = some r) (R : Option (List V)) (_ : some [(Ow.enc 1 (V.int .u8)) r] = R) (fr : Fr) (H : Hp) (_ : canon 0 [6, 25, 26, 27] fr H = ([(6, (.sl true [])), (25, (.sl v25z (List.map (Sl.enc (V.int .u8)) v25l))), (26, (.int .i64 v26)), (27, (.int .i64 0))], [])), fin zyv (unw T (orc T (M + 7)) (M + 7) 0 [.blk 2, .code zyp] (iter 0 [6, 25, 26, 27] (exec T (orc T (M + 7)) (M + 7) 0 zym) j fr H)) = R
def zbr6 (q : Nat) : Prop := ∀ (M : Nat) (hM : 8 * q ≤ M) (j : Nat) (hj : q ≤ j) (v25z : Bool) (v25l : List (Sl Int)) (v26 v27 : Int) (h0z : Bool) (h0l : List Int) (r : (Ow Int)) (_ : znb q v25z v25l v26 v27 h0z h0l = some r) (R : Option (List V)) (_ : some [(Ow.enc 1 (V.int .u8)) r] = R) (fr : Fr) (H : Hp) (_ : canon 0 [6, 25, 26, 27] fr H = ([(6, (.vw 0 0 0 h0l.length 1)), (25, (.sl v25z (List.map (Sl.enc (V.int .u8)) v25l))), (26, (.int .i64 v26)), (27, (.int .i64 v27))], [(.row 0 h0z 1 (List.map (V.int .u8) h0l) true)])), fin zyv (unw T (orc T (M + 7)) (M + 7) 0 [.blk 2, .code zyp] (iter 0 [6, 25, 26, 27] (exec T (orc T (M + 7)) (M + 7) 0 zym) j fr H)) = R
def zbr7 := And.intro @kk <| And.intro @ke <| And.intro @kn <| And.intro @zbds <| And.intro @zbfm <| And.intro @zbfn <| And.intro @zbfo <| @zbdu
theorem zbr8 (q : Nat) (zbsp : zbr3 q) (zbsq : zbr4 q) (zbsr : zbr5 q) : zbr3 (q + 1) := by
 intro M hM j hj v0z v0l v3 v9z v9l v10 v11 r h R hR fr H hc
 obtain ⟨j, rfl⟩ : ∃ i, j = i + 1 := ⟨j - 1, by omega⟩
 rw [zhn, hc]; clear hc
 rw [znd] at h
 replace h := br h; rcases h with ⟨h1, h⟩ | ⟨h1, h⟩
 ·replace h := bn h; obtain ⟨h2, h⟩ := h
  replace h := ob h; obtain ⟨e1, h3, h⟩ := h
  replace h := bm h; obtain ⟨h4, h⟩ := h
  replace h := zbsp M (by omega) j (by omega) _ _ _ _ _ _ _ _ h R hR
  simp only [zbr7, simprocAttr, *]
 ·replace h := bm h; obtain ⟨h5, h⟩ := h
  replace h := br h; rcases h with ⟨h6, h⟩ | ⟨h6, h⟩
  ·replace h := bn h; obtain ⟨h7, h⟩ := h
   replace h := bn h; obtain ⟨h8, h⟩ := h
   replace h := bm h; obtain ⟨h9, h⟩ := h
   replace h := zbsq M (by omega) (M + 7) (by omega) _ _ _ _ _ _ _ _ h R hR
   simp only [zbr7, simprocAttr, *]
  ·replace h := zbsr M (by omega) (M + 7) (by omega) _ _ _ _ h R hR
   simp only [zbr7, simprocAttr, *]
theorem zbr9 (q : Nat) (zbsq : zbr4 q) : zbr4 (q + 1) := by
 intro M hM j hj v6len v25z v25l v26 v27 h0z h0l r h R hR fr H hc
 obtain ⟨j, rfl⟩ : ∃ i, j = i + 1 := ⟨j - 1, by omega⟩
 rw [zhn, hc]; clear hc
 rw [zna] at h
 replace h := br h; rcases h with ⟨h1, h⟩ | ⟨h1, h⟩
 ·replace h := bn h; obtain ⟨h2, h⟩ := h
  replace h := ob h; obtain ⟨e2, h3, h⟩ := h
  replace h := bn h; obtain ⟨h4, h⟩ := h
  replace h := zbsq M (by omega) j (by omega) _ _ _ _ _ _ _ _ h R hR
  simp only [zbr7, simprocAttr, *]
 ·cases h; subst hR; simp only [zbr7, simprocAttr, *]
theorem zbsa (q : Nat) (zbss : zbr6 q) : zbr5 (q + 1) := by
 intro M hM j hj v25z v25l v26 r h R hR fr H hc
 obtain ⟨j, rfl⟩ : ∃ i, j = i + 1 := ⟨j - 1, by omega⟩
 rw [zhn, hc]; clear hc
 rw [znc] at h
 replace h := br h; rcases h with ⟨h1, h⟩ | ⟨h1, h⟩
 ·replace h := ob h; obtain ⟨e3, h2, h⟩ := h
  replace h := bn h; obtain ⟨h3, h⟩ := h
  replace h := zbss M (by omega) j (by omega) _ _ _ _ _ _ _ h R hR
  simp only [zbr7, simprocAttr, *]
 ·cases h; subst hR; simp only [zbr7, simprocAttr, *]
theorem zbsb (q : Nat) (zbss : zbr6 q) : zbr6 (q + 1) := by
 intro M hM j hj v25z v25l v26 v27 h0z h0l r h R hR fr H hc
 obtain ⟨j, rfl⟩ : ∃ i, j = i + 1 := ⟨j - 1, by omega⟩
 rw [zhn, hc]; clear hc
 rw [znb] at h
 replace h := br h; rcases h with ⟨h1, h⟩ | ⟨h1, h⟩
 ·replace h := bn h; obtain ⟨h2, h⟩ := h
  replace h := ob h; obtain ⟨e4, h3, h⟩ := h
  replace h := bn h; obtain ⟨h4, h⟩ := h
  replace h := zbss M (by omega) j (by omega) _ _ _ _ _ _ _ h R hR
  simp only [zbr7, simprocAttr, *]
 ·cases h; subst hR; simp only [zbr7, simprocAttr, *]
theorem zbsc : ∀ q, zbr3 q ∧ zbr4 q ∧ zbr5 q ∧ zbr6 q
 | 0 => by refine ⟨?_, ?_, ?_, ?_⟩ <;> (intro M hM j hj; intros; rename_i h _ _ _ _ _; cases h)
 | q + 1 => by have ⟨i0, i1, i2, i3⟩ := zbsc q; exact ⟨zbr8 q i0 i1 i2, zbr9 q i1, zbsa q i3, zbsb q i3⟩
theorem zbsd : ∀ (q N : Nat), 8 * q ≤ N → ∀ (a0 : (Sl (Sl Int))), ∀ (r : (Ow Int)), zne q a0 = some r → (orc T N).deep F.zne [(Sl.enc (Sl.enc (V.int .u8))) a0] = some [(Ow.enc 1 (V.int .u8)) r] := by
 intro q N hM a0 r h
 rcases q with _ | q
 ·cases h
 obtain ⟨M, rfl⟩ : ∃ M, N = M + 8 := ⟨N - 8, by omega⟩
 have zbsp := (zbsc q).1
 generalize hR : some [(Ow.enc 1 (V.int .u8)) r] = R
 rw [zhw, z9u, y6, zhu zyv rfl]
 rw [zne] at h
 replace h := zbsp M (by omega) (M + 7) (by omega) _ _ _ _ _ _ _ _ h R hR
 simp only [zbr7, simprocAttr, *]
def zbse := And.intro @kk <| And.intro @ke <| And.intro @kn <| And.intro @zbcv <| And.intro @zbdk <| And.intro @zbdt <| And.intro @zbeq <| @zbcx
theorem zbsf : ∀ (q N : Nat), 8 * q ≤ N → ∀ (a0 : (Sl Int)), ∀ (r : (Ow Int) × Int), znf q a0 = some r → (orc T N).deep F.znf [(Sl.enc (V.int .u8)) a0] = some [(Ow.enc 1 (V.int .u8)) r.1, (V.int .i64) r.2] := by
 intro q N hM a0 r h
 rcases q with _ | q
 ·cases h
 obtain ⟨M, rfl⟩ : ∃ M, N = M + 8 := ⟨N - 8, by omega⟩
 generalize hR : some [(Ow.enc 1 (V.int .u8)) r.1, (V.int .i64) r.2] = R
 rw [zhw, z9j, y6, zhu zvu rfl]
 rw [znf] at h
 replace h := br h; rcases h with ⟨h1, h⟩ | ⟨h1, h⟩
 ·cases h; subst hR; simp only [zbse, simprocAttr, *]
 ·replace h := ob h; obtain ⟨r1, h2, h⟩ := h
  replace h2 := zbq0 q (M + 7) (by omega) _ _ _ h2
  try simp only [kf, simprocAttr] at h2
  replace h := ob h; obtain ⟨r2, h3, h⟩ := h
  replace h3 := zbmp q (M + 7) (by omega) _ _ _ h3
  try simp only [kf, simprocAttr] at h3
  replace h := ob h; obtain ⟨r3, h4, h⟩ := h
  replace h4 := zbsd q (M + 7) (by omega) _ _ h4
  try simp only [kf, simprocAttr] at h4
  cases h; subst hR; simp only [zbse, simprocAttr, *]
def zbsg (q : Nat) : Prop := ∀ (M : Nat) (hM : 8 * q ≤ M) (j : Nat) (hj : q ≤ j) (v27z : Bool) (v27l : List Int) (v28 v29 h0_0 h0_1 h0_2 h0_3 : Int) (h0_4z : Bool) (h0_4l : List Int) (h0_5 : Bool) (h0_6 : Int) (h0_7z : Bool) (h0_7l : List zjk) (h1z : Bool) (h1l : List Int) (h1x : Bool) (r : (Ow Int) × Int) (_ : znh q v27z v27l v28 v29 h0_0 h0_1 h0_2 h0_3 h0_4z h0_4l h0_5 h0_6 h0_7z h0_7l h1z h1l h1x = some r) (R : Option (List V)) (_ : some [(Ow.enc 1 (V.int .u8)) r.1, (V.int .i64) r.2] = R) (fr : Fr) (H : Hp) (_ : canon 0 [1, 4, 27, 28, 29] fr H = ([(1, (.ptr 0 0)), (4, (.vw 1 0 0 h1l.length 1)), (27, (.sl v27z (List.map (V.int .i64) v27l))), (28, (.int .i64 v28)), (29, (.int .i64 v29))], [(.box [(.int .i64 h0_0), (.int .i64 h0_1), (.int .i64 h0_2), (.int .i64 h0_3), (.sl h0_4z (List.map (V.int .i64) h0_4l)), (.bool h0_5), (.int .i64 h0_6), (.sl h0_7z (List.map zjk.enc h0_7l))]), (.row 0 h1z 1 (List.map (V.int .u8) h1l) h1x)])), fin zq8 (unw T (orc T (M + 7)) (M + 7) 0 [.blk 0, .code zq3] (iter 0 [1, 4, 27, 28, 29] (exec T (orc T (M + 7)) (M + 7) 0 zqg) j fr H)) = R
def zbsh (q : Nat) : Prop := ∀ (M : Nat) (hM : 8 * q ≤ M) (j : Nat) (hj : q ≤ j) (v50z : Bool) (v50l : List zjk) (v51 v52 : Int) (h0z : Bool) (h0l : List Int) (h0x : Bool) (r : (Ow Int) × Int) (_ : zng q v50z v50l v51 v52 h0z h0l h0x = some r) (R : Option (List V)) (_ : some [(Ow.enc 1 (V.int .u8)) r.1, (V.int .i64) r.2] = R) (fr : Fr) (H : Hp) (_ : canon 0 [4, 50, 51, 52] fr H = ([(4, (.vw 0 0 0 h0l.length 1)), (50, (.sl v50z (List.map zjk.enc v50l))), (51, (.int .i64 v51)), (52, (.int .i64 v52))], [(.row 0 h0z 1 (List.map (V.int .u8) h0l) h0x)])), fin zq8 (unw T (orc T (M + 7)) (M + 7) 0 [.blk 2, .code zqz] (iter 0 [4, 50, 51, 52] (exec T (orc T (M + 7)) (M + 7) 0 zqw) j fr H)) = R
def zbsi := And.intro @kk <| And.intro @ke <| And.intro @kn <| And.intro @zbbd <| And.intro @zbcn <| And.intro @zbcq <| And.intro @zbct <| And.intro @zbcw <| @zbbf
theorem zbsj (q : Nat) (zbst : zbsg q) (zbsu : zbsh q) : zbsg (q + 1) := by
 intro M hM j hj v27z v27l v28 v29 h0_0 h0_1 h0_2 h0_3 h0_4z h0_4l h0_5 h0_6 h0_7z h0_7l h1z h1l h1x r h R hR fr H hc
 obtain ⟨j, rfl⟩ : ∃ i, j = i + 1 := ⟨j - 1, by omega⟩
 rw [zhn, hc]; clear hc
 rw [znh] at h
 replace h := br h; rcases h with ⟨h1, h⟩ | ⟨h1, h⟩
 ·replace h := bn h; obtain ⟨h2, h⟩ := h
  replace h := ob h; obtain ⟨e3, h3, h⟩ := h
  replace h := ob h; obtain ⟨r4, h4, h⟩ := h
  replace h4 := zbrb q (M + 7) (by omega) _ _ _ h4
  try simp only [kf, simprocAttr] at h4
  replace h := zbst M (by omega) j (by omega) _ _ _ _ _ _ _ _ _ _ _ _ _ _ _ _ _ _ h R hR
  simp only [zbsi, simprocAttr, *]
 ·replace h := bb h; rcases h with ⟨h5', h5, h⟩ | ⟨h5', h5, h⟩
  ·replace h := ob h; obtain ⟨r5, h6, h⟩ := h
   replace h6 := zbq7 q (M + 7) (by omega) _ _ _ h6
   try simp only [kf, simprocAttr] at h6
   replace h := zbsu M (by omega) (M + 7) (by omega) _ _ _ _ _ _ _ _ h R hR
   simp only [zbsi, simprocAttr, *]
  ·replace h := ob h; obtain ⟨r6, h7, h⟩ := h
   replace h7 := zbq7 q (M + 7) (by omega) _ _ _ h7
   try simp only [kf, simprocAttr] at h7
   replace h := zbsu M (by omega) (M + 7) (by omega) _ _ _ _ _ _ _ _ h R hR
   simp only [zbsi, simprocAttr, *]
theorem zbsk (q : Nat) (zbsu : zbsh q) : zbsh (q + 1) := by
 intro M hM j hj v50z v50l v51 v52 h0z h0l h0x r h R hR fr H hc
 obtain ⟨j, rfl⟩ : ∃ i, j = i + 1 := ⟨j - 1, by omega⟩
 rw [zhn, hc]; clear hc
 rw [zng] at h
 replace h := br h; rcases h with ⟨h1, h⟩ | ⟨h1, h⟩
 ·replace h := bn h; obtain ⟨h2, h⟩ := h
  replace h := ob h; obtain ⟨e7, h3, h⟩ := h
  replace h := ob h; obtain ⟨r8, h4, h⟩ := h
  replace h4 := zbq7 q (M + 7) (by omega) _ _ _ h4
  try simp only [kf, simprocAttr] at h4
  replace h := ob h; obtain ⟨r9, h5, h⟩ := h
  replace h5 := zbrb q (M + 7) (by omega) _ _ _ h5
  try simp only [kf, simprocAttr] at h5
  replace h := zbsu M (by omega) j (by omega) _ _ _ _ _ _ _ _ h R hR
  simp only [zbsi, simprocAttr, *]
 ·replace h := ob h; obtain ⟨r10, h6, h⟩ := h
  replace h6 := zbsf q (M + 7) (by omega) _ _ h6
  try simp only [kf, simprocAttr] at h6
  cases h; subst hR; simp only [zbsi, simprocAttr, *]
theorem zbsl : ∀ q, zbsg q ∧ zbsh q
 | 0 => by refine ⟨?_, ?_⟩ <;> (intro M hM j hj; intros; rename_i h _ _ _ _ _; cases h)
 | q + 1 => by have ⟨i0, i1⟩ := zbsl q; exact ⟨zbsj q i0 i1, zbsk q i1⟩
theorem zbsm : ∀ (q N : Nat), 8 * q ≤ N → ∀ (a0 : zjm), ∀ (r : (Ow Int) × Int), zni q a0 = some r → (orc T N).deep F.zni [zjm.enc a0] = some [(Ow.enc 1 (V.int .u8)) r.1, (V.int .i64) r.2] := by
 intro q N hM a0 r h
 rcases q with _ | q
 ·cases h
 obtain ⟨M, rfl⟩ : ∃ M, N = M + 8 := ⟨N - 8, by omega⟩
 have zbst := (zbsl q).1
 generalize hR : some [(Ow.enc 1 (V.int .u8)) r.1, (V.int .i64) r.2] = R
 rw [zhw, z81, y6, zhu zq8 rfl]
 rw [zni] at h
 replace h := ob h; obtain ⟨r1, h1, h⟩ := h
 replace h1 := zbqr q (M + 7) (by omega) _ _ h1
 try simp only [kf, simprocAttr] at h1
 replace h := bb h; rcases h with ⟨h2', h2, h⟩ | ⟨h2', h2, h⟩
 ·replace h := ob h; obtain ⟨r2, h3, h⟩ := h
  replace h3 := zbq7 q (M + 7) (by omega) _ _ _ h3
  try simp only [kf, simprocAttr] at h3
  replace h := zbst M (by omega) (M + 7) (by omega) _ _ _ _ _ _ _ _ _ _ _ _ _ _ _ _ _ _ h R hR
  simp only [zbsi, simprocAttr, *]
 ·cases h; subst hR; simp only [zbsi, simprocAttr, *]
def zbsn := And.intro @kk <| And.intro @ke <| And.intro @kn <| And.intro @zbas <| And.intro @zbaw <| And.intro @zbbb <| And.intro @zbbe <| @zbau
theorem zbso : ∀ (q N : Nat), 8 * q ≤ N → ∀ (a0 : (Sl Int)), ∀ (r : Bool), znj q a0 = some r → (orc T N).deep F.znj [(Sl.enc (V.int .u8)) a0] = some [V.bool r] := by
 intro q N hM a0 r h
 rcases q with _ | q
 ·cases h
 obtain ⟨M, rfl⟩ : ∃ M, N = M + 8 := ⟨N - 8, by omega⟩
 generalize hR : some [V.bool r] = R
 rw [zhw, z8u, y6, zhu zn2 rfl]
 rw [znj] at h
 replace h := ob h; obtain ⟨r1, h1, h⟩ := h
 replace h1 := zblm q (M + 7) (by omega)  _ h1
 replace h := br h; rcases h with ⟨h2, h⟩ | ⟨h2, h⟩
 ·cases h; subst hR; simp only [zbsn, simprocAttr, *]
 ·replace h := ob h; obtain ⟨r2, h3, h⟩ := h
  replace h3 := zbqt q (M + 7) (by omega) _ _ h3
  try simp only [kf, simprocAttr] at h3
  replace h := br h; rcases h with ⟨h4, h⟩ | ⟨h4, h⟩
  ·replace h := ob h; obtain ⟨r3, h5, h⟩ := h
   replace h5 := zbsm q (M + 7) (by omega) _ _ h5
   try simp only [kf, simprocAttr] at h5
   replace h := bb h; rcases h with ⟨h6', h6, h⟩ | ⟨h6', h6, h⟩
   ·replace h := br h; rcases h with ⟨h7, h⟩ | ⟨h7, h⟩
    ·cases h; subst hR; simp only [zbsn, simprocAttr, *]
    ·cases h; subst hR; simp only [zbsn, simprocAttr, *]
   ·cases h; subst hR; simp only [zbsn, simprocAttr, *]
  ·cases h; subst hR; simp only [zbsn, simprocAttr, *]
end Go.Dvm.C
