/- The machine comes to these answers: part 3. -/
import Derived.Test.YtlcndafgippgjaaGreatQl0
import Derived.Test.YtlcndafgippgjaaGreatQr0
import Derived.Test.YtlcndafgippgjaaGreatQr1
set_option linter.all false
set_option maxRecDepth 100000
set_option maxHeartbeats 4000000
namespace Go.Dvm.C
open Go Go.Dvm Go.Dvm.I
def zcbs (q : Nat) : Prop := ∀ (M : Nat) (hM : 8 * q ≤ M) (j : Nat) (hj : q ≤ j) (v0z : Bool) (v0l : List zjs) (v3 : Int) (r : Bool) (_ : znd q v0z v0l v3 = some r) (R : Option (List V)) (_ : some [V.bool r] = R) (fr : Fr) (H : Hp) (_ : canon 0 [0, 3] fr H = ([(0, (.sl v0z (List.map zjs.enc v0l))), (3, (.int .i64 v3))], [])), fin zbe0 (unw T (orc T (M + 7)) (M + 7) 0 [.blk 0, .code zbew] (iter 0 [0, 3] (exec T (orc T (M + 7)) (M + 7) 0 zbet) j fr H)) = R
def zcbt := And.intro @kk <| And.intro @ke <| And.intro @kn <| And.intro @zbxd <| And.intro @zbvn <| @zbxf
theorem zcbu (q : Nat) (zcdl : zcbs q) : zcbs (q + 1) := by
 intro M hM j hj v0z v0l v3 r h R hR fr H hc
 obtain ⟨j, rfl⟩ : ∃ i, j = i + 1 := ⟨j - 1, by omega⟩
 rw [zhu, hc]; clear hc
 rw [znd] at h
 replace h := br h; rcases h with ⟨h1, h⟩ | ⟨h1, h⟩
 ·replace h := bn h; obtain ⟨h2, h⟩ := h
  replace h := ob h; obtain ⟨e1, h3, h⟩ := h
  replace h := ob h; obtain ⟨r2, h4, h⟩ := h
  replace h4 := zcan q (M + 7) (by omega) _ _ h4
  try simp only [kf, simprocAttr] at h4
  replace h := bb h; rcases h with ⟨h5', h5, h⟩ | ⟨h5', h5, h⟩
  ·replace h := br h; rcases h with ⟨h6, h⟩ | ⟨h6, h⟩
   ·replace h := bn h; obtain ⟨h7, h⟩ := h
    replace h := ob h; obtain ⟨e3, h8, h⟩ := h
    replace h := br h; rcases h with ⟨h9, h⟩ | ⟨h9, h⟩
    ·replace h := zcdl M (by omega) j (by omega) _ _ _ _ h R hR
     simp only [zcbt, simprocAttr, *]
    ·cases h; subst hR; simp only [zcbt, simprocAttr, *]
   ·replace h := zcdl M (by omega) j (by omega) _ _ _ _ h R hR
    simp only [zcbt, simprocAttr, *]
  ·cases h; subst hR; simp only [zcbt, simprocAttr, *]
 ·cases h; subst hR; simp only [zcbt, simprocAttr, *]
theorem zcbv : ∀ q, zcbs q
 | 0 => by intro M hM j hj; intros; rename_i h _ _ _ _ _; cases h
 | q + 1 => by have i0 := zcbv q; exact zcbu q i0
theorem zcbw : ∀ (q N : Nat), 8 * q ≤ N → ∀ (a0 : (Sl zjs)), ∀ (r : Bool), zne q a0 = some r → (orc T N).deep F.zne [(Sl.enc zjs.enc) a0] = some [V.bool r] := by
 intro q N hM a0 r h
 rcases q with _ | q
 ·cases h
 obtain ⟨M, rfl⟩ : ∃ M, N = M + 8 := ⟨N - 8, by omega⟩
 have zcdl := (zcbv q)
 generalize hR : some [V.bool r] = R
 rw [zh3, zbpt, y4, zh1]
 rw [zne] at h
 replace h := br h; rcases h with ⟨h1, h⟩ | ⟨h1, h⟩
 ·cases h; subst hR; simp only [zcbt, simprocAttr, *]
 ·replace h := br h; rcases h with ⟨h2, h⟩ | ⟨h2, h⟩
  ·cases h; subst hR; simp only [zcbt, simprocAttr, *]
  ·replace h := zcdl M (by omega) (M + 7) (by omega) _ _ _ _ h R hR
   simp only [zcbt, simprocAttr, *]
def zcbx (q : Nat) : Prop := ∀ (M : Nat) (hM : 8 * q ≤ M) (j : Nat) (hj : q ≤ j) (v0 : Int) (h0z : Bool) (h0l : List Int) (r : (Ow Int)) (_ : znf q v0 h0z h0l = some r) (R : Option (List V)) (_ : some [(Ow.enc 1 (V.int .u8)) r] = R) (fr : Fr) (H : Hp) (_ : canon 0 [0, 3] fr H = ([(0, (.int .u64 v0)), (3, (.vw 0 0 0 h0l.length 1))], [(.row 0 h0z 1 (List.map (V.int .u8) h0l) true)])), fin z1e (unw T (orc T (M + 7)) (M + 7) 0 [.blk 0, .code z1a] (iter 0 [0, 3] (exec T (orc T (M + 7)) (M + 7) 0 c_55_9) j fr H)) = R
def zcby := And.intro @kk <| And.intro @ke <| And.intro @kn <| And.intro @zbt7 <| @zbt9
theorem zcbz (q : Nat) (zcdm : zcbx q) : zcbx (q + 1) := by
 intro M hM j hj v0 h0z h0l r h R hR fr H hc
 obtain ⟨j, rfl⟩ : ∃ i, j = i + 1 := ⟨j - 1, by omega⟩
 rw [zhu, hc]; clear hc
 rw [znf] at h
 replace h := br h; rcases h with ⟨h1, h⟩ | ⟨h1, h⟩
 ·replace h := bn h; obtain ⟨h2, h⟩ := h
  replace h := zcdm M (by omega) j (by omega) _ _ _ _ h R hR
  simp only [zcby, simprocAttr, *]
 ·replace h := bn h; obtain ⟨h3, h⟩ := h
  cases h; subst hR; simp only [zcby, simprocAttr, *]
theorem zcb0 : ∀ q, zcbx q
 | 0 => by intro M hM j hj; intros; rename_i h _ _ _ _ _; cases h
 | q + 1 => by have i0 := zcb0 q; exact zcbz q i0
theorem zcb1 : ∀ (q N : Nat), 8 * q ≤ N → ∀ (a0 : Int), ∀ (r : (Ow Int)), zng q a0 = some r → (orc T N).deep F.zng [(V.int .u64) a0] = some [(Ow.enc 1 (V.int .u8)) r] := by
 intro q N hM a0 r h
 rcases q with _ | q
 ·cases h
 obtain ⟨M, rfl⟩ : ∃ M, N = M + 8 := ⟨N - 8, by omega⟩
 have zcdm := (zcb0 q)
 generalize hR : some [(Ow.enc 1 (V.int .u8)) r] = R
 rw [zh3, zbor, y4, zh1]
 rw [zng] at h
 replace h := zcdm M (by omega) (M + 7) (by omega) _ _ _ _ h R hR
 simp only [zcby, simprocAttr, *]
def zcb2 := And.intro @kk <| And.intro @ke <| And.intro @kn <| And.intro @zbsp <| And.intro @zbt8 <| @zbsr
theorem zcb3 : ∀ (q N : Nat), 8 * q ≤ N → ∀ (a0 : (Sl Int)) (a1 : Int), ∀ (r : (Ow Int)), znh q a0 a1 = some r → (orc T N).deep F.znh [(Sl.enc (V.int .u8)) a0, (V.int .i64) a1] = some [(Ow.enc 1 (V.int .u8)) r] := by
 intro q N hM a0 a1 r h
 rcases q with _ | q
 ·cases h
 obtain ⟨M, rfl⟩ : ∃ M, N = M + 8 := ⟨N - 8, by omega⟩
 generalize hR : some [(Ow.enc 1 (V.int .u8)) r] = R
 rw [zh3, zbn9, y4, zh1]
 rw [znh] at h
 replace h := bn h; obtain ⟨h1, h⟩ := h
 replace h := br h; rcases h with ⟨h2, h⟩ | ⟨h2, h⟩
 ·cases h; subst hR; simp only [zcb2, simprocAttr, *]
 ·replace h := br h; rcases h with ⟨h3, h⟩ | ⟨h3, h⟩
  ·cases h; subst hR; simp only [zcb2, simprocAttr, *]
  ·replace h := ob h; obtain ⟨r1, h4, h⟩ := h
   replace h4 := zcb1 q (M + 7) (by omega) _ _ h4
   try simp only [kf, simprocAttr] at h4
   replace h := bn h; obtain ⟨h5, h⟩ := h
   cases h; subst hR; simp only [zcb2, simprocAttr, *]
def zcb4 := And.intro @kk <| And.intro @ke <| And.intro @kn <| And.intro @zbyg <| @zbyi
theorem zcb5 : ∀ (q N : Nat), 8 * q ≤ N → ∀ (a0 r : Int), zni q a0 = some r → (orc T N).deep F.zni [(V.int .i64) a0] = some [(V.int .u64) r] := by
 intro q N hM a0 r h
 rcases q with _ | q
 ·cases h
 obtain ⟨M, rfl⟩ : ∃ M, N = M + 8 := ⟨N - 8, by omega⟩
 generalize hR : some [(V.int .u64) r] = R
 rw [zh3, zbp6, y4, zh1]
 rw [zni] at h
 replace h := br h; rcases h with ⟨h1, h⟩ | ⟨h1, h⟩
 ·cases h; subst hR; simp only [zcb4, simprocAttr, *]
 ·cases h; subst hR; simp only [zcb4, simprocAttr, *]
def zcb6 := And.intro @kk <| And.intro @ke <| And.intro @kn <| And.intro @zbxg <| And.intro @zbt8 <| And.intro @zbyh <| @zbxi
theorem zcb7 : ∀ (q N : Nat), 8 * q ≤ N → ∀ (a0 : (Sl Int)) (a1 : Int), ∀ (r : (Ow Int)), znj q a0 a1 = some r → (orc T N).deep F.znj [(Sl.enc (V.int .u8)) a0, (V.int .i64) a1] = some [(Ow.enc 1 (V.int .u8)) r] := by
 intro q N hM a0 a1 r h
 rcases q with _ | q
 ·cases h
 obtain ⟨M, rfl⟩ : ∃ M, N = M + 8 := ⟨N - 8, by omega⟩
 generalize hR : some [(Ow.enc 1 (V.int .u8)) r] = R
 rw [zh3, zbpu, y4, zh1]
 rw [znj] at h
 replace h := bn h; obtain ⟨h1, h⟩ := h
 replace h := ob h; obtain ⟨r1, h2, h⟩ := h
 replace h2 := zcb5 q (M + 7) (by omega) _ _ h2
 replace h := ob h; obtain ⟨r2, h3, h⟩ := h
 replace h3 := zcb1 q (M + 7) (by omega) _ _ h3
 try simp only [kf, simprocAttr] at h3
 replace h := bn h; obtain ⟨h4, h⟩ := h
 cases h; subst hR; simp only [zcb6, simprocAttr, *]
def zcb8 := And.intro @kk <| And.intro @ke <| And.intro @kn <| And.intro @zbxj <| And.intro @zbsq <| And.intro @zbxh <| And.intro @zbxn <| @zbxl
theorem zcb9 : ∀ (q N : Nat), 8 * q ≤ N → ∀ (a0 : (Sl Int)) (a1 : zjr), ∀ (r : (Ow Int) × Int), znk q a0 a1 = some r → (orc T N).deep F.znk [(Sl.enc (V.int .u8)) a0, zjr.enc a1] = some [(Ow.enc 1 (V.int .u8)) r.1, (V.int .i64) r.2] := by
 intro q N hM a0 a1 r h
 rcases q with _ | q
 ·cases h
 obtain ⟨M, rfl⟩ : ∃ M, N = M + 8 := ⟨N - 8, by omega⟩
 generalize hR : some [(Ow.enc 1 (V.int .u8)) r.1, (V.int .i64) r.2] = R
 rw [zh3, zbpv, y4, zh1]
 rw [znk] at h
 replace h := bn h; obtain ⟨h1, h⟩ := h
 replace h := ob h; obtain ⟨r1, h2, h⟩ := h
 replace h2 := zcah q (M + 7) (by omega) _ _ h2
 try simp only [kf, simprocAttr] at h2
 replace h := bb h; rcases h with ⟨h3', h3, h⟩ | ⟨h3', h3, h⟩
 ·replace h := ob h; obtain ⟨r2, h4, h⟩ := h
  replace h4 := zcb3 q (M + 7) (by omega) _ _ _ h4
  try simp only [kf, simprocAttr] at h4
  replace h := ob h; obtain ⟨r3, h5, h⟩ := h
  replace h5 := zcb7 q (M + 7) (by omega) _ _ _ h5
  try simp only [kf, simprocAttr] at h5
  replace h := ob h; obtain ⟨r4, h6, h⟩ := h
  replace h6 := zcb7 q (M + 7) (by omega) _ _ _ h6
  try simp only [kf, simprocAttr] at h6
  cases h; subst hR; simp only [zcb8, simprocAttr, *]
 ·cases h; subst hR; simp only [zcb8, simprocAttr, *]
def zcca (q : Nat) : Prop := ∀ (M : Nat) (hM : 8 * q ≤ M) (j : Nat) (hj : q ≤ j) (v0z : Bool) (v0l : List zjs) (v6 : Int) (h0z : Bool) (h0l : List Int) (h0x : Bool) (r : (Ow Int) × Int) (_ : znl q v0z v0l v6 h0z h0l h0x = some r) (R : Option (List V)) (_ : some [(Ow.enc 1 (V.int .u8)) r.1, (V.int .i64) r.2] = R) (fr : Fr) (H : Hp) (_ : canon 0 [0, 5, 6] fr H = ([(0, (.sl v0z (List.map zjs.enc v0l))), (5, (.vw 0 0 0 h0l.length 1)), (6, (.int .i64 v6))], [(.row 0 h0z 1 (List.map (V.int .u8) h0l) h0x)])), fin z9j (unw T (orc T (M + 7)) (M + 7) 0 [.blk 0, .code z9c] (iter 0 [0, 5, 6] (exec T (orc T (M + 7)) (M + 7) 0 z89) j fr H)) = R
def zccb := And.intro @kk <| And.intro @ke <| And.intro @kn <| And.intro @zbvj <| And.intro @zbsq <| And.intro @zbxb <| And.intro @zbxe <| And.intro @zbxh <| And.intro @zbxk <| @zbvl
theorem zccc (q : Nat) (zcdn : zcca q) : zcca (q + 1) := by
 intro M hM j hj v0z v0l v6 h0z h0l h0x r h R hR fr H hc
 obtain ⟨j, rfl⟩ : ∃ i, j = i + 1 := ⟨j - 1, by omega⟩
 rw [zhu, hc]; clear hc
 rw [znl] at h
 replace h := br h; rcases h with ⟨h1, h⟩ | ⟨h1, h⟩
 ·replace h := bn h; obtain ⟨h2, h⟩ := h
  replace h := ob h; obtain ⟨e5, h3, h⟩ := h
  replace h := ob h; obtain ⟨r6, h4, h⟩ := h
  replace h4 := zcb3 q (M + 7) (by omega) _ _ _ h4
  try simp only [kf, simprocAttr] at h4
  replace h := bn h; obtain ⟨h5, h⟩ := h
  replace h := ob h; obtain ⟨r7, h6, h⟩ := h
  replace h6 := zca7 q (M + 7) (by omega) _ _ _ h6
  try simp only [kf, simprocAttr] at h6
  replace h := ob h; obtain ⟨r8, h7, h⟩ := h
  replace h7 := zcb7 q (M + 7) (by omega) _ _ _ h7
  try simp only [kf, simprocAttr] at h7
  replace h := ob h; obtain ⟨r9, h8, h⟩ := h
  replace h8 := zcb9 q (M + 7) (by omega) _ _ _ h8
  try simp only [kf, simprocAttr] at h8
  replace h := ob h; obtain ⟨r10, h9, h⟩ := h
  replace h9 := zcb7 q (M + 7) (by omega) _ _ _ h9
  try simp only [kf, simprocAttr] at h9
  replace h := zcdn M (by omega) j (by omega) _ _ _ _ _ _ _ h R hR
  simp only [zccb, simprocAttr, *]
 ·cases h; subst hR; simp only [zccb, simprocAttr, *]
theorem zccd : ∀ q, zcca q
 | 0 => by intro M hM j hj; intros; rename_i h _ _ _ _ _; cases h
 | q + 1 => by have i0 := zccd q; exact zccc q i0
theorem zcce : ∀ (q N : Nat), 8 * q ≤ N → ∀ (a0 : (Sl zjs)), ∀ (r : (Ow Int) × Int), znm q a0 = some r → (orc T N).deep F.znm [(Sl.enc zjs.enc) a0] = some [(Ow.enc 1 (V.int .u8)) r.1, (V.int .i64) r.2] := by
 intro q N hM a0 r h
 rcases q with _ | q
 ·cases h
 obtain ⟨M, rfl⟩ : ∃ M, N = M + 8 := ⟨N - 8, by omega⟩
 have zcdn := (zccd q)
 generalize hR : some [(Ow.enc 1 (V.int .u8)) r.1, (V.int .i64) r.2] = R
 rw [zh3, zbo7, y4, zh1]
 rw [znm] at h
 replace h := ob h; obtain ⟨r1, h1, h⟩ := h
 replace h1 := zcbw q (M + 7) (by omega) _ _ h1
 try simp only [kf, simprocAttr] at h1
 replace h := bb h; rcases h with ⟨h2', h2, h⟩ | ⟨h2', h2, h⟩
 ·replace h := ob h; obtain ⟨e2, h3, h⟩ := h
  replace h := ob h; obtain ⟨r3, h4, h⟩ := h
  replace h4 := zcb3 q (M + 7) (by omega) _ _ _ h4
  try simp only [kf, simprocAttr] at h4
  replace h := ob h; obtain ⟨r4, h5, h⟩ := h
  replace h5 := zcb3 q (M + 7) (by omega) _ _ _ h5
  try simp only [kf, simprocAttr] at h5
  replace h := zcdn M (by omega) (M + 7) (by omega) _ _ _ _ _ _ _ h R hR
  simp only [zccb, simprocAttr, *]
 ·cases h; subst hR; simp only [zccb, simprocAttr, *]
def zccf (q : Nat) : Prop := ∀ (M : Nat) (hM : 8 * q ≤ M) (j : Nat) (hj : q ≤ j) (v0z : Bool) (v0l : List Int) (v4 v6 v9 v10 : Int) (h0z : Bool) (h0l : List zjs) (r : (Ow zjs) × Int) (_ : znn q v0z v0l v4 v6 v9 v10 h0z h0l = some r) (R : Option (List V)) (_ : some [(Ow.enc 7 zjs.enc) r.1, (V.int .i64) r.2] = R) (fr : Fr) (H : Hp) (_ : canon 0 [0, 4, 6, 8, 9, 10] fr H = ([(0, (.sl v0z (List.map (V.int .u8) v0l))), (4, (.int .i64 v4)), (6, (.int .i64 v6)), (8, (.vw 0 0 0 h0l.length 1)), (9, (.int .i64 v9)), (10, (.int .i64 v10))], [(.row 0 h0z 7 (List.map zjs.enc h0l) true)])), fin z0u (unw T (orc T (M + 7)) (M + 7) 0 [.blk 0, .code z0m] (iter 0 [0, 4, 6, 8, 9, 10] (exec T (orc T (M + 7)) (M + 7) 0 z0d) j fr H)) = R
def zccg := And.intro @kk <| And.intro @ke <| And.intro @kn <| And.intro @zbt1 <| And.intro @zbtw <| And.intro @zbvh <| And.intro @zbvk <| @zbt3
theorem zcch (q : Nat) (zcdo : zccf q) : zccf (q + 1) := by
 intro M hM j hj v0z v0l v4 v6 v9 v10 h0z h0l r h R hR fr H hc
 obtain ⟨j, rfl⟩ : ∃ i, j = i + 1 := ⟨j - 1, by omega⟩
 rw [zhu, hc]; clear hc
 rw [znn] at h
 replace h := br h; rcases h with ⟨h1, h⟩ | ⟨h1, h⟩
 ·replace h := bn h; obtain ⟨h2, h⟩ := h
  replace h := bn h; obtain ⟨h3, h⟩ := h
  replace h := ob h; obtain ⟨r3, h4, h⟩ := h
  replace h4 := zca9 q (M + 7) (by omega) _ _ _ h4
  try simp only [kf, simprocAttr] at h4
  replace h := br h; rcases h with ⟨h5, h⟩ | ⟨h5, h⟩
  ·cases h; subst hR; simp only [zccg, simprocAttr, *]
  ·replace h := bn h; obtain ⟨h6, h⟩ := h
   replace h := zcdo M (by omega) j (by omega) _ _ _ _ _ _ _ _ _ h R hR
   simp only [zccg, simprocAttr, *]
 ·replace h := ob h; obtain ⟨r4, h7, h⟩ := h
  replace h7 := zcce q (M + 7) (by omega) _ _ h7
  try simp only [kf, simprocAttr] at h7
  replace h := br h; rcases h with ⟨h8, h⟩ | ⟨h8, h⟩
  ·replace h := br h; rcases h with ⟨h9, h⟩ | ⟨h9, h⟩
   ·cases h; subst hR; simp only [zccg, simprocAttr, *]
   ·cases h; subst hR; simp only [zccg, simprocAttr, *]
  ·cases h; subst hR; simp only [zccg, simprocAttr, *]
theorem zcci : ∀ q, zccf q
 | 0 => by intro M hM j hj; intros; rename_i h _ _ _ _ _; cases h
 | q + 1 => by have i0 := zcci q; exact zcch q i0
theorem zccj : ∀ (q N : Nat), 8 * q ≤ N → ∀ (a0 : (Sl Int)), ∀ (r : (Ow zjs) × Int), zno q a0 = some r → (orc T N).deep F.zno [(Sl.enc (V.int .u8)) a0] = some [(Ow.enc 7 zjs.enc) r.1, (V.int .i64) r.2] := by
 intro q N hM a0 r h
 rcases q with _ | q
 ·cases h
 obtain ⟨M, rfl⟩ : ∃ M, N = M + 8 := ⟨N - 8, by omega⟩
 have zcdo := (zcci q)
 generalize hR : some [(Ow.enc 7 zjs.enc) r.1, (V.int .i64) r.2] = R
 rw [zh3, zbop, y4, zh1]
 rw [zno] at h
 replace h := ob h; obtain ⟨r1, h1, h⟩ := h
 replace h1 := zb9h q (M + 7) (by omega) _ _ h1
 try simp only [kf, simprocAttr] at h1
 replace h := bn h; obtain ⟨h2, h⟩ := h
 replace h := bn h; obtain ⟨h3, h⟩ := h
 replace h := ob h; obtain ⟨r2, h4, h⟩ := h
 replace h4 := zb9h q (M + 7) (by omega) _ _ h4
 try simp only [kf, simprocAttr] at h4
 replace h := br h; rcases h with ⟨h5, h⟩ | ⟨h5, h⟩
 ·cases h; subst hR; simp only [zccg, simprocAttr, *]
 ·replace h := br h; rcases h with ⟨h6, h⟩ | ⟨h6, h⟩
  ·cases h; subst hR; simp only [zccg, simprocAttr, *]
  ·replace h := br h; rcases h with ⟨h7, h⟩ | ⟨h7, h⟩
   ·cases h; subst hR; simp only [zccg, simprocAttr, *]
   ·replace h := br h; rcases h with ⟨h8, h⟩ | ⟨h8, h⟩
    ·cases h; subst hR; simp only [zccg, simprocAttr, *]
    ·replace h := zcdo M (by omega) (M + 7) (by omega) _ _ _ _ _ _ _ _ _ h R hR
     simp only [zccg, simprocAttr, *]
def zcck := And.intro @kk <| And.intro @ke <| And.intro @kn <| And.intro @zbsm <| And.intro @zbtz <| And.intro @zbt2 <| And.intro @zbt5 <| @zbso
theorem zccl : ∀ (q N : Nat), 8 * q ≤ N → ∀ (a0 : Int) (a1 : (Sl Int)) (a2 : Int), ∀ (r : (Ow zjs) × Bool), znp q a0 a1 a2 = some r → (orc T N).deep F.znp [(V.int .i64) a0, (Sl.enc (V.int .u8)) a1, (V.int .i64) a2] = some [(Ow.enc 7 zjs.enc) r.1, V.bool r.2] := by
 intro q N hM a0 a1 a2 r h
 rcases q with _ | q
 ·cases h
 obtain ⟨M, rfl⟩ : ∃ M, N = M + 8 := ⟨N - 8, by omega⟩
 generalize hR : some [(Ow.enc 7 zjs.enc) r.1, V.bool r.2] = R
 rw [zh3, zbn8, y4, zh1]
 rw [znp] at h
 replace h := br h; rcases h with ⟨h1, h⟩ | ⟨h1, h⟩
 ·replace h := ob h; obtain ⟨r1, h2, h⟩ := h
  replace h2 := zcax q (M + 7) (by omega) _ _ _ h2
  try simp only [kf, simprocAttr] at h2
  replace h := bb h; rcases h with ⟨h3', h3, h⟩ | ⟨h3', h3, h⟩
  ·replace h := br h; rcases h with ⟨h4, h⟩ | ⟨h4, h⟩
   ·cases h; subst hR; simp only [zcck, simprocAttr, *]
   ·replace h := br h; rcases h with ⟨h5, h⟩ | ⟨h5, h⟩
    ·cases h; subst hR; simp only [zcck, simprocAttr, *]
    ·replace h := ob h; obtain ⟨r2, h6, h⟩ := h
     replace h6 := zca2 q (M + 7) (by omega) _ _ _ h6
     try simp only [kf, simprocAttr] at h6
     cases h; subst hR; simp only [zcck, simprocAttr, *]
  ·cases h; subst hR; simp only [zcck, simprocAttr, *]
 ·replace h := ob h; obtain ⟨r3, h7, h⟩ := h
  replace h7 := zccj q (M + 7) (by omega) _ _ h7
  try simp only [kf, simprocAttr] at h7
  replace h := br h; rcases h with ⟨h8, h⟩ | ⟨h8, h⟩
  ·replace h := br h; rcases h with ⟨h9, h⟩ | ⟨h9, h⟩
   ·cases h; subst hR; simp only [zcck, simprocAttr, *]
   ·replace h := br h; rcases h with ⟨h10, h⟩ | ⟨h10, h⟩
    ·cases h; subst hR; simp only [zcck, simprocAttr, *]
    ·replace h := ob h; obtain ⟨r4, h11, h⟩ := h
     replace h11 := zca2 q (M + 7) (by omega) _ _ _ h11
     try simp only [kf, simprocAttr] at h11
     cases h; subst hR; simp only [zcck, simprocAttr, *]
  ·cases h; subst hR; simp only [zcck, simprocAttr, *]
def zccm (q : Nat) : Prop := ∀ (M : Nat) (hM : 8 * q ≤ M) (j : Nat) (hj : q ≤ j) (v0z : Bool) (v0l : List (Sl Int)) (v6 h1_0 h1_1 : Int) (r : Int × zjt × Int × Int) (_ : znr q v0z v0l v6 h1_0 h1_1 = some r) (R : Option (List V)) (_ : some [(V.int .i64) r.1, zjt.enc r.2.1, (V.int .i64) r.2.2.1, (V.int .i64) r.2.2.2] = R) (fr : Fr) (H : Hp) (_ : canon 0 [0, 3, 6, 7, 9, 10] fr H = ([(0, (.sl v0z (List.map (Sl.enc (V.int .u8)) v0l))), (3, (.ptr 0 0)), (6, (.int .i64 v6)), (7, (.ptr 1 0)), (9, (.int .i64 16)), (10, (.int .i64 1))], [(.box [(.int .i64 0), (.int .i64 0), (.sl true [])]), (.box [(.int .i64 h1_0), (.int .i64 h1_1), (.sl true [])])])), fin zqs (unw T (orc T (M + 7)) (M + 7) 0 [.blk 0, .code zqm] (iter 0 [0, 3, 6, 7, 9, 10] (exec T (orc T (M + 7)) (M + 7) 0 zqj) j fr H)) = R
def zccn (q : Nat) : Prop := ∀ (M : Nat) (hM : 8 * q ≤ M) (j : Nat) (hj : q ≤ j) (v0z : Bool) (v0l : List (Sl Int)) (v6 v9 v10 h1_0 h1_1 : Int) (h2z : Bool) (h2l : List zjs) (r : Int × zjt × Int × Int) (_ : znq q v0z v0l v6 v9 v10 h1_0 h1_1 h2z h2l = some r) (R : Option (List V)) (_ : some [(V.int .i64) r.1, zjt.enc r.2.1, (V.int .i64) r.2.2.1, (V.int .i64) r.2.2.2] = R) (fr : Fr) (H : Hp) (_ : canon 0 [0, 3, 6, 7, 9, 10] fr H = ([(0, (.sl v0z (List.map (Sl.enc (V.int .u8)) v0l))), (3, (.ptr 0 0)), (6, (.int .i64 v6)), (7, (.ptr 1 0)), (9, (.int .i64 v9)), (10, (.int .i64 v10))], [(.box [(.int .i64 0), (.int .i64 0), (.sl true [])]), (.box [(.int .i64 h1_0), (.int .i64 h1_1), (.vw 2 0 0 h2l.length 1)]), (.row 0 h2z 7 (List.map zjs.enc h2l) true)])), fin zqs (unw T (orc T (M + 7)) (M + 7) 0 [.blk 0, .code zqm] (iter 0 [0, 3, 6, 7, 9, 10] (exec T (orc T (M + 7)) (M + 7) 0 zqj) j fr H)) = R
def zcco := And.intro @kk <| And.intro @ke <| And.intro @kn <| And.intro @zbrd <| And.intro @zbsj <| And.intro @zbsn <| And.intro @zbtw <| And.intro @zbsk <| And.intro @zbsl <| @zbrf
theorem zccp (q : Nat) (zcdp : zccn q) : zccm (q + 1) := by
 intro M hM j hj v0z v0l v6 h1_0 h1_1 r h R hR fr H hc
 obtain ⟨j, rfl⟩ : ∃ i, j = i + 1 := ⟨j - 1, by omega⟩
 rw [zhu, hc]; clear hc
 rw [znr] at h
 replace h := br h; rcases h with ⟨h1, h⟩ | ⟨h1, h⟩
 ·replace h := ob h; obtain ⟨e6, h2, h⟩ := h
  replace h := ob h; obtain ⟨r7, h3, h⟩ := h
  replace h3 := zccl q (M + 7) (by omega) _ _ _ _ h3
  try simp only [kf, simprocAttr] at h3
  replace h := bb h; rcases h with ⟨h4', h4, h⟩ | ⟨h4', h4, h⟩
  ·replace h := br h; rcases h with ⟨h5, h⟩ | ⟨h5, h⟩
   ·cases h; subst hR; simp only [zcco, simprocAttr, *]
   ·replace h := bn h; obtain ⟨h6, h⟩ := h
    replace h := zcdp M (by omega) j (by omega) _ _ _ _ _ _ _ _ _ _ h R hR
    simp only [zcco, simprocAttr, *]
  ·cases h; subst hR; simp only [zcco, simprocAttr, *]
 ·cases h; subst hR; simp only [zcco, simprocAttr, *]
theorem zccq (q : Nat) (zcdp : zccn q) : zccn (q + 1) := by
 intro M hM j hj v0z v0l v6 v9 v10 h1_0 h1_1 h2z h2l r h R hR fr H hc
 obtain ⟨j, rfl⟩ : ∃ i, j = i + 1 := ⟨j - 1, by omega⟩
 rw [zhu, hc]; clear hc
 rw [znq] at h
 replace h := br h; rcases h with ⟨h1, h⟩ | ⟨h1, h⟩
 ·replace h := bn h; obtain ⟨h2, h⟩ := h
  replace h := ob h; obtain ⟨e8, h3, h⟩ := h
  replace h := ob h; obtain ⟨r9, h4, h⟩ := h
  replace h4 := zccl q (M + 7) (by omega) _ _ _ _ h4
  try simp only [kf, simprocAttr] at h4
  replace h := bb h; rcases h with ⟨h5', h5, h⟩ | ⟨h5', h5, h⟩
  ·replace h := br h; rcases h with ⟨h6, h⟩ | ⟨h6, h⟩
   ·cases h; subst hR; simp only [zcco, simprocAttr, *]
   ·replace h := br h; rcases h with ⟨h7, h⟩ | ⟨h7, h⟩
    ·cases h; subst hR; simp only [zcco, simprocAttr, *]
    ·replace h := bn h; obtain ⟨h8, h⟩ := h
     replace h := zcdp M (by omega) j (by omega) _ _ _ _ _ _ _ _ _ _ h R hR
     simp only [zcco, simprocAttr, *]
  ·cases h; subst hR; simp only [zcco, simprocAttr, *]
 ·cases h; subst hR; simp only [zcco, simprocAttr, *]
theorem zccr : ∀ q, zccm q ∧ zccn q
 | 0 => by refine ⟨?_, ?_⟩ <;> (intro M hM j hj; intros; rename_i h _ _ _ _ _; cases h)
 | q + 1 => by have ⟨i0, i1⟩ := zccr q; exact ⟨zccp q i1, zccq q i1⟩
theorem zccs : ∀ (q N : Nat), 8 * q ≤ N → ∀ (a0 : (Sl (Sl Int))), ∀ (r : Int × zjt × Int × Int), zns q a0 = some r → (orc T N).deep F.zns [(Sl.enc (Sl.enc (V.int .u8))) a0] = some [(V.int .i64) r.1, zjt.enc r.2.1, (V.int .i64) r.2.2.1, (V.int .i64) r.2.2.2] := by
 intro q N hM a0 r h
 rcases q with _ | q
 ·cases h
 obtain ⟨M, rfl⟩ : ∃ M, N = M + 8 := ⟨N - 8, by omega⟩
 have ih_ferrymanref08_Walk_l0 := (zccr q).1
 generalize hR : some [(V.int .i64) r.1, zjt.enc r.2.1, (V.int .i64) r.2.2.1, (V.int .i64) r.2.2.2] = R
 rw [zh3, zbnt, y4, zh1]
 rw [zns] at h
 replace h := ob h; obtain ⟨e1, h1, h⟩ := h
 replace h := br h; rcases h with ⟨h2, h⟩ | ⟨h2, h⟩
 ·cases h; subst hR; simp only [zcco, simprocAttr, *]
 ·replace h := ob h; obtain ⟨e2, h3, h⟩ := h
  replace h := br h; rcases h with ⟨h4, h⟩ | ⟨h4, h⟩
  ·replace h := bn h; obtain ⟨h5, h⟩ := h
   replace h := ob h; obtain ⟨r3, h6, h⟩ := h
   replace h6 := zb9h q (M + 6) (by omega) _ _ h6
   try simp only [kf, simprocAttr] at h6
   replace h := bn h; obtain ⟨h7, h⟩ := h
   replace h := bn h; obtain ⟨h8, h⟩ := h
   replace h := ob h; obtain ⟨r4, h9, h⟩ := h
   replace h9 := zb9h q (M + 6) (by omega) _ _ h9
   try simp only [kf, simprocAttr] at h9
   replace h := bn h; obtain ⟨h10, h⟩ := h
   replace h := bn h; obtain ⟨h11, h⟩ := h
   replace h := ob h; obtain ⟨r5, h12, h⟩ := h
   replace h12 := zb9h q (M + 6) (by omega) _ _ h12
   try simp only [kf, simprocAttr] at h12
   replace h := br h; rcases h with ⟨h13, h⟩ | ⟨h13, h⟩
   ·cases h; subst hR; simp only [zcco, simprocAttr, *]
   ·replace h := br h; rcases h with ⟨h14, h⟩ | ⟨h14, h⟩
    ·cases h; subst hR; simp only [zcco, simprocAttr, *]
    ·replace h := br h; rcases h with ⟨h15, h⟩ | ⟨h15, h⟩
     ·cases h; subst hR; simp only [zcco, simprocAttr, *]
     ·replace h := br h; rcases h with ⟨h16, h⟩ | ⟨h16, h⟩
      ·replace h := br h; rcases h with ⟨h17, h⟩ | ⟨h17, h⟩
       ·cases h; subst hR; simp only [zcco, simprocAttr, *]
       ·replace h := br h; rcases h with ⟨h18, h⟩ | ⟨h18, h⟩
        ·cases h; subst hR; simp only [zcco, simprocAttr, *]
        ·replace h := br h; rcases h with ⟨h19, h⟩ | ⟨h19, h⟩
         ·cases h; subst hR; simp only [zcco, simprocAttr, *]
         ·replace h := ih_ferrymanref08_Walk_l0 M (by omega) (M + 7) (by omega) _ _ _ _ _ _ h R hR
          simp only [zcco, simprocAttr, *]
      ·cases h; subst hR; simp only [zcco, simprocAttr, *]
  ·cases h; subst hR; simp only [zcco, simprocAttr, *]
def zcct (q : Nat) : Prop := ∀ (M : Nat) (hM : 8 * q ≤ M) (j : Nat) (hj : q ≤ j) (v0 v1 v6 : Int) (h0z : Bool) (h0l : List Int) (r : (Ow Int)) (_ : znt q v0 v1 v6 h0z h0l = some r) (R : Option (List V)) (_ : some [(Ow.enc 1 (V.int .u8)) r] = R) (fr : Fr) (H : Hp) (_ : canon 0 [0, 1, 5, 6] fr H = ([(0, (.int .u64 v0)), (1, (.int .i64 v1)), (5, (.vw 0 0 0 h0l.length 1)), (6, (.int .i64 v6))], [(.row 0 h0z 1 (List.map (V.int .u8) h0l) true)])), fin zzc (unw T (orc T (M + 7)) (M + 7) 0 [.blk 0, .code zy8] (iter 0 [0, 1, 5, 6] (exec T (orc T (M + 7)) (M + 7) 0 zy5) j fr H)) = R
def zccu := And.intro @kk <| And.intro @ke <| And.intro @kn <| And.intro @zbts <| @zbtu
theorem zccv (q : Nat) (zcdq : zcct q) : zcct (q + 1) := by
 intro M hM j hj v0 v1 v6 h0z h0l r h R hR fr H hc
 obtain ⟨j, rfl⟩ : ∃ i, j = i + 1 := ⟨j - 1, by omega⟩
 rw [zhu, hc]; clear hc
 rw [znt] at h
 replace h := br h; rcases h with ⟨h1, h⟩ | ⟨h1, h⟩
 ·replace h := bn h; obtain ⟨h2, h⟩ := h
  replace h := zcdq M (by omega) j (by omega) _ _ _ _ _ _ h R hR
  simp only [zccu, simprocAttr, *]
 ·cases h; subst hR; simp only [zccu, simprocAttr, *]
theorem zccw : ∀ q, zcct q
 | 0 => by intro M hM j hj; intros; rename_i h _ _ _ _ _; cases h
 | q + 1 => by have i0 := zccw q; exact zccv q i0
theorem zccx : ∀ (q N : Nat), 8 * q ≤ N → ∀ (a0 a1 : Int), ∀ (r : (Ow Int)), znu q a0 a1 = some r → (orc T N).deep F.znu [(V.int .u64) a0, (V.int .i64) a1] = some [(Ow.enc 1 (V.int .u8)) r] := by
 intro q N hM a0 a1 r h
 rcases q with _ | q
 ·cases h
 obtain ⟨M, rfl⟩ : ∃ M, N = M + 8 := ⟨N - 8, by omega⟩
 have zcdq := (zccw q)
 generalize hR : some [(Ow.enc 1 (V.int .u8)) r] = R
 rw [zh3, zbom, y4, zh1]
 rw [znu] at h
 replace h := zcdq M (by omega) (M + 7) (by omega) _ _ _ _ _ _ h R hR
 simp only [zccu, simprocAttr, *]
def zccy := And.intro @kk <| And.intro @ke <| And.intro @kn <| And.intro @zbsg <| And.intro @zbsq <| And.intro @zbtn <| And.intro @zbtq <| And.intro @zbtt <| @zbsi
theorem zccz : ∀ (q N : Nat), 8 * q ≤ N → ∀ (a0 : (Sl Int)), ∀ (r : (Ow Int) × Int), znv q a0 = some r → (orc T N).deep F.znv [(Sl.enc (V.int .u8)) a0] = some [(Ow.enc 1 (V.int .u8)) r.1, (V.int .i64) r.2] := by
 intro q N hM a0 r h
 rcases q with _ | q
 ·cases h
 obtain ⟨M, rfl⟩ : ∃ M, N = M + 8 := ⟨N - 8, by omega⟩
 generalize hR : some [(Ow.enc 1 (V.int .u8)) r.1, (V.int .i64) r.2] = R
 rw [zh3, zbn6, y4, zh1]
 rw [znv] at h
 replace h := br h; rcases h with ⟨h1, h⟩ | ⟨h1, h⟩
 ·cases h; subst hR; simp only [zccy, simprocAttr, *]
 ·replace h := ob h; obtain ⟨r1, h2, h⟩ := h
  replace h2 := zcb3 q (M + 7) (by omega) _ _ _ h2
  try simp only [kf, simprocAttr] at h2
  replace h := ob h; obtain ⟨r2, h3, h⟩ := h
  replace h3 := zb9t q (M + 7) (by omega) _ _ h3
  try simp only [kf, simprocAttr] at h3
  replace h := ob h; obtain ⟨r3, h4, h⟩ := h
  replace h4 := zb9r q (M + 7) (by omega) _ _ _ h4
  try simp only [kf, simprocAttr] at h4
  replace h := bn h; obtain ⟨h5, h⟩ := h
  replace h := bn h; obtain ⟨h6, h⟩ := h
  replace h := ob h; obtain ⟨r4, h7, h⟩ := h
  replace h7 := zccx q (M + 7) (by omega) _ _ _ h7
  try simp only [kf, simprocAttr] at h7
  replace h := bn h; obtain ⟨h8, h⟩ := h
  cases h; subst hR; simp only [zccy, simprocAttr, *]
def zcc0 (q : Nat) : Prop := ∀ (M : Nat) (hM : 8 * q ≤ M) (j : Nat) (hj : q ≤ j) (v0z : Bool) (v0l : List (Sl Int)) (v4 : Int) (h0z : Bool) (h0l : List (Sl Int)) (r : (Ow (Sl Int))) (_ : znw q v0z v0l v4 h0z h0l = some r) (R : Option (List V)) (_ : some [(Ow.enc 1 (Sl.enc (V.int .u8))) r] = R) (fr : Fr) (H : Hp) (_ : canon 0 [0, 3, 4] fr H = ([(0, (.sl v0z (List.map (Sl.enc (V.int .u8)) v0l))), (3, (.vw 0 0 0 h0l.length 1)), (4, (.int .i64 v4))], [(.row 0 h0z 1 (List.map (Sl.enc (V.int .u8)) h0l) true)])), fin zpu (unw T (orc T (M + 7)) (M + 7) 0 [.blk 0, .code zpq] (iter 0 [0, 3, 4] (exec T (orc T (M + 7)) (M + 7) 0 zpn) j fr H)) = R
def zcc1 := And.intro @kk <| And.intro @ke <| And.intro @kn <| And.intro @zbq7 <| And.intro @zbsh <| @zbq9
theorem zcc2 (q : Nat) (zcdr : zcc0 q) : zcc0 (q + 1) := by
 intro M hM j hj v0z v0l v4 h0z h0l r h R hR fr H hc
 obtain ⟨j, rfl⟩ : ∃ i, j = i + 1 := ⟨j - 1, by omega⟩
 rw [zhu, hc]; clear hc
 rw [znw] at h
 replace h := br h; rcases h with ⟨h1, h⟩ | ⟨h1, h⟩
 ·replace h := bn h; obtain ⟨h2, h⟩ := h
  replace h := ob h; obtain ⟨e1, h3, h⟩ := h
  replace h := ob h; obtain ⟨r2, h4, h⟩ := h
  replace h4 := zccz q (M + 7) (by omega) _ _ h4
  try simp only [kf, simprocAttr] at h4
  replace h := bn h; obtain ⟨h5, h⟩ := h
  replace h := zcdr M (by omega) j (by omega) _ _ _ _ _ _ h R hR
  simp only [zcc1, simprocAttr, *]
 ·cases h; subst hR; simp only [zcc1, simprocAttr, *]
theorem zcc3 : ∀ q, zcc0 q
 | 0 => by intro M hM j hj; intros; rename_i h _ _ _ _ _; cases h
 | q + 1 => by have i0 := zcc3 q; exact zcc2 q i0
theorem zcc4 : ∀ (q N : Nat), 8 * q ≤ N → ∀ (a0 : (Sl (Sl Int))), ∀ (r : (Ow (Sl Int))), znx q a0 = some r → (orc T N).deep F.znx [(Sl.enc (Sl.enc (V.int .u8))) a0] = some [(Ow.enc 1 (Sl.enc (V.int .u8))) r] := by
 intro q N hM a0 r h
 rcases q with _ | q
 ·cases h
 obtain ⟨M, rfl⟩ : ∃ M, N = M + 8 := ⟨N - 8, by omega⟩
 have zcdr := (zcc3 q)
 generalize hR : some [(Ow.enc 1 (Sl.enc (V.int .u8))) r] = R
 rw [zh3, zbnr, y4, zh1]
 rw [znx] at h
 replace h := zcdr M (by omega) (M + 7) (by omega) _ _ _ _ _ _ h R hR
 simp only [zcc1, simprocAttr, *]
def zcc5 (q : Nat) : Prop := ∀ (M : Nat) (hM : 8 * q ≤ M) (j : Nat) (hj : q ≤ j) (v1z : Bool) (v1l : List (Sl Int)) (v6 v7 : Int) (h0z : Bool) (h0l : List Int) (h0x : Bool) (r : (Ow Int)) (_ : zny q v1z v1l v6 v7 h0z h0l h0x = some r) (R : Option (List V)) (_ : some [(Ow.enc 1 (V.int .u8)) r] = R) (fr : Fr) (H : Hp) (_ : canon 0 [1, 5, 6, 7] fr H = ([(1, (.sl v1z (List.map (Sl.enc (V.int .u8)) v1l))), (5, (.vw 0 0 0 h0l.length 1)), (6, (.int .i64 v6)), (7, (.int .i64 v7))], [(.row 0 h0z 1 (List.map (V.int .u8) h0l) h0x)])), fin zq4 (unw T (orc T (M + 7)) (M + 7) 0 [.blk 0, .code zqz] (iter 0 [1, 5, 6, 7] (exec T (orc T (M + 7)) (M + 7) 0 zqw) j fr H)) = R
def zcc6 := And.intro @kk <| And.intro @ke <| And.intro @kn <| And.intro @zbrg <| And.intro @zbsq <| @zbri
theorem zcc7 (q : Nat) (zcds : zcc5 q) : zcc5 (q + 1) := by
 intro M hM j hj v1z v1l v6 v7 h0z h0l h0x r h R hR fr H hc
 obtain ⟨j, rfl⟩ : ∃ i, j = i + 1 := ⟨j - 1, by omega⟩
 rw [zhu, hc]; clear hc
 rw [zny] at h
 replace h := br h; rcases h with ⟨h1, h⟩ | ⟨h1, h⟩
 ·replace h := ob h; obtain ⟨r2, h2, h⟩ := h
  replace h2 := zcb3 q (M + 7) (by omega) _ _ _ h2
  try simp only [kf, simprocAttr] at h2
  replace h := bn h; obtain ⟨h3, h⟩ := h
  replace h := ob h; obtain ⟨e3, h4, h⟩ := h
  replace h := zcds M (by omega) j (by omega) _ _ _ _ _ _ _ _ h R hR
  simp only [zcc6, simprocAttr, *]
 ·cases h; subst hR; simp only [zcc6, simprocAttr, *]
theorem zcc8 : ∀ q, zcc5 q
 | 0 => by intro M hM j hj; intros; rename_i h _ _ _ _ _; cases h
 | q + 1 => by have i0 := zcc8 q; exact zcc7 q i0
theorem zcc9 : ∀ (q N : Nat), 8 * q ≤ N → ∀ (a0 : (Sl Int)) (a1 : (Sl (Sl Int))), ∀ (r : (Ow Int)), znz q a0 a1 = some r → (orc T N).deep F.znz [(Sl.enc (V.int .u8)) a0, (Sl.enc (Sl.enc (V.int .u8))) a1] = some [(Ow.enc 1 (V.int .u8)) r] := by
 intro q N hM a0 a1 r h
 rcases q with _ | q
 ·cases h
 obtain ⟨M, rfl⟩ : ∃ M, N = M + 8 := ⟨N - 8, by omega⟩
 have zcds := (zcc8 q)
 generalize hR : some [(Ow.enc 1 (V.int .u8)) r] = R
 rw [zh3, zbnu, y4, zh1]
 rw [znz] at h
 replace h := ob h; obtain ⟨r1, h1, h⟩ := h
 replace h1 := zcb3 q (M + 7) (by omega) _ _ _ h1
 try simp only [kf, simprocAttr] at h1
 replace h := zcds M (by omega) (M + 7) (by omega) _ _ _ _ _ _ _ _ h R hR
 simp only [zcc6, simprocAttr, *]
def zcda := And.intro @kk <| And.intro @ke <| And.intro @kn <| And.intro @zbqv <| And.intro @zbq5 <| And.intro @zbq8 <| And.intro @zbre <| And.intro @zbrh <| @zbqx
theorem zcdb : ∀ (q N : Nat), 8 * q ≤ N → ∀ (a0 : (Sl Int)), ∀ (r : zjt × Int), zn0 q a0 = some r → (orc T N).deep F.zn0 [(Sl.enc (V.int .u8)) a0] = some [zjt.enc r.1, (V.int .i64) r.2] := by
 intro q N hM a0 r h
 rcases q with _ | q
 ·cases h
 obtain ⟨M, rfl⟩ : ∃ M, N = M + 8 := ⟨N - 8, by omega⟩
 generalize hR : some [zjt.enc r.1, (V.int .i64) r.2] = R
 rw [zh3, zbnn, y4, zh1]
 rw [zn0] at h
 replace h := ob h; obtain ⟨r1, h1, h⟩ := h
 replace h1 := zb97 q (M + 7) (by omega) _ _ h1
 try simp only [kf, simprocAttr] at h1
 replace h := br h; rcases h with ⟨h2, h⟩ | ⟨h2, h⟩
 ·replace h := br h; rcases h with ⟨h3, h⟩ | ⟨h3, h⟩
  ·cases h; subst hR; simp only [zcda, simprocAttr, *]
  ·replace h := bn h; obtain ⟨h4, h⟩ := h
   replace h := bn h; obtain ⟨h5, h⟩ := h
   replace h := bb h; rcases h with ⟨h6', h6, h⟩ | ⟨h6', h6, h⟩
   ·replace h := ob h; obtain ⟨r2, h7, h⟩ := h
    replace h7 := zccs q (M + 7) (by omega) _ _ h7
    try simp only [kf, simprocAttr] at h7
    replace h := br h; rcases h with ⟨h8, h⟩ | ⟨h8, h⟩
    ·replace h := ob h; obtain ⟨r3, h9, h⟩ := h
     replace h9 := zcc4 q (M + 7) (by omega) _ _ h9
     try simp only [kf, simprocAttr] at h9
     replace h := bn h; obtain ⟨h10, h⟩ := h
     replace h := ob h; obtain ⟨e4, h11, h⟩ := h
     replace h := bn h; obtain ⟨h12, h⟩ := h
     replace h := ob h; obtain ⟨r5, h13, h⟩ := h
     replace h13 := zcc9 q (M + 7) (by omega) _ _ _ h13
     try simp only [kf, simprocAttr] at h13
     replace h := bn h; obtain ⟨h14, h⟩ := h
     replace h := ob h; obtain ⟨e6, h15, h⟩ := h
     replace h := br h; rcases h with ⟨h16, h⟩ | ⟨h16, h⟩
     ·cases h; subst hR; simp only [zcda, simprocAttr, *]
     ·cases h; subst hR; simp only [zcda, simprocAttr, *]
    ·cases h; subst hR; simp only [zcda, simprocAttr, *]
   ·replace h := ob h; obtain ⟨r7, h17, h⟩ := h
    replace h17 := zccs q (M + 7) (by omega) _ _ h17
    try simp only [kf, simprocAttr] at h17
    replace h := br h; rcases h with ⟨h18, h⟩ | ⟨h18, h⟩
    ·replace h := ob h; obtain ⟨r8, h19, h⟩ := h
     replace h19 := zcc4 q (M + 7) (by omega) _ _ h19
     try simp only [kf, simprocAttr] at h19
     replace h := bn h; obtain ⟨h20, h⟩ := h
     replace h := ob h; obtain ⟨e9, h21, h⟩ := h
     replace h := bn h; obtain ⟨h22, h⟩ := h
     replace h := ob h; obtain ⟨r10, h23, h⟩ := h
     replace h23 := zcc9 q (M + 7) (by omega) _ _ _ h23
     try simp only [kf, simprocAttr] at h23
     replace h := bn h; obtain ⟨h24, h⟩ := h
     replace h := ob h; obtain ⟨e11, h25, h⟩ := h
     replace h := br h; rcases h with ⟨h26, h⟩ | ⟨h26, h⟩
     ·cases h; subst hR; simp only [zcda, simprocAttr, *]
     ·cases h; subst hR; simp only [zcda, simprocAttr, *]
    ·cases h; subst hR; simp only [zcda, simprocAttr, *]
 ·cases h; subst hR; simp only [zcda, simprocAttr, *]
def zcdc (q : Nat) : Prop := ∀ (M : Nat) (hM : 8 * q ≤ M) (j : Nat) (hj : q ≤ j) (v0z : Bool) (v0l : List (Sl Int)) (v4 : Int) (h0z : Bool) (h0l : List Int) (r : (Ow Int)) (_ : zn1 q v0z v0l v4 h0z h0l = some r) (R : Option (List V)) (_ : some [(Ow.enc 1 (V.int .u8)) r] = R) (fr : Fr) (H : Hp) (_ : canon 0 [0, 3, 4] fr H = ([(0, (.sl v0z (List.map (Sl.enc (V.int .u8)) v0l))), (3, (.vw 0 0 0 h0l.length 1)), (4, (.int .i64 v4))], [(.row 0 h0z 1 (List.map (V.int .u8) h0l) true)])), fin zp2 (unw T (orc T (M + 7)) (M + 7) 0 [.blk 0, .code zpy] (iter 0 [0, 3, 4] (exec T (orc T (M + 7)) (M + 7) 0 zpv) j fr H)) = R
def zcdd := And.intro @kk <| And.intro @ke <| And.intro @kn <| And.intro @zbra <| @zbrc
theorem zcde (q : Nat) (zcdt : zcdc q) : zcdc (q + 1) := by
 intro M hM j hj v0z v0l v4 h0z h0l r h R hR fr H hc
 obtain ⟨j, rfl⟩ : ∃ i, j = i + 1 := ⟨j - 1, by omega⟩
 rw [zhu, hc]; clear hc
 rw [zn1] at h
 replace h := br h; rcases h with ⟨h1, h⟩ | ⟨h1, h⟩
 ·replace h := bn h; obtain ⟨h2, h⟩ := h
  replace h := ob h; obtain ⟨e1, h3, h⟩ := h
  replace h := bn h; obtain ⟨h4, h⟩ := h
  replace h := zcdt M (by omega) j (by omega) _ _ _ _ _ _ h R hR
  simp only [zcdd, simprocAttr, *]
 ·cases h; subst hR; simp only [zcdd, simprocAttr, *]
theorem zcdf : ∀ q, zcdc q
 | 0 => by intro M hM j hj; intros; rename_i h _ _ _ _ _; cases h
 | q + 1 => by have i0 := zcdf q; exact zcde q i0
theorem zcdg : ∀ (q N : Nat), 8 * q ≤ N → ∀ (a0 : (Sl (Sl Int))), ∀ (r : (Ow Int)), zn2 q a0 = some r → (orc T N).deep F.zn2 [(Sl.enc (Sl.enc (V.int .u8))) a0] = some [(Ow.enc 1 (V.int .u8)) r] := by
 intro q N hM a0 r h
 rcases q with _ | q
 ·cases h
 obtain ⟨M, rfl⟩ : ∃ M, N = M + 8 := ⟨N - 8, by omega⟩
 have zcdt := (zcdf q)
 generalize hR : some [(Ow.enc 1 (V.int .u8)) r] = R
 rw [zh3, zbns, y4, zh1]
 rw [zn2] at h
 replace h := zcdt M (by omega) (M + 7) (by omega) _ _ _ _ _ _ h R hR
 simp only [zcdd, simprocAttr, *]
def zcdh := And.intro @kk <| And.intro @ke <| And.intro @kn <| And.intro @zbqs <| And.intro @zbqw <| And.intro @zbq5 <| And.intro @zbq8 <| And.intro @zbrb <| @zbqu
theorem zcdi : ∀ (q N : Nat), 8 * q ≤ N → ∀ (a0 : (Sl Int)) (a1 : Int), ∀ (r : Int × Int), zn3 q a0 a1 = some r → (orc T N).deep F.zn3 [(Sl.enc (V.int .u8)) a0, (V.int .i64) a1] = some [(V.int .i64) r.1, (V.int .i64) r.2] := by
 intro q N hM a0 a1 r h
 rcases q with _ | q
 ·cases h
 obtain ⟨M, rfl⟩ : ∃ M, N = M + 8 := ⟨N - 8, by omega⟩
 generalize hR : some [(V.int .i64) r.1, (V.int .i64) r.2] = R
 rw [zh3, zbnm, y4, zh1]
 rw [zn3] at h
 replace h := ob h; obtain ⟨r1, h1, h⟩ := h
 replace h1 := zcdb q (M + 7) (by omega) _ _ h1
 try simp only [kf, simprocAttr] at h1
 replace h := br h; rcases h with ⟨h2, h⟩ | ⟨h2, h⟩
 ·replace h := br h; rcases h with ⟨h3, h⟩ | ⟨h3, h⟩
  ·cases h; subst hR; simp only [zcdh, simprocAttr, *]
  ·replace h := br h; rcases h with ⟨h4, h⟩ | ⟨h4, h⟩
   ·cases h; subst hR; simp only [zcdh, simprocAttr, *]
   ·replace h := ob h; obtain ⟨r2, h5, h⟩ := h
    replace h5 := zb97 q (M + 7) (by omega) _ _ h5
    try simp only [kf, simprocAttr] at h5
    replace h := ob h; obtain ⟨r3, h6, h⟩ := h
    replace h6 := zcc4 q (M + 7) (by omega) _ _ h6
    try simp only [kf, simprocAttr] at h6
    replace h := bn h; obtain ⟨h7, h⟩ := h
    replace h := bn h; obtain ⟨h8, h⟩ := h
    replace h := bb h; rcases h with ⟨h9', h9, h⟩ | ⟨h9', h9, h⟩
    ·replace h := ob h; obtain ⟨r4, h10, h⟩ := h
     replace h10 := zcdg q (M + 7) (by omega) _ _ h10
     try simp only [kf, simprocAttr] at h10
     cases h; subst hR; simp only [zcdh, simprocAttr, *]
    ·replace h := ob h; obtain ⟨r5, h11, h⟩ := h
     replace h11 := zcdg q (M + 7) (by omega) _ _ h11
     try simp only [kf, simprocAttr] at h11
     cases h; subst hR; simp only [zcdh, simprocAttr, *]
 ·cases h; subst hR; simp only [zcdh, simprocAttr, *]
def zcdj := And.intro @kk <| And.intro @ke <| And.intro @kn <| And.intro @zbqj <| And.intro @zbqn <| And.intro @zbqq <| And.intro @zbqt <| @zbql
theorem zcdk : ∀ (q N : Nat), 8 * q ≤ N → ∀ (a0 : (Sl Int)) (a1 : Int), ∀ (r : Bool), zn4 q a0 a1 = some r → (orc T N).deep F.zn4 [(Sl.enc (V.int .u8)) a0, (V.int .i64) a1] = some [V.bool r] := by
 intro q N hM a0 a1 r h
 rcases q with _ | q
 ·cases h
 obtain ⟨M, rfl⟩ : ∃ M, N = M + 8 := ⟨N - 8, by omega⟩
 generalize hR : some [V.bool r] = R
 rw [zh3, zbnj, y4, zh1]
 rw [zn4] at h
 replace h := ob h; obtain ⟨r1, h1, h⟩ := h
 replace h1 := zb5e q (M + 7) (by omega)  _ h1
 replace h := br h; rcases h with ⟨h2, h⟩ | ⟨h2, h⟩
 ·cases h; subst hR; simp only [zcdj, simprocAttr, *]
 ·replace h := ob h; obtain ⟨r2, h3, h⟩ := h
  replace h3 := zb85 q (M + 7) (by omega) _ _ _ h3
  try simp only [kf, simprocAttr] at h3
  replace h := ob h; obtain ⟨r3, h4, h⟩ := h
  replace h4 := zcdi q (M + 7) (by omega) _ _ _ h4
  try simp only [kf, simprocAttr] at h4
  replace h := bb h; rcases h with ⟨h5', h5, h⟩ | ⟨h5', h5, h⟩
  ·replace h := br h; rcases h with ⟨h6, h⟩ | ⟨h6, h⟩
   ·cases h; subst hR; simp only [zcdj, simprocAttr, *]
   ·cases h; subst hR; simp only [zcdj, simprocAttr, *]
  ·cases h; subst hR; simp only [zcdj, simprocAttr, *]
end Go.Dvm.C
