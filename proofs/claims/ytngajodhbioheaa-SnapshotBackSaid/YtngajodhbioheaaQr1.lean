/- The machine comes to these answers: part 2. -/
import Derived.Test.YtngajodhbioheaaQl0
import Derived.Test.YtngajodhbioheaaQr0
set_option linter.all false
set_option maxRecDepth 100000
set_option maxHeartbeats 4000000
namespace Go.Dvm.C
open Go Go.Dvm Go.Dvm.I
def zbvj (q : Nat) : Prop := ∀ (M : Nat) (hM : 8 * q ≤ M) (j : Nat) (hj : q ≤ j) (v0z : Bool) (v0l : List (Sl Int)) (v3 : Int) (v9z : Bool) (v9l : List (Sl Int)) (v10 v11 : Int) (r : (Ow Int)) (_ : zls q v0z v0l v3 v9z v9l v10 v11 = some r) (R : Option (List V)) (_ : some [(Ow.enc 1 (V.int .u8)) r] = R) (fr : Fr) (H : Hp) (_ : canon 0 [0, 3, 9, 10, 11] fr H = ([(0, (.sl v0z (List.map (Sl.enc (V.int .u8)) v0l))), (3, (.int .i64 v3)), (9, (.sl v9z (List.map (Sl.enc (V.int .u8)) v9l))), (10, (.int .i64 v10)), (11, (.int .i64 v11))], [])), fin zwp (unw T (orc T (M + 7)) (M + 7) 0 [.blk 0, .code zwl] (iter 0 [0, 3, 9, 10, 11] (exec T (orc T (M + 7)) (M + 7) 0 zv4) j fr H)) = R
def zbvk (q : Nat) : Prop := ∀ (M : Nat) (hM : 8 * q ≤ M) (j : Nat) (hj : q ≤ j) (v6len : Nat) (v25z : Bool) (v25l : List (Sl Int)) (v26 v27 : Int) (h0z : Bool) (h0l : List Int) (r : (Ow Int)) (_ : zlp q v6len v25z v25l v26 v27 h0z h0l = some r) (R : Option (List V)) (_ : some [(Ow.enc 1 (V.int .u8)) r] = R) (fr : Fr) (H : Hp) (_ : canon 0 [6, 25, 26, 27] fr H = ([(6, (.vw 0 0 0 v6len 0)), (25, (.sl v25z (List.map (Sl.enc (V.int .u8)) v25l))), (26, (.int .i64 v26)), (27, (.int .i64 v27))], [(.row 0 h0z 1 (List.map (V.int .u8) h0l) true)])), fin zwp (unw T (orc T (M + 7)) (M + 7) 0 [.blk 2, .code zwj] (iter 0 [6, 25, 26, 27] (exec T (orc T (M + 7)) (M + 7) 0 zwg) j fr H)) = R
def zbvl (q : Nat) : Prop := ∀ (M : Nat) (hM : 8 * q ≤ M) (j : Nat) (hj : q ≤ j) (v25z : Bool) (v25l : List (Sl Int)) (v26 : Int) (r : (Ow Int)) (_ : zlr q v25z v25l v26 = some r) (R : Option (List V)) (_ : some [(Ow.enc 1 (V.int .u8)) r] = R) (fr : Fr) (H : Hp) (_ : canon 0 [6, 25, 26, 27] fr H = ([(6, (.sl true [])), (25, (.sl v25z (List.map (Sl.enc (V.int .u8)) v25l))), (26, (.int .i64 v26)), (27, (.int .i64 0))], [])), fin zwp (unw T (orc T (M + 7)) (M + 7) 0 [.blk 2, .code zwj] (iter 0 [6, 25, 26, 27] (exec T (orc T (M + 7)) (M + 7) 0 zwg) j fr H)) = R
def zbvm (q : Nat) : Prop := ∀ (M : Nat) (hM : 8 * q ≤ M) (j : Nat) (hj : q ≤ j) (v25z : Bool) (v25l : List (Sl Int)) (v26 v27 : Int) (h0z : Bool) (h0l : List Int) (r : (Ow Int)) (_ : zlq q v25z v25l v26 v27 h0z h0l = some r) (R : Option (List V)) (_ : some [(Ow.enc 1 (V.int .u8)) r] = R) (fr : Fr) (H : Hp) (_ : canon 0 [6, 25, 26, 27] fr H = ([(6, (.vw 0 0 0 h0l.length 1)), (25, (.sl v25z (List.map (Sl.enc (V.int .u8)) v25l))), (26, (.int .i64 v26)), (27, (.int .i64 v27))], [(.row 0 h0z 1 (List.map (V.int .u8) h0l) true)])), fin zwp (unw T (orc T (M + 7)) (M + 7) 0 [.blk 2, .code zwj] (iter 0 [6, 25, 26, 27] (exec T (orc T (M + 7)) (M + 7) 0 zwg) j fr H)) = R
def zbvn := And.intro @kk <| And.intro @ke <| And.intro @kn <| And.intro @zbkm <| And.intro @zbmp <| And.intro @zbmq <| And.intro @zbmr <| @zbko
theorem zbvo (q : Nat) (zbxm : zbvj q) (zbxn : zbvk q) (zbxo : zbvl q) : zbvj (q + 1) := by
 intro M hM j hj v0z v0l v3 v9z v9l v10 v11 r h R hR fr H hc
 obtain ⟨j, rfl⟩ : ∃ i, j = i + 1 := ⟨j - 1, by omega⟩
 rw [zhj, hc]; clear hc
 rw [zls] at h
 replace h := br h; rcases h with ⟨h1, h⟩ | ⟨h1, h⟩
 ·replace h := bn h; obtain ⟨h2, h⟩ := h
  replace h := ob h; obtain ⟨e1, h3, h⟩ := h
  replace h := bm h; obtain ⟨h4, h⟩ := h
  replace h := zbxm M (by omega) j (by omega) _ _ _ _ _ _ _ _ h R hR
  simp only [zbvn, simprocAttr, *]
 ·replace h := bm h; obtain ⟨h5, h⟩ := h
  replace h := br h; rcases h with ⟨h6, h⟩ | ⟨h6, h⟩
  ·replace h := bn h; obtain ⟨h7, h⟩ := h
   replace h := bn h; obtain ⟨h8, h⟩ := h
   replace h := bm h; obtain ⟨h9, h⟩ := h
   replace h := zbxn M (by omega) (M + 7) (by omega) _ _ _ _ _ _ _ _ h R hR
   simp only [zbvn, simprocAttr, *]
  ·replace h := zbxo M (by omega) (M + 7) (by omega) _ _ _ _ h R hR
   simp only [zbvn, simprocAttr, *]
theorem zbvp (q : Nat) (zbxn : zbvk q) : zbvk (q + 1) := by
 intro M hM j hj v6len v25z v25l v26 v27 h0z h0l r h R hR fr H hc
 obtain ⟨j, rfl⟩ : ∃ i, j = i + 1 := ⟨j - 1, by omega⟩
 rw [zhj, hc]; clear hc
 rw [zlp] at h
 replace h := br h; rcases h with ⟨h1, h⟩ | ⟨h1, h⟩
 ·replace h := bn h; obtain ⟨h2, h⟩ := h
  replace h := ob h; obtain ⟨e2, h3, h⟩ := h
  replace h := bn h; obtain ⟨h4, h⟩ := h
  replace h := zbxn M (by omega) j (by omega) _ _ _ _ _ _ _ _ h R hR
  simp only [zbvn, simprocAttr, *]
 ·cases h; subst hR; simp only [zbvn, simprocAttr, *]
theorem zbvq (q : Nat) (zbxp : zbvm q) : zbvl (q + 1) := by
 intro M hM j hj v25z v25l v26 r h R hR fr H hc
 obtain ⟨j, rfl⟩ : ∃ i, j = i + 1 := ⟨j - 1, by omega⟩
 rw [zhj, hc]; clear hc
 rw [zlr] at h
 replace h := br h; rcases h with ⟨h1, h⟩ | ⟨h1, h⟩
 ·replace h := ob h; obtain ⟨e3, h2, h⟩ := h
  replace h := bn h; obtain ⟨h3, h⟩ := h
  replace h := zbxp M (by omega) j (by omega) _ _ _ _ _ _ _ h R hR
  simp only [zbvn, simprocAttr, *]
 ·cases h; subst hR; simp only [zbvn, simprocAttr, *]
theorem zbvr (q : Nat) (zbxp : zbvm q) : zbvm (q + 1) := by
 intro M hM j hj v25z v25l v26 v27 h0z h0l r h R hR fr H hc
 obtain ⟨j, rfl⟩ : ∃ i, j = i + 1 := ⟨j - 1, by omega⟩
 rw [zhj, hc]; clear hc
 rw [zlq] at h
 replace h := br h; rcases h with ⟨h1, h⟩ | ⟨h1, h⟩
 ·replace h := bn h; obtain ⟨h2, h⟩ := h
  replace h := ob h; obtain ⟨e4, h3, h⟩ := h
  replace h := bn h; obtain ⟨h4, h⟩ := h
  replace h := zbxp M (by omega) j (by omega) _ _ _ _ _ _ _ h R hR
  simp only [zbvn, simprocAttr, *]
 ·cases h; subst hR; simp only [zbvn, simprocAttr, *]
theorem zbvs : ∀ q, zbvj q ∧ zbvk q ∧ zbvl q ∧ zbvm q
 | 0 => by refine ⟨?_, ?_, ?_, ?_⟩ <;> (intro M hM j hj; intros; rename_i h _ _ _ _ _; cases h)
 | q + 1 => by have ⟨i0, i1, i2, i3⟩ := zbvs q; exact ⟨zbvo q i0 i1 i2, zbvp q i1, zbvq q i3, zbvr q i3⟩
theorem zbvt : ∀ (q N : Nat), 8 * q ≤ N → ∀ (a0 : (Sl (Sl Int))), ∀ (r : (Ow Int)), zlt q a0 = some r → (orc T N).deep F.zlt [(Sl.enc (Sl.enc (V.int .u8))) a0] = some [(Ow.enc 1 (V.int .u8)) r] := by
 intro q N hM a0 r h
 rcases q with _ | q
 ·cases h
 obtain ⟨M, rfl⟩ : ∃ M, N = M + 8 := ⟨N - 8, by omega⟩
 have zbxm := (zbvs q).1
 generalize hR : some [(Ow.enc 1 (V.int .u8)) r] = R
 rw [zhs, zbgj, y4, zhq]
 rw [zlt] at h
 replace h := zbxm M (by omega) (M + 7) (by omega) _ _ _ _ _ _ _ _ h R hR
 simp only [zbvn, simprocAttr, *]
def zbvu := And.intro @kk <| And.intro @ke <| And.intro @kn <| And.intro @zbjd <| And.intro @zbj5 <| And.intro @zbkn <| And.intro @zblz <| @zbjf
theorem zbvv : ∀ (q N : Nat), 8 * q ≤ N → ∀ (a0 : (Sl Int)), ∀ (r : (Ow Int) × Int), zlu q a0 = some r → (orc T N).deep F.zlu [(Sl.enc (V.int .u8)) a0] = some [(Ow.enc 1 (V.int .u8)) r.1, (V.int .i64) r.2] := by
 intro q N hM a0 r h
 rcases q with _ | q
 ·cases h
 obtain ⟨M, rfl⟩ : ∃ M, N = M + 8 := ⟨N - 8, by omega⟩
 generalize hR : some [(Ow.enc 1 (V.int .u8)) r.1, (V.int .i64) r.2] = R
 rw [zhs, zbf4, y4, zhq]
 rw [zlu] at h
 replace h := br h; rcases h with ⟨h1, h⟩ | ⟨h1, h⟩
 ·cases h; subst hR; simp only [zbvu, simprocAttr, *]
 ·replace h := ob h; obtain ⟨r1, h2, h⟩ := h
  replace h2 := zbuw q (M + 7) (by omega) _ _ _ h2
  try simp only [kf, simprocAttr] at h2
  replace h := ob h; obtain ⟨r2, h3, h⟩ := h
  replace h3 := zbuc q (M + 7) (by omega) _ _ _ h3
  try simp only [kf, simprocAttr] at h3
  replace h := ob h; obtain ⟨r3, h4, h⟩ := h
  replace h4 := zbvt q (M + 7) (by omega) _ _ h4
  try simp only [kf, simprocAttr] at h4
  cases h; subst hR; simp only [zbvu, simprocAttr, *]
def zbvw := And.intro @kk <| And.intro @ke <| And.intro @kn <| And.intro @zbnp <| @zbnr
theorem zbvx : ∀ (q N : Nat), 8 * q ≤ N → ∀ (a0 : zji), ∀ (r : Int), zlv q a0 = some r → (orc T N).deep F.zlv [zji.enc a0] = some [(V.int .i64) r] := by
 intro q N hM a0 r h
 rcases q with _ | q
 ·cases h
 obtain ⟨M, rfl⟩ : ∃ M, N = M + 8 := ⟨N - 8, by omega⟩
 generalize hR : some [(V.int .i64) r] = R
 rw [zhs, zbhk, y4, zhq]
 rw [zlv] at h
 replace h := bb h; rcases h with ⟨h1', h1, h⟩ | ⟨h1', h1, h⟩
 ·cases h; subst hR; simp only [zbvw, simprocAttr, *]
 ·cases h; subst hR; simp only [zbvw, simprocAttr, *]
def zbvy (q : Nat) : Prop := ∀ (M : Nat) (hM : 8 * q ≤ M) (j : Nat) (hj : q ≤ j) (v21z : Bool) (v21l : List Int) (v22 v23 : Int) (h0z : Bool) (h0l : List Int) (h0x : Bool) (r : (Ow Int) × Int) (_ : zlw q v21z v21l v22 v23 h0z h0l h0x = some r) (R : Option (List V)) (_ : some [(Ow.enc 1 (V.int .u8)) r.1, (V.int .i64) r.2] = R) (fr : Fr) (H : Hp) (_ : canon 0 [4, 21, 22, 23] fr H = ([(4, (.vw 0 0 0 h0l.length 1)), (21, (.sl v21z (List.map (V.int .i64) v21l))), (22, (.int .i64 v22)), (23, (.int .i64 v23))], [(.row 0 h0z 1 (List.map (V.int .u8) h0l) h0x)])), fin z4s (unw T (orc T (M + 7)) (M + 7) 0 [.blk 0, .code z4n] (iter 0 [4, 21, 22, 23] (exec T (orc T (M + 7)) (M + 7) 0 z4k) j fr H)) = R
def zbvz := And.intro @kk <| And.intro @ke <| And.intro @kn <| And.intro @zbma <| And.intro @zbit <| And.intro @zbjb <| And.intro @zbj5 <| And.intro @zbnq <| @zbmc
theorem zbv0 (q : Nat) (zbxq : zbvy q) : zbvy (q + 1) := by
 intro M hM j hj v21z v21l v22 v23 h0z h0l h0x r h R hR fr H hc
 obtain ⟨j, rfl⟩ : ∃ i, j = i + 1 := ⟨j - 1, by omega⟩
 rw [zhj, hc]; clear hc
 rw [zlw] at h
 replace h := br h; rcases h with ⟨h1, h⟩ | ⟨h1, h⟩
 ·replace h := bn h; obtain ⟨h2, h⟩ := h
  replace h := ob h; obtain ⟨e6, h3, h⟩ := h
  replace h := ob h; obtain ⟨r7, h4, h⟩ := h
  replace h4 := zbu0 q (M + 7) (by omega) _ _ _ h4
  try simp only [kf, simprocAttr] at h4
  replace h := zbxq M (by omega) j (by omega) _ _ _ _ _ _ _ _ h R hR
  simp only [zbvz, simprocAttr, *]
 ·cases h; subst hR; simp only [zbvz, simprocAttr, *]
theorem zbv1 : ∀ q, zbvy q
 | 0 => by intro M hM j hj; intros; rename_i h _ _ _ _ _; cases h
 | q + 1 => by have i0 := zbv1 q; exact zbv0 q i0
theorem zbv2 : ∀ (q N : Nat), 8 * q ≤ N → ∀ (a0 : zji), ∀ (r : (Ow Int) × Int), zlx q a0 = some r → (orc T N).deep F.zlx [zji.enc a0] = some [(Ow.enc 1 (V.int .u8)) r.1, (V.int .i64) r.2] := by
 intro q N hM a0 r h
 rcases q with _ | q
 ·cases h
 obtain ⟨M, rfl⟩ : ∃ M, N = M + 8 := ⟨N - 8, by omega⟩
 have zbxq := (zbv1 q)
 generalize hR : some [(Ow.enc 1 (V.int .u8)) r.1, (V.int .i64) r.2] = R
 rw [zhs, zbg3, y4, zhq]
 rw [zlx] at h
 replace h := ob h; obtain ⟨r1, h1, h⟩ := h
 replace h1 := zbqz q (M + 7) (by omega) _ _ h1
 try simp only [kf, simprocAttr] at h1
 replace h := bb h; rcases h with ⟨h2', h2, h⟩ | ⟨h2', h2, h⟩
 ·replace h := ob h; obtain ⟨r2, h3, h⟩ := h
  replace h3 := zbuw q (M + 7) (by omega) _ _ _ h3
  try simp only [kf, simprocAttr] at h3
  replace h := ob h; obtain ⟨r3, h4, h⟩ := h
  replace h4 := zbvx q (M + 7) (by omega) _ _ h4
  try simp only [kf, simprocAttr] at h4
  replace h := ob h; obtain ⟨r4, h5, h⟩ := h
  replace h5 := zbuw q (M + 7) (by omega) _ _ _ h5
  try simp only [kf, simprocAttr] at h5
  replace h := ob h; obtain ⟨r5, h6, h⟩ := h
  replace h6 := zbuw q (M + 7) (by omega) _ _ _ h6
  try simp only [kf, simprocAttr] at h6
  replace h := zbxq M (by omega) (M + 7) (by omega) _ _ _ _ _ _ _ _ h R hR
  simp only [zbvz, simprocAttr, *]
 ·cases h; subst hR; simp only [zbvz, simprocAttr, *]
def zbv3 (q : Nat) : Prop := ∀ (M : Nat) (hM : 8 * q ≤ M) (j : Nat) (hj : q ≤ j) (v24z : Bool) (v24l : List zjj) (v25 v26 : Int) (h0z : Bool) (h0l : List Int) (h0x : Bool) (r : (Ow Int)) (_ : zly q v24z v24l v25 v26 h0z h0l h0x = some r) (R : Option (List V)) (_ : some [(Ow.enc 1 (V.int .u8)) r] = R) (fr : Fr) (H : Hp) (_ : canon 0 [5, 24, 25, 26] fr H = ([(5, (.vw 0 0 0 h0l.length 1)), (24, (.sl v24z (List.map zjj.enc v24l))), (25, (.int .i64 v25)), (26, (.int .i64 v26))], [(.row 0 h0z 1 (List.map (V.int .u8) h0l) h0x)])), fin zuw (unw T (orc T (M + 7)) (M + 7) 0 [.blk 0, .code zur] (iter 0 [5, 24, 25, 26] (exec T (orc T (M + 7)) (M + 7) 0 zuo) j fr H)) = R
def zbv4 := And.intro @kk <| And.intro @ke <| And.intro @kn <| And.intro @zbj1 <| And.intro @zbjb <| And.intro @zbj5 <| And.intro @zbmb <| @zbj3
theorem zbv5 (q : Nat) (zbxr : zbv3 q) : zbv3 (q + 1) := by
 intro M hM j hj v24z v24l v25 v26 h0z h0l h0x r h R hR fr H hc
 obtain ⟨j, rfl⟩ : ∃ i, j = i + 1 := ⟨j - 1, by omega⟩
 rw [zhj, hc]; clear hc
 rw [zly] at h
 replace h := br h; rcases h with ⟨h1, h⟩ | ⟨h1, h⟩
 ·replace h := bn h; obtain ⟨h2, h⟩ := h
  replace h := ob h; obtain ⟨e4, h3, h⟩ := h
  replace h := ob h; obtain ⟨r5, h4, h⟩ := h
  replace h4 := zbuw q (M + 7) (by omega) _ _ _ h4
  try simp only [kf, simprocAttr] at h4
  replace h := ob h; obtain ⟨r6, h5, h⟩ := h
  replace h5 := zbuw q (M + 7) (by omega) _ _ _ h5
  try simp only [kf, simprocAttr] at h5
  replace h := ob h; obtain ⟨r7, h6, h⟩ := h
  replace h6 := zbu0 q (M + 7) (by omega) _ _ _ h6
  try simp only [kf, simprocAttr] at h6
  replace h := zbxr M (by omega) j (by omega) _ _ _ _ _ _ _ _ h R hR
  simp only [zbv4, simprocAttr, *]
 ·cases h; subst hR; simp only [zbv4, simprocAttr, *]
theorem zbv6 : ∀ q, zbv3 q
 | 0 => by intro M hM j hj; intros; rename_i h _ _ _ _ _; cases h
 | q + 1 => by have i0 := zbv6 q; exact zbv5 q i0
theorem zbv7 : ∀ (q N : Nat), 8 * q ≤ N → ∀ (a0 : zjk), ∀ (r : (Ow Int)), zlz q a0 = some r → (orc T N).deep F.zlz [zjk.enc a0] = some [(Ow.enc 1 (V.int .u8)) r] := by
 intro q N hM a0 r h
 rcases q with _ | q
 ·cases h
 obtain ⟨M, rfl⟩ : ∃ M, N = M + 8 := ⟨N - 8, by omega⟩
 have zbxr := (zbv6 q)
 generalize hR : some [(Ow.enc 1 (V.int .u8)) r] = R
 rw [zhs, zbgc, y4, zhq]
 rw [zlz] at h
 replace h := ob h; obtain ⟨r1, h1, h⟩ := h
 replace h1 := zbv2 q (M + 7) (by omega) _ _ h1
 try simp only [kf, simprocAttr] at h1
 replace h := ob h; obtain ⟨r2, h2, h⟩ := h
 replace h2 := zbuw q (M + 7) (by omega) _ _ _ h2
 try simp only [kf, simprocAttr] at h2
 replace h := bn h; obtain ⟨h3, h⟩ := h
 replace h := ob h; obtain ⟨r3, h4, h⟩ := h
 replace h4 := zbuw q (M + 7) (by omega) _ _ _ h4
 try simp only [kf, simprocAttr] at h4
 replace h := zbxr M (by omega) (M + 7) (by omega) _ _ _ _ _ _ _ _ h R hR
 simp only [zbv4, simprocAttr, *]
def zbv8 := And.intro @kk <| And.intro @ke <| And.intro @kn <| And.intro @zbj7 <| And.intro @zbje <| @zbj9
theorem zbv9 : ∀ (q N : Nat), 8 * q ≤ N → ∀ (a0 : (Sl Int)), ∀ (r : (Ow Int)), zl0 q a0 = some r → (orc T N).deep F.zl0 [(Sl.enc (V.int .u8)) a0] = some [(Ow.enc 1 (V.int .u8)) r] := by
 intro q N hM a0 r h
 rcases q with _ | q
 ·cases h
 obtain ⟨M, rfl⟩ : ∃ M, N = M + 8 := ⟨N - 8, by omega⟩
 generalize hR : some [(Ow.enc 1 (V.int .u8)) r] = R
 rw [zhs, zbge, y4, zhq]
 rw [zl0] at h
 replace h := ob h; obtain ⟨r1, h1, h⟩ := h
 replace h1 := zbvv q (M + 7) (by omega) _ _ h1
 try simp only [kf, simprocAttr] at h1
 cases h; subst hR; simp only [zbv8, simprocAttr, *]
def zbwa (q : Nat) : Prop := ∀ (M : Nat) (hM : 8 * q ≤ M) (j : Nat) (hj : q ≤ j) (h0z : Bool) (h0l : List Int) (h0x h1z : Bool) (h1l : List Int) (h1x : Bool) (r : (Ow Int) × Int) (_ : zl2 q h0z h0l h0x h1z h1l h1x = some r) (R : Option (List V)) (_ : some [(Ow.enc 1 (V.int .u8)) r.1, (V.int .i64) r.2] = R) (fr : Fr) (H : Hp) (_ : canon 0 [4, 6] fr H = ([(4, (.vw 0 0 0 h0l.length 1)), (6, (.vw 1 0 0 h1l.length 1))], [(.row 0 h0z 1 (List.map (V.int .u8) h0l) h0x), (.row 0 h1z 1 (List.map (V.int .u8) h1l) h1x)])), fin zok (unw T (orc T (M + 7)) (M + 7) 0 [.blk 0, .code zod] (iter 0 [4, 6] (exec T (orc T (M + 7)) (M + 7) 0 zob) j fr H)) = R
def zbwb (q : Nat) : Prop := ∀ (M : Nat) (hM : 8 * q ≤ M) (j : Nat) (hj : q ≤ j) (v4off v4len : Nat) (h0z : Bool) (h0l : List Int) (h1z : Bool) (h1l : List Int) (h1x : Bool) (r : (Ow Int) × Int) (_ : zl1 q v4off v4len h0z h0l h1z h1l h1x = some r) (R : Option (List V)) (_ : some [(Ow.enc 1 (V.int .u8)) r.1, (V.int .i64) r.2] = R) (fr : Fr) (H : Hp) (_ : canon 0 [4, 6] fr H = ([(4, (.vw 0 0 v4off v4len 1)), (6, (.vw 1 0 0 h1l.length 1))], [(.row 0 h0z 1 (List.map (V.int .u8) h0l) false), (.row 0 h1z 1 (List.map (V.int .u8) h1l) h1x)])), fin zok (unw T (orc T (M + 7)) (M + 7) 0 [.blk 0, .code zod] (iter 0 [4, 6] (exec T (orc T (M + 7)) (M + 7) 0 zob) j fr H)) = R
def zbwc := And.intro @kk <| And.intro @ke <| And.intro @kn <| And.intro @zbid <| And.intro @zbhz <| And.intro @zbj2 <| And.intro @zbj5 <| And.intro @zbj8 <| And.intro @zbkb <| And.intro @zbke <| @zbif
theorem zbwd (q : Nat) (zbxs : zbwb q) : zbwa (q + 1) := by
 intro M hM j hj h0z h0l h0x h1z h1l h1x r h R hR fr H hc
 obtain ⟨j, rfl⟩ : ∃ i, j = i + 1 := ⟨j - 1, by omega⟩
 rw [zhj, hc]; clear hc
 rw [zl2] at h
 replace h := br h; rcases h with ⟨h1, h⟩ | ⟨h1, h⟩
 ·replace h := bn h; obtain ⟨h2, h⟩ := h
  replace h := bn h; obtain ⟨h3, h⟩ := h
  replace h := bn h; obtain ⟨h4, h⟩ := h
  replace h := ob h; obtain ⟨r9, h5, h⟩ := h
  replace h5 := zbv9 q (M + 7) (by omega) _ _ h5
  try simp only [kf, simprocAttr] at h5
  replace h := bn h; obtain ⟨h6, h⟩ := h
  replace h := zbxs M (by omega) j (by omega) _ _ _ _ _ _ _ _ h R hR
  simp only [zbwc, simprocAttr, *]
 ·cases h; subst hR; simp only [zbwc, simprocAttr, *]
theorem zbwe (q : Nat) (zbxs : zbwb q) : zbwb (q + 1) := by
 intro M hM j hj v4off v4len h0z h0l h1z h1l h1x r h R hR fr H hc
 obtain ⟨j, rfl⟩ : ∃ i, j = i + 1 := ⟨j - 1, by omega⟩
 rw [zhj, hc]; clear hc
 rw [zl1] at h
 replace h := br h; rcases h with ⟨h1, h⟩ | ⟨h1, h⟩
 ·replace h := bn h; obtain ⟨h2, h⟩ := h
  replace h := bn h; obtain ⟨h3, h⟩ := h
  replace h := bn h; obtain ⟨h4, h⟩ := h
  replace h := ob h; obtain ⟨r10, h5, h⟩ := h
  replace h5 := zbv9 q (M + 7) (by omega) _ _ h5
  try simp only [kf, simprocAttr] at h5
  replace h := bn h; obtain ⟨h6, h⟩ := h
  replace h := bn h; obtain ⟨h7, h⟩ := h
  replace h := zbxs M (by omega) j (by omega) _ _ _ _ _ _ _ _ h R hR
  simp only [zbwc, simprocAttr, *]
 ·cases h; subst hR; simp only [zbwc, simprocAttr, *]
theorem zbwf : ∀ q, zbwa q ∧ zbwb q
 | 0 => by refine ⟨?_, ?_⟩ <;> (intro M hM j hj; intros; rename_i h _ _ _ _ _; cases h)
 | q + 1 => by have ⟨i0, i1⟩ := zbwf q; exact ⟨zbwd q i1, zbwe q i1⟩
theorem zbwg : ∀ (q N : Nat), 8 * q ≤ N → ∀ (a0 : zjk), ∀ (r : (Ow Int) × Int), zl3 q a0 = some r → (orc T N).deep F.zl3 [zjk.enc a0] = some [(Ow.enc 1 (V.int .u8)) r.1, (V.int .i64) r.2] := by
 intro q N hM a0 r h
 rcases q with _ | q
 ·cases h
 obtain ⟨M, rfl⟩ : ∃ M, N = M + 8 := ⟨N - 8, by omega⟩
 have ih_snapshot_Encode_l0 := (zbwf q).1
 generalize hR : some [(Ow.enc 1 (V.int .u8)) r.1, (V.int .i64) r.2] = R
 rw [zhs, zbfs, y4, zhq]
 rw [zl3] at h
 replace h := ob h; obtain ⟨r1, h1, h⟩ := h
 replace h1 := zbq8 q (M + 7) (by omega) _ _ h1
 try simp only [kf, simprocAttr] at h1
 replace h := bb h; rcases h with ⟨h2', h2, h⟩ | ⟨h2', h2, h⟩
 ·replace h := ob h; obtain ⟨r2, h3, h⟩ := h
  replace h3 := zbv7 q (M + 7) (by omega) _ _ h3
  try simp only [kf, simprocAttr] at h3
  replace h := ob h; obtain ⟨r3, h4, h⟩ := h
  replace h4 := zbuw q (M + 7) (by omega) _ _ _ h4
  try simp only [kf, simprocAttr] at h4
  replace h := ob h; obtain ⟨r4, h5, h⟩ := h
  replace h5 := zbuw q (M + 7) (by omega) _ _ _ h5
  try simp only [kf, simprocAttr] at h5
  replace h := ob h; obtain ⟨r5, h6, h⟩ := h
  replace h6 := zbuw q (M + 7) (by omega) _ _ _ h6
  try simp only [kf, simprocAttr] at h6
  replace h := ob h; obtain ⟨r6, h7, h⟩ := h
  replace h7 := zbt3 q (M + 7) (by omega) _ _ h7
  try simp only [kf, simprocAttr] at h7
  replace h := ob h; obtain ⟨r7, h8, h⟩ := h
  replace h8 := zbua q (M + 7) (by omega) _ _ h8
  try simp only [kf, simprocAttr] at h8
  replace h := bn h; obtain ⟨h9, h⟩ := h
  replace h := ob h; obtain ⟨r8, h10, h⟩ := h
  replace h10 := zbv9 q (M + 7) (by omega) _ _ h10
  try simp only [kf, simprocAttr] at h10
  replace h := ih_snapshot_Encode_l0 M (by omega) (M + 7) (by omega) _ _ _ _ _ _ _ h R hR
  simp only [zbwc, simprocAttr, *]
 ·cases h; subst hR; simp only [zbwc, simprocAttr, *]
def zbwh := And.intro @kk <| And.intro @ke <| And.intro @kn <| And.intro @zbh7 <| And.intro @zbh2 <| And.intro @zbie <| @zbh9
theorem zbwi : ∀ (q N : Nat), 8 * q ≤ N → ∀ (r : Bool), zl4 q = some r → (orc T N).deep F.zl4 [] = some [V.bool r] := by
 intro q N hM r h
 rcases q with _ | q
 ·cases h
 obtain ⟨M, rfl⟩ : ∃ M, N = M + 8 := ⟨N - 8, by omega⟩
 generalize hR : some [V.bool r] = R
 rw [zhs, zbfq, y4, zhq]
 rw [zl4] at h
 replace h := ob h; obtain ⟨r1, h1, h⟩ := h
 replace h1 := zbs9 q (M + 7) (by omega) _ _ _ h1
 try simp only [kf, simprocAttr] at h1
 replace h := ob h; obtain ⟨r2, h2, h⟩ := h
 replace h2 := zbwg q (M + 7) (by omega) _ _ h2
 try simp only [kf, simprocAttr] at h2
 replace h := br h; rcases h with ⟨h3, h⟩ | ⟨h3, h⟩
 ·replace h := br h; rcases h with ⟨h4, h⟩ | ⟨h4, h⟩
  ·replace h := br h; rcases h with ⟨h5, h⟩ | ⟨h5, h⟩
   ·replace h := br h; rcases h with ⟨h6, h⟩ | ⟨h6, h⟩
    ·replace h := br h; rcases h with ⟨h7, h⟩ | ⟨h7, h⟩
     ·replace h := ob h; obtain ⟨e3, h8, h⟩ := h
      replace h := br h; rcases h with ⟨h9, h⟩ | ⟨h9, h⟩
      ·replace h := br h; rcases h with ⟨h10, h⟩ | ⟨h10, h⟩
       ·replace h := br h; rcases h with ⟨h11, h⟩ | ⟨h11, h⟩
        ·replace h := br h; rcases h with ⟨h12, h⟩ | ⟨h12, h⟩
         ·replace h := ob h; obtain ⟨e4, h13, h⟩ := h
          cases h; subst hR; simp only [zbwh, simprocAttr, *]
         ·cases h; subst hR; simp only [zbwh, simprocAttr, *]
        ·cases h; subst hR; simp only [zbwh, simprocAttr, *]
       ·cases h; subst hR; simp only [zbwh, simprocAttr, *]
      ·cases h; subst hR; simp only [zbwh, simprocAttr, *]
     ·cases h; subst hR; simp only [zbwh, simprocAttr, *]
    ·cases h; subst hR; simp only [zbwh, simprocAttr, *]
   ·cases h; subst hR; simp only [zbwh, simprocAttr, *]
  ·cases h; subst hR; simp only [zbwh, simprocAttr, *]
 ·cases h; subst hR; simp only [zbwh, simprocAttr, *]
def zbwj (q : Nat) : Prop := ∀ (M : Nat) (hM : 8 * q ≤ M) (j : Nat) (hj : q ≤ j) (v0z : Bool) (v0l : List Int) (v3 : Int) (h0z : Bool) (h0l : List (Sl Int)) (r : (Ow (Sl Int)) × Int × Int) (_ : zl5 q v0z v0l v3 h0z h0l = some r) (R : Option (List V)) (_ : some [(Ow.enc 1 (Sl.enc (V.int .u8))) r.1, (V.int .i64) r.2.1, (V.int .i64) r.2.2] = R) (fr : Fr) (H : Hp) (_ : canon 0 [0, 2, 3] fr H = ([(0, (.sl v0z (List.map (V.int .u8) v0l))), (2, (.vw 0 0 0 h0l.length 1)), (3, (.int .i64 v3))], [(.row 0 h0z 1 (List.map (Sl.enc (V.int .u8)) h0l) true)])), fin z6f (unw T (orc T (M + 7)) (M + 7) 0 [.blk 0, .code z6c] (iter 0 [0, 2, 3] (exec T (orc T (M + 7)) (M + 7) 0 z6a) j fr H)) = R
def zbwk := And.intro @kk <| And.intro @ke <| And.intro @kn <| And.intro @zbmj <| And.intro @zbi8 <| @zbml
theorem zbwl (q : Nat) (zbxt : zbwj q) : zbwj (q + 1) := by
 intro M hM j hj v0z v0l v3 h0z h0l r h R hR fr H hc
 obtain ⟨j, rfl⟩ : ∃ i, j = i + 1 := ⟨j - 1, by omega⟩
 rw [zhj, hc]; clear hc
 rw [zl5] at h
 replace h := br h; rcases h with ⟨h1, h⟩ | ⟨h1, h⟩
 ·replace h := bn h; obtain ⟨h2, h⟩ := h
  replace h := bn h; obtain ⟨h3, h⟩ := h
  replace h := ob h; obtain ⟨r1, h4, h⟩ := h
  replace h4 := zbul q (M + 7) (by omega) _ _ h4
  try simp only [kf, simprocAttr] at h4
  replace h := br h; rcases h with ⟨h5, h⟩ | ⟨h5, h⟩
  ·replace h := bn h; obtain ⟨h6, h⟩ := h
   replace h := zbxt M (by omega) j (by omega) _ _ _ _ _ _ h R hR
   simp only [zbwk, simprocAttr, *]
  ·cases h; subst hR; simp only [zbwk, simprocAttr, *]
 ·cases h; subst hR; simp only [zbwk, simprocAttr, *]
theorem zbwm : ∀ q, zbwj q
 | 0 => by intro M hM j hj; intros; rename_i h _ _ _ _ _; cases h
 | q + 1 => by have i0 := zbwm q; exact zbwl q i0
theorem zbwn : ∀ (q N : Nat), 8 * q ≤ N → ∀ (a0 : (Sl Int)), ∀ (r : (Ow (Sl Int)) × Int × Int), zl6 q a0 = some r → (orc T N).deep F.zl6 [(Sl.enc (V.int .u8)) a0] = some [(Ow.enc 1 (Sl.enc (V.int .u8))) r.1, (V.int .i64) r.2.1, (V.int .i64) r.2.2] := by
 intro q N hM a0 r h
 rcases q with _ | q
 ·cases h
 obtain ⟨M, rfl⟩ : ∃ M, N = M + 8 := ⟨N - 8, by omega⟩
 have zbxt := (zbwm q)
 generalize hR : some [(Ow.enc 1 (Sl.enc (V.int .u8))) r.1, (V.int .i64) r.2.1, (V.int .i64) r.2.2] = R
 rw [zhs, zbg6, y4, zhq]
 rw [zl6] at h
 replace h := zbxt M (by omega) (M + 7) (by omega) _ _ _ _ _ _ h R hR
 simp only [zbwk, simprocAttr, *]
def zbwo := And.intro @kk <| And.intro @ke <| And.intro @kn <| And.intro @zbkg <| And.intro @zbmk <| @zbki
theorem zbwp : ∀ (q N : Nat), 8 * q ≤ N → ∀ (a0 : (Sl Int)), ∀ (r : (Ow (Sl Int)) × Int), zl7 q a0 = some r → (orc T N).deep F.zl7 [(Sl.enc (V.int .u8)) a0] = some [(Ow.enc 1 (Sl.enc (V.int .u8))) r.1, (V.int .i64) r.2] := by
 intro q N hM a0 r h
 rcases q with _ | q
 ·cases h
 obtain ⟨M, rfl⟩ : ∃ M, N = M + 8 := ⟨N - 8, by omega⟩
 generalize hR : some [(Ow.enc 1 (Sl.enc (V.int .u8))) r.1, (V.int .i64) r.2] = R
 rw [zhs, zbgh, y4, zhq]
 rw [zl7] at h
 replace h := ob h; obtain ⟨r1, h1, h⟩ := h
 replace h1 := zbwn q (M + 7) (by omega) _ _ h1
 try simp only [kf, simprocAttr] at h1
 replace h := br h; rcases h with ⟨h2, h⟩ | ⟨h2, h⟩
 ·cases h; subst hR; simp only [zbwo, simprocAttr, *]
 ·cases h; subst hR; simp only [zbwo, simprocAttr, *]
def zbwq (q : Nat) : Prop := ∀ (M : Nat) (hM : 8 * q ≤ M) (j : Nat) (hj : q ≤ j) (v0z : Bool) (v0l : List Int) (v3 v7 v8 r : Int) (_ : zl8 q v0z v0l v3 v7 v8 = some r) (R : Option (List V)) (_ : some [(V.int .u64) r] = R) (fr : Fr) (H : Hp) (_ : canon 0 [0, 3, 7, 8] fr H = ([(0, (.sl v0z (List.map (V.int .u8) v0l))), (3, (.int .u64 v3)), (7, (.int .i64 v7)), (8, (.int .i64 v8))], [])), fin z6y (unw T (orc T (M + 7)) (M + 7) 0 [.blk 0, .code z6u] (iter 0 [0, 3, 7, 8] (exec T (orc T (M + 7)) (M + 7) 0 z6r) j fr H)) = R
def zbwr := And.intro @kk <| And.intro @ke <| And.intro @kn <| And.intro @zbmm <| @zbmo
theorem zbws (q : Nat) (zbxu : zbwq q) : zbwq (q + 1) := by
 intro M hM j hj v0z v0l v3 v7 v8 r h R hR fr H hc
 obtain ⟨j, rfl⟩ : ∃ i, j = i + 1 := ⟨j - 1, by omega⟩
 rw [zhj, hc]; clear hc
 rw [zl8] at h
 replace h := br h; rcases h with ⟨h1, h⟩ | ⟨h1, h⟩
 ·replace h := bn h; obtain ⟨h2, h⟩ := h
  replace h := ob h; obtain ⟨e1, h3, h⟩ := h
  replace h := bm h; obtain ⟨h4, h⟩ := h
  replace h := zbxu M (by omega) j (by omega) _ _ _ _ _ _ h R hR
  simp only [zbwr, simprocAttr, *]
 ·cases h; subst hR; simp only [zbwr, simprocAttr, *]
theorem zbwt : ∀ q, zbwq q
 | 0 => by intro M hM j hj; intros; rename_i h _ _ _ _ _; cases h
 | q + 1 => by have i0 := zbwt q; exact zbws q i0
theorem zbwu : ∀ (q N : Nat), 8 * q ≤ N → ∀ (a0 : (Sl Int)), ∀ (r : Int), zl9 q a0 = some r → (orc T N).deep F.zl9 [(Sl.enc (V.int .u8)) a0] = some [(V.int .u64) r] := by
 intro q N hM a0 r h
 rcases q with _ | q
 ·cases h
 obtain ⟨M, rfl⟩ : ∃ M, N = M + 8 := ⟨N - 8, by omega⟩
 have zbxu := (zbwt q)
 generalize hR : some [(V.int .u64) r] = R
 rw [zhs, zbg7, y4, zhq]
 rw [zl9] at h
 replace h := zbxu M (by omega) (M + 7) (by omega) _ _ _ _ _ _ h R hR
 simp only [zbwr, simprocAttr, *]
def zbwv := And.intro @kk <| And.intro @ke <| And.intro @kn <| And.intro @zbkj <| And.intro @zblt <| And.intro @zbmn <| @zbkl
theorem zbww : ∀ (q N : Nat), 8 * q ≤ N → ∀ (a0 : (Sl Int)), ∀ (r : zjo × Int), zma q a0 = some r → (orc T N).deep F.zma [(Sl.enc (V.int .u8)) a0] = some [zjo.enc r.1, (V.int .i64) r.2] := by
 intro q N hM a0 r h
 rcases q with _ | q
 ·cases h
 obtain ⟨M, rfl⟩ : ∃ M, N = M + 8 := ⟨N - 8, by omega⟩
 generalize hR : some [zjo.enc r.1, (V.int .i64) r.2] = R
 rw [zhs, zbgi, y4, zhq]
 rw [zma] at h
 replace h := br h; rcases h with ⟨h1, h⟩ | ⟨h1, h⟩
 ·cases h; subst hR; simp only [zbwv, simprocAttr, *]
 ·replace h := ob h; obtain ⟨e1, h2, h⟩ := h
  replace h := br h; rcases h with ⟨h3, h⟩ | ⟨h3, h⟩
  ·replace h := bn h; obtain ⟨h4, h⟩ := h
   replace h := ob h; obtain ⟨r2, h5, h⟩ := h
   replace h5 := zbtp q (M + 7) (by omega) _ _ h5
   try simp only [kf, simprocAttr] at h5
   replace h := bn h; obtain ⟨h6, h⟩ := h
   replace h := bn h; obtain ⟨h7, h⟩ := h
   replace h := ob h; obtain ⟨r3, h8, h⟩ := h
   replace h8 := zbtp q (M + 7) (by omega) _ _ h8
   try simp only [kf, simprocAttr] at h8
   replace h := bn h; obtain ⟨h9, h⟩ := h
   replace h := bn h; obtain ⟨h10, h⟩ := h
   replace h := ob h; obtain ⟨r4, h11, h⟩ := h
   replace h11 := zbtp q (M + 7) (by omega) _ _ h11
   try simp only [kf, simprocAttr] at h11
   replace h := bn h; obtain ⟨h12, h⟩ := h
   replace h := bn h; obtain ⟨h13, h⟩ := h
   replace h := br h; rcases h with ⟨h14, h⟩ | ⟨h14, h⟩
   ·cases h; subst hR; simp only [zbwv, simprocAttr, *]
   ·replace h := br h; rcases h with ⟨h15, h⟩ | ⟨h15, h⟩
    ·cases h; subst hR; simp only [zbwv, simprocAttr, *]
    ·replace h := br h; rcases h with ⟨h16, h⟩ | ⟨h16, h⟩
     ·cases h; subst hR; simp only [zbwv, simprocAttr, *]
     ·replace h := br h; rcases h with ⟨h17, h⟩ | ⟨h17, h⟩
      ·replace h := br h; rcases h with ⟨h18, h⟩ | ⟨h18, h⟩
       ·replace h := ob h; obtain ⟨r5, h19, h⟩ := h
        replace h19 := zbwu q (M + 7) (by omega) _ _ h19
        try simp only [kf, simprocAttr] at h19
        cases h; subst hR; simp only [zbwv, simprocAttr, *]
       ·cases h; subst hR; simp only [zbwv, simprocAttr, *]
      ·cases h; subst hR; simp only [zbwv, simprocAttr, *]
  ·cases h; subst hR; simp only [zbwv, simprocAttr, *]
def zbwx (q : Nat) : Prop := ∀ (M : Nat) (hM : 8 * q ≤ M) (j : Nat) (hj : q ≤ j) (v0z : Bool) (v0l : List (Sl Int)) (v5z : Bool) (v5l : List (Sl Int)) (v6 v7 : Int) (r : Bool) (_ : zmb q v0z v0l v5z v5l v6 v7 = some r) (R : Option (List V)) (_ : some [V.bool r] = R) (fr : Fr) (H : Hp) (_ : canon 0 [0, 5, 6, 7] fr H = ([(0, (.sl v0z (List.map (Sl.enc (V.int .u8)) v0l))), (5, (.sl v5z (List.map (Sl.enc (V.int .u8)) v5l))), (6, (.int .i64 v6)), (7, (.int .i64 v7))], [])), fin zwz (unw T (orc T (M + 7)) (M + 7) 0 [.blk 0, .code zww] (iter 0 [0, 5, 6, 7] (exec T (orc T (M + 7)) (M + 7) 0 zwt) j fr H)) = R
def zbwy := And.intro @kk <| And.intro @ke <| And.intro @kn <| And.intro @zbkp <| @zbkr
theorem zbwz (q : Nat) (zbxv : zbwx q) : zbwx (q + 1) := by
 intro M hM j hj v0z v0l v5z v5l v6 v7 r h R hR fr H hc
 obtain ⟨j, rfl⟩ : ∃ i, j = i + 1 := ⟨j - 1, by omega⟩
 rw [zhj, hc]; clear hc
 rw [zmb] at h
 replace h := br h; rcases h with ⟨h1, h⟩ | ⟨h1, h⟩
 ·replace h := bn h; obtain ⟨h2, h⟩ := h
  replace h := ob h; obtain ⟨e1, h3, h⟩ := h
  replace h := br h; rcases h with ⟨h4, h⟩ | ⟨h4, h⟩
  ·cases h; subst hR; simp only [zbwy, simprocAttr, *]
  ·replace h := br h; rcases h with ⟨h5, h⟩ | ⟨h5, h⟩
   ·cases h; subst hR; simp only [zbwy, simprocAttr, *]
   ·replace h := br h; rcases h with ⟨h6, h⟩ | ⟨h6, h⟩
    ·replace h := br h; rcases h with ⟨h7, h⟩ | ⟨h7, h⟩
     ·cases h; subst hR; simp only [zbwy, simprocAttr, *]
     ·replace h := zbxv M (by omega) j (by omega) _ _ _ _ _ _ _ h R hR
      simp only [zbwy, simprocAttr, *]
    ·replace h := zbxv M (by omega) j (by omega) _ _ _ _ _ _ _ h R hR
     simp only [zbwy, simprocAttr, *]
 ·cases h; subst hR; simp only [zbwy, simprocAttr, *]
theorem zbw0 : ∀ q, zbwx q
 | 0 => by intro M hM j hj; intros; rename_i h _ _ _ _ _; cases h
 | q + 1 => by have i0 := zbw0 q; exact zbwz q i0
theorem zbw1 : ∀ (q N : Nat), 8 * q ≤ N → ∀ (a0 : (Sl (Sl Int))), ∀ (r : Bool), zmc q a0 = some r → (orc T N).deep F.zmc [(Sl.enc (Sl.enc (V.int .u8))) a0] = some [V.bool r] := by
 intro q N hM a0 r h
 rcases q with _ | q
 ·cases h
 obtain ⟨M, rfl⟩ : ∃ M, N = M + 8 := ⟨N - 8, by omega⟩
 have zbxv := (zbw0 q)
 generalize hR : some [V.bool r] = R
 rw [zhs, zbgk, y4, zhq]
 rw [zmc] at h
 replace h := zbxv M (by omega) (M + 7) (by omega) _ _ _ _ _ _ _ h R hR
 simp only [zbwy, simprocAttr, *]
def zbw2 (q : Nat) : Prop := ∀ (M : Nat) (hM : 8 * q ≤ M) (j : Nat) (hj : q ≤ j) (v42 : Int) (h1_0z : Bool) (h1_0l : List Int) (h2_0 : Bool) (h3_0 : Int) (h3_2 : Bool) (h3_3 : Int) (r : zji × Int) (_ : zme q v42 h1_0z h1_0l h2_0 h3_0 h3_2 h3_3 = some r) (R : Option (List V)) (_ : some [zji.enc r.1, (V.int .i64) r.2] = R) (fr : Fr) (H : Hp) (_ : canon 0 [2, 4, 5, 6, 10, 42, 43] fr H = ([(2, (.ptr 0 0)), (4, (.fn F.zmx [(.ptr 1 0), (.ptr 2 0)])), (5, (.fn F.zmy [(.ptr 2 0)])), (6, (.fn F.zmz [(.ptr 1 0)])), (10, (.ptr 3 0)), (42, (.int .i64 v42)), (43, (.int .i64 0))], [(.box [(.int .i64 0), (.sl true []), (.bool false), (.int .i64 0)]), (.box [(.sl h1_0z (List.map (V.int .u8) h1_0l))]), (.box [(.bool h2_0)]), (.box [(.int .i64 h3_0), (.sl true []), (.bool h3_2), (.int .i64 h3_3)])])), fin z8c (unw T (orc T (M + 7)) (M + 7) 0 [.blk 0, .code z73] (iter 0 [2, 4, 5, 6, 10, 42, 43] (exec T (orc T (M + 7)) (M + 7) 0 z7t) j fr H)) = R
def zbw3 (q : Nat) : Prop := ∀ (M : Nat) (hM : 8 * q ≤ M) (j : Nat) (hj : q ≤ j) (v42 v43 : Int) (h1_0z : Bool) (h1_0l : List Int) (h2_0 : Bool) (h3_0 : Int) (h3_2 : Bool) (h3_3 : Int) (h4l : List Int) (r : zji × Int) (_ : zmd q v42 v43 h1_0z h1_0l h2_0 h3_0 h3_2 h3_3 h4l = some r) (R : Option (List V)) (_ : some [zji.enc r.1, (V.int .i64) r.2] = R) (fr : Fr) (H : Hp) (_ : canon 0 [2, 4, 5, 6, 10, 42, 43] fr H = ([(2, (.ptr 0 0)), (4, (.fn F.zmx [(.ptr 1 0), (.ptr 2 0)])), (5, (.fn F.zmy [(.ptr 2 0)])), (6, (.fn F.zmz [(.ptr 1 0)])), (10, (.ptr 3 0)), (42, (.int .i64 v42)), (43, (.int .i64 v43))], [(.box [(.int .i64 0), (.sl true []), (.bool false), (.int .i64 0)]), (.box [(.sl h1_0z (List.map (V.int .u8) h1_0l))]), (.box [(.bool h2_0)]), (.box [(.int .i64 h3_0), (.vw 4 0 0 h4l.length 1), (.bool h3_2), (.int .i64 h3_3)]), (.row 0 false 1 (List.map (V.int .i64) h4l) true)])), fin z8c (unw T (orc T (M + 7)) (M + 7) 0 [.blk 0, .code z73] (iter 0 [2, 4, 5, 6, 10, 42, 43] (exec T (orc T (M + 7)) (M + 7) 0 z7t) j fr H)) = R
def zbw4 := And.intro @kk <| And.intro @ke <| And.intro @kn <| And.intro @zbms <| And.intro @zbnv <| And.intro @zbn4 <| And.intro @zbn7 <| And.intro @zboa <| And.intro @zbit <| And.intro @zblt <| And.intro @zbnn <| And.intro @zbnw <| And.intro @zbnx <| And.intro @zbn5 <| And.intro @zbn6 <| And.intro @zbn8 <| And.intro @zbn9 <| And.intro @zbob <| And.intro @zboc <| @zbmu
theorem zbw5 (q : Nat) (zbxw : zbw3 q) : zbw2 (q + 1) := by
 intro M hM j hj v42 h1_0z h1_0l h2_0 h3_0 h3_2 h3_3 r h R hR fr H hc
 obtain ⟨j, rfl⟩ : ∃ i, j = i + 1 := ⟨j - 1, by omega⟩
 rw [zhj, hc]; clear hc
 rw [zme] at h
 replace h := br h; rcases h with ⟨h1, h⟩ | ⟨h1, h⟩
 ·replace h := ob h; obtain ⟨r5, h2, h⟩ := h
  replace h2 := zbup q (M + 6) (by omega) _ _ h2
  try simp only [kf, simprocAttr] at h2
  replace h := bb h; rcases h with ⟨h3', h3, h⟩ | ⟨h3', h3, h⟩
  ·replace h := bn h; obtain ⟨h4, h⟩ := h
   replace h := bn h; obtain ⟨h5, h⟩ := h
   replace h := zbxw M (by omega) j (by omega) _ _ _ _ _ _ _ _ _ _ h R hR
   simp only [zbw4, simprocAttr, *]
  ·replace h := bn h; obtain ⟨h6, h⟩ := h
   replace h := bn h; obtain ⟨h7, h⟩ := h
   replace h := zbxw M (by omega) j (by omega) _ _ _ _ _ _ _ _ _ _ h R hR
   simp only [zbw4, simprocAttr, *]
 ·replace h := bb h; rcases h with ⟨h8', h8, h⟩ | ⟨h8', h8, h⟩
  ·replace h := br h; rcases h with ⟨h9, h⟩ | ⟨h9, h⟩
   ·cases h; subst hR; simp only [zbw4, simprocAttr, *]
   ·replace h := ob h; obtain ⟨r6, h10, h⟩ := h
    replace h10 := zbqz q (M + 7) (by omega) _ _ h10
    try simp only [kf, simprocAttr] at h10
    replace h := bb h; rcases h with ⟨h11', h11, h⟩ | ⟨h11', h11, h⟩
    ·cases h; subst hR; simp only [zbw4, simprocAttr, *]
    ·cases h; subst hR; simp only [zbw4, simprocAttr, *]
  ·cases h; subst hR; simp only [zbw4, simprocAttr, *]
theorem zbw6 (q : Nat) (zbxw : zbw3 q) : zbw3 (q + 1) := by
 intro M hM j hj v42 v43 h1_0z h1_0l h2_0 h3_0 h3_2 h3_3 h4l r h R hR fr H hc
 obtain ⟨j, rfl⟩ : ∃ i, j = i + 1 := ⟨j - 1, by omega⟩
 rw [zhj, hc]; clear hc
 rw [zmd] at h
 replace h := br h; rcases h with ⟨h1, h⟩ | ⟨h1, h⟩
 ·replace h := ob h; obtain ⟨r7, h2, h⟩ := h
  replace h2 := zbup q (M + 6) (by omega) _ _ h2
  try simp only [kf, simprocAttr] at h2
  replace h := bb h; rcases h with ⟨h3', h3, h⟩ | ⟨h3', h3, h⟩
  ·replace h := bn h; obtain ⟨h4, h⟩ := h
   replace h := bn h; obtain ⟨h5, h⟩ := h
   replace h := bn h; obtain ⟨h6, h⟩ := h
   replace h := zbxw M (by omega) j (by omega) _ _ _ _ _ _ _ _ _ _ h R hR
   simp only [zbw4, simprocAttr, *]
  ·replace h := bn h; obtain ⟨h7, h⟩ := h
   replace h := bn h; obtain ⟨h8, h⟩ := h
   replace h := bn h; obtain ⟨h9, h⟩ := h
   replace h := zbxw M (by omega) j (by omega) _ _ _ _ _ _ _ _ _ _ h R hR
   simp only [zbw4, simprocAttr, *]
 ·replace h := bb h; rcases h with ⟨h10', h10, h⟩ | ⟨h10', h10, h⟩
  ·replace h := br h; rcases h with ⟨h11, h⟩ | ⟨h11, h⟩
   ·cases h; subst hR; simp only [zbw4, simprocAttr, *]
   ·replace h := ob h; obtain ⟨r8, h12, h⟩ := h
    replace h12 := zbqz q (M + 7) (by omega) _ _ h12
    try simp only [kf, simprocAttr] at h12
    replace h := bb h; rcases h with ⟨h13', h13, h⟩ | ⟨h13', h13, h⟩
    ·cases h; subst hR; simp only [zbw4, simprocAttr, *]
    ·cases h; subst hR; simp only [zbw4, simprocAttr, *]
  ·cases h; subst hR; simp only [zbw4, simprocAttr, *]
theorem zbw7 : ∀ q, zbw2 q ∧ zbw3 q
 | 0 => by refine ⟨?_, ?_⟩ <;> (intro M hM j hj; intros; rename_i h _ _ _ _ _; cases h)
 | q + 1 => by have ⟨i0, i1⟩ := zbw7 q; exact ⟨zbw5 q i1, zbw6 q i1⟩
theorem zbw8 : ∀ (q N : Nat), 8 * q ≤ N → ∀ (a0 : (Sl Int)), ∀ (r : zji × Int), zmf q a0 = some r → (orc T N).deep F.zmf [(Sl.enc (V.int .u8)) a0] = some [zji.enc r.1, (V.int .i64) r.2] := by
 intro q N hM a0 r h
 rcases q with _ | q
 ·cases h
 obtain ⟨M, rfl⟩ : ∃ M, N = M + 8 := ⟨N - 8, by omega⟩
 have ih_codec_DecodeState_l0 := (zbw7 q).1
 generalize hR : some [zji.enc r.1, (V.int .i64) r.2] = R
 rw [zhs, zbg9, y4, zhq]
 rw [zmf] at h
 replace h := ob h; obtain ⟨r1, h1, h⟩ := h
 replace h1 := zbtp q (M + 6) (by omega) _ _ h1
 try simp only [kf, simprocAttr] at h1
 replace h := bn h; obtain ⟨h2, h⟩ := h
 replace h := bn h; obtain ⟨h3, h⟩ := h
 replace h := ob h; obtain ⟨r2, h4, h⟩ := h
 replace h4 := zbtp q (M + 6) (by omega) _ _ h4
 try simp only [kf, simprocAttr] at h4
 replace h := br h; rcases h with ⟨h5, h⟩ | ⟨h5, h⟩
 ·replace h := bn h; obtain ⟨h6, h⟩ := h
  replace h := bn h; obtain ⟨h7, h⟩ := h
  replace h := ob h; obtain ⟨r3, h8, h⟩ := h
  replace h8 := zbtp q (M + 6) (by omega) _ _ h8
  try simp only [kf, simprocAttr] at h8
  replace h := br h; rcases h with ⟨h9, h⟩ | ⟨h9, h⟩
  ·replace h := bn h; obtain ⟨h10, h⟩ := h
   replace h := bn h; obtain ⟨h11, h⟩ := h
   replace h := br h; rcases h with ⟨h12, h⟩ | ⟨h12, h⟩
   ·replace h := br h; rcases h with ⟨h13, h⟩ | ⟨h13, h⟩
    ·cases h; subst hR; simp only [zbw4, simprocAttr, *]
    ·replace h := br h; rcases h with ⟨h14, h⟩ | ⟨h14, h⟩
     ·cases h; subst hR; simp only [zbw4, simprocAttr, *]
     ·replace h := ih_codec_DecodeState_l0 M (by omega) (M + 7) (by omega) _ _ _ _ _ _ _ _ h R hR
      simp only [zbw4, simprocAttr, *]
   ·cases h; subst hR; simp only [zbw4, simprocAttr, *]
  ·replace h := bn h; obtain ⟨h15, h⟩ := h
   replace h := bn h; obtain ⟨h16, h⟩ := h
   cases h; subst hR; simp only [zbw4, simprocAttr, *]
 ·replace h := bn h; obtain ⟨h17, h⟩ := h
  replace h := bn h; obtain ⟨h18, h⟩ := h
  replace h := ob h; obtain ⟨r4, h19, h⟩ := h
  replace h19 := zbtp q (M + 6) (by omega) _ _ h19
  try simp only [kf, simprocAttr] at h19
  replace h := bn h; obtain ⟨h20, h⟩ := h
  replace h := bn h; obtain ⟨h21, h⟩ := h
  cases h; subst hR; simp only [zbw4, simprocAttr, *]
def zbw9 := And.intro @kk <| And.intro @ke <| And.intro @kn <| And.intro @zbmv <| And.intro @zblt <| And.intro @zbnn <| @zbmx
theorem zbxa : ∀ (q N : Nat), 8 * q ≤ N → ∀ (a0 : (Sl Int)), ∀ (r : zjj × Int), zmg q a0 = some r → (orc T N).deep F.zmg [(Sl.enc (V.int .u8)) a0] = some [zjj.enc r.1, (V.int .i64) r.2] := by
 intro q N hM a0 r h
 rcases q with _ | q
 ·cases h
 obtain ⟨M, rfl⟩ : ∃ M, N = M + 8 := ⟨N - 8, by omega⟩
 generalize hR : some [zjj.enc r.1, (V.int .i64) r.2] = R
 rw [zhs, zbha, y4, zhq]
 rw [zmg] at h
 replace h := ob h; obtain ⟨r1, h1, h⟩ := h
 replace h1 := zbtp q (M + 7) (by omega) _ _ h1
 try simp only [kf, simprocAttr] at h1
 replace h := bn h; obtain ⟨h2, h⟩ := h
 replace h := bn h; obtain ⟨h3, h⟩ := h
 replace h := ob h; obtain ⟨r2, h4, h⟩ := h
 replace h4 := zbtp q (M + 7) (by omega) _ _ h4
 try simp only [kf, simprocAttr] at h4
 replace h := bn h; obtain ⟨h5, h⟩ := h
 replace h := bn h; obtain ⟨h6, h⟩ := h
 replace h := ob h; obtain ⟨r3, h7, h⟩ := h
 replace h7 := zbup q (M + 7) (by omega) _ _ h7
 try simp only [kf, simprocAttr] at h7
 replace h := br h; rcases h with ⟨h8, h⟩ | ⟨h8, h⟩
 ·cases h; subst hR; simp only [zbw9, simprocAttr, *]
 ·replace h := br h; rcases h with ⟨h9, h⟩ | ⟨h9, h⟩
  ·cases h; subst hR; simp only [zbw9, simprocAttr, *]
  ·replace h := br h; rcases h with ⟨h10, h⟩ | ⟨h10, h⟩
   ·cases h; subst hR; simp only [zbw9, simprocAttr, *]
   ·cases h; subst hR; simp only [zbw9, simprocAttr, *]
def zbxb (q : Nat) : Prop := ∀ (M : Nat) (hM : 8 * q ≤ M) (j : Nat) (hj : q ≤ j) (v0z : Bool) (v0l : List Int) (v3 v62 h1_0 : Int) (h1_1z : Bool) (h1_1l : List Int) (h1_2 : Bool) (h1_3 : Int) (r : zjk × Int) (_ : zmi q v0z v0l v3 v62 h1_0 h1_1z h1_1l h1_2 h1_3 = some r) (R : Option (List V)) (_ : some [zjk.enc r.1, (V.int .i64) r.2] = R) (fr : Fr) (H : Hp) (_ : canon 0 [0, 2, 3, 6, 62, 63] fr H = ([(0, (.sl v0z (List.map (V.int .u8) v0l))), (2, (.ptr 0 0)), (3, (.int .i64 v3)), (6, (.ptr 1 0)), (62, (.int .i64 v62)), (63, (.int .i64 0))], [(.box [(.int .i64 0), (.int .i64 0), (.sl true []), (.bool false), (.int .i64 0), (.sl true [])]), (.box [(.int .i64 h1_0), (.sl h1_1z (List.map (V.int .i64) h1_1l)), (.bool h1_2), (.int .i64 h1_3)])])), fin zx3 (unw T (orc T (M + 7)) (M + 7) 0 [.blk 0, .code zxs] (iter 0 [0, 2, 3, 6, 62, 63] (exec T (orc T (M + 7)) (M + 7) 0 zxj) j fr H)) = R
def zbxc (q : Nat) : Prop := ∀ (M : Nat) (hM : 8 * q ≤ M) (j : Nat) (hj : q ≤ j) (v0z : Bool) (v0l : List Int) (v3 v62 v63 h1_0 : Int) (h1_1z : Bool) (h1_1l : List Int) (h1_2 : Bool) (h1_3 : Int) (h2l : List zjj) (r : zjk × Int) (_ : zmh q v0z v0l v3 v62 v63 h1_0 h1_1z h1_1l h1_2 h1_3 h2l = some r) (R : Option (List V)) (_ : some [zjk.enc r.1, (V.int .i64) r.2] = R) (fr : Fr) (H : Hp) (_ : canon 0 [0, 2, 3, 6, 62, 63] fr H = ([(0, (.sl v0z (List.map (V.int .u8) v0l))), (2, (.ptr 0 0)), (3, (.int .i64 v3)), (6, (.ptr 1 0)), (62, (.int .i64 v62)), (63, (.int .i64 v63))], [(.box [(.int .i64 0), (.int .i64 0), (.sl true []), (.bool false), (.int .i64 0), (.vw 2 0 0 h2l.length 1)]), (.box [(.int .i64 h1_0), (.sl h1_1z (List.map (V.int .i64) h1_1l)), (.bool h1_2), (.int .i64 h1_3)]), (.row 0 false 3 (List.map zjj.enc h2l) true)])), fin zx3 (unw T (orc T (M + 7)) (M + 7) 0 [.blk 0, .code zxs] (iter 0 [0, 2, 3, 6, 62, 63] (exec T (orc T (M + 7)) (M + 7) 0 zxj) j fr H)) = R
def zbxd := And.intro @kk <| And.intro @ke <| And.intro @kn <| And.intro @zbks <| And.intro @zblt <| And.intro @zbmt <| And.intro @zbmw <| @zbku
theorem zbxe (q : Nat) (zbxx : zbxc q) : zbxb (q + 1) := by
 intro M hM j hj v0z v0l v3 v62 h1_0 h1_1z h1_1l h1_2 h1_3 r h R hR fr H hc
 obtain ⟨j, rfl⟩ : ∃ i, j = i + 1 := ⟨j - 1, by omega⟩
 rw [zhj, hc]; clear hc
 rw [zmi] at h
 replace h := br h; rcases h with ⟨h1, h⟩ | ⟨h1, h⟩
 ·replace h := ob h; obtain ⟨r4, h2, h⟩ := h
  replace h2 := zbxa q (M + 7) (by omega) _ _ h2
  try simp only [kf, simprocAttr] at h2
  replace h := br h; rcases h with ⟨h3, h⟩ | ⟨h3, h⟩
  ·cases h; subst hR; simp only [zbxd, simprocAttr, *]
  ·replace h := bn h; obtain ⟨h4, h⟩ := h
   replace h := bn h; obtain ⟨h5, h⟩ := h
   replace h := zbxx M (by omega) j (by omega) _ _ _ _ _ _ _ _ _ _ _ _ h R hR
   simp only [zbxd, simprocAttr, *]
 ·replace h := br h; rcases h with ⟨h6, h⟩ | ⟨h6, h⟩
  ·cases h; subst hR; simp only [zbxd, simprocAttr, *]
  ·cases h; subst hR; simp only [zbxd, simprocAttr, *]
theorem zbxf (q : Nat) (zbxx : zbxc q) : zbxc (q + 1) := by
 intro M hM j hj v0z v0l v3 v62 v63 h1_0 h1_1z h1_1l h1_2 h1_3 h2l r h R hR fr H hc
 obtain ⟨j, rfl⟩ : ∃ i, j = i + 1 := ⟨j - 1, by omega⟩
 rw [zhj, hc]; clear hc
 rw [zmh] at h
 replace h := br h; rcases h with ⟨h1, h⟩ | ⟨h1, h⟩
 ·replace h := ob h; obtain ⟨r5, h2, h⟩ := h
  replace h2 := zbxa q (M + 7) (by omega) _ _ h2
  try simp only [kf, simprocAttr] at h2
  replace h := br h; rcases h with ⟨h3, h⟩ | ⟨h3, h⟩
  ·cases h; subst hR; simp only [zbxd, simprocAttr, *]
  ·replace h := bn h; obtain ⟨h4, h⟩ := h
   replace h := bn h; obtain ⟨h5, h⟩ := h
   replace h := bn h; obtain ⟨h6, h⟩ := h
   replace h := zbxx M (by omega) j (by omega) _ _ _ _ _ _ _ _ _ _ _ _ h R hR
   simp only [zbxd, simprocAttr, *]
 ·replace h := br h; rcases h with ⟨h7, h⟩ | ⟨h7, h⟩
  ·cases h; subst hR; simp only [zbxd, simprocAttr, *]
  ·cases h; subst hR; simp only [zbxd, simprocAttr, *]
theorem zbxg : ∀ q, zbxb q ∧ zbxc q
 | 0 => by refine ⟨?_, ?_⟩ <;> (intro M hM j hj; intros; rename_i h _ _ _ _ _; cases h)
 | q + 1 => by have ⟨i0, i1⟩ := zbxg q; exact ⟨zbxe q i1, zbxf q i1⟩
theorem zbxh : ∀ (q N : Nat), 8 * q ≤ N → ∀ (a0 : (Sl Int)), ∀ (r : zjk × Int), zmj q a0 = some r → (orc T N).deep F.zmj [(Sl.enc (V.int .u8)) a0] = some [zjk.enc r.1, (V.int .i64) r.2] := by
 intro q N hM a0 r h
 rcases q with _ | q
 ·cases h
 obtain ⟨M, rfl⟩ : ∃ M, N = M + 8 := ⟨N - 8, by omega⟩
 have ih_snapshot_read_l0 := (zbxg q).1
 generalize hR : some [zjk.enc r.1, (V.int .i64) r.2] = R
 rw [zhs, zbgl, y4, zhq]
 rw [zmj] at h
 replace h := ob h; obtain ⟨r1, h1, h⟩ := h
 replace h1 := zbtp q (M + 7) (by omega) _ _ h1
 try simp only [kf, simprocAttr] at h1
 replace h := br h; rcases h with ⟨h2, h⟩ | ⟨h2, h⟩
 ·cases h; subst hR; simp only [zbxd, simprocAttr, *]
 ·replace h := br h; rcases h with ⟨h3, h⟩ | ⟨h3, h⟩
  ·cases h; subst hR; simp only [zbxd, simprocAttr, *]
  ·replace h := bn h; obtain ⟨h4, h⟩ := h
   replace h := bn h; obtain ⟨h5, h⟩ := h
   replace h := bn h; obtain ⟨h6, h⟩ := h
   replace h := ob h; obtain ⟨r2, h7, h⟩ := h
   replace h7 := zbw8 q (M + 7) (by omega) _ _ h7
   try simp only [kf, simprocAttr] at h7
   replace h := br h; rcases h with ⟨h8, h⟩ | ⟨h8, h⟩
   ·cases h; subst hR; simp only [zbxd, simprocAttr, *]
   ·replace h := bn h; obtain ⟨h9, h⟩ := h
    replace h := bn h; obtain ⟨h10, h⟩ := h
    replace h := ob h; obtain ⟨r3, h11, h⟩ := h
    replace h11 := zbtp q (M + 7) (by omega) _ _ h11
    try simp only [kf, simprocAttr] at h11
    replace h := br h; rcases h with ⟨h12, h⟩ | ⟨h12, h⟩
    ·cases h; subst hR; simp only [zbxd, simprocAttr, *]
    ·replace h := br h; rcases h with ⟨h13, h⟩ | ⟨h13, h⟩
     ·cases h; subst hR; simp only [zbxd, simprocAttr, *]
     ·replace h := bn h; obtain ⟨h14, h⟩ := h
      replace h := bn h; obtain ⟨h15, h⟩ := h
      replace h := ih_snapshot_read_l0 M (by omega) (M + 7) (by omega) _ _ _ _ _ _ _ _ _ _ h R hR
      simp only [zbxd, simprocAttr, *]
def zbxi := And.intro @kk <| And.intro @ke <| And.intro @kn <| And.intro @zbij <| And.intro @zbhz <| And.intro @zbke <| And.intro @zbkh <| And.intro @zbkk <| And.intro @zbkn <| And.intro @zbkq <| And.intro @zbkt <| @zbil
theorem zbxj : ∀ (q N : Nat), 8 * q ≤ N → ∀ (a0 : (Sl Int)), ∀ (r : zjk × Int), zmk q a0 = some r → (orc T N).deep F.zmk [(Sl.enc (V.int .u8)) a0] = some [zjk.enc r.1, (V.int .i64) r.2] := by
 intro q N hM a0 r h
 rcases q with _ | q
 ·cases h
 obtain ⟨M, rfl⟩ : ∃ M, N = M + 8 := ⟨N - 8, by omega⟩
 generalize hR : some [zjk.enc r.1, (V.int .i64) r.2] = R
 rw [zhs, zbfu, y4, zhq]
 rw [zmk] at h
 replace h := ob h; obtain ⟨r1, h1, h⟩ := h
 replace h1 := zbwp q (M + 7) (by omega) _ _ h1
 try simp only [kf, simprocAttr] at h1
 replace h := br h; rcases h with ⟨h2, h⟩ | ⟨h2, h⟩
 ·replace h := br h; rcases h with ⟨h3, h⟩ | ⟨h3, h⟩
  ·cases h; subst hR; simp only [zbxi, simprocAttr, *]
  ·replace h := bn h; obtain ⟨h4, h⟩ := h
   replace h := ob h; obtain ⟨e2, h5, h⟩ := h
   replace h := ob h; obtain ⟨r3, h6, h⟩ := h
   replace h6 := zbww q (M + 7) (by omega) _ _ h6
   try simp only [kf, simprocAttr] at h6
   replace h := br h; rcases h with ⟨h7, h⟩ | ⟨h7, h⟩
   ·replace h := bn h; obtain ⟨h8, h⟩ := h
    replace h := ob h; obtain ⟨r4, h9, h⟩ := h
    replace h9 := zbvt q (M + 7) (by omega) _ _ h9
    try simp only [kf, simprocAttr] at h9
    replace h := br h; rcases h with ⟨h10, h⟩ | ⟨h10, h⟩
    ·replace h := ob h; obtain ⟨r5, h11, h⟩ := h
     replace h11 := zbw1 q (M + 7) (by omega) _ _ h11
     try simp only [kf, simprocAttr] at h11
     replace h := bb h; rcases h with ⟨h12', h12, h⟩ | ⟨h12', h12, h⟩
     ·replace h := ob h; obtain ⟨r6, h13, h⟩ := h
      replace h13 := zbt3 q (M + 7) (by omega) _ _ h13
      try simp only [kf, simprocAttr] at h13
      replace h := br h; rcases h with ⟨h14, h⟩ | ⟨h14, h⟩
      ·replace h := ob h; obtain ⟨r7, h15, h⟩ := h
       replace h15 := zbxh q (M + 7) (by omega) _ _ h15
       try simp only [kf, simprocAttr] at h15
       replace h := br h; rcases h with ⟨h16, h⟩ | ⟨h16, h⟩
       ·replace h := ob h; obtain ⟨r8, h17, h⟩ := h
        replace h17 := zbq8 q (M + 7) (by omega) _ _ h17
        try simp only [kf, simprocAttr] at h17
        replace h := bb h; rcases h with ⟨h18', h18, h⟩ | ⟨h18', h18, h⟩
        ·cases h; subst hR; simp only [zbxi, simprocAttr, *]
        ·cases h; subst hR; simp only [zbxi, simprocAttr, *]
       ·cases h; subst hR; simp only [zbxi, simprocAttr, *]
      ·cases h; subst hR; simp only [zbxi, simprocAttr, *]
     ·cases h; subst hR; simp only [zbxi, simprocAttr, *]
    ·cases h; subst hR; simp only [zbxi, simprocAttr, *]
   ·cases h; subst hR; simp only [zbxi, simprocAttr, *]
 ·cases h; subst hR; simp only [zbxi, simprocAttr, *]
def zbxk := And.intro @kk <| And.intro @ke <| And.intro @kn <| And.intro @zbhs <| And.intro @zbhw <| And.intro @zbh5 <| And.intro @zbh8 <| And.intro @zbie <| And.intro @zbik <| @zbhu
theorem zbxl : ∀ (q N : Nat), 8 * q ≤ N → ∀ (a0 : zjk), ∀ (r : Bool), zml q a0 = some r → (orc T N).deep F.zml [zjk.enc a0] = some [V.bool r] := by
 intro q N hM a0 r h
 rcases q with _ | q
 ·cases h
 obtain ⟨M, rfl⟩ : ∃ M, N = M + 8 := ⟨N - 8, by omega⟩
 generalize hR : some [V.bool r] = R
 rw [zhs, zbfl, y4, zhq]
 rw [zml] at h
 replace h := ob h; obtain ⟨r1, h1, h⟩ := h
 replace h1 := zbwi q (M + 7) (by omega)  _ h1
 replace h := ob h; obtain ⟨r2, h2, h⟩ := h
 replace h2 := zbsd q (M + 7) (by omega) _ _ h2
 try simp only [kf, simprocAttr] at h2
 replace h := bb h; rcases h with ⟨h3', h3, h⟩ | ⟨h3', h3, h⟩
 ·replace h := bb h; rcases h with ⟨h4', h4, h⟩ | ⟨h4', h4, h⟩
  ·replace h := ob h; obtain ⟨r3, h5, h⟩ := h
   replace h5 := zbwg q (M + 7) (by omega) _ _ h5
   try simp only [kf, simprocAttr] at h5
   replace h := br h; rcases h with ⟨h6, h⟩ | ⟨h6, h⟩
   ·replace h := ob h; obtain ⟨r4, h7, h⟩ := h
    replace h7 := zbxj q (M + 7) (by omega) _ _ h7
    try simp only [kf, simprocAttr] at h7
    replace h := br h; rcases h with ⟨h8, h⟩ | ⟨h8, h⟩
    ·replace h := ob h; obtain ⟨r5, h9, h⟩ := h
     replace h9 := zbr9 q (M + 7) (by omega) _ _ _ h9
     try simp only [kf, simprocAttr] at h9
     cases h; subst hR; simp only [zbxk, simprocAttr, *]
    ·cases h; subst hR; simp only [zbxk, simprocAttr, *]
   ·cases h; subst hR; simp only [zbxk, simprocAttr, *]
  ·cases h; subst hR; simp only [zbxk, simprocAttr, *]
 ·cases h; subst hR; simp only [zbxk, simprocAttr, *]
end Go.Dvm.C
