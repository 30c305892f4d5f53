/- The machine comes to these answers: part 2. -/
import Derived.Test.YtngajodhbioheaaQl0
import Derived.Test.YtngajodhbioheaaQr0
set_option linter.all false
set_option maxRecDepth 100000
set_option maxHeartbeats 4000000
namespace Go.Dvm.C
open Go Go.Dvm Go.Dvm.I
def zbuc (q : Nat) : Prop := ∀ (M : Nat) (hM : 8 * q ≤ M) (j : Nat) (hj : q ≤ j) (v21z : Bool) (v21l : List Int) (v22 v23 : Int) (h0z : Bool) (h0l : List Int) (h0x : Bool) (r : (Ow Int) × Int) (_ : zls q v21z v21l v22 v23 h0z h0l h0x = some r) (R : Option (List V)) (_ : some [(Ow.enc 1 (V.int .u8)) r.1, (V.int .i64) r.2] = R) (fr : Fr) (H : Hp) (_ : canon 0 [4, 21, 22, 23] fr H = ([(4, (.vw 0 0 0 h0l.length 1)), (21, (.sl v21z (List.map (V.int .i64) v21l))), (22, (.int .i64 v22)), (23, (.int .i64 v23))], [(.row 0 h0z 1 (List.map (V.int .u8) h0l) h0x)])), fin z32 (unw T (orc T (M + 7)) (M + 7) 0 [.blk 0, .code z3x] (iter 0 [4, 21, 22, 23] (exec T (orc T (M + 7)) (M + 7) 0 z3u) j fr H)) = R
def zbud := And.intro @kk <| And.intro @ke <| And.intro @kn <| And.intro @zbk4 <| And.intro @zbht <| And.intro @zbh8 <| And.intro @zbiz <| And.intro @zbmk <| @zbk6
theorem zbue (q : Nat) (zbv0 : zbuc q) : zbuc (q + 1) := by
 intro M hM j hj v21z v21l v22 v23 h0z h0l h0x r h R hR fr H hc
 obtain ⟨j, rfl⟩ : ∃ i, j = i + 1 := ⟨j - 1, by omega⟩
 rw [zhj, hc]; clear hc
 rw [zls] at h
 replace h := br h; rcases h with ⟨h1, h⟩ | ⟨h1, h⟩
 ·replace h := bn h; obtain ⟨h2, h⟩ := h
  replace h := ob h; obtain ⟨e6, h3, h⟩ := h
  replace h := ob h; obtain ⟨r7, h4, h⟩ := h
  replace h4 := zbtc q (M + 7) (by omega) _ _ _ h4
  try simp only [kf, simprocAttr] at h4
  replace h := zbv0 M (by omega) j (by omega) _ _ _ _ _ _ _ _ h R hR
  simp only [zbud, simprocAttr, *]
 ·cases h; subst hR; simp only [zbud, simprocAttr, *]
theorem zbuf : ∀ q, zbuc q
 | 0 => by intro M hM j hj; intros; rename_i h _ _ _ _ _; cases h
 | q + 1 => by have i0 := zbuf q; exact zbue q i0
theorem zbug : ∀ (q N : Nat), 8 * q ≤ N → ∀ (a0 : zjk), ∀ (r : (Ow Int) × Int), zlt q a0 = some r → (orc T N).deep F.zlt [zjk.enc a0] = some [(Ow.enc 1 (V.int .u8)) r.1, (V.int .i64) r.2] := by
 intro q N hM a0 r h
 rcases q with _ | q
 ·cases h
 obtain ⟨M, rfl⟩ : ∃ M, N = M + 8 := ⟨N - 8, by omega⟩
 have zbv0 := (zbuf q)
 generalize hR : some [(Ow.enc 1 (V.int .u8)) r.1, (V.int .i64) r.2] = R
 rw [zhs, zbf9, y4, zhq]
 rw [zlt] at h
 replace h := ob h; obtain ⟨r1, h1, h⟩ := h
 replace h1 := zbpp q (M + 7) (by omega) _ _ h1
 try simp only [kf, simprocAttr] at h1
 replace h := bb h; rcases h with ⟨h2', h2, h⟩ | ⟨h2', h2, h⟩
 ·replace h := ob h; obtain ⟨r2, h3, h⟩ := h
  replace h3 := zbs8 q (M + 7) (by omega) _ _ _ h3
  try simp only [kf, simprocAttr] at h3
  replace h := ob h; obtain ⟨r3, h4, h⟩ := h
  replace h4 := zbtr q (M + 7) (by omega) _ _ h4
  try simp only [kf, simprocAttr] at h4
  replace h := ob h; obtain ⟨r4, h5, h⟩ := h
  replace h5 := zbs8 q (M + 7) (by omega) _ _ _ h5
  try simp only [kf, simprocAttr] at h5
  replace h := ob h; obtain ⟨r5, h6, h⟩ := h
  replace h6 := zbs8 q (M + 7) (by omega) _ _ _ h6
  try simp only [kf, simprocAttr] at h6
  replace h := zbv0 M (by omega) (M + 7) (by omega) _ _ _ _ _ _ _ _ h R hR
  simp only [zbud, simprocAttr, *]
 ·cases h; subst hR; simp only [zbud, simprocAttr, *]
def zbuh (q : Nat) : Prop := ∀ (M : Nat) (hM : 8 * q ≤ M) (j : Nat) (hj : q ≤ j) (v24z : Bool) (v24l : List zjl) (v25 v26 : Int) (h0z : Bool) (h0l : List Int) (h0x : Bool) (r : (Ow Int)) (_ : zlu q v24z v24l v25 v26 h0z h0l h0x = some r) (R : Option (List V)) (_ : some [(Ow.enc 1 (V.int .u8)) r] = R) (fr : Fr) (H : Hp) (_ : canon 0 [5, 24, 25, 26] fr H = ([(5, (.vw 0 0 0 h0l.length 1)), (24, (.sl v24z (List.map zjl.enc v24l))), (25, (.int .i64 v25)), (26, (.int .i64 v26))], [(.row 0 h0z 1 (List.map (V.int .u8) h0l) h0x)])), fin zt6 (unw T (orc T (M + 7)) (M + 7) 0 [.blk 0, .code zt1] (iter 0 [5, 24, 25, 26] (exec T (orc T (M + 7)) (M + 7) 0 zty) j fr H)) = R
def zbui := And.intro @kk <| And.intro @ke <| And.intro @kn <| And.intro @zbiv <| And.intro @zbh8 <| And.intro @zbiz <| And.intro @zbk5 <| @zbix
theorem zbuj (q : Nat) (zbv1 : zbuh q) : zbuh (q + 1) := by
 intro M hM j hj v24z v24l v25 v26 h0z h0l h0x r h R hR fr H hc
 obtain ⟨j, rfl⟩ : ∃ i, j = i + 1 := ⟨j - 1, by omega⟩
 rw [zhj, hc]; clear hc
 rw [zlu] at h
 replace h := br h; rcases h with ⟨h1, h⟩ | ⟨h1, h⟩
 ·replace h := bn h; obtain ⟨h2, h⟩ := h
  replace h := ob h; obtain ⟨e4, h3, h⟩ := h
  replace h := ob h; obtain ⟨r5, h4, h⟩ := h
  replace h4 := zbs8 q (M + 7) (by omega) _ _ _ h4
  try simp only [kf, simprocAttr] at h4
  replace h := ob h; obtain ⟨r6, h5, h⟩ := h
  replace h5 := zbs8 q (M + 7) (by omega) _ _ _ h5
  try simp only [kf, simprocAttr] at h5
  replace h := ob h; obtain ⟨r7, h6, h⟩ := h
  replace h6 := zbtc q (M + 7) (by omega) _ _ _ h6
  try simp only [kf, simprocAttr] at h6
  replace h := zbv1 M (by omega) j (by omega) _ _ _ _ _ _ _ _ h R hR
  simp only [zbui, simprocAttr, *]
 ·cases h; subst hR; simp only [zbui, simprocAttr, *]
theorem zbuk : ∀ q, zbuh q
 | 0 => by intro M hM j hj; intros; rename_i h _ _ _ _ _; cases h
 | q + 1 => by have i0 := zbuk q; exact zbuj q i0
theorem zbul : ∀ (q N : Nat), 8 * q ≤ N → ∀ (a0 : zjm), ∀ (r : (Ow Int)), zlv q a0 = some r → (orc T N).deep F.zlv [zjm.enc a0] = some [(Ow.enc 1 (V.int .u8)) r] := by
 intro q N hM a0 r h
 rcases q with _ | q
 ·cases h
 obtain ⟨M, rfl⟩ : ∃ M, N = M + 8 := ⟨N - 8, by omega⟩
 have zbv1 := (zbuk q)
 generalize hR : some [(Ow.enc 1 (V.int .u8)) r] = R
 rw [zhs, zbfi, y4, zhq]
 rw [zlv] at h
 replace h := ob h; obtain ⟨r1, h1, h⟩ := h
 replace h1 := zbug q (M + 7) (by omega) _ _ h1
 try simp only [kf, simprocAttr] at h1
 replace h := ob h; obtain ⟨r2, h2, h⟩ := h
 replace h2 := zbs8 q (M + 7) (by omega) _ _ _ h2
 try simp only [kf, simprocAttr] at h2
 replace h := bn h; obtain ⟨h3, h⟩ := h
 replace h := ob h; obtain ⟨r3, h4, h⟩ := h
 replace h4 := zbs8 q (M + 7) (by omega) _ _ _ h4
 try simp only [kf, simprocAttr] at h4
 replace h := zbv1 M (by omega) (M + 7) (by omega) _ _ _ _ _ _ _ _ h R hR
 simp only [zbui, simprocAttr, *]
def zbum := And.intro @kk <| And.intro @ke <| And.intro @kn <| And.intro @zbi1 <| And.intro @zbib <| @zbi3
theorem zbun : ∀ (q N : Nat), 8 * q ≤ N → ∀ (a0 : (Sl Int)), ∀ (r : (Ow Int)), zlw q a0 = some r → (orc T N).deep F.zlw [(Sl.enc (V.int .u8)) a0] = some [(Ow.enc 1 (V.int .u8)) r] := by
 intro q N hM a0 r h
 rcases q with _ | q
 ·cases h
 obtain ⟨M, rfl⟩ : ∃ M, N = M + 8 := ⟨N - 8, by omega⟩
 generalize hR : some [(Ow.enc 1 (V.int .u8)) r] = R
 rw [zhs, zbfk, y4, zhq]
 rw [zlw] at h
 replace h := ob h; obtain ⟨r1, h1, h⟩ := h
 replace h1 := zbtp q (M + 7) (by omega) _ _ h1
 try simp only [kf, simprocAttr] at h1
 cases h; subst hR; simp only [zbum, simprocAttr, *]
def zbuo (q : Nat) : Prop := ∀ (M : Nat) (hM : 8 * q ≤ M) (j : Nat) (hj : q ≤ j) (h0z : Bool) (h0l : List Int) (h0x h1z : Bool) (h1l : List Int) (h1x : Bool) (r : (Ow Int) × Int) (_ : zly q h0z h0l h0x h1z h1l h1x = some r) (R : Option (List V)) (_ : some [(Ow.enc 1 (V.int .u8)) r.1, (V.int .i64) r.2] = R) (fr : Fr) (H : Hp) (_ : canon 0 [4, 6] fr H = ([(4, (.vw 0 0 0 h0l.length 1)), (6, (.vw 1 0 0 h1l.length 1))], [(.row 0 h0z 1 (List.map (V.int .u8) h0l) h0x), (.row 0 h1z 1 (List.map (V.int .u8) h1l) h1x)])), fin zoo (unw T (orc T (M + 7)) (M + 7) 0 [.blk 0, .code zoh] (iter 0 [4, 6] (exec T (orc T (M + 7)) (M + 7) 0 zof) j fr H)) = R
def zbup (q : Nat) : Prop := ∀ (M : Nat) (hM : 8 * q ≤ M) (j : Nat) (hj : q ≤ j) (v4off v4len : Nat) (h0z : Bool) (h0l : List Int) (h1z : Bool) (h1l : List Int) (h1x : Bool) (r : (Ow Int) × Int) (_ : zlx q v4off v4len h0z h0l h1z h1l h1x = some r) (R : Option (List V)) (_ : some [(Ow.enc 1 (V.int .u8)) r.1, (V.int .i64) r.2] = R) (fr : Fr) (H : Hp) (_ : canon 0 [4, 6] fr H = ([(4, (.vw 0 0 v4off v4len 1)), (6, (.vw 1 0 0 h1l.length 1))], [(.row 0 h0z 1 (List.map (V.int .u8) h0l) false), (.row 0 h1z 1 (List.map (V.int .u8) h1l) h1x)])), fin zoo (unw T (orc T (M + 7)) (M + 7) 0 [.blk 0, .code zoh] (iter 0 [4, 6] (exec T (orc T (M + 7)) (M + 7) 0 zof) j fr H)) = R
def zbuq := And.intro @kk <| And.intro @ke <| And.intro @kn <| And.intro @zbhg <| And.intro @zbg5 <| And.intro @zbiw <| And.intro @zbiz <| And.intro @zbi2 <| And.intro @zbi5 <| And.intro @zbi8 <| @zbhi
theorem zbur (q : Nat) (zbv2 : zbup q) : zbuo (q + 1) := by
 intro M hM j hj h0z h0l h0x h1z h1l h1x r h R hR fr H hc
 obtain ⟨j, rfl⟩ : ∃ i, j = i + 1 := ⟨j - 1, by omega⟩
 rw [zhj, hc]; clear hc
 rw [zly] at h
 replace h := br h; rcases h with ⟨h1, h⟩ | ⟨h1, h⟩
 ·replace h := bn h; obtain ⟨h2, h⟩ := h
  replace h := bn h; obtain ⟨h3, h⟩ := h
  replace h := bn h; obtain ⟨h4, h⟩ := h
  replace h := ob h; obtain ⟨r9, h5, h⟩ := h
  replace h5 := zbun q (M + 7) (by omega) _ _ h5
  try simp only [kf, simprocAttr] at h5
  replace h := bn h; obtain ⟨h6, h⟩ := h
  replace h := zbv2 M (by omega) j (by omega) _ _ _ _ _ _ _ _ h R hR
  simp only [zbuq, simprocAttr, *]
 ·cases h; subst hR; simp only [zbuq, simprocAttr, *]
theorem zbus (q : Nat) (zbv2 : zbup q) : zbup (q + 1) := by
 intro M hM j hj v4off v4len h0z h0l h1z h1l h1x r h R hR fr H hc
 obtain ⟨j, rfl⟩ : ∃ i, j = i + 1 := ⟨j - 1, by omega⟩
 rw [zhj, hc]; clear hc
 rw [zlx] at h
 replace h := br h; rcases h with ⟨h1, h⟩ | ⟨h1, h⟩
 ·replace h := bn h; obtain ⟨h2, h⟩ := h
  replace h := bn h; obtain ⟨h3, h⟩ := h
  replace h := bn h; obtain ⟨h4, h⟩ := h
  replace h := ob h; obtain ⟨r10, h5, h⟩ := h
  replace h5 := zbun q (M + 7) (by omega) _ _ h5
  try simp only [kf, simprocAttr] at h5
  replace h := bn h; obtain ⟨h6, h⟩ := h
  replace h := bn h; obtain ⟨h7, h⟩ := h
  replace h := zbv2 M (by omega) j (by omega) _ _ _ _ _ _ _ _ h R hR
  simp only [zbuq, simprocAttr, *]
 ·cases h; subst hR; simp only [zbuq, simprocAttr, *]
theorem zbut : ∀ q, zbuo q ∧ zbup q
 | 0 => by refine ⟨?_, ?_⟩ <;> (intro M hM j hj; intros; rename_i h _ _ _ _ _; cases h)
 | q + 1 => by have ⟨i0, i1⟩ := zbut q; exact ⟨zbur q i1, zbus q i1⟩
theorem zbuu : ∀ (q N : Nat), 8 * q ≤ N → ∀ (a0 : zjm), ∀ (r : (Ow Int) × Int), zlz q a0 = some r → (orc T N).deep F.zlz [zjm.enc a0] = some [(Ow.enc 1 (V.int .u8)) r.1, (V.int .i64) r.2] := by
 intro q N hM a0 r h
 rcases q with _ | q
 ·cases h
 obtain ⟨M, rfl⟩ : ∃ M, N = M + 8 := ⟨N - 8, by omega⟩
 have ih_snapshot_Encode_l0 := (zbut q).1
 generalize hR : some [(Ow.enc 1 (V.int .u8)) r.1, (V.int .i64) r.2] = R
 rw [zhs, zbe1, y4, zhq]
 rw [zlz] at h
 replace h := ob h; obtain ⟨r1, h1, h⟩ := h
 replace h1 := zbpy q (M + 7) (by omega) _ _ h1
 try simp only [kf, simprocAttr] at h1
 replace h := bb h; rcases h with ⟨h2', h2, h⟩ | ⟨h2', h2, h⟩
 ·replace h := ob h; obtain ⟨r2, h3, h⟩ := h
  replace h3 := zbul q (M + 7) (by omega) _ _ h3
  try simp only [kf, simprocAttr] at h3
  replace h := ob h; obtain ⟨r3, h4, h⟩ := h
  replace h4 := zbs8 q (M + 7) (by omega) _ _ _ h4
  try simp only [kf, simprocAttr] at h4
  replace h := ob h; obtain ⟨r4, h5, h⟩ := h
  replace h5 := zbs8 q (M + 7) (by omega) _ _ _ h5
  try simp only [kf, simprocAttr] at h5
  replace h := ob h; obtain ⟨r5, h6, h⟩ := h
  replace h6 := zbs8 q (M + 7) (by omega) _ _ _ h6
  try simp only [kf, simprocAttr] at h6
  replace h := ob h; obtain ⟨r6, h7, h⟩ := h
  replace h7 := zbsf q (M + 7) (by omega) _ _ h7
  try simp only [kf, simprocAttr] at h7
  replace h := ob h; obtain ⟨r7, h8, h⟩ := h
  replace h8 := zbsm q (M + 7) (by omega) _ _ h8
  try simp only [kf, simprocAttr] at h8
  replace h := bn h; obtain ⟨h9, h⟩ := h
  replace h := ob h; obtain ⟨r8, h10, h⟩ := h
  replace h10 := zbun q (M + 7) (by omega) _ _ h10
  try simp only [kf, simprocAttr] at h10
  replace h := ih_snapshot_Encode_l0 M (by omega) (M + 7) (by omega) _ _ _ _ _ _ _ h R hR
  simp only [zbuq, simprocAttr, *]
 ·cases h; subst hR; simp only [zbuq, simprocAttr, *]
def zbuv := And.intro @kk <| And.intro @ke <| And.intro @kn <| And.intro @zbha <| And.intro @zbg8 <| And.intro @zbhh <| @zbhc
theorem zbuw : ∀ (q N : Nat), 8 * q ≤ N → ∀ (r : Bool), zl0 q = some r → (orc T N).deep F.zl0 [] = some [V.bool r] := by
 intro q N hM r h
 rcases q with _ | q
 ·cases h
 obtain ⟨M, rfl⟩ : ∃ M, N = M + 8 := ⟨N - 8, by omega⟩
 generalize hR : some [V.bool r] = R
 rw [zhs, zbez, y4, zhq]
 rw [zl0] at h
 replace h := ob h; obtain ⟨r1, h1, h⟩ := h
 replace h1 := zbrl q (M + 7) (by omega) _ _ _ h1
 try simp only [kf, simprocAttr] at h1
 replace h := ob h; obtain ⟨r2, h2, h⟩ := h
 replace h2 := zbuu q (M + 7) (by omega) _ _ h2
 try simp only [kf, simprocAttr] at h2
 replace h := br h; rcases h with ⟨h3, h⟩ | ⟨h3, h⟩
 ·replace h := br h; rcases h with ⟨h4, h⟩ | ⟨h4, h⟩
  ·replace h := br h; rcases h with ⟨h5, h⟩ | ⟨h5, h⟩
   ·replace h := br h; rcases h with ⟨h6, h⟩ | ⟨h6, h⟩
    ·replace h := br h; rcases h with ⟨h7, h⟩ | ⟨h7, h⟩
     ·replace h := ob h; obtain ⟨e3, h8, h⟩ := h
      replace h := br h; rcases h with ⟨h9, h⟩ | ⟨h9, h⟩
      ·replace h := br h; rcases h with ⟨h10, h⟩ | ⟨h10, h⟩
       ·replace h := br h; rcases h with ⟨h11, h⟩ | ⟨h11, h⟩
        ·replace h := br h; rcases h with ⟨h12, h⟩ | ⟨h12, h⟩
         ·replace h := ob h; obtain ⟨e4, h13, h⟩ := h
          cases h; subst hR; simp only [zbuv, simprocAttr, *]
         ·cases h; subst hR; simp only [zbuv, simprocAttr, *]
        ·cases h; subst hR; simp only [zbuv, simprocAttr, *]
       ·cases h; subst hR; simp only [zbuv, simprocAttr, *]
      ·cases h; subst hR; simp only [zbuv, simprocAttr, *]
     ·cases h; subst hR; simp only [zbuv, simprocAttr, *]
    ·cases h; subst hR; simp only [zbuv, simprocAttr, *]
   ·cases h; subst hR; simp only [zbuv, simprocAttr, *]
  ·cases h; subst hR; simp only [zbuv, simprocAttr, *]
 ·cases h; subst hR; simp only [zbuv, simprocAttr, *]
def zbux (q : Nat) : Prop := ∀ (M : Nat) (hM : 8 * q ≤ M) (j : Nat) (hj : q ≤ j) (v0z : Bool) (v0l : List Int) (v3 : Int) (h0z : Bool) (h0l : List (Sl Int)) (r : (Ow (Sl Int)) × Int × Int) (_ : zl1 q v0z v0l v3 h0z h0l = some r) (R : Option (List V)) (_ : some [(Ow.enc 1 (Sl.enc (V.int .u8))) r.1, (V.int .i64) r.2.1, (V.int .i64) r.2.2] = R) (fr : Fr) (H : Hp) (_ : canon 0 [0, 2, 3] fr H = ([(0, (.sl v0z (List.map (V.int .u8) v0l))), (2, (.vw 0 0 0 h0l.length 1)), (3, (.int .i64 v3))], [(.row 0 h0z 1 (List.map (Sl.enc (V.int .u8)) h0l) true)])), fin z5p (unw T (orc T (M + 7)) (M + 7) 0 [.blk 0, .code z5m] (iter 0 [0, 2, 3] (exec T (orc T (M + 7)) (M + 7) 0 z5k) j fr H)) = R
def zbuy := And.intro @kk <| And.intro @ke <| And.intro @kn <| And.intro @zbld <| And.intro @zbh5 <| @zblf
theorem zbuz (q : Nat) (zbv3 : zbux q) : zbux (q + 1) := by
 intro M hM j hj v0z v0l v3 h0z h0l r h R hR fr H hc
 obtain ⟨j, rfl⟩ : ∃ i, j = i + 1 := ⟨j - 1, by omega⟩
 rw [zhj, hc]; clear hc
 rw [zl1] at h
 replace h := br h; rcases h with ⟨h1, h⟩ | ⟨h1, h⟩
 ·replace h := bn h; obtain ⟨h2, h⟩ := h
  replace h := bn h; obtain ⟨h3, h⟩ := h
  replace h := ob h; obtain ⟨r1, h4, h⟩ := h
  replace h4 := zbsx q (M + 7) (by omega) _ _ h4
  try simp only [kf, simprocAttr] at h4
  replace h := br h; rcases h with ⟨h5, h⟩ | ⟨h5, h⟩
  ·replace h := bn h; obtain ⟨h6, h⟩ := h
   replace h := zbv3 M (by omega) j (by omega) _ _ _ _ _ _ h R hR
   simp only [zbuy, simprocAttr, *]
  ·cases h; subst hR; simp only [zbuy, simprocAttr, *]
 ·cases h; subst hR; simp only [zbuy, simprocAttr, *]
theorem zbu0 : ∀ q, zbux q
 | 0 => by intro M hM j hj; intros; rename_i h _ _ _ _ _; cases h
 | q + 1 => by have i0 := zbu0 q; exact zbuz q i0
theorem zbu1 : ∀ (q N : Nat), 8 * q ≤ N → ∀ (a0 : (Sl Int)), ∀ (r : (Ow (Sl Int)) × Int × Int), zl2 q a0 = some r → (orc T N).deep F.zl2 [(Sl.enc (V.int .u8)) a0] = some [(Ow.enc 1 (Sl.enc (V.int .u8))) r.1, (V.int .i64) r.2.1, (V.int .i64) r.2.2] := by
 intro q N hM a0 r h
 rcases q with _ | q
 ·cases h
 obtain ⟨M, rfl⟩ : ∃ M, N = M + 8 := ⟨N - 8, by omega⟩
 have zbv3 := (zbu0 q)
 generalize hR : some [(Ow.enc 1 (Sl.enc (V.int .u8))) r.1, (V.int .i64) r.2.1, (V.int .i64) r.2.2] = R
 rw [zhs, zbgc, y4, zhq]
 rw [zl2] at h
 replace h := zbv3 M (by omega) (M + 7) (by omega) _ _ _ _ _ _ h R hR
 simp only [zbuy, simprocAttr, *]
def zbu2 := And.intro @kk <| And.intro @ke <| And.intro @kn <| And.intro @zbja <| And.intro @zble <| @zbjc
theorem zbu3 : ∀ (q N : Nat), 8 * q ≤ N → ∀ (a0 : (Sl Int)), ∀ (r : (Ow (Sl Int)) × Int), zl3 q a0 = some r → (orc T N).deep F.zl3 [(Sl.enc (V.int .u8)) a0] = some [(Ow.enc 1 (Sl.enc (V.int .u8))) r.1, (V.int .i64) r.2] := by
 intro q N hM a0 r h
 rcases q with _ | q
 ·cases h
 obtain ⟨M, rfl⟩ : ∃ M, N = M + 8 := ⟨N - 8, by omega⟩
 generalize hR : some [(Ow.enc 1 (Sl.enc (V.int .u8))) r.1, (V.int .i64) r.2] = R
 rw [zhs, zbfn, y4, zhq]
 rw [zl3] at h
 replace h := ob h; obtain ⟨r1, h1, h⟩ := h
 replace h1 := zbu1 q (M + 7) (by omega) _ _ h1
 try simp only [kf, simprocAttr] at h1
 replace h := br h; rcases h with ⟨h2, h⟩ | ⟨h2, h⟩
 ·cases h; subst hR; simp only [zbu2, simprocAttr, *]
 ·cases h; subst hR; simp only [zbu2, simprocAttr, *]
def zbu4 (q : Nat) : Prop := ∀ (M : Nat) (hM : 8 * q ≤ M) (j : Nat) (hj : q ≤ j) (v0z : Bool) (v0l : List Int) (v3 v7 v8 r : Int) (_ : zl4 q v0z v0l v3 v7 v8 = some r) (R : Option (List V)) (_ : some [(V.int .u64) r] = R) (fr : Fr) (H : Hp) (_ : canon 0 [0, 3, 7, 8] fr H = ([(0, (.sl v0z (List.map (V.int .u8) v0l))), (3, (.int .u64 v3)), (7, (.int .i64 v7)), (8, (.int .i64 v8))], [])), fin z58 (unw T (orc T (M + 7)) (M + 7) 0 [.blk 0, .code z54] (iter 0 [0, 3, 7, 8] (exec T (orc T (M + 7)) (M + 7) 0 z51) j fr H)) = R
def zbu5 := And.intro @kk <| And.intro @ke <| And.intro @kn <| And.intro @zblg <| @zbli
theorem zbu6 (q : Nat) (zbv4 : zbu4 q) : zbu4 (q + 1) := by
 intro M hM j hj v0z v0l v3 v7 v8 r h R hR fr H hc
 obtain ⟨j, rfl⟩ : ∃ i, j = i + 1 := ⟨j - 1, by omega⟩
 rw [zhj, hc]; clear hc
 rw [zl4] at h
 replace h := br h; rcases h with ⟨h1, h⟩ | ⟨h1, h⟩
 ·replace h := bn h; obtain ⟨h2, h⟩ := h
  replace h := ob h; obtain ⟨e1, h3, h⟩ := h
  replace h := bm h; obtain ⟨h4, h⟩ := h
  replace h := zbv4 M (by omega) j (by omega) _ _ _ _ _ _ h R hR
  simp only [zbu5, simprocAttr, *]
 ·cases h; subst hR; simp only [zbu5, simprocAttr, *]
theorem zbu7 : ∀ q, zbu4 q
 | 0 => by intro M hM j hj; intros; rename_i h _ _ _ _ _; cases h
 | q + 1 => by have i0 := zbu7 q; exact zbu6 q i0
theorem zbu8 : ∀ (q N : Nat), 8 * q ≤ N → ∀ (a0 : (Sl Int)), ∀ (r : Int), zl5 q a0 = some r → (orc T N).deep F.zl5 [(Sl.enc (V.int .u8)) a0] = some [(V.int .u64) r] := by
 intro q N hM a0 r h
 rcases q with _ | q
 ·cases h
 obtain ⟨M, rfl⟩ : ∃ M, N = M + 8 := ⟨N - 8, by omega⟩
 have zbv4 := (zbu7 q)
 generalize hR : some [(V.int .u64) r] = R
 rw [zhs, zbgd, y4, zhq]
 rw [zl5] at h
 replace h := zbv4 M (by omega) (M + 7) (by omega) _ _ _ _ _ _ h R hR
 simp only [zbu5, simprocAttr, *]
def zbu9 := And.intro @kk <| And.intro @ke <| And.intro @kn <| And.intro @zbjd <| And.intro @zbkn <| And.intro @zblh <| @zbjf
theorem zbva : ∀ (q N : Nat), 8 * q ≤ N → ∀ (a0 : (Sl Int)), ∀ (r : zjq × Int), zl6 q a0 = some r → (orc T N).deep F.zl6 [(Sl.enc (V.int .u8)) a0] = some [zjq.enc r.1, (V.int .i64) r.2] := by
 intro q N hM a0 r h
 rcases q with _ | q
 ·cases h
 obtain ⟨M, rfl⟩ : ∃ M, N = M + 8 := ⟨N - 8, by omega⟩
 generalize hR : some [zjq.enc r.1, (V.int .i64) r.2] = R
 rw [zhs, zbfo, y4, zhq]
 rw [zl6] at h
 replace h := br h; rcases h with ⟨h1, h⟩ | ⟨h1, h⟩
 ·cases h; subst hR; simp only [zbu9, simprocAttr, *]
 ·replace h := ob h; obtain ⟨e1, h2, h⟩ := h
  replace h := br h; rcases h with ⟨h3, h⟩ | ⟨h3, h⟩
  ·replace h := bn h; obtain ⟨h4, h⟩ := h
   replace h := ob h; obtain ⟨r2, h5, h⟩ := h
   replace h5 := zbr1 q (M + 7) (by omega) _ _ h5
   try simp only [kf, simprocAttr] at h5
   replace h := bn h; obtain ⟨h6, h⟩ := h
   replace h := bn h; obtain ⟨h7, h⟩ := h
   replace h := ob h; obtain ⟨r3, h8, h⟩ := h
   replace h8 := zbr1 q (M + 7) (by omega) _ _ h8
   try simp only [kf, simprocAttr] at h8
   replace h := bn h; obtain ⟨h9, h⟩ := h
   replace h := bn h; obtain ⟨h10, h⟩ := h
   replace h := ob h; obtain ⟨r4, h11, h⟩ := h
   replace h11 := zbr1 q (M + 7) (by omega) _ _ h11
   try simp only [kf, simprocAttr] at h11
   replace h := bn h; obtain ⟨h12, h⟩ := h
   replace h := bn h; obtain ⟨h13, h⟩ := h
   replace h := br h; rcases h with ⟨h14, h⟩ | ⟨h14, h⟩
   ·cases h; subst hR; simp only [zbu9, simprocAttr, *]
   ·replace h := br h; rcases h with ⟨h15, h⟩ | ⟨h15, h⟩
    ·cases h; subst hR; simp only [zbu9, simprocAttr, *]
    ·replace h := br h; rcases h with ⟨h16, h⟩ | ⟨h16, h⟩
     ·cases h; subst hR; simp only [zbu9, simprocAttr, *]
     ·replace h := br h; rcases h with ⟨h17, h⟩ | ⟨h17, h⟩
      ·replace h := br h; rcases h with ⟨h18, h⟩ | ⟨h18, h⟩
       ·replace h := ob h; obtain ⟨r5, h19, h⟩ := h
        replace h19 := zbu8 q (M + 7) (by omega) _ _ h19
        try simp only [kf, simprocAttr] at h19
        cases h; subst hR; simp only [zbu9, simprocAttr, *]
       ·cases h; subst hR; simp only [zbu9, simprocAttr, *]
      ·cases h; subst hR; simp only [zbu9, simprocAttr, *]
  ·cases h; subst hR; simp only [zbu9, simprocAttr, *]
def zbvb (q : Nat) : Prop := ∀ (M : Nat) (hM : 8 * q ≤ M) (j : Nat) (hj : q ≤ j) (v0z : Bool) (v0l : List (Sl Int)) (v5z : Bool) (v5l : List (Sl Int)) (v6 v7 : Int) (r : Bool) (_ : zl7 q v0z v0l v5z v5l v6 v7 = some r) (R : Option (List V)) (_ : some [V.bool r] = R) (fr : Fr) (H : Hp) (_ : canon 0 [0, 5, 6, 7] fr H = ([(0, (.sl v0z (List.map (Sl.enc (V.int .u8)) v0l))), (5, (.sl v5z (List.map (Sl.enc (V.int .u8)) v5l))), (6, (.int .i64 v6)), (7, (.int .i64 v7))], [])), fin zv9 (unw T (orc T (M + 7)) (M + 7) 0 [.blk 0, .code zv6] (iter 0 [0, 5, 6, 7] (exec T (orc T (M + 7)) (M + 7) 0 zv3) j fr H)) = R
def zbvc := And.intro @kk <| And.intro @ke <| And.intro @kn <| And.intro @zbjj <| @zbjl
theorem zbvd (q : Nat) (zbv5 : zbvb q) : zbvb (q + 1) := by
 intro M hM j hj v0z v0l v5z v5l v6 v7 r h R hR fr H hc
 obtain ⟨j, rfl⟩ : ∃ i, j = i + 1 := ⟨j - 1, by omega⟩
 rw [zhj, hc]; clear hc
 rw [zl7] at h
 replace h := br h; rcases h with ⟨h1, h⟩ | ⟨h1, h⟩
 ·replace h := bn h; obtain ⟨h2, h⟩ := h
  replace h := ob h; obtain ⟨e1, h3, h⟩ := h
  replace h := br h; rcases h with ⟨h4, h⟩ | ⟨h4, h⟩
  ·cases h; subst hR; simp only [zbvc, simprocAttr, *]
  ·replace h := br h; rcases h with ⟨h5, h⟩ | ⟨h5, h⟩
   ·cases h; subst hR; simp only [zbvc, simprocAttr, *]
   ·replace h := br h; rcases h with ⟨h6, h⟩ | ⟨h6, h⟩
    ·replace h := br h; rcases h with ⟨h7, h⟩ | ⟨h7, h⟩
     ·cases h; subst hR; simp only [zbvc, simprocAttr, *]
     ·replace h := zbv5 M (by omega) j (by omega) _ _ _ _ _ _ _ h R hR
      simp only [zbvc, simprocAttr, *]
    ·replace h := zbv5 M (by omega) j (by omega) _ _ _ _ _ _ _ h R hR
     simp only [zbvc, simprocAttr, *]
 ·cases h; subst hR; simp only [zbvc, simprocAttr, *]
theorem zbve : ∀ q, zbvb q
 | 0 => by intro M hM j hj; intros; rename_i h _ _ _ _ _; cases h
 | q + 1 => by have i0 := zbve q; exact zbvd q i0
theorem zbvf : ∀ (q N : Nat), 8 * q ≤ N → ∀ (a0 : (Sl (Sl Int))), ∀ (r : Bool), zl8 q a0 = some r → (orc T N).deep F.zl8 [(Sl.enc (Sl.enc (V.int .u8))) a0] = some [V.bool r] := by
 intro q N hM a0 r h
 rcases q with _ | q
 ·cases h
 obtain ⟨M, rfl⟩ : ∃ M, N = M + 8 := ⟨N - 8, by omega⟩
 have zbv5 := (zbve q)
 generalize hR : some [V.bool r] = R
 rw [zhs, zbfq, y4, zhq]
 rw [zl8] at h
 replace h := zbv5 M (by omega) (M + 7) (by omega) _ _ _ _ _ _ _ h R hR
 simp only [zbvc, simprocAttr, *]
def zbvg (q : Nat) : Prop := ∀ (M : Nat) (hM : 8 * q ≤ M) (j : Nat) (hj : q ≤ j) (v42 : Int) (h1_0z : Bool) (h1_0l : List Int) (h2_0 : Bool) (h3_0 : Int) (h3_2 : Bool) (h3_3 : Int) (r : zjk × Int) (_ : zma q v42 h1_0z h1_0l h2_0 h3_0 h3_2 h3_3 = some r) (R : Option (List V)) (_ : some [zjk.enc r.1, (V.int .i64) r.2] = R) (fr : Fr) (H : Hp) (_ : canon 0 [2, 4, 5, 6, 10, 42, 43] fr H = ([(2, (.ptr 0 0)), (4, (.fn F.zmt [(.ptr 1 0), (.ptr 2 0)])), (5, (.fn F.zmu [(.ptr 2 0)])), (6, (.fn F.zmv [(.ptr 1 0)])), (10, (.ptr 3 0)), (42, (.int .i64 v42)), (43, (.int .i64 0))], [(.box [(.int .i64 0), (.sl true []), (.bool false), (.int .i64 0)]), (.box [(.sl h1_0z (List.map (V.int .u8) h1_0l))]), (.box [(.bool h2_0)]), (.box [(.int .i64 h3_0), (.sl true []), (.bool h3_2), (.int .i64 h3_3)])])), fin z7m (unw T (orc T (M + 7)) (M + 7) 0 [.blk 0, .code z7d] (iter 0 [2, 4, 5, 6, 10, 42, 43] (exec T (orc T (M + 7)) (M + 7) 0 z63) j fr H)) = R
def zbvh (q : Nat) : Prop := ∀ (M : Nat) (hM : 8 * q ≤ M) (j : Nat) (hj : q ≤ j) (v42 v43 : Int) (h1_0z : Bool) (h1_0l : List Int) (h2_0 : Bool) (h3_0 : Int) (h3_2 : Bool) (h3_3 : Int) (h4l : List Int) (r : zjk × Int) (_ : zl9 q v42 v43 h1_0z h1_0l h2_0 h3_0 h3_2 h3_3 h4l = some r) (R : Option (List V)) (_ : some [zjk.enc r.1, (V.int .i64) r.2] = R) (fr : Fr) (H : Hp) (_ : canon 0 [2, 4, 5, 6, 10, 42, 43] fr H = ([(2, (.ptr 0 0)), (4, (.fn F.zmt [(.ptr 1 0), (.ptr 2 0)])), (5, (.fn F.zmu [(.ptr 2 0)])), (6, (.fn F.zmv [(.ptr 1 0)])), (10, (.ptr 3 0)), (42, (.int .i64 v42)), (43, (.int .i64 v43))], [(.box [(.int .i64 0), (.sl true []), (.bool false), (.int .i64 0)]), (.box [(.sl h1_0z (List.map (V.int .u8) h1_0l))]), (.box [(.bool h2_0)]), (.box [(.int .i64 h3_0), (.vw 4 0 0 h4l.length 1), (.bool h3_2), (.int .i64 h3_3)]), (.row 0 false 1 (List.map (V.int .i64) h4l) true)])), fin z7m (unw T (orc T (M + 7)) (M + 7) 0 [.blk 0, .code z7d] (iter 0 [2, 4, 5, 6, 10, 42, 43] (exec T (orc T (M + 7)) (M + 7) 0 z63) j fr H)) = R
def zbvi := And.intro @kk <| And.intro @ke <| And.intro @kn <| And.intro @zblm <| And.intro @zbmp <| And.intro @zbmy <| And.intro @zbm1 <| And.intro @zbm4 <| And.intro @zbht <| And.intro @zbkn <| And.intro @zbmh <| And.intro @zbmq <| And.intro @zbmr <| And.intro @zbmz <| And.intro @zbm0 <| And.intro @zbm2 <| And.intro @zbm3 <| And.intro @zbm5 <| And.intro @zbm6 <| @zblo
theorem zbvj (q : Nat) (zbv6 : zbvh q) : zbvg (q + 1) := by
 intro M hM j hj v42 h1_0z h1_0l h2_0 h3_0 h3_2 h3_3 r h R hR fr H hc
 obtain ⟨j, rfl⟩ : ∃ i, j = i + 1 := ⟨j - 1, by omega⟩
 rw [zhj, hc]; clear hc
 rw [zma] at h
 replace h := br h; rcases h with ⟨h1, h⟩ | ⟨h1, h⟩
 ·replace h := ob h; obtain ⟨r5, h2, h⟩ := h
  replace h2 := zbs1 q (M + 6) (by omega) _ _ h2
  try simp only [kf, simprocAttr] at h2
  replace h := bb h; rcases h with ⟨h3', h3, h⟩ | ⟨h3', h3, h⟩
  ·replace h := bn h; obtain ⟨h4, h⟩ := h
   replace h := bn h; obtain ⟨h5, h⟩ := h
   replace h := zbv6 M (by omega) j (by omega) _ _ _ _ _ _ _ _ _ _ h R hR
   simp only [zbvi, simprocAttr, *]
  ·replace h := bn h; obtain ⟨h6, h⟩ := h
   replace h := bn h; obtain ⟨h7, h⟩ := h
   replace h := zbv6 M (by omega) j (by omega) _ _ _ _ _ _ _ _ _ _ h R hR
   simp only [zbvi, simprocAttr, *]
 ·replace h := bb h; rcases h with ⟨h8', h8, h⟩ | ⟨h8', h8, h⟩
  ·replace h := br h; rcases h with ⟨h9, h⟩ | ⟨h9, h⟩
   ·cases h; subst hR; simp only [zbvi, simprocAttr, *]
   ·replace h := ob h; obtain ⟨r6, h10, h⟩ := h
    replace h10 := zbpp q (M + 7) (by omega) _ _ h10
    try simp only [kf, simprocAttr] at h10
    replace h := bb h; rcases h with ⟨h11', h11, h⟩ | ⟨h11', h11, h⟩
    ·cases h; subst hR; simp only [zbvi, simprocAttr, *]
    ·cases h; subst hR; simp only [zbvi, simprocAttr, *]
  ·cases h; subst hR; simp only [zbvi, simprocAttr, *]
theorem zbvk (q : Nat) (zbv6 : zbvh q) : zbvh (q + 1) := by
 intro M hM j hj v42 v43 h1_0z h1_0l h2_0 h3_0 h3_2 h3_3 h4l r h R hR fr H hc
 obtain ⟨j, rfl⟩ : ∃ i, j = i + 1 := ⟨j - 1, by omega⟩
 rw [zhj, hc]; clear hc
 rw [zl9] at h
 replace h := br h; rcases h with ⟨h1, h⟩ | ⟨h1, h⟩
 ·replace h := ob h; obtain ⟨r7, h2, h⟩ := h
  replace h2 := zbs1 q (M + 6) (by omega) _ _ h2
  try simp only [kf, simprocAttr] at h2
  replace h := bb h; rcases h with ⟨h3', h3, h⟩ | ⟨h3', h3, h⟩
  ·replace h := bn h; obtain ⟨h4, h⟩ := h
   replace h := bn h; obtain ⟨h5, h⟩ := h
   replace h := bn h; obtain ⟨h6, h⟩ := h
   replace h := zbv6 M (by omega) j (by omega) _ _ _ _ _ _ _ _ _ _ h R hR
   simp only [zbvi, simprocAttr, *]
  ·replace h := bn h; obtain ⟨h7, h⟩ := h
   replace h := bn h; obtain ⟨h8, h⟩ := h
   replace h := bn h; obtain ⟨h9, h⟩ := h
   replace h := zbv6 M (by omega) j (by omega) _ _ _ _ _ _ _ _ _ _ h R hR
   simp only [zbvi, simprocAttr, *]
 ·replace h := bb h; rcases h with ⟨h10', h10, h⟩ | ⟨h10', h10, h⟩
  ·replace h := br h; rcases h with ⟨h11, h⟩ | ⟨h11, h⟩
   ·cases h; subst hR; simp only [zbvi, simprocAttr, *]
   ·replace h := ob h; obtain ⟨r8, h12, h⟩ := h
    replace h12 := zbpp q (M + 7) (by omega) _ _ h12
    try simp only [kf, simprocAttr] at h12
    replace h := bb h; rcases h with ⟨h13', h13, h⟩ | ⟨h13', h13, h⟩
    ·cases h; subst hR; simp only [zbvi, simprocAttr, *]
    ·cases h; subst hR; simp only [zbvi, simprocAttr, *]
  ·cases h; subst hR; simp only [zbvi, simprocAttr, *]
theorem zbvl : ∀ q, zbvg q ∧ zbvh q
 | 0 => by refine ⟨?_, ?_⟩ <;> (intro M hM j hj; intros; rename_i h _ _ _ _ _; cases h)
 | q + 1 => by have ⟨i0, i1⟩ := zbvl q; exact ⟨zbvj q i1, zbvk q i1⟩
theorem zbvm : ∀ (q N : Nat), 8 * q ≤ N → ∀ (a0 : (Sl Int)), ∀ (r : zjk × Int), zmb q a0 = some r → (orc T N).deep F.zmb [(Sl.enc (V.int .u8)) a0] = some [zjk.enc r.1, (V.int .i64) r.2] := by
 intro q N hM a0 r h
 rcases q with _ | q
 ·cases h
 obtain ⟨M, rfl⟩ : ∃ M, N = M + 8 := ⟨N - 8, by omega⟩
 have ih_codec_DecodeState_l0 := (zbvl q).1
 generalize hR : some [zjk.enc r.1, (V.int .i64) r.2] = R
 rw [zhs, zbgf, y4, zhq]
 rw [zmb] at h
 replace h := ob h; obtain ⟨r1, h1, h⟩ := h
 replace h1 := zbr1 q (M + 6) (by omega) _ _ h1
 try simp only [kf, simprocAttr] at h1
 replace h := bn h; obtain ⟨h2, h⟩ := h
 replace h := bn h; obtain ⟨h3, h⟩ := h
 replace h := ob h; obtain ⟨r2, h4, h⟩ := h
 replace h4 := zbr1 q (M + 6) (by omega) _ _ h4
 try simp only [kf, simprocAttr] at h4
 replace h := br h; rcases h with ⟨h5, h⟩ | ⟨h5, h⟩
 ·replace h := bn h; obtain ⟨h6, h⟩ := h
  replace h := bn h; obtain ⟨h7, h⟩ := h
  replace h := ob h; obtain ⟨r3, h8, h⟩ := h
  replace h8 := zbr1 q (M + 6) (by omega) _ _ h8
  try simp only [kf, simprocAttr] at h8
  replace h := br h; rcases h with ⟨h9, h⟩ | ⟨h9, h⟩
  ·replace h := bn h; obtain ⟨h10, h⟩ := h
   replace h := bn h; obtain ⟨h11, h⟩ := h
   replace h := br h; rcases h with ⟨h12, h⟩ | ⟨h12, h⟩
   ·replace h := br h; rcases h with ⟨h13, h⟩ | ⟨h13, h⟩
    ·cases h; subst hR; simp only [zbvi, simprocAttr, *]
    ·replace h := br h; rcases h with ⟨h14, h⟩ | ⟨h14, h⟩
     ·cases h; subst hR; simp only [zbvi, simprocAttr, *]
     ·replace h := ih_codec_DecodeState_l0 M (by omega) (M + 7) (by omega) _ _ _ _ _ _ _ _ h R hR
      simp only [zbvi, simprocAttr, *]
   ·cases h; subst hR; simp only [zbvi, simprocAttr, *]
  ·replace h := bn h; obtain ⟨h15, h⟩ := h
   replace h := bn h; obtain ⟨h16, h⟩ := h
   cases h; subst hR; simp only [zbvi, simprocAttr, *]
 ·replace h := bn h; obtain ⟨h17, h⟩ := h
  replace h := bn h; obtain ⟨h18, h⟩ := h
  replace h := ob h; obtain ⟨r4, h19, h⟩ := h
  replace h19 := zbr1 q (M + 6) (by omega) _ _ h19
  try simp only [kf, simprocAttr] at h19
  replace h := bn h; obtain ⟨h20, h⟩ := h
  replace h := bn h; obtain ⟨h21, h⟩ := h
  cases h; subst hR; simp only [zbvi, simprocAttr, *]
def zbvn := And.intro @kk <| And.intro @ke <| And.intro @kn <| And.intro @zblp <| And.intro @zbkn <| And.intro @zbmh <| @zblr
theorem zbvo : ∀ (q N : Nat), 8 * q ≤ N → ∀ (a0 : (Sl Int)), ∀ (r : zjl × Int), zmc q a0 = some r → (orc T N).deep F.zmc [(Sl.enc (V.int .u8)) a0] = some [zjl.enc r.1, (V.int .i64) r.2] := by
 intro q N hM a0 r h
 rcases q with _ | q
 ·cases h
 obtain ⟨M, rfl⟩ : ∃ M, N = M + 8 := ⟨N - 8, by omega⟩
 generalize hR : some [zjl.enc r.1, (V.int .i64) r.2] = R
 rw [zhs, zbgg, y4, zhq]
 rw [zmc] at h
 replace h := ob h; obtain ⟨r1, h1, h⟩ := h
 replace h1 := zbr1 q (M + 7) (by omega) _ _ h1
 try simp only [kf, simprocAttr] at h1
 replace h := bn h; obtain ⟨h2, h⟩ := h
 replace h := bn h; obtain ⟨h3, h⟩ := h
 replace h := ob h; obtain ⟨r2, h4, h⟩ := h
 replace h4 := zbr1 q (M + 7) (by omega) _ _ h4
 try simp only [kf, simprocAttr] at h4
 replace h := bn h; obtain ⟨h5, h⟩ := h
 replace h := bn h; obtain ⟨h6, h⟩ := h
 replace h := ob h; obtain ⟨r3, h7, h⟩ := h
 replace h7 := zbs1 q (M + 7) (by omega) _ _ h7
 try simp only [kf, simprocAttr] at h7
 replace h := br h; rcases h with ⟨h8, h⟩ | ⟨h8, h⟩
 ·cases h; subst hR; simp only [zbvn, simprocAttr, *]
 ·replace h := br h; rcases h with ⟨h9, h⟩ | ⟨h9, h⟩
  ·cases h; subst hR; simp only [zbvn, simprocAttr, *]
  ·replace h := br h; rcases h with ⟨h10, h⟩ | ⟨h10, h⟩
   ·cases h; subst hR; simp only [zbvn, simprocAttr, *]
   ·cases h; subst hR; simp only [zbvn, simprocAttr, *]
def zbvp (q : Nat) : Prop := ∀ (M : Nat) (hM : 8 * q ≤ M) (j : Nat) (hj : q ≤ j) (v0z : Bool) (v0l : List Int) (v3 v62 h1_0 : Int) (h1_1z : Bool) (h1_1l : List Int) (h1_2 : Bool) (h1_3 : Int) (r : zjm × Int) (_ : zme q v0z v0l v3 v62 h1_0 h1_1z h1_1l h1_2 h1_3 = some r) (R : Option (List V)) (_ : some [zjm.enc r.1, (V.int .i64) r.2] = R) (fr : Fr) (H : Hp) (_ : canon 0 [0, 2, 3, 6, 62, 63] fr H = ([(0, (.sl v0z (List.map (V.int .u8) v0l))), (2, (.ptr 0 0)), (3, (.int .i64 v3)), (6, (.ptr 1 0)), (62, (.int .i64 v62)), (63, (.int .i64 0))], [(.box [(.int .i64 0), (.int .i64 0), (.sl true []), (.bool false), (.int .i64 0), (.sl true [])]), (.box [(.int .i64 h1_0), (.sl h1_1z (List.map (V.int .i64) h1_1l)), (.bool h1_2), (.int .i64 h1_3)])])), fin zxd (unw T (orc T (M + 7)) (M + 7) 0 [.blk 0, .code zw2] (iter 0 [0, 2, 3, 6, 62, 63] (exec T (orc T (M + 7)) (M + 7) 0 zwt) j fr H)) = R
def zbvq (q : Nat) : Prop := ∀ (M : Nat) (hM : 8 * q ≤ M) (j : Nat) (hj : q ≤ j) (v0z : Bool) (v0l : List Int) (v3 v62 v63 h1_0 : Int) (h1_1z : Bool) (h1_1l : List Int) (h1_2 : Bool) (h1_3 : Int) (h2l : List zjl) (r : zjm × Int) (_ : zmd q v0z v0l v3 v62 v63 h1_0 h1_1z h1_1l h1_2 h1_3 h2l = some r) (R : Option (List V)) (_ : some [zjm.enc r.1, (V.int .i64) r.2] = R) (fr : Fr) (H : Hp) (_ : canon 0 [0, 2, 3, 6, 62, 63] fr H = ([(0, (.sl v0z (List.map (V.int .u8) v0l))), (2, (.ptr 0 0)), (3, (.int .i64 v3)), (6, (.ptr 1 0)), (62, (.int .i64 v62)), (63, (.int .i64 v63))], [(.box [(.int .i64 0), (.int .i64 0), (.sl true []), (.bool false), (.int .i64 0), (.vw 2 0 0 h2l.length 1)]), (.box [(.int .i64 h1_0), (.sl h1_1z (List.map (V.int .i64) h1_1l)), (.bool h1_2), (.int .i64 h1_3)]), (.row 0 false 3 (List.map zjl.enc h2l) true)])), fin zxd (unw T (orc T (M + 7)) (M + 7) 0 [.blk 0, .code zw2] (iter 0 [0, 2, 3, 6, 62, 63] (exec T (orc T (M + 7)) (M + 7) 0 zwt) j fr H)) = R
def zbvr := And.intro @kk <| And.intro @ke <| And.intro @kn <| And.intro @zbjm <| And.intro @zbkn <| And.intro @zbln <| And.intro @zblq <| @zbjo
theorem zbvs (q : Nat) (zbv7 : zbvq q) : zbvp (q + 1) := by
 intro M hM j hj v0z v0l v3 v62 h1_0 h1_1z h1_1l h1_2 h1_3 r h R hR fr H hc
 obtain ⟨j, rfl⟩ : ∃ i, j = i + 1 := ⟨j - 1, by omega⟩
 rw [zhj, hc]; clear hc
 rw [zme] at h
 replace h := br h; rcases h with ⟨h1, h⟩ | ⟨h1, h⟩
 ·replace h := ob h; obtain ⟨r4, h2, h⟩ := h
  replace h2 := zbvo q (M + 7) (by omega) _ _ h2
  try simp only [kf, simprocAttr] at h2
  replace h := br h; rcases h with ⟨h3, h⟩ | ⟨h3, h⟩
  ·cases h; subst hR; simp only [zbvr, simprocAttr, *]
  ·replace h := bn h; obtain ⟨h4, h⟩ := h
   replace h := bn h; obtain ⟨h5, h⟩ := h
   replace h := zbv7 M (by omega) j (by omega) _ _ _ _ _ _ _ _ _ _ _ _ h R hR
   simp only [zbvr, simprocAttr, *]
 ·replace h := br h; rcases h with ⟨h6, h⟩ | ⟨h6, h⟩
  ·cases h; subst hR; simp only [zbvr, simprocAttr, *]
  ·cases h; subst hR; simp only [zbvr, simprocAttr, *]
theorem zbvt (q : Nat) (zbv7 : zbvq q) : zbvq (q + 1) := by
 intro M hM j hj v0z v0l v3 v62 v63 h1_0 h1_1z h1_1l h1_2 h1_3 h2l r h R hR fr H hc
 obtain ⟨j, rfl⟩ : ∃ i, j = i + 1 := ⟨j - 1, by omega⟩
 rw [zhj, hc]; clear hc
 rw [zmd] at h
 replace h := br h; rcases h with ⟨h1, h⟩ | ⟨h1, h⟩
 ·replace h := ob h; obtain ⟨r5, h2, h⟩ := h
  replace h2 := zbvo q (M + 7) (by omega) _ _ h2
  try simp only [kf, simprocAttr] at h2
  replace h := br h; rcases h with ⟨h3, h⟩ | ⟨h3, h⟩
  ·cases h; subst hR; simp only [zbvr, simprocAttr, *]
  ·replace h := bn h; obtain ⟨h4, h⟩ := h
   replace h := bn h; obtain ⟨h5, h⟩ := h
   replace h := bn h; obtain ⟨h6, h⟩ := h
   replace h := zbv7 M (by omega) j (by omega) _ _ _ _ _ _ _ _ _ _ _ _ h R hR
   simp only [zbvr, simprocAttr, *]
 ·replace h := br h; rcases h with ⟨h7, h⟩ | ⟨h7, h⟩
  ·cases h; subst hR; simp only [zbvr, simprocAttr, *]
  ·cases h; subst hR; simp only [zbvr, simprocAttr, *]
theorem zbvu : ∀ q, zbvp q ∧ zbvq q
 | 0 => by refine ⟨?_, ?_⟩ <;> (intro M hM j hj; intros; rename_i h _ _ _ _ _; cases h)
 | q + 1 => by have ⟨i0, i1⟩ := zbvu q; exact ⟨zbvs q i1, zbvt q i1⟩
theorem zbvv : ∀ (q N : Nat), 8 * q ≤ N → ∀ (a0 : (Sl Int)), ∀ (r : zjm × Int), zmf q a0 = some r → (orc T N).deep F.zmf [(Sl.enc (V.int .u8)) a0] = some [zjm.enc r.1, (V.int .i64) r.2] := by
 intro q N hM a0 r h
 rcases q with _ | q
 ·cases h
 obtain ⟨M, rfl⟩ : ∃ M, N = M + 8 := ⟨N - 8, by omega⟩
 have ih_snapshot_read_l0 := (zbvu q).1
 generalize hR : some [zjm.enc r.1, (V.int .i64) r.2] = R
 rw [zhs, zbfr, y4, zhq]
 rw [zmf] at h
 replace h := ob h; obtain ⟨r1, h1, h⟩ := h
 replace h1 := zbr1 q (M + 7) (by omega) _ _ h1
 try simp only [kf, simprocAttr] at h1
 replace h := br h; rcases h with ⟨h2, h⟩ | ⟨h2, h⟩
 ·cases h; subst hR; simp only [zbvr, simprocAttr, *]
 ·replace h := br h; rcases h with ⟨h3, h⟩ | ⟨h3, h⟩
  ·cases h; subst hR; simp only [zbvr, simprocAttr, *]
  ·replace h := bn h; obtain ⟨h4, h⟩ := h
   replace h := bn h; obtain ⟨h5, h⟩ := h
   replace h := bn h; obtain ⟨h6, h⟩ := h
   replace h := ob h; obtain ⟨r2, h7, h⟩ := h
   replace h7 := zbvm q (M + 7) (by omega) _ _ h7
   try simp only [kf, simprocAttr] at h7
   replace h := br h; rcases h with ⟨h8, h⟩ | ⟨h8, h⟩
   ·cases h; subst hR; simp only [zbvr, simprocAttr, *]
   ·replace h := bn h; obtain ⟨h9, h⟩ := h
    replace h := bn h; obtain ⟨h10, h⟩ := h
    replace h := ob h; obtain ⟨r3, h11, h⟩ := h
    replace h11 := zbr1 q (M + 7) (by omega) _ _ h11
    try simp only [kf, simprocAttr] at h11
    replace h := br h; rcases h with ⟨h12, h⟩ | ⟨h12, h⟩
    ·cases h; subst hR; simp only [zbvr, simprocAttr, *]
    ·replace h := br h; rcases h with ⟨h13, h⟩ | ⟨h13, h⟩
     ·cases h; subst hR; simp only [zbvr, simprocAttr, *]
     ·replace h := bn h; obtain ⟨h14, h⟩ := h
      replace h := bn h; obtain ⟨h15, h⟩ := h
      replace h := ih_snapshot_read_l0 M (by omega) (M + 7) (by omega) _ _ _ _ _ _ _ _ _ _ h R hR
      simp only [zbvr, simprocAttr, *]
def zbvw := And.intro @kk <| And.intro @ke <| And.intro @kn <| And.intro @zbhj <| And.intro @zbg5 <| And.intro @zbi8 <| And.intro @zbjb <| And.intro @zbje <| And.intro @zbjh <| And.intro @zbjk <| And.intro @zbjn <| @zbhl
theorem zbvx : ∀ (q N : Nat), 8 * q ≤ N → ∀ (a0 : (Sl Int)), ∀ (r : zjm × Int), zmg q a0 = some r → (orc T N).deep F.zmg [(Sl.enc (V.int .u8)) a0] = some [zjm.enc r.1, (V.int .i64) r.2] := by
 intro q N hM a0 r h
 rcases q with _ | q
 ·cases h
 obtain ⟨M, rfl⟩ : ∃ M, N = M + 8 := ⟨N - 8, by omega⟩
 generalize hR : some [zjm.enc r.1, (V.int .i64) r.2] = R
 rw [zhs, zbe2, y4, zhq]
 rw [zmg] at h
 replace h := ob h; obtain ⟨r1, h1, h⟩ := h
 replace h1 := zbu3 q (M + 7) (by omega) _ _ h1
 try simp only [kf, simprocAttr] at h1
 replace h := br h; rcases h with ⟨h2, h⟩ | ⟨h2, h⟩
 ·replace h := br h; rcases h with ⟨h3, h⟩ | ⟨h3, h⟩
  ·cases h; subst hR; simp only [zbvw, simprocAttr, *]
  ·replace h := bn h; obtain ⟨h4, h⟩ := h
   replace h := ob h; obtain ⟨e2, h5, h⟩ := h
   replace h := ob h; obtain ⟨r3, h6, h⟩ := h
   replace h6 := zbva q (M + 7) (by omega) _ _ h6
   try simp only [kf, simprocAttr] at h6
   replace h := br h; rcases h with ⟨h7, h⟩ | ⟨h7, h⟩
   ·replace h := bn h; obtain ⟨h8, h⟩ := h
    replace h := ob h; obtain ⟨r4, h9, h⟩ := h
    replace h9 := zbtn q (M + 7) (by omega) _ _ h9
    try simp only [kf, simprocAttr] at h9
    replace h := br h; rcases h with ⟨h10, h⟩ | ⟨h10, h⟩
    ·replace h := ob h; obtain ⟨r5, h11, h⟩ := h
     replace h11 := zbvf q (M + 7) (by omega) _ _ h11
     try simp only [kf, simprocAttr] at h11
     replace h := bb h; rcases h with ⟨h12', h12, h⟩ | ⟨h12', h12, h⟩
     ·replace h := ob h; obtain ⟨r6, h13, h⟩ := h
      replace h13 := zbsf q (M + 7) (by omega) _ _ h13
      try simp only [kf, simprocAttr] at h13
      replace h := br h; rcases h with ⟨h14, h⟩ | ⟨h14, h⟩
      ·replace h := ob h; obtain ⟨r7, h15, h⟩ := h
       replace h15 := zbvv q (M + 7) (by omega) _ _ h15
       try simp only [kf, simprocAttr] at h15
       replace h := br h; rcases h with ⟨h16, h⟩ | ⟨h16, h⟩
       ·replace h := ob h; obtain ⟨r8, h17, h⟩ := h
        replace h17 := zbpy q (M + 7) (by omega) _ _ h17
        try simp only [kf, simprocAttr] at h17
        replace h := bb h; rcases h with ⟨h18', h18, h⟩ | ⟨h18', h18, h⟩
        ·cases h; subst hR; simp only [zbvw, simprocAttr, *]
        ·cases h; subst hR; simp only [zbvw, simprocAttr, *]
       ·cases h; subst hR; simp only [zbvw, simprocAttr, *]
      ·cases h; subst hR; simp only [zbvw, simprocAttr, *]
     ·cases h; subst hR; simp only [zbvw, simprocAttr, *]
    ·cases h; subst hR; simp only [zbvw, simprocAttr, *]
   ·cases h; subst hR; simp only [zbvw, simprocAttr, *]
 ·cases h; subst hR; simp only [zbvw, simprocAttr, *]
def zbvy := And.intro @kk <| And.intro @ke <| And.intro @kn <| And.intro @zbgy <| And.intro @zbg2 <| And.intro @zbhb <| And.intro @zbhh <| And.intro @zbhk <| @zbg0
theorem zbvz : ∀ (q N : Nat), 8 * q ≤ N → ∀ (a0 : zjm) (a1 : Int) (a2 : (Sl Int)), ∀ (r : Bool), zmh q a0 a1 a2 = some r → (orc T N).deep F.zmh [zjm.enc a0, (V.int .i64) a1, (Sl.enc (V.int .u8)) a2] = some [V.bool r] := by
 intro q N hM a0 a1 a2 r h
 rcases q with _ | q
 ·cases h
 obtain ⟨M, rfl⟩ : ∃ M, N = M + 8 := ⟨N - 8, by omega⟩
 generalize hR : some [V.bool r] = R
 rw [zhs, zbev, y4, zhq]
 rw [zmh] at h
 replace h := ob h; obtain ⟨r1, h1, h⟩ := h
 replace h1 := zbuw q (M + 7) (by omega)  _ h1
 replace h := ob h; obtain ⟨r2, h2, h⟩ := h
 replace h2 := zbqp q (M + 7) (by omega) _ _ h2
 try simp only [kf, simprocAttr] at h2
 replace h := bb h; rcases h with ⟨h3', h3, h⟩ | ⟨h3', h3, h⟩
 ·replace h := bb h; rcases h with ⟨h4', h4, h⟩ | ⟨h4', h4, h⟩
  ·replace h := br h; rcases h with ⟨h5, h⟩ | ⟨h5, h⟩
   ·cases h; subst hR; simp only [zbvy, simprocAttr, *]
   ·replace h := ob h; obtain ⟨r3, h6, h⟩ := h
    replace h6 := zbuu q (M + 7) (by omega) _ _ h6
    try simp only [kf, simprocAttr] at h6
    replace h := br h; rcases h with ⟨h7, h⟩ | ⟨h7, h⟩
    ·replace h := bn h; obtain ⟨h8, h⟩ := h
     replace h := bn h; obtain ⟨h9, h⟩ := h
     replace h := ob h; obtain ⟨r4, h10, h⟩ := h
     replace h10 := zbvx q (M + 7) (by omega) _ _ h10
     try simp only [kf, simprocAttr] at h10
     replace h := bb h; rcases h with ⟨h11', h11, h⟩ | ⟨h11', h11, h⟩
     ·replace h := br h; rcases h with ⟨h12, h⟩ | ⟨h12, h⟩
      ·cases h; subst hR; simp only [zbvy, simprocAttr, *]
      ·replace h := br h; rcases h with ⟨h13, h⟩ | ⟨h13, h⟩
       ·cases h; subst hR; simp only [zbvy, simprocAttr, *]
       ·replace h := bn h; obtain ⟨h14, h⟩ := h
        replace h := bn h; obtain ⟨h15, h⟩ := h
        replace h := bb h; rcases h with ⟨h16', h16, h⟩ | ⟨h16', h16, h⟩
        ·replace h := ob h; obtain ⟨r5, h17, h⟩ := h
         replace h17 := zbvx q (M + 7) (by omega) _ _ h17
         try simp only [kf, simprocAttr] at h17
         cases h; subst hR; simp only [zbvy, simprocAttr, *]
        ·replace h := ob h; obtain ⟨r6, h18, h⟩ := h
         replace h18 := zbvx q (M + 7) (by omega) _ _ h18
         try simp only [kf, simprocAttr] at h18
         cases h; subst hR; simp only [zbvy, simprocAttr, *]
     ·cases h; subst hR; simp only [zbvy, simprocAttr, *]
    ·cases h; subst hR; simp only [zbvy, simprocAttr, *]
  ·cases h; subst hR; simp only [zbvy, simprocAttr, *]
 ·cases h; subst hR; simp only [zbvy, simprocAttr, *]
end Go.Dvm.C
