/- The machine comes to these answers: part 2. -/
import Derived.Test.YtngajodhbioheaaQl0
import Derived.Test.YtngajodhbioheaaQr0
set_option linter.all false
set_option maxRecDepth 100000
set_option maxHeartbeats 4000000
namespace Go.Dvm.C
open Go Go.Dvm Go.Dvm.I
def zbth (q : Nat) : Prop := ∀ (M : Nat) (hM : 8 * q ≤ M) (j : Nat) (hj : q ≤ j) (v24z : Bool) (v24l : List zjg) (v25 v26 : Int) (h0z : Bool) (h0l : List Int) (h0x : Bool) (r : (Ow Int)) (_ : zln q v24z v24l v25 v26 h0z h0l h0x = some r) (R : Option (List V)) (_ : some [(Ow.enc 1 (V.int .u8)) r] = R) (fr : Fr) (H : Hp) (_ : canon 0 [5, 24, 25, 26] fr H = ([(5, (.vw 0 0 0 h0l.length 1)), (24, (.sl v24z (List.map zjg.enc v24l))), (25, (.int .i64 v25)), (26, (.int .i64 v26))], [(.row 0 h0z 1 (List.map (V.int .u8) h0l) h0x)])), fin ztj (unw T (orc T (M + 7)) (M + 7) 0 [.blk 0, .code zte] (iter 0 [5, 24, 25, 26] (exec T (orc T (M + 7)) (M + 7) 0 ztb) j fr H)) = R
def zbti := And.intro @kk <| And.intro @ke <| And.intro @kn <| And.intro @zbh0 <| And.intro @zbhd <| And.intro @zbh4 <| And.intro @zbka <| @zbh2
theorem zbtj (q : Nat) (zbu0 : zbth q) : zbth (q + 1) := by
 intro M hM j hj v24z v24l v25 v26 h0z h0l h0x r h R hR fr H hc
 obtain ⟨j, rfl⟩ : ∃ i, j = i + 1 := ⟨j - 1, by omega⟩
 rw [zhj, hc]; clear hc
 rw [zln] at h
 replace h := br h; rcases h with ⟨h1, h⟩ | ⟨h1, h⟩
 ·replace h := bn h; obtain ⟨h2, h⟩ := h
  replace h := ob h; obtain ⟨e4, h3, h⟩ := h
  replace h := ob h; obtain ⟨r5, h4, h⟩ := h
  replace h4 := zbr7 q (M + 7) (by omega) _ _ _ h4
  try simp only [kf, simprocAttr] at h4
  replace h := ob h; obtain ⟨r6, h5, h⟩ := h
  replace h5 := zbr7 q (M + 7) (by omega) _ _ _ h5
  try simp only [kf, simprocAttr] at h5
  replace h := ob h; obtain ⟨r7, h6, h⟩ := h
  replace h6 := zbsb q (M + 7) (by omega) _ _ _ h6
  try simp only [kf, simprocAttr] at h6
  replace h := zbu0 M (by omega) j (by omega) _ _ _ _ _ _ _ _ h R hR
  simp only [zbti, simprocAttr, *]
 ·cases h; subst hR; simp only [zbti, simprocAttr, *]
theorem zbtk : ∀ q, zbth q
 | 0 => by intro M hM j hj; intros; rename_i h _ _ _ _ _; cases h
 | q + 1 => by have i0 := zbtk q; exact zbtj q i0
theorem zbtl : ∀ (q N : Nat), 8 * q ≤ N → ∀ (a0 : zjh), ∀ (r : (Ow Int)), zlo q a0 = some r → (orc T N).deep F.zlo [zjh.enc a0] = some [(Ow.enc 1 (V.int .u8)) r] := by
 intro q N hM a0 r h
 rcases q with _ | q
 ·cases h
 obtain ⟨M, rfl⟩ : ∃ M, N = M + 8 := ⟨N - 8, by omega⟩
 have zbu0 := (zbtk q)
 generalize hR : some [(Ow.enc 1 (V.int .u8)) r] = R
 rw [zhs, zbet, y4, zhq]
 rw [zlo] at h
 replace h := ob h; obtain ⟨r1, h1, h⟩ := h
 replace h1 := zbsv q (M + 7) (by omega) _ _ h1
 try simp only [kf, simprocAttr] at h1
 replace h := ob h; obtain ⟨r2, h2, h⟩ := h
 replace h2 := zbr7 q (M + 7) (by omega) _ _ _ h2
 try simp only [kf, simprocAttr] at h2
 replace h := bn h; obtain ⟨h3, h⟩ := h
 replace h := ob h; obtain ⟨r3, h4, h⟩ := h
 replace h4 := zbr7 q (M + 7) (by omega) _ _ _ h4
 try simp only [kf, simprocAttr] at h4
 replace h := zbu0 M (by omega) (M + 7) (by omega) _ _ _ _ _ _ _ _ h R hR
 simp only [zbti, simprocAttr, *]
def zbtm := And.intro @kk <| And.intro @ke <| And.intro @kn <| And.intro @zbh6 <| And.intro @zbhg <| @zbh8
theorem zbtn : ∀ (q N : Nat), 8 * q ≤ N → ∀ (a0 : (Sl Int)), ∀ (r : (Ow Int)), zlp q a0 = some r → (orc T N).deep F.zlp [(Sl.enc (V.int .u8)) a0] = some [(Ow.enc 1 (V.int .u8)) r] := by
 intro q N hM a0 r h
 rcases q with _ | q
 ·cases h
 obtain ⟨M, rfl⟩ : ∃ M, N = M + 8 := ⟨N - 8, by omega⟩
 generalize hR : some [(Ow.enc 1 (V.int .u8)) r] = R
 rw [zhs, zbev, y4, zhq]
 rw [zlp] at h
 replace h := ob h; obtain ⟨r1, h1, h⟩ := h
 replace h1 := zbso q (M + 7) (by omega) _ _ h1
 try simp only [kf, simprocAttr] at h1
 cases h; subst hR; simp only [zbtm, simprocAttr, *]
def zbto (q : Nat) : Prop := ∀ (M : Nat) (hM : 8 * q ≤ M) (j : Nat) (hj : q ≤ j) (h0z : Bool) (h0l : List Int) (h0x h1z : Bool) (h1l : List Int) (h1x : Bool) (r : (Ow Int) × Int) (_ : zlr q h0z h0l h0x h1z h1l h1x = some r) (R : Option (List V)) (_ : some [(Ow.enc 1 (V.int .u8)) r.1, (V.int .i64) r.2] = R) (fr : Fr) (H : Hp) (_ : canon 0 [4, 6] fr H = ([(4, (.vw 0 0 0 h0l.length 1)), (6, (.vw 1 0 0 h1l.length 1))], [(.row 0 h0z 1 (List.map (V.int .u8) h0l) h0x), (.row 0 h1z 1 (List.map (V.int .u8) h1l) h1x)])), fin zn3 (unw T (orc T (M + 7)) (M + 7) 0 [.blk 0, .code znw] (iter 0 [4, 6] (exec T (orc T (M + 7)) (M + 7) 0 znu) j fr H)) = R
def zbtp (q : Nat) : Prop := ∀ (M : Nat) (hM : 8 * q ≤ M) (j : Nat) (hj : q ≤ j) (v4off v4len : Nat) (h0z : Bool) (h0l : List Int) (h1z : Bool) (h1l : List Int) (h1x : Bool) (r : (Ow Int) × Int) (_ : zlq q v4off v4len h0z h0l h1z h1l h1x = some r) (R : Option (List V)) (_ : some [(Ow.enc 1 (V.int .u8)) r.1, (V.int .i64) r.2] = R) (fr : Fr) (H : Hp) (_ : canon 0 [4, 6] fr H = ([(4, (.vw 0 0 v4off v4len 1)), (6, (.vw 1 0 0 h1l.length 1))], [(.row 0 h0z 1 (List.map (V.int .u8) h0l) false), (.row 0 h1z 1 (List.map (V.int .u8) h1l) h1x)])), fin zn3 (unw T (orc T (M + 7)) (M + 7) 0 [.blk 0, .code znw] (iter 0 [4, 6] (exec T (orc T (M + 7)) (M + 7) 0 znu) j fr H)) = R
def zbtq := And.intro @kk <| And.intro @ke <| And.intro @kn <| And.intro @zbgo <| And.intro @zbgd <| And.intro @zbh1 <| And.intro @zbh4 <| And.intro @zbh7 <| And.intro @zbia <| And.intro @zbid <| @zbgq
theorem zbtr (q : Nat) (zbu1 : zbtp q) : zbto (q + 1) := by
 intro M hM j hj h0z h0l h0x h1z h1l h1x r h R hR fr H hc
 obtain ⟨j, rfl⟩ : ∃ i, j = i + 1 := ⟨j - 1, by omega⟩
 rw [zhj, hc]; clear hc
 rw [zlr] at h
 replace h := br h; rcases h with ⟨h1, h⟩ | ⟨h1, h⟩
 ·replace h := bn h; obtain ⟨h2, h⟩ := h
  replace h := bn h; obtain ⟨h3, h⟩ := h
  replace h := bn h; obtain ⟨h4, h⟩ := h
  replace h := ob h; obtain ⟨r9, h5, h⟩ := h
  replace h5 := zbtn q (M + 7) (by omega) _ _ h5
  try simp only [kf, simprocAttr] at h5
  replace h := bn h; obtain ⟨h6, h⟩ := h
  replace h := zbu1 M (by omega) j (by omega) _ _ _ _ _ _ _ _ h R hR
  simp only [zbtq, simprocAttr, *]
 ·cases h; subst hR; simp only [zbtq, simprocAttr, *]
theorem zbts (q : Nat) (zbu1 : zbtp q) : zbtp (q + 1) := by
 intro M hM j hj v4off v4len h0z h0l h1z h1l h1x r h R hR fr H hc
 obtain ⟨j, rfl⟩ : ∃ i, j = i + 1 := ⟨j - 1, by omega⟩
 rw [zhj, hc]; clear hc
 rw [zlq] at h
 replace h := br h; rcases h with ⟨h1, h⟩ | ⟨h1, h⟩
 ·replace h := bn h; obtain ⟨h2, h⟩ := h
  replace h := bn h; obtain ⟨h3, h⟩ := h
  replace h := bn h; obtain ⟨h4, h⟩ := h
  replace h := ob h; obtain ⟨r10, h5, h⟩ := h
  replace h5 := zbtn q (M + 7) (by omega) _ _ h5
  try simp only [kf, simprocAttr] at h5
  replace h := bn h; obtain ⟨h6, h⟩ := h
  replace h := bn h; obtain ⟨h7, h⟩ := h
  replace h := zbu1 M (by omega) j (by omega) _ _ _ _ _ _ _ _ h R hR
  simp only [zbtq, simprocAttr, *]
 ·cases h; subst hR; simp only [zbtq, simprocAttr, *]
theorem zbtt : ∀ q, zbto q ∧ zbtp q
 | 0 => by refine ⟨?_, ?_⟩ <;> (intro M hM j hj; intros; rename_i h _ _ _ _ _; cases h)
 | q + 1 => by have ⟨i0, i1⟩ := zbtt q; exact ⟨zbtr q i1, zbts q i1⟩
theorem zbtu : ∀ (q N : Nat), 8 * q ≤ N → ∀ (a0 : zjh), ∀ (r : (Ow Int) × Int), zls q a0 = some r → (orc T N).deep F.zls [zjh.enc a0] = some [(Ow.enc 1 (V.int .u8)) r.1, (V.int .i64) r.2] := by
 intro q N hM a0 r h
 rcases q with _ | q
 ·cases h
 obtain ⟨M, rfl⟩ : ∃ M, N = M + 8 := ⟨N - 8, by omega⟩
 have ih_snapshot_Encode_l0 := (zbtt q).1
 generalize hR : some [(Ow.enc 1 (V.int .u8)) r.1, (V.int .i64) r.2] = R
 rw [zhs, zbed, y4, zhq]
 rw [zls] at h
 replace h := ob h; obtain ⟨r1, h1, h⟩ := h
 replace h1 := zbo1 q (M + 7) (by omega) _ _ h1
 try simp only [kf, simprocAttr] at h1
 replace h := bb h; rcases h with ⟨h2', h2, h⟩ | ⟨h2', h2, h⟩
 ·replace h := ob h; obtain ⟨r2, h3, h⟩ := h
  replace h3 := zbtl q (M + 7) (by omega) _ _ h3
  try simp only [kf, simprocAttr] at h3
  replace h := ob h; obtain ⟨r3, h4, h⟩ := h
  replace h4 := zbr7 q (M + 7) (by omega) _ _ _ h4
  try simp only [kf, simprocAttr] at h4
  replace h := ob h; obtain ⟨r4, h5, h⟩ := h
  replace h5 := zbr7 q (M + 7) (by omega) _ _ _ h5
  try simp only [kf, simprocAttr] at h5
  replace h := ob h; obtain ⟨r5, h6, h⟩ := h
  replace h6 := zbr7 q (M + 7) (by omega) _ _ _ h6
  try simp only [kf, simprocAttr] at h6
  replace h := ob h; obtain ⟨r6, h7, h⟩ := h
  replace h7 := zbre q (M + 7) (by omega) _ _ h7
  try simp only [kf, simprocAttr] at h7
  replace h := ob h; obtain ⟨r7, h8, h⟩ := h
  replace h8 := zbrl q (M + 7) (by omega) _ _ h8
  try simp only [kf, simprocAttr] at h8
  replace h := bn h; obtain ⟨h9, h⟩ := h
  replace h := ob h; obtain ⟨r8, h10, h⟩ := h
  replace h10 := zbtn q (M + 7) (by omega) _ _ h10
  try simp only [kf, simprocAttr] at h10
  replace h := ih_snapshot_Encode_l0 M (by omega) (M + 7) (by omega) _ _ _ _ _ _ _ h R hR
  simp only [zbtq, simprocAttr, *]
 ·cases h; subst hR; simp only [zbtq, simprocAttr, *]
def zbtv := And.intro @kk <| And.intro @ke <| And.intro @kn <| And.intro @zbgi <| And.intro @zbgg <| And.intro @zbgp <| @zbgk
theorem zbtw : ∀ (q N : Nat), 8 * q ≤ N → ∀ (r : Bool), zlt q = some r → (orc T N).deep F.zlt [] = some [V.bool r] := by
 intro q N hM r h
 rcases q with _ | q
 ·cases h
 obtain ⟨M, rfl⟩ : ∃ M, N = M + 8 := ⟨N - 8, by omega⟩
 generalize hR : some [V.bool r] = R
 rw [zhs, zbeb, y4, zhq]
 rw [zlt] at h
 replace h := ob h; obtain ⟨r1, h1, h⟩ := h
 replace h1 := zbqk q (M + 7) (by omega) _ _ _ h1
 try simp only [kf, simprocAttr] at h1
 replace h := ob h; obtain ⟨r2, h2, h⟩ := h
 replace h2 := zbtu q (M + 7) (by omega) _ _ h2
 try simp only [kf, simprocAttr] at h2
 replace h := br h; rcases h with ⟨h3, h⟩ | ⟨h3, h⟩
 ·replace h := br h; rcases h with ⟨h4, h⟩ | ⟨h4, h⟩
  ·replace h := br h; rcases h with ⟨h5, h⟩ | ⟨h5, h⟩
   ·replace h := br h; rcases h with ⟨h6, h⟩ | ⟨h6, h⟩
    ·replace h := br h; rcases h with ⟨h7, h⟩ | ⟨h7, h⟩
     ·replace h := ob h; obtain ⟨e3, h8, h⟩ := h
      replace h := br h; rcases h with ⟨h9, h⟩ | ⟨h9, h⟩
      ·replace h := br h; rcases h with ⟨h10, h⟩ | ⟨h10, h⟩
       ·replace h := br h; rcases h with ⟨h11, h⟩ | ⟨h11, h⟩
        ·replace h := br h; rcases h with ⟨h12, h⟩ | ⟨h12, h⟩
         ·replace h := ob h; obtain ⟨e4, h13, h⟩ := h
          cases h; subst hR; simp only [zbtv, simprocAttr, *]
         ·cases h; subst hR; simp only [zbtv, simprocAttr, *]
        ·cases h; subst hR; simp only [zbtv, simprocAttr, *]
       ·cases h; subst hR; simp only [zbtv, simprocAttr, *]
      ·cases h; subst hR; simp only [zbtv, simprocAttr, *]
     ·cases h; subst hR; simp only [zbtv, simprocAttr, *]
    ·cases h; subst hR; simp only [zbtv, simprocAttr, *]
   ·cases h; subst hR; simp only [zbtv, simprocAttr, *]
  ·cases h; subst hR; simp only [zbtv, simprocAttr, *]
 ·cases h; subst hR; simp only [zbtv, simprocAttr, *]
def zbtx (q : Nat) : Prop := ∀ (M : Nat) (hM : 8 * q ≤ M) (j : Nat) (hj : q ≤ j) (v0z : Bool) (v0l : List Int) (v3 : Int) (h0z : Bool) (h0l : List (Sl Int)) (r : (Ow (Sl Int)) × Int × Int) (_ : zlu q v0z v0l v3 h0z h0l = some r) (R : Option (List V)) (_ : some [(Ow.enc 1 (Sl.enc (V.int .u8))) r.1, (V.int .i64) r.2.1, (V.int .i64) r.2.2] = R) (fr : Fr) (H : Hp) (_ : canon 0 [0, 2, 3] fr H = ([(0, (.sl v0z (List.map (V.int .u8) v0l))), (2, (.vw 0 0 0 h0l.length 1)), (3, (.int .i64 v3))], [(.row 0 h0z 1 (List.map (Sl.enc (V.int .u8)) h0l) true)])), fin z42 (unw T (orc T (M + 7)) (M + 7) 0 [.blk 0, .code z4z] (iter 0 [0, 2, 3] (exec T (orc T (M + 7)) (M + 7) 0 z4x) j fr H)) = R
def zbty := And.intro @kk <| And.intro @ke <| And.intro @kn <| And.intro @zbki <| And.intro @zbha <| @zbkk
theorem zbtz (q : Nat) (zbu2 : zbtx q) : zbtx (q + 1) := by
 intro M hM j hj v0z v0l v3 h0z h0l r h R hR fr H hc
 obtain ⟨j, rfl⟩ : ∃ i, j = i + 1 := ⟨j - 1, by omega⟩
 rw [zhj, hc]; clear hc
 rw [zlu] at h
 replace h := br h; rcases h with ⟨h1, h⟩ | ⟨h1, h⟩
 ·replace h := bn h; obtain ⟨h2, h⟩ := h
  replace h := bn h; obtain ⟨h3, h⟩ := h
  replace h := ob h; obtain ⟨r1, h4, h⟩ := h
  replace h4 := zbrw q (M + 7) (by omega) _ _ h4
  try simp only [kf, simprocAttr] at h4
  replace h := br h; rcases h with ⟨h5, h⟩ | ⟨h5, h⟩
  ·replace h := bn h; obtain ⟨h6, h⟩ := h
   replace h := zbu2 M (by omega) j (by omega) _ _ _ _ _ _ h R hR
   simp only [zbty, simprocAttr, *]
  ·cases h; subst hR; simp only [zbty, simprocAttr, *]
 ·cases h; subst hR; simp only [zbty, simprocAttr, *]
theorem zbt0 : ∀ q, zbtx q
 | 0 => by intro M hM j hj; intros; rename_i h _ _ _ _ _; cases h
 | q + 1 => by have i0 := zbt0 q; exact zbtz q i0
theorem zbt1 : ∀ (q N : Nat), 8 * q ≤ N → ∀ (a0 : (Sl Int)), ∀ (r : (Ow (Sl Int)) × Int × Int), zlv q a0 = some r → (orc T N).deep F.zlv [(Sl.enc (V.int .u8)) a0] = some [(Ow.enc 1 (Sl.enc (V.int .u8))) r.1, (V.int .i64) r.2.1, (V.int .i64) r.2.2] := by
 intro q N hM a0 r h
 rcases q with _ | q
 ·cases h
 obtain ⟨M, rfl⟩ : ∃ M, N = M + 8 := ⟨N - 8, by omega⟩
 have zbu2 := (zbt0 q)
 generalize hR : some [(Ow.enc 1 (Sl.enc (V.int .u8))) r.1, (V.int .i64) r.2.1, (V.int .i64) r.2.2] = R
 rw [zhs, zbfn, y4, zhq]
 rw [zlv] at h
 replace h := zbu2 M (by omega) (M + 7) (by omega) _ _ _ _ _ _ h R hR
 simp only [zbty, simprocAttr, *]
def zbt2 := And.intro @kk <| And.intro @ke <| And.intro @kn <| And.intro @zbif <| And.intro @zbkj <| @zbih
theorem zbt3 : ∀ (q N : Nat), 8 * q ≤ N → ∀ (a0 : (Sl Int)), ∀ (r : (Ow (Sl Int)) × Int), zlw q a0 = some r → (orc T N).deep F.zlw [(Sl.enc (V.int .u8)) a0] = some [(Ow.enc 1 (Sl.enc (V.int .u8))) r.1, (V.int .i64) r.2] := by
 intro q N hM a0 r h
 rcases q with _ | q
 ·cases h
 obtain ⟨M, rfl⟩ : ∃ M, N = M + 8 := ⟨N - 8, by omega⟩
 generalize hR : some [(Ow.enc 1 (Sl.enc (V.int .u8))) r.1, (V.int .i64) r.2] = R
 rw [zhs, zbey, y4, zhq]
 rw [zlw] at h
 replace h := ob h; obtain ⟨r1, h1, h⟩ := h
 replace h1 := zbt1 q (M + 7) (by omega) _ _ h1
 try simp only [kf, simprocAttr] at h1
 replace h := br h; rcases h with ⟨h2, h⟩ | ⟨h2, h⟩
 ·cases h; subst hR; simp only [zbt2, simprocAttr, *]
 ·cases h; subst hR; simp only [zbt2, simprocAttr, *]
def zbt4 (q : Nat) : Prop := ∀ (M : Nat) (hM : 8 * q ≤ M) (j : Nat) (hj : q ≤ j) (v0z : Bool) (v0l : List Int) (v3 v7 v8 r : Int) (_ : zlx q v0z v0l v3 v7 v8 = some r) (R : Option (List V)) (_ : some [(V.int .u64) r] = R) (fr : Fr) (H : Hp) (_ : canon 0 [0, 3, 7, 8] fr H = ([(0, (.sl v0z (List.map (V.int .u8) v0l))), (3, (.int .u64 v3)), (7, (.int .i64 v7)), (8, (.int .i64 v8))], [])), fin z5l (unw T (orc T (M + 7)) (M + 7) 0 [.blk 0, .code z5h] (iter 0 [0, 3, 7, 8] (exec T (orc T (M + 7)) (M + 7) 0 z5e) j fr H)) = R
def zbt5 := And.intro @kk <| And.intro @ke <| And.intro @kn <| And.intro @zbkl <| @zbkn
theorem zbt6 (q : Nat) (zbu3 : zbt4 q) : zbt4 (q + 1) := by
 intro M hM j hj v0z v0l v3 v7 v8 r h R hR fr H hc
 obtain ⟨j, rfl⟩ : ∃ i, j = i + 1 := ⟨j - 1, by omega⟩
 rw [zhj, hc]; clear hc
 rw [zlx] at h
 replace h := br h; rcases h with ⟨h1, h⟩ | ⟨h1, h⟩
 ·replace h := bn h; obtain ⟨h2, h⟩ := h
  replace h := ob h; obtain ⟨e1, h3, h⟩ := h
  replace h := bm h; obtain ⟨h4, h⟩ := h
  replace h := zbu3 M (by omega) j (by omega) _ _ _ _ _ _ h R hR
  simp only [zbt5, simprocAttr, *]
 ·cases h; subst hR; simp only [zbt5, simprocAttr, *]
theorem zbt7 : ∀ q, zbt4 q
 | 0 => by intro M hM j hj; intros; rename_i h _ _ _ _ _; cases h
 | q + 1 => by have i0 := zbt7 q; exact zbt6 q i0
theorem zbt8 : ∀ (q N : Nat), 8 * q ≤ N → ∀ (a0 : (Sl Int)), ∀ (r : Int), zly q a0 = some r → (orc T N).deep F.zly [(Sl.enc (V.int .u8)) a0] = some [(V.int .u64) r] := by
 intro q N hM a0 r h
 rcases q with _ | q
 ·cases h
 obtain ⟨M, rfl⟩ : ∃ M, N = M + 8 := ⟨N - 8, by omega⟩
 have zbu3 := (zbt7 q)
 generalize hR : some [(V.int .u64) r] = R
 rw [zhs, zbfo, y4, zhq]
 rw [zly] at h
 replace h := zbu3 M (by omega) (M + 7) (by omega) _ _ _ _ _ _ h R hR
 simp only [zbt5, simprocAttr, *]
def zbt9 := And.intro @kk <| And.intro @ke <| And.intro @kn <| And.intro @zbii <| And.intro @zbjs <| And.intro @zbkm <| @zbik
theorem zbua : ∀ (q N : Nat), 8 * q ≤ N → ∀ (a0 : (Sl Int)), ∀ (r : zjl × Int), zlz q a0 = some r → (orc T N).deep F.zlz [(Sl.enc (V.int .u8)) a0] = some [zjl.enc r.1, (V.int .i64) r.2] := by
 intro q N hM a0 r h
 rcases q with _ | q
 ·cases h
 obtain ⟨M, rfl⟩ : ∃ M, N = M + 8 := ⟨N - 8, by omega⟩
 generalize hR : some [zjl.enc r.1, (V.int .i64) r.2] = R
 rw [zhs, zbez, y4, zhq]
 rw [zlz] at h
 replace h := br h; rcases h with ⟨h1, h⟩ | ⟨h1, h⟩
 ·cases h; subst hR; simp only [zbt9, simprocAttr, *]
 ·replace h := ob h; obtain ⟨e1, h2, h⟩ := h
  replace h := br h; rcases h with ⟨h3, h⟩ | ⟨h3, h⟩
  ·replace h := bn h; obtain ⟨h4, h⟩ := h
   replace h := ob h; obtain ⟨r2, h5, h⟩ := h
   replace h5 := zbq0 q (M + 7) (by omega) _ _ h5
   try simp only [kf, simprocAttr] at h5
   replace h := bn h; obtain ⟨h6, h⟩ := h
   replace h := bn h; obtain ⟨h7, h⟩ := h
   replace h := ob h; obtain ⟨r3, h8, h⟩ := h
   replace h8 := zbq0 q (M + 7) (by omega) _ _ h8
   try simp only [kf, simprocAttr] at h8
   replace h := bn h; obtain ⟨h9, h⟩ := h
   replace h := bn h; obtain ⟨h10, h⟩ := h
   replace h := ob h; obtain ⟨r4, h11, h⟩ := h
   replace h11 := zbq0 q (M + 7) (by omega) _ _ h11
   try simp only [kf, simprocAttr] at h11
   replace h := bn h; obtain ⟨h12, h⟩ := h
   replace h := bn h; obtain ⟨h13, h⟩ := h
   replace h := br h; rcases h with ⟨h14, h⟩ | ⟨h14, h⟩
   ·cases h; subst hR; simp only [zbt9, simprocAttr, *]
   ·replace h := br h; rcases h with ⟨h15, h⟩ | ⟨h15, h⟩
    ·cases h; subst hR; simp only [zbt9, simprocAttr, *]
    ·replace h := br h; rcases h with ⟨h16, h⟩ | ⟨h16, h⟩
     ·cases h; subst hR; simp only [zbt9, simprocAttr, *]
     ·replace h := br h; rcases h with ⟨h17, h⟩ | ⟨h17, h⟩
      ·replace h := br h; rcases h with ⟨h18, h⟩ | ⟨h18, h⟩
       ·replace h := ob h; obtain ⟨r5, h19, h⟩ := h
        replace h19 := zbt8 q (M + 7) (by omega) _ _ h19
        try simp only [kf, simprocAttr] at h19
        cases h; subst hR; simp only [zbt9, simprocAttr, *]
       ·cases h; subst hR; simp only [zbt9, simprocAttr, *]
      ·cases h; subst hR; simp only [zbt9, simprocAttr, *]
  ·cases h; subst hR; simp only [zbt9, simprocAttr, *]
def zbub (q : Nat) : Prop := ∀ (M : Nat) (hM : 8 * q ≤ M) (j : Nat) (hj : q ≤ j) (v0z : Bool) (v0l : List (Sl Int)) (v5z : Bool) (v5l : List (Sl Int)) (v6 v7 : Int) (r : Bool) (_ : zl0 q v0z v0l v5z v5l v6 v7 = some r) (R : Option (List V)) (_ : some [V.bool r] = R) (fr : Fr) (H : Hp) (_ : canon 0 [0, 5, 6, 7] fr H = ([(0, (.sl v0z (List.map (Sl.enc (V.int .u8)) v0l))), (5, (.sl v5z (List.map (Sl.enc (V.int .u8)) v5l))), (6, (.int .i64 v6)), (7, (.int .i64 v7))], [])), fin zvm (unw T (orc T (M + 7)) (M + 7) 0 [.blk 0, .code zvj] (iter 0 [0, 5, 6, 7] (exec T (orc T (M + 7)) (M + 7) 0 zvg) j fr H)) = R
def zbuc := And.intro @kk <| And.intro @ke <| And.intro @kn <| And.intro @zbio <| @zbiq
theorem zbud (q : Nat) (zbu4 : zbub q) : zbub (q + 1) := by
 intro M hM j hj v0z v0l v5z v5l v6 v7 r h R hR fr H hc
 obtain ⟨j, rfl⟩ : ∃ i, j = i + 1 := ⟨j - 1, by omega⟩
 rw [zhj, hc]; clear hc
 rw [zl0] at h
 replace h := br h; rcases h with ⟨h1, h⟩ | ⟨h1, h⟩
 ·replace h := bn h; obtain ⟨h2, h⟩ := h
  replace h := ob h; obtain ⟨e1, h3, h⟩ := h
  replace h := br h; rcases h with ⟨h4, h⟩ | ⟨h4, h⟩
  ·cases h; subst hR; simp only [zbuc, simprocAttr, *]
  ·replace h := br h; rcases h with ⟨h5, h⟩ | ⟨h5, h⟩
   ·cases h; subst hR; simp only [zbuc, simprocAttr, *]
   ·replace h := br h; rcases h with ⟨h6, h⟩ | ⟨h6, h⟩
    ·replace h := br h; rcases h with ⟨h7, h⟩ | ⟨h7, h⟩
     ·cases h; subst hR; simp only [zbuc, simprocAttr, *]
     ·replace h := zbu4 M (by omega) j (by omega) _ _ _ _ _ _ _ h R hR
      simp only [zbuc, simprocAttr, *]
    ·replace h := zbu4 M (by omega) j (by omega) _ _ _ _ _ _ _ h R hR
     simp only [zbuc, simprocAttr, *]
 ·cases h; subst hR; simp only [zbuc, simprocAttr, *]
theorem zbue : ∀ q, zbub q
 | 0 => by intro M hM j hj; intros; rename_i h _ _ _ _ _; cases h
 | q + 1 => by have i0 := zbue q; exact zbud q i0
theorem zbuf : ∀ (q N : Nat), 8 * q ≤ N → ∀ (a0 : (Sl (Sl Int))), ∀ (r : Bool), zl1 q a0 = some r → (orc T N).deep F.zl1 [(Sl.enc (Sl.enc (V.int .u8))) a0] = some [V.bool r] := by
 intro q N hM a0 r h
 rcases q with _ | q
 ·cases h
 obtain ⟨M, rfl⟩ : ∃ M, N = M + 8 := ⟨N - 8, by omega⟩
 have zbu4 := (zbue q)
 generalize hR : some [V.bool r] = R
 rw [zhs, zbe1, y4, zhq]
 rw [zl1] at h
 replace h := zbu4 M (by omega) (M + 7) (by omega) _ _ _ _ _ _ _ h R hR
 simp only [zbuc, simprocAttr, *]
def zbug (q : Nat) : Prop := ∀ (M : Nat) (hM : 8 * q ≤ M) (j : Nat) (hj : q ≤ j) (v42 : Int) (h1_0z : Bool) (h1_0l : List Int) (h2_0 : Bool) (h3_0 : Int) (h3_2 : Bool) (h3_3 : Int) (r : zjf × Int) (_ : zl3 q v42 h1_0z h1_0l h2_0 h3_0 h3_2 h3_3 = some r) (R : Option (List V)) (_ : some [zjf.enc r.1, (V.int .i64) r.2] = R) (fr : Fr) (H : Hp) (_ : canon 0 [2, 4, 5, 6, 10, 42, 43] fr H = ([(2, (.ptr 0 0)), (4, (.fn F.zmm [(.ptr 1 0), (.ptr 2 0)])), (5, (.fn F.zmn [(.ptr 2 0)])), (6, (.fn F.zmo [(.ptr 1 0)])), (10, (.ptr 3 0)), (42, (.int .i64 v42)), (43, (.int .i64 0))], [(.box [(.int .i64 0), (.sl true []), (.bool false), (.int .i64 0)]), (.box [(.sl h1_0z (List.map (V.int .u8) h1_0l))]), (.box [(.bool h2_0)]), (.box [(.int .i64 h3_0), (.sl true []), (.bool h3_2), (.int .i64 h3_3)])])), fin z6z (unw T (orc T (M + 7)) (M + 7) 0 [.blk 0, .code z6q] (iter 0 [2, 4, 5, 6, 10, 42, 43] (exec T (orc T (M + 7)) (M + 7) 0 z6g) j fr H)) = R
def zbuh (q : Nat) : Prop := ∀ (M : Nat) (hM : 8 * q ≤ M) (j : Nat) (hj : q ≤ j) (v42 v43 : Int) (h1_0z : Bool) (h1_0l : List Int) (h2_0 : Bool) (h3_0 : Int) (h3_2 : Bool) (h3_3 : Int) (h4l : List Int) (r : zjf × Int) (_ : zl2 q v42 v43 h1_0z h1_0l h2_0 h3_0 h3_2 h3_3 h4l = some r) (R : Option (List V)) (_ : some [zjf.enc r.1, (V.int .i64) r.2] = R) (fr : Fr) (H : Hp) (_ : canon 0 [2, 4, 5, 6, 10, 42, 43] fr H = ([(2, (.ptr 0 0)), (4, (.fn F.zmm [(.ptr 1 0), (.ptr 2 0)])), (5, (.fn F.zmn [(.ptr 2 0)])), (6, (.fn F.zmo [(.ptr 1 0)])), (10, (.ptr 3 0)), (42, (.int .i64 v42)), (43, (.int .i64 v43))], [(.box [(.int .i64 0), (.sl true []), (.bool false), (.int .i64 0)]), (.box [(.sl h1_0z (List.map (V.int .u8) h1_0l))]), (.box [(.bool h2_0)]), (.box [(.int .i64 h3_0), (.vw 4 0 0 h4l.length 1), (.bool h3_2), (.int .i64 h3_3)]), (.row 0 false 1 (List.map (V.int .i64) h4l) true)])), fin z6z (unw T (orc T (M + 7)) (M + 7) 0 [.blk 0, .code z6q] (iter 0 [2, 4, 5, 6, 10, 42, 43] (exec T (orc T (M + 7)) (M + 7) 0 z6g) j fr H)) = R
def zbui := And.intro @kk <| And.intro @ke <| And.intro @kn <| And.intro @zbkr <| And.intro @zblu <| And.intro @zbl3 <| And.intro @zbl6 <| And.intro @zbl9 <| And.intro @zbgy <| And.intro @zbjs <| And.intro @zblm <| And.intro @zblv <| And.intro @zblw <| And.intro @zbl4 <| And.intro @zbl5 <| And.intro @zbl7 <| And.intro @zbl8 <| And.intro @zbma <| And.intro @zbmb <| @zbkt
theorem zbuj (q : Nat) (zbu5 : zbuh q) : zbug (q + 1) := by
 intro M hM j hj v42 h1_0z h1_0l h2_0 h3_0 h3_2 h3_3 r h R hR fr H hc
 obtain ⟨j, rfl⟩ : ∃ i, j = i + 1 := ⟨j - 1, by omega⟩
 rw [zhj, hc]; clear hc
 rw [zl3] at h
 replace h := br h; rcases h with ⟨h1, h⟩ | ⟨h1, h⟩
 ·replace h := ob h; obtain ⟨r5, h2, h⟩ := h
  replace h2 := zbr0 q (M + 6) (by omega) _ _ h2
  try simp only [kf, simprocAttr] at h2
  replace h := bb h; rcases h with ⟨h3', h3, h⟩ | ⟨h3', h3, h⟩
  ·replace h := bn h; obtain ⟨h4, h⟩ := h
   replace h := bn h; obtain ⟨h5, h⟩ := h
   replace h := zbu5 M (by omega) j (by omega) _ _ _ _ _ _ _ _ _ _ h R hR
   simp only [zbui, simprocAttr, *]
  ·replace h := bn h; obtain ⟨h6, h⟩ := h
   replace h := bn h; obtain ⟨h7, h⟩ := h
   replace h := zbu5 M (by omega) j (by omega) _ _ _ _ _ _ _ _ _ _ h R hR
   simp only [zbui, simprocAttr, *]
 ·replace h := bb h; rcases h with ⟨h8', h8, h⟩ | ⟨h8', h8, h⟩
  ·replace h := br h; rcases h with ⟨h9, h⟩ | ⟨h9, h⟩
   ·cases h; subst hR; simp only [zbui, simprocAttr, *]
   ·replace h := ob h; obtain ⟨r6, h10, h⟩ := h
    replace h10 := zbos q (M + 7) (by omega) _ _ h10
    try simp only [kf, simprocAttr] at h10
    replace h := bb h; rcases h with ⟨h11', h11, h⟩ | ⟨h11', h11, h⟩
    ·cases h; subst hR; simp only [zbui, simprocAttr, *]
    ·cases h; subst hR; simp only [zbui, simprocAttr, *]
  ·cases h; subst hR; simp only [zbui, simprocAttr, *]
theorem zbuk (q : Nat) (zbu5 : zbuh q) : zbuh (q + 1) := by
 intro M hM j hj v42 v43 h1_0z h1_0l h2_0 h3_0 h3_2 h3_3 h4l r h R hR fr H hc
 obtain ⟨j, rfl⟩ : ∃ i, j = i + 1 := ⟨j - 1, by omega⟩
 rw [zhj, hc]; clear hc
 rw [zl2] at h
 replace h := br h; rcases h with ⟨h1, h⟩ | ⟨h1, h⟩
 ·replace h := ob h; obtain ⟨r7, h2, h⟩ := h
  replace h2 := zbr0 q (M + 6) (by omega) _ _ h2
  try simp only [kf, simprocAttr] at h2
  replace h := bb h; rcases h with ⟨h3', h3, h⟩ | ⟨h3', h3, h⟩
  ·replace h := bn h; obtain ⟨h4, h⟩ := h
   replace h := bn h; obtain ⟨h5, h⟩ := h
   replace h := bn h; obtain ⟨h6, h⟩ := h
   replace h := zbu5 M (by omega) j (by omega) _ _ _ _ _ _ _ _ _ _ h R hR
   simp only [zbui, simprocAttr, *]
  ·replace h := bn h; obtain ⟨h7, h⟩ := h
   replace h := bn h; obtain ⟨h8, h⟩ := h
   replace h := bn h; obtain ⟨h9, h⟩ := h
   replace h := zbu5 M (by omega) j (by omega) _ _ _ _ _ _ _ _ _ _ h R hR
   simp only [zbui, simprocAttr, *]
 ·replace h := bb h; rcases h with ⟨h10', h10, h⟩ | ⟨h10', h10, h⟩
  ·replace h := br h; rcases h with ⟨h11, h⟩ | ⟨h11, h⟩
   ·cases h; subst hR; simp only [zbui, simprocAttr, *]
   ·replace h := ob h; obtain ⟨r8, h12, h⟩ := h
    replace h12 := zbos q (M + 7) (by omega) _ _ h12
    try simp only [kf, simprocAttr] at h12
    replace h := bb h; rcases h with ⟨h13', h13, h⟩ | ⟨h13', h13, h⟩
    ·cases h; subst hR; simp only [zbui, simprocAttr, *]
    ·cases h; subst hR; simp only [zbui, simprocAttr, *]
  ·cases h; subst hR; simp only [zbui, simprocAttr, *]
theorem zbul : ∀ q, zbug q ∧ zbuh q
 | 0 => by refine ⟨?_, ?_⟩ <;> (intro M hM j hj; intros; rename_i h _ _ _ _ _; cases h)
 | q + 1 => by have ⟨i0, i1⟩ := zbul q; exact ⟨zbuj q i1, zbuk q i1⟩
theorem zbum : ∀ (q N : Nat), 8 * q ≤ N → ∀ (a0 : (Sl Int)), ∀ (r : zjf × Int), zl4 q a0 = some r → (orc T N).deep F.zl4 [(Sl.enc (V.int .u8)) a0] = some [zjf.enc r.1, (V.int .i64) r.2] := by
 intro q N hM a0 r h
 rcases q with _ | q
 ·cases h
 obtain ⟨M, rfl⟩ : ∃ M, N = M + 8 := ⟨N - 8, by omega⟩
 have ih_codec_DecodeState_l0 := (zbul q).1
 generalize hR : some [zjf.enc r.1, (V.int .i64) r.2] = R
 rw [zhs, zbfq, y4, zhq]
 rw [zl4] at h
 replace h := ob h; obtain ⟨r1, h1, h⟩ := h
 replace h1 := zbq0 q (M + 6) (by omega) _ _ h1
 try simp only [kf, simprocAttr] at h1
 replace h := bn h; obtain ⟨h2, h⟩ := h
 replace h := bn h; obtain ⟨h3, h⟩ := h
 replace h := ob h; obtain ⟨r2, h4, h⟩ := h
 replace h4 := zbq0 q (M + 6) (by omega) _ _ h4
 try simp only [kf, simprocAttr] at h4
 replace h := br h; rcases h with ⟨h5, h⟩ | ⟨h5, h⟩
 ·replace h := bn h; obtain ⟨h6, h⟩ := h
  replace h := bn h; obtain ⟨h7, h⟩ := h
  replace h := ob h; obtain ⟨r3, h8, h⟩ := h
  replace h8 := zbq0 q (M + 6) (by omega) _ _ h8
  try simp only [kf, simprocAttr] at h8
  replace h := br h; rcases h with ⟨h9, h⟩ | ⟨h9, h⟩
  ·replace h := bn h; obtain ⟨h10, h⟩ := h
   replace h := bn h; obtain ⟨h11, h⟩ := h
   replace h := br h; rcases h with ⟨h12, h⟩ | ⟨h12, h⟩
   ·replace h := br h; rcases h with ⟨h13, h⟩ | ⟨h13, h⟩
    ·cases h; subst hR; simp only [zbui, simprocAttr, *]
    ·replace h := br h; rcases h with ⟨h14, h⟩ | ⟨h14, h⟩
     ·cases h; subst hR; simp only [zbui, simprocAttr, *]
     ·replace h := ih_codec_DecodeState_l0 M (by omega) (M + 7) (by omega) _ _ _ _ _ _ _ _ h R hR
      simp only [zbui, simprocAttr, *]
   ·cases h; subst hR; simp only [zbui, simprocAttr, *]
  ·replace h := bn h; obtain ⟨h15, h⟩ := h
   replace h := bn h; obtain ⟨h16, h⟩ := h
   cases h; subst hR; simp only [zbui, simprocAttr, *]
 ·replace h := bn h; obtain ⟨h17, h⟩ := h
  replace h := bn h; obtain ⟨h18, h⟩ := h
  replace h := ob h; obtain ⟨r4, h19, h⟩ := h
  replace h19 := zbq0 q (M + 6) (by omega) _ _ h19
  try simp only [kf, simprocAttr] at h19
  replace h := bn h; obtain ⟨h20, h⟩ := h
  replace h := bn h; obtain ⟨h21, h⟩ := h
  cases h; subst hR; simp only [zbui, simprocAttr, *]
def zbun := And.intro @kk <| And.intro @ke <| And.intro @kn <| And.intro @zbku <| And.intro @zbjs <| And.intro @zblm <| @zbkw
theorem zbuo : ∀ (q N : Nat), 8 * q ≤ N → ∀ (a0 : (Sl Int)), ∀ (r : zjg × Int), zl5 q a0 = some r → (orc T N).deep F.zl5 [(Sl.enc (V.int .u8)) a0] = some [zjg.enc r.1, (V.int .i64) r.2] := by
 intro q N hM a0 r h
 rcases q with _ | q
 ·cases h
 obtain ⟨M, rfl⟩ : ∃ M, N = M + 8 := ⟨N - 8, by omega⟩
 generalize hR : some [zjg.enc r.1, (V.int .i64) r.2] = R
 rw [zhs, zbfr, y4, zhq]
 rw [zl5] at h
 replace h := ob h; obtain ⟨r1, h1, h⟩ := h
 replace h1 := zbq0 q (M + 7) (by omega) _ _ h1
 try simp only [kf, simprocAttr] at h1
 replace h := bn h; obtain ⟨h2, h⟩ := h
 replace h := bn h; obtain ⟨h3, h⟩ := h
 replace h := ob h; obtain ⟨r2, h4, h⟩ := h
 replace h4 := zbq0 q (M + 7) (by omega) _ _ h4
 try simp only [kf, simprocAttr] at h4
 replace h := bn h; obtain ⟨h5, h⟩ := h
 replace h := bn h; obtain ⟨h6, h⟩ := h
 replace h := ob h; obtain ⟨r3, h7, h⟩ := h
 replace h7 := zbr0 q (M + 7) (by omega) _ _ h7
 try simp only [kf, simprocAttr] at h7
 replace h := br h; rcases h with ⟨h8, h⟩ | ⟨h8, h⟩
 ·cases h; subst hR; simp only [zbun, simprocAttr, *]
 ·replace h := br h; rcases h with ⟨h9, h⟩ | ⟨h9, h⟩
  ·cases h; subst hR; simp only [zbun, simprocAttr, *]
  ·replace h := br h; rcases h with ⟨h10, h⟩ | ⟨h10, h⟩
   ·cases h; subst hR; simp only [zbun, simprocAttr, *]
   ·cases h; subst hR; simp only [zbun, simprocAttr, *]
def zbup (q : Nat) : Prop := ∀ (M : Nat) (hM : 8 * q ≤ M) (j : Nat) (hj : q ≤ j) (v0z : Bool) (v0l : List Int) (v3 v62 h1_0 : Int) (h1_1z : Bool) (h1_1l : List Int) (h1_2 : Bool) (h1_3 : Int) (r : zjh × Int) (_ : zl7 q v0z v0l v3 v62 h1_0 h1_1z h1_1l h1_2 h1_3 = some r) (R : Option (List V)) (_ : some [zjh.enc r.1, (V.int .i64) r.2] = R) (fr : Fr) (H : Hp) (_ : canon 0 [0, 2, 3, 6, 62, 63] fr H = ([(0, (.sl v0z (List.map (V.int .u8) v0l))), (2, (.ptr 0 0)), (3, (.int .i64 v3)), (6, (.ptr 1 0)), (62, (.int .i64 v62)), (63, (.int .i64 0))], [(.box [(.int .i64 0), (.int .i64 0), (.sl true []), (.bool false), (.int .i64 0), (.sl true [])]), (.box [(.int .i64 h1_0), (.sl h1_1z (List.map (V.int .i64) h1_1l)), (.bool h1_2), (.int .i64 h1_3)])])), fin zwq (unw T (orc T (M + 7)) (M + 7) 0 [.blk 0, .code zwf] (iter 0 [0, 2, 3, 6, 62, 63] (exec T (orc T (M + 7)) (M + 7) 0 zv6) j fr H)) = R
def zbuq (q : Nat) : Prop := ∀ (M : Nat) (hM : 8 * q ≤ M) (j : Nat) (hj : q ≤ j) (v0z : Bool) (v0l : List Int) (v3 v62 v63 h1_0 : Int) (h1_1z : Bool) (h1_1l : List Int) (h1_2 : Bool) (h1_3 : Int) (h2l : List zjg) (r : zjh × Int) (_ : zl6 q v0z v0l v3 v62 v63 h1_0 h1_1z h1_1l h1_2 h1_3 h2l = some r) (R : Option (List V)) (_ : some [zjh.enc r.1, (V.int .i64) r.2] = R) (fr : Fr) (H : Hp) (_ : canon 0 [0, 2, 3, 6, 62, 63] fr H = ([(0, (.sl v0z (List.map (V.int .u8) v0l))), (2, (.ptr 0 0)), (3, (.int .i64 v3)), (6, (.ptr 1 0)), (62, (.int .i64 v62)), (63, (.int .i64 v63))], [(.box [(.int .i64 0), (.int .i64 0), (.sl true []), (.bool false), (.int .i64 0), (.vw 2 0 0 h2l.length 1)]), (.box [(.int .i64 h1_0), (.sl h1_1z (List.map (V.int .i64) h1_1l)), (.bool h1_2), (.int .i64 h1_3)]), (.row 0 false 3 (List.map zjg.enc h2l) true)])), fin zwq (unw T (orc T (M + 7)) (M + 7) 0 [.blk 0, .code zwf] (iter 0 [0, 2, 3, 6, 62, 63] (exec T (orc T (M + 7)) (M + 7) 0 zv6) j fr H)) = R
def zbur := And.intro @kk <| And.intro @ke <| And.intro @kn <| And.intro @zbir <| And.intro @zbjs <| And.intro @zbks <| And.intro @zbkv <| @zbit
theorem zbus (q : Nat) (zbu6 : zbuq q) : zbup (q + 1) := by
 intro M hM j hj v0z v0l v3 v62 h1_0 h1_1z h1_1l h1_2 h1_3 r h R hR fr H hc
 obtain ⟨j, rfl⟩ : ∃ i, j = i + 1 := ⟨j - 1, by omega⟩
 rw [zhj, hc]; clear hc
 rw [zl7] at h
 replace h := br h; rcases h with ⟨h1, h⟩ | ⟨h1, h⟩
 ·replace h := ob h; obtain ⟨r4, h2, h⟩ := h
  replace h2 := zbuo q (M + 7) (by omega) _ _ h2
  try simp only [kf, simprocAttr] at h2
  replace h := br h; rcases h with ⟨h3, h⟩ | ⟨h3, h⟩
  ·cases h; subst hR; simp only [zbur, simprocAttr, *]
  ·replace h := bn h; obtain ⟨h4, h⟩ := h
   replace h := bn h; obtain ⟨h5, h⟩ := h
   replace h := zbu6 M (by omega) j (by omega) _ _ _ _ _ _ _ _ _ _ _ _ h R hR
   simp only [zbur, simprocAttr, *]
 ·replace h := br h; rcases h with ⟨h6, h⟩ | ⟨h6, h⟩
  ·cases h; subst hR; simp only [zbur, simprocAttr, *]
  ·cases h; subst hR; simp only [zbur, simprocAttr, *]
theorem zbut (q : Nat) (zbu6 : zbuq q) : zbuq (q + 1) := by
 intro M hM j hj v0z v0l v3 v62 v63 h1_0 h1_1z h1_1l h1_2 h1_3 h2l r h R hR fr H hc
 obtain ⟨j, rfl⟩ : ∃ i, j = i + 1 := ⟨j - 1, by omega⟩
 rw [zhj, hc]; clear hc
 rw [zl6] at h
 replace h := br h; rcases h with ⟨h1, h⟩ | ⟨h1, h⟩
 ·replace h := ob h; obtain ⟨r5, h2, h⟩ := h
  replace h2 := zbuo q (M + 7) (by omega) _ _ h2
  try simp only [kf, simprocAttr] at h2
  replace h := br h; rcases h with ⟨h3, h⟩ | ⟨h3, h⟩
  ·cases h; subst hR; simp only [zbur, simprocAttr, *]
  ·replace h := bn h; obtain ⟨h4, h⟩ := h
   replace h := bn h; obtain ⟨h5, h⟩ := h
   replace h := bn h; obtain ⟨h6, h⟩ := h
   replace h := zbu6 M (by omega) j (by omega) _ _ _ _ _ _ _ _ _ _ _ _ h R hR
   simp only [zbur, simprocAttr, *]
 ·replace h := br h; rcases h with ⟨h7, h⟩ | ⟨h7, h⟩
  ·cases h; subst hR; simp only [zbur, simprocAttr, *]
  ·cases h; subst hR; simp only [zbur, simprocAttr, *]
theorem zbuu : ∀ q, zbup q ∧ zbuq q
 | 0 => by refine ⟨?_, ?_⟩ <;> (intro M hM j hj; intros; rename_i h _ _ _ _ _; cases h)
 | q + 1 => by have ⟨i0, i1⟩ := zbuu q; exact ⟨zbus q i1, zbut q i1⟩
theorem zbuv : ∀ (q N : Nat), 8 * q ≤ N → ∀ (a0 : (Sl Int)), ∀ (r : zjh × Int), zl8 q a0 = some r → (orc T N).deep F.zl8 [(Sl.enc (V.int .u8)) a0] = some [zjh.enc r.1, (V.int .i64) r.2] := by
 intro q N hM a0 r h
 rcases q with _ | q
 ·cases h
 obtain ⟨M, rfl⟩ : ∃ M, N = M + 8 := ⟨N - 8, by omega⟩
 have ih_snapshot_read_l0 := (zbuu q).1
 generalize hR : some [zjh.enc r.1, (V.int .i64) r.2] = R
 rw [zhs, zbe2, y4, zhq]
 rw [zl8] at h
 replace h := ob h; obtain ⟨r1, h1, h⟩ := h
 replace h1 := zbq0 q (M + 7) (by omega) _ _ h1
 try simp only [kf, simprocAttr] at h1
 replace h := br h; rcases h with ⟨h2, h⟩ | ⟨h2, h⟩
 ·cases h; subst hR; simp only [zbur, simprocAttr, *]
 ·replace h := br h; rcases h with ⟨h3, h⟩ | ⟨h3, h⟩
  ·cases h; subst hR; simp only [zbur, simprocAttr, *]
  ·replace h := bn h; obtain ⟨h4, h⟩ := h
   replace h := bn h; obtain ⟨h5, h⟩ := h
   replace h := bn h; obtain ⟨h6, h⟩ := h
   replace h := ob h; obtain ⟨r2, h7, h⟩ := h
   replace h7 := zbum q (M + 7) (by omega) _ _ h7
   try simp only [kf, simprocAttr] at h7
   replace h := br h; rcases h with ⟨h8, h⟩ | ⟨h8, h⟩
   ·cases h; subst hR; simp only [zbur, simprocAttr, *]
   ·replace h := bn h; obtain ⟨h9, h⟩ := h
    replace h := bn h; obtain ⟨h10, h⟩ := h
    replace h := ob h; obtain ⟨r3, h11, h⟩ := h
    replace h11 := zbq0 q (M + 7) (by omega) _ _ h11
    try simp only [kf, simprocAttr] at h11
    replace h := br h; rcases h with ⟨h12, h⟩ | ⟨h12, h⟩
    ·cases h; subst hR; simp only [zbur, simprocAttr, *]
    ·replace h := br h; rcases h with ⟨h13, h⟩ | ⟨h13, h⟩
     ·cases h; subst hR; simp only [zbur, simprocAttr, *]
     ·replace h := bn h; obtain ⟨h14, h⟩ := h
      replace h := bn h; obtain ⟨h15, h⟩ := h
      replace h := ih_snapshot_read_l0 M (by omega) (M + 7) (by omega) _ _ _ _ _ _ _ _ _ _ h R hR
      simp only [zbur, simprocAttr, *]
def zbuw := And.intro @kk <| And.intro @ke <| And.intro @kn <| And.intro @zbgr <| And.intro @zbgd <| And.intro @zbid <| And.intro @zbig <| And.intro @zbij <| And.intro @zbim <| And.intro @zbip <| And.intro @zbis <| @zbgt
theorem zbux : ∀ (q N : Nat), 8 * q ≤ N → ∀ (a0 : (Sl Int)), ∀ (r : zjh × Int), zl9 q a0 = some r → (orc T N).deep F.zl9 [(Sl.enc (V.int .u8)) a0] = some [zjh.enc r.1, (V.int .i64) r.2] := by
 intro q N hM a0 r h
 rcases q with _ | q
 ·cases h
 obtain ⟨M, rfl⟩ : ∃ M, N = M + 8 := ⟨N - 8, by omega⟩
 generalize hR : some [zjh.enc r.1, (V.int .i64) r.2] = R
 rw [zhs, zbee, y4, zhq]
 rw [zl9] at h
 replace h := ob h; obtain ⟨r1, h1, h⟩ := h
 replace h1 := zbt3 q (M + 7) (by omega) _ _ h1
 try simp only [kf, simprocAttr] at h1
 replace h := br h; rcases h with ⟨h2, h⟩ | ⟨h2, h⟩
 ·replace h := br h; rcases h with ⟨h3, h⟩ | ⟨h3, h⟩
  ·cases h; subst hR; simp only [zbuw, simprocAttr, *]
  ·replace h := bn h; obtain ⟨h4, h⟩ := h
   replace h := ob h; obtain ⟨e2, h5, h⟩ := h
   replace h := ob h; obtain ⟨r3, h6, h⟩ := h
   replace h6 := zbua q (M + 7) (by omega) _ _ h6
   try simp only [kf, simprocAttr] at h6
   replace h := br h; rcases h with ⟨h7, h⟩ | ⟨h7, h⟩
   ·replace h := bn h; obtain ⟨h8, h⟩ := h
    replace h := ob h; obtain ⟨r4, h9, h⟩ := h
    replace h9 := zbsm q (M + 7) (by omega) _ _ h9
    try simp only [kf, simprocAttr] at h9
    replace h := br h; rcases h with ⟨h10, h⟩ | ⟨h10, h⟩
    ·replace h := ob h; obtain ⟨r5, h11, h⟩ := h
     replace h11 := zbuf q (M + 7) (by omega) _ _ h11
     try simp only [kf, simprocAttr] at h11
     replace h := bb h; rcases h with ⟨h12', h12, h⟩ | ⟨h12', h12, h⟩
     ·replace h := ob h; obtain ⟨r6, h13, h⟩ := h
      replace h13 := zbre q (M + 7) (by omega) _ _ h13
      try simp only [kf, simprocAttr] at h13
      replace h := br h; rcases h with ⟨h14, h⟩ | ⟨h14, h⟩
      ·replace h := ob h; obtain ⟨r7, h15, h⟩ := h
       replace h15 := zbuv q (M + 7) (by omega) _ _ h15
       try simp only [kf, simprocAttr] at h15
       replace h := br h; rcases h with ⟨h16, h⟩ | ⟨h16, h⟩
       ·replace h := ob h; obtain ⟨r8, h17, h⟩ := h
        replace h17 := zbo1 q (M + 7) (by omega) _ _ h17
        try simp only [kf, simprocAttr] at h17
        replace h := bb h; rcases h with ⟨h18', h18, h⟩ | ⟨h18', h18, h⟩
        ·cases h; subst hR; simp only [zbuw, simprocAttr, *]
        ·cases h; subst hR; simp only [zbuw, simprocAttr, *]
       ·cases h; subst hR; simp only [zbuw, simprocAttr, *]
      ·cases h; subst hR; simp only [zbuw, simprocAttr, *]
     ·cases h; subst hR; simp only [zbuw, simprocAttr, *]
    ·cases h; subst hR; simp only [zbuw, simprocAttr, *]
   ·cases h; subst hR; simp only [zbuw, simprocAttr, *]
 ·cases h; subst hR; simp only [zbuw, simprocAttr, *]
def zbuy := And.intro @kk <| And.intro @ke <| And.intro @kn <| And.intro @zbf9 <| And.intro @zbgd <| And.intro @zbgj <| And.intro @zbgp <| And.intro @zbgs <| @zbgb
theorem zbuz : ∀ (q N : Nat), 8 * q ≤ N → ∀ (a0 : (Sl Int)), ∀ (r : Bool), zma q a0 = some r → (orc T N).deep F.zma [(Sl.enc (V.int .u8)) a0] = some [V.bool r] := by
 intro q N hM a0 r h
 rcases q with _ | q
 ·cases h
 obtain ⟨M, rfl⟩ : ∃ M, N = M + 8 := ⟨N - 8, by omega⟩
 generalize hR : some [V.bool r] = R
 rw [zhs, zbd8, y4, zhq]
 rw [zma] at h
 replace h := ob h; obtain ⟨r1, h1, h⟩ := h
 replace h1 := zbtw q (M + 7) (by omega)  _ h1
 replace h := br h; rcases h with ⟨h2, h⟩ | ⟨h2, h⟩
 ·cases h; subst hR; simp only [zbuy, simprocAttr, *]
 ·replace h := ob h; obtain ⟨r2, h3, h⟩ := h
  replace h3 := zbux q (M + 7) (by omega) _ _ h3
  try simp only [kf, simprocAttr] at h3
  replace h := br h; rcases h with ⟨h4, h⟩ | ⟨h4, h⟩
  ·replace h := ob h; obtain ⟨r3, h5, h⟩ := h
   replace h5 := zbtu q (M + 7) (by omega) _ _ h5
   try simp only [kf, simprocAttr] at h5
   replace h := bb h; rcases h with ⟨h6', h6, h⟩ | ⟨h6', h6, h⟩
   ·replace h := br h; rcases h with ⟨h7, h⟩ | ⟨h7, h⟩
    ·replace h := br h; rcases h with ⟨h8, h⟩ | ⟨h8, h⟩
     ·replace h := ob h; obtain ⟨r4, h9, h⟩ := h
      replace h9 := zbo1 q (M + 7) (by omega) _ _ h9
      try simp only [kf, simprocAttr] at h9
      cases h; subst hR; simp only [zbuy, simprocAttr, *]
     ·cases h; subst hR; simp only [zbuy, simprocAttr, *]
    ·cases h; subst hR; simp only [zbuy, simprocAttr, *]
   ·cases h; subst hR; simp only [zbuy, simprocAttr, *]
  ·cases h; subst hR; simp only [zbuy, simprocAttr, *]
end Go.Dvm.C
