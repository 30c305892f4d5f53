/- The machine comes to these answers: part 2. -/
import Derived.Test.YtngajodhbioheaaQl0
import Derived.Test.YtngajodhbioheaaQr0
set_option linter.all false
set_option maxRecDepth 100000
set_option maxHeartbeats 4000000
namespace Go.Dvm.C
open Go Go.Dvm Go.Dvm.I
def zbh1 (q : Nat) : Prop := ∀ (M : Nat) (hM : 8 * q ≤ M) (j : Nat) (hj : q ≤ j) (v24z : Bool) (v24l : List zjr) (v25 v26 : Int) (h0z : Bool) (h0l : List Int) (h0x : Bool) (r : (Ow Int)) (_ : zlv q v24z v24l v25 v26 h0z h0l h0x = some r) (R : Option (List V)) (_ : some [(Ow.enc 1 (V.int .u8)) r] = R) (fr : Fr) (H : Hp) (_ : canon 0 [5, 24, 25, 26] fr H = ([(5, (.vw 0 0 0 h0l.length 1)), (24, (.sl v24z (List.map zjr.enc v24l))), (25, (.int .i64 v25)), (26, (.int .i64 v26))], [(.row 0 h0z 1 (List.map (V.int .u8) h0l) h0x)])), fin zst (unw T (orc T (M + 7)) (M + 7) 0 [.blk 0, .code zso] (iter 0 [5, 24, 25, 26] (exec T (orc T (M + 7)) (M + 7) 0 zsl) j fr H)) = R
def zbh2 := And.intro @kk <| And.intro @ke <| And.intro @kn <| And.intro @z8k <| And.intro @z7v <| And.intro @z8o <| And.intro @z96 <| @z8m
theorem zbh3 (q : Nat) (zbir : zbh1 q) : zbh1 (q + 1) := by
 intro M hM j hj v24z v24l v25 v26 h0z h0l h0x r h R hR fr H hc
 obtain ⟨j, rfl⟩ : ∃ i, j = i + 1 := ⟨j - 1, by omega⟩
 rw [zhn, hc]; clear hc
 rw [zlv] at h
 replace h := br h; rcases h with ⟨h1, h⟩ | ⟨h1, h⟩
 ·replace h := bn h; obtain ⟨h2, h⟩ := h
  replace h := ob h; obtain ⟨e4, h3, h⟩ := h
  replace h := ob h; obtain ⟨r5, h4, h⟩ := h
  replace h4 := zbgs q (M + 7) (by omega) _ _ _ h4
  try simp only [kf, simprocAttr] at h4
  replace h := ob h; obtain ⟨r6, h5, h⟩ := h
  replace h5 := zbgs q (M + 7) (by omega) _ _ _ h5
  try simp only [kf, simprocAttr] at h5
  replace h := ob h; obtain ⟨r7, h6, h⟩ := h
  replace h6 := zbgw q (M + 7) (by omega) _ _ _ h6
  try simp only [kf, simprocAttr] at h6
  replace h := zbir M (by omega) j (by omega) _ _ _ _ _ _ _ _ h R hR
  simp only [zbh2, simprocAttr, *]
 ·cases h; subst hR; simp only [zbh2, simprocAttr, *]
theorem zbh4 : ∀ q, zbh1 q
 | 0 => by intro M hM j hj; intros; rename_i h _ _ _ _ _; cases h
 | q + 1 => by have i0 := zbh4 q; exact zbh3 q i0
theorem zbh5 : ∀ (q N : Nat), 8 * q ≤ N → ∀ (a0 : zjs), ∀ (r : (Ow Int)), zlw q a0 = some r → (orc T N).deep F.zlw [zjs.enc a0] = some [(Ow.enc 1 (V.int .u8)) r] := by
 intro q N hM a0 r h
 rcases q with _ | q
 ·cases h
 obtain ⟨M, rfl⟩ : ∃ M, N = M + 8 := ⟨N - 8, by omega⟩
 have zbir := (zbh4 q)
 generalize hR : some [(Ow.enc 1 (V.int .u8)) r] = R
 rw [zhx, z5j, y4, zhv zst rfl]
 rw [zlw] at h
 replace h := ob h; obtain ⟨r1, h1, h⟩ := h
 replace h1 := zbhg q (M + 7) (by omega) _ _ h1
 try simp only [kf, simprocAttr] at h1
 replace h := ob h; obtain ⟨r2, h2, h⟩ := h
 replace h2 := zbgs q (M + 7) (by omega) _ _ _ h2
 try simp only [kf, simprocAttr] at h2
 replace h := bn h; obtain ⟨h3, h⟩ := h
 replace h := ob h; obtain ⟨r3, h4, h⟩ := h
 replace h4 := zbgs q (M + 7) (by omega) _ _ _ h4
 try simp only [kf, simprocAttr] at h4
 replace h := zbir M (by omega) (M + 7) (by omega) _ _ _ _ _ _ _ _ h R hR
 simp only [zbh2, simprocAttr, *]
def zbh6 := And.intro @kk <| And.intro @ke <| And.intro @kn <| And.intro @z8q <| And.intro @z7y <| @z8s
theorem zbh7 : ∀ (q N : Nat), 8 * q ≤ N → ∀ (a0 : (Sl Int)), ∀ (r : (Ow Int)), zlx q a0 = some r → (orc T N).deep F.zlx [(Sl.enc (V.int .u8)) a0] = some [(Ow.enc 1 (V.int .u8)) r] := by
 intro q N hM a0 r h
 rcases q with _ | q
 ·cases h
 obtain ⟨M, rfl⟩ : ∃ M, N = M + 8 := ⟨N - 8, by omega⟩
 generalize hR : some [(Ow.enc 1 (V.int .u8)) r] = R
 rw [zhx, z5l, y4, zhv zsx rfl]
 rw [zlx] at h
 replace h := ob h; obtain ⟨r1, h1, h⟩ := h
 replace h1 := zbg9 q (M + 7) (by omega) _ _ h1
 try simp only [kf, simprocAttr] at h1
 cases h; subst hR; simp only [zbh6, simprocAttr, *]
def zbh8 (q : Nat) : Prop := ∀ (M : Nat) (hM : 8 * q ≤ M) (j : Nat) (hj : q ≤ j) (h0z : Bool) (h0l : List Int) (h0x h1z : Bool) (h1l : List Int) (h1x : Bool) (r : (Ow Int) × Int) (_ : zlz q h0z h0l h0x h1z h1l h1x = some r) (R : Option (List V)) (_ : some [(Ow.enc 1 (V.int .u8)) r.1, (V.int .i64) r.2] = R) (fr : Fr) (H : Hp) (_ : canon 0 [4, 6] fr H = ([(4, (.vw 0 0 0 h0l.length 1)), (6, (.vw 1 0 0 h1l.length 1))], [(.row 0 h0z 1 (List.map (V.int .u8) h0l) h0x), (.row 0 h1z 1 (List.map (V.int .u8) h1l) h1x)])), fin zod (unw T (orc T (M + 7)) (M + 7) 0 [.blk 0, .code zn6] (iter 0 [4, 6] (exec T (orc T (M + 7)) (M + 7) 0 zn4) j fr H)) = R
def zbh9 (q : Nat) : Prop := ∀ (M : Nat) (hM : 8 * q ≤ M) (j : Nat) (hj : q ≤ j) (v4off v4len : Nat) (h0z : Bool) (h0l : List Int) (h1z : Bool) (h1l : List Int) (h1x : Bool) (r : (Ow Int) × Int) (_ : zly q v4off v4len h0z h0l h1z h1l h1x = some r) (R : Option (List V)) (_ : some [(Ow.enc 1 (V.int .u8)) r.1, (V.int .i64) r.2] = R) (fr : Fr) (H : Hp) (_ : canon 0 [4, 6] fr H = ([(4, (.vw 0 0 v4off v4len 1)), (6, (.vw 1 0 0 h1l.length 1))], [(.row 0 h0z 1 (List.map (V.int .u8) h0l) false), (.row 0 h1z 1 (List.map (V.int .u8) h1l) h1x)])), fin zod (unw T (orc T (M + 7)) (M + 7) 0 [.blk 0, .code zn6] (iter 0 [4, 6] (exec T (orc T (M + 7)) (M + 7) 0 zn4) j fr H)) = R
def zbia := And.intro @kk <| And.intro @ke <| And.intro @kn <| And.intro @z60 <| And.intro @z6m <| And.intro @z8l <| And.intro @z8o <| And.intro @z8r <| And.intro @z8u <| And.intro @z8x <| @z62
theorem zbib (q : Nat) (zbis : zbh9 q) : zbh8 (q + 1) := by
 intro M hM j hj h0z h0l h0x h1z h1l h1x r h R hR fr H hc
 obtain ⟨j, rfl⟩ : ∃ i, j = i + 1 := ⟨j - 1, by omega⟩
 rw [zhn, hc]; clear hc
 rw [zlz] at h
 replace h := br h; rcases h with ⟨h1, h⟩ | ⟨h1, h⟩
 ·replace h := bn h; obtain ⟨h2, h⟩ := h
  replace h := bn h; obtain ⟨h3, h⟩ := h
  replace h := bn h; obtain ⟨h4, h⟩ := h
  replace h := ob h; obtain ⟨r9, h5, h⟩ := h
  replace h5 := zbh7 q (M + 7) (by omega) _ _ h5
  try simp only [kf, simprocAttr] at h5
  replace h := bn h; obtain ⟨h6, h⟩ := h
  replace h := zbis M (by omega) j (by omega) _ _ _ _ _ _ _ _ h R hR
  simp only [zbia, simprocAttr, *]
 ·cases h; subst hR; simp only [zbia, simprocAttr, *]
theorem zbic (q : Nat) (zbis : zbh9 q) : zbh9 (q + 1) := by
 intro M hM j hj v4off v4len h0z h0l h1z h1l h1x r h R hR fr H hc
 obtain ⟨j, rfl⟩ : ∃ i, j = i + 1 := ⟨j - 1, by omega⟩
 rw [zhn, hc]; clear hc
 rw [zly] at h
 replace h := br h; rcases h with ⟨h1, h⟩ | ⟨h1, h⟩
 ·replace h := bn h; obtain ⟨h2, h⟩ := h
  replace h := bn h; obtain ⟨h3, h⟩ := h
  replace h := bn h; obtain ⟨h4, h⟩ := h
  replace h := ob h; obtain ⟨r10, h5, h⟩ := h
  replace h5 := zbh7 q (M + 7) (by omega) _ _ h5
  try simp only [kf, simprocAttr] at h5
  replace h := bn h; obtain ⟨h6, h⟩ := h
  replace h := bn h; obtain ⟨h7, h⟩ := h
  replace h := zbis M (by omega) j (by omega) _ _ _ _ _ _ _ _ h R hR
  simp only [zbia, simprocAttr, *]
 ·cases h; subst hR; simp only [zbia, simprocAttr, *]
theorem zbid : ∀ q, zbh8 q ∧ zbh9 q
 | 0 => by refine ⟨?_, ?_⟩ <;> (intro M hM j hj; intros; rename_i h _ _ _ _ _; cases h)
 | q + 1 => by have ⟨i0, i1⟩ := zbid q; exact ⟨zbib q i1, zbic q i1⟩
theorem zbie : ∀ (q N : Nat), 8 * q ≤ N → ∀ (a0 : zjs), ∀ (r : (Ow Int) × Int), zl0 q a0 = some r → (orc T N).deep F.zl0 [zjs.enc a0] = some [(Ow.enc 1 (V.int .u8)) r.1, (V.int .i64) r.2] := by
 intro q N hM a0 r h
 rcases q with _ | q
 ·cases h
 obtain ⟨M, rfl⟩ : ∃ M, N = M + 8 := ⟨N - 8, by omega⟩
 have ih_snapshot_Encode_l0 := (zbid q).1
 generalize hR : some [(Ow.enc 1 (V.int .u8)) r.1, (V.int .i64) r.2] = R
 rw [zhx, z40, y4, zhv zod rfl]
 rw [zl0] at h
 replace h := ob h; obtain ⟨r1, h1, h⟩ := h
 replace h1 := zbdv q (M + 7) (by omega) _ _ h1
 try simp only [kf, simprocAttr] at h1
 replace h := bb h; rcases h with ⟨h2', h2, h⟩ | ⟨h2', h2, h⟩
 ·replace h := ob h; obtain ⟨r2, h3, h⟩ := h
  replace h3 := zbh5 q (M + 7) (by omega) _ _ h3
  try simp only [kf, simprocAttr] at h3
  replace h := ob h; obtain ⟨r3, h4, h⟩ := h
  replace h4 := zbgs q (M + 7) (by omega) _ _ _ h4
  try simp only [kf, simprocAttr] at h4
  replace h := ob h; obtain ⟨r4, h5, h⟩ := h
  replace h5 := zbgs q (M + 7) (by omega) _ _ _ h5
  try simp only [kf, simprocAttr] at h5
  replace h := ob h; obtain ⟨r5, h6, h⟩ := h
  replace h6 := zbgs q (M + 7) (by omega) _ _ _ h6
  try simp only [kf, simprocAttr] at h6
  replace h := ob h; obtain ⟨r6, h7, h⟩ := h
  replace h7 := zbgc q (M + 7) (by omega) _ _ h7
  try simp only [kf, simprocAttr] at h7
  replace h := ob h; obtain ⟨r7, h8, h⟩ := h
  replace h8 := zbgj q (M + 7) (by omega) _ _ h8
  try simp only [kf, simprocAttr] at h8
  replace h := bn h; obtain ⟨h9, h⟩ := h
  replace h := ob h; obtain ⟨r8, h10, h⟩ := h
  replace h10 := zbh7 q (M + 7) (by omega) _ _ h10
  try simp only [kf, simprocAttr] at h10
  replace h := ih_snapshot_Encode_l0 M (by omega) (M + 7) (by omega) _ _ _ _ _ _ _ h R hR
  simp only [zbia, simprocAttr, *]
 ·cases h; subst hR; simp only [zbia, simprocAttr, *]
def zbif := And.intro @kk <| And.intro @ke <| And.intro @kn <| And.intro @z6u <| And.intro @z6p <| And.intro @z61 <| @z6w
theorem zbig : ∀ (q N : Nat), 8 * q ≤ N → ∀ (r : Bool), zl1 q = some r → (orc T N).deep F.zl1 [] = some [V.bool r] := by
 intro q N hM r h
 rcases q with _ | q
 ·cases h
 obtain ⟨M, rfl⟩ : ∃ M, N = M + 8 := ⟨N - 8, by omega⟩
 generalize hR : some [V.bool r] = R
 rw [zhx, z4y, y4, zhv znt rfl]
 rw [zl1] at h
 replace h := ob h; obtain ⟨r1, h1, h⟩ := h
 replace h1 := zbfy q (M + 7) (by omega) _ _ _ h1
 try simp only [kf, simprocAttr] at h1
 replace h := ob h; obtain ⟨r2, h2, h⟩ := h
 replace h2 := zbie q (M + 7) (by omega) _ _ h2
 try simp only [kf, simprocAttr] at h2
 replace h := br h; rcases h with ⟨h3, h⟩ | ⟨h3, h⟩
 ·replace h := br h; rcases h with ⟨h4, h⟩ | ⟨h4, h⟩
  ·replace h := br h; rcases h with ⟨h5, h⟩ | ⟨h5, h⟩
   ·replace h := br h; rcases h with ⟨h6, h⟩ | ⟨h6, h⟩
    ·replace h := br h; rcases h with ⟨h7, h⟩ | ⟨h7, h⟩
     ·replace h := ob h; obtain ⟨e3, h8, h⟩ := h
      replace h := br h; rcases h with ⟨h9, h⟩ | ⟨h9, h⟩
      ·replace h := br h; rcases h with ⟨h10, h⟩ | ⟨h10, h⟩
       ·replace h := br h; rcases h with ⟨h11, h⟩ | ⟨h11, h⟩
        ·replace h := br h; rcases h with ⟨h12, h⟩ | ⟨h12, h⟩
         ·replace h := ob h; obtain ⟨e4, h13, h⟩ := h
          cases h; subst hR; simp only [zbif, simprocAttr, *]
         ·cases h; subst hR; simp only [zbif, simprocAttr, *]
        ·cases h; subst hR; simp only [zbif, simprocAttr, *]
       ·cases h; subst hR; simp only [zbif, simprocAttr, *]
      ·cases h; subst hR; simp only [zbif, simprocAttr, *]
     ·cases h; subst hR; simp only [zbif, simprocAttr, *]
    ·cases h; subst hR; simp only [zbif, simprocAttr, *]
   ·cases h; subst hR; simp only [zbif, simprocAttr, *]
  ·cases h; subst hR; simp only [zbif, simprocAttr, *]
 ·cases h; subst hR; simp only [zbif, simprocAttr, *]
def zbih (q : Nat) : Prop := ∀ (M : Nat) (hM : 8 * q ≤ M) (j : Nat) (hj : q ≤ j) (v11z : Bool) (v11l : List zju) (v12 v13 h0_0 : Int) (h0_1z : Bool) (h0_1l : List Int) (h0_2 : Bool) (h0_3 : Int) (h2z : Bool) (h2l : List Int) (r : zjq × (Ow Int)) (_ : zl2 q v11z v11l v12 v13 h0_0 h0_1z h0_1l h0_2 h0_3 h2z h2l = some r) (R : Option (List V)) (_ : some [zjq.enc r.1, (Ow.enc 1 (V.int .i64)) r.2] = R) (fr : Fr) (H : Hp) (_ : canon 0 [2, 4, 6, 11, 12, 13] fr H = ([(2, (.ptr 0 0)), (4, (.ptr 1 0)), (6, (.vw 2 0 0 h2l.length 1)), (11, (.sl v11z (List.map zju.enc v11l))), (12, (.int .i64 v12)), (13, (.int .i64 v13))], [(.box [(.int .i64 h0_0), (.sl h0_1z (List.map (V.int .i64) h0_1l)), (.bool h0_2), (.int .i64 h0_3)]), (.box [(.int .i64 0), (.sl true []), (.bool false), (.int .i64 0)]), (.row 0 h2z 1 (List.map (V.int .i64) h2l) true)])), fin zop (unw T (orc T (M + 7)) (M + 7) 0 [.blk 0, .code zol] (iter 0 [2, 4, 6, 11, 12, 13] (exec T (orc T (M + 7)) (M + 7) 0 zoi) j fr H)) = R
def zbii := And.intro @kk <| And.intro @ke <| And.intro @kn <| And.intro @z63 <| And.intro @z7p <| @z65
theorem zbij (q : Nat) (zbit : zbih q) : zbih (q + 1) := by
 intro M hM j hj v11z v11l v12 v13 h0_0 h0_1z h0_1l h0_2 h0_3 h2z h2l r h R hR fr H hc
 obtain ⟨j, rfl⟩ : ∃ i, j = i + 1 := ⟨j - 1, by omega⟩
 rw [zhn, hc]; clear hc
 rw [zl2] at h
 replace h := br h; rcases h with ⟨h1, h⟩ | ⟨h1, h⟩
 ·replace h := bn h; obtain ⟨h2, h⟩ := h
  replace h := ob h; obtain ⟨e1, h3, h⟩ := h
  replace h := ob h; obtain ⟨r2, h4, h⟩ := h
  replace h4 := zbfr q (M + 7) (by omega) _ _ _ h4
  try simp only [kf, simprocAttr] at h4
  replace h := bn h; obtain ⟨h5, h⟩ := h
  replace h := zbit M (by omega) j (by omega) _ _ _ _ _ _ _ _ _ _ _ _ h R hR
  simp only [zbii, simprocAttr, *]
 ·cases h; subst hR; simp only [zbii, simprocAttr, *]
theorem zbik : ∀ q, zbih q
 | 0 => by intro M hM j hj; intros; rename_i h _ _ _ _ _; cases h
 | q + 1 => by have i0 := zbik q; exact zbij q i0
theorem zbil : ∀ (q N : Nat), 8 * q ≤ N → ∀ (a0 : zjq) (a1 : (Sl zju)), ∀ (r : zjq × (Ow Int)), zl3 q a0 a1 = some r → (orc T N).deep F.zl3 [zjq.enc a0, (Sl.enc zju.enc) a1] = some [zjq.enc r.1, (Ow.enc 1 (V.int .i64)) r.2] := by
 intro q N hM a0 a1 r h
 rcases q with _ | q
 ·cases h
 obtain ⟨M, rfl⟩ : ∃ M, N = M + 8 := ⟨N - 8, by omega⟩
 have zbit := (zbik q)
 generalize hR : some [zjq.enc r.1, (Ow.enc 1 (V.int .i64)) r.2] = R
 rw [zhx, z41, y4, zhv zop rfl]
 rw [zl3] at h
 replace h := zbit M (by omega) (M + 7) (by omega) _ _ _ _ _ _ _ _ _ _ _ _ h R hR
 simp only [zbii, simprocAttr, *]
def zbim (q : Nat) : Prop := ∀ (M : Nat) (hM : 8 * q ≤ M) (j : Nat) (hj : q ≤ j) (v1z : Bool) (v1l : List zjv) (v12 v14 v16 h0_0 h0_1 : Int) (h0_2z : Bool) (h0_2l : List Int) (h0_3 : Bool) (h0_4 : Int) (h0_5z : Bool) (h0_5l : List zjr) (h1_0 h1_1 : Int) (h1_2z : Bool) (h1_2l : List Int) (h1_3 : Bool) (h1_4 : Int) (h1_5z : Bool) (h1_5l : List zjr) (h2_0 h2_1 : Int) (h2_2z : Bool) (h2_2l : List Int) (h2_3 : Bool) (h2_4 : Int) (h2_5z : Bool) (h2_5l : List zjr) (h3z : Bool) (h3l : List zju) (r : Bool) (_ : zl4 q v1z v1l v12 v14 v16 h0_0 h0_1 h0_2z h0_2l h0_3 h0_4 h0_5z h0_5l h1_0 h1_1 h1_2z h1_2l h1_3 h1_4 h1_5z h1_5l h2_0 h2_1 h2_2z h2_2l h2_3 h2_4 h2_5z h2_5l h3z h3l = some r) (R : Option (List V)) (_ : some [V.bool r] = R) (fr : Fr) (H : Hp) (_ : canon 0 [1, 3, 9, 12, 13, 14, 15, 16] fr H = ([(1, (.sl v1z (List.map zjv.enc v1l))), (3, (.ptr 0 0)), (9, (.ptr 1 0)), (12, (.int .i64 v12)), (13, (.ptr 2 0)), (14, (.int .i64 v14)), (15, (.vw 3 0 0 h3l.length 1)), (16, (.int .i64 v16))], [(.box [(.int .i64 h0_0), (.int .i64 h0_1), (.sl h0_2z (List.map (V.int .i64) h0_2l)), (.bool h0_3), (.int .i64 h0_4), (.sl h0_5z (List.map zjr.enc h0_5l))]), (.box [(.int .i64 h1_0), (.int .i64 h1_1), (.sl h1_2z (List.map (V.int .i64) h1_2l)), (.bool h1_3), (.int .i64 h1_4), (.sl h1_5z (List.map zjr.enc h1_5l))]), (.box [(.int .i64 h2_0), (.int .i64 h2_1), (.sl h2_2z (List.map (V.int .i64) h2_2l)), (.bool h2_3), (.int .i64 h2_4), (.sl h2_5z (List.map zjr.enc h2_5l))]), (.row 0 h3z 3 (List.map zju.enc h3l) true)])), fin zm4 (unw T (orc T (M + 7)) (M + 7) 0 [.blk 0, .code zmt] (iter 0 [1, 3, 9, 12, 13, 14, 15, 16] (exec T (orc T (M + 7)) (M + 7) 0 zmo) j fr H)) = R
def zbin := And.intro @kk <| And.intro @ke <| And.intro @kn <| And.intro @z6f <| And.intro @z6j <| And.intro @z6p <| And.intro @z6s <| And.intro @z6v <| And.intro @z64 <| And.intro @z67 <| @z6h
theorem zbio (q : Nat) (zbiu : zbim q) : zbim (q + 1) := by
 intro M hM j hj v1z v1l v12 v14 v16 h0_0 h0_1 h0_2z h0_2l h0_3 h0_4 h0_5z h0_5l h1_0 h1_1 h1_2z h1_2l h1_3 h1_4 h1_5z h1_5l h2_0 h2_1 h2_2z h2_2l h2_3 h2_4 h2_5z h2_5l h3z h3l r h R hR fr H hc
 obtain ⟨j, rfl⟩ : ∃ i, j = i + 1 := ⟨j - 1, by omega⟩
 rw [zhn, hc]; clear hc
 rw [zl4] at h
 replace h := br h; rcases h with ⟨h1, h⟩ | ⟨h1, h⟩
 ·replace h := bn h; obtain ⟨h2, h⟩ := h
  replace h := ob h; obtain ⟨e6, h3, h⟩ := h
  replace h := bn h; obtain ⟨h4, h⟩ := h
  replace h := zbiu M (by omega) j (by omega) _ _ _ _ _ _ _ _ _ _ _ _ _ _ _ _ _ _ _ _ _ _ _ _ _ _ _ _ _ _ _ _ h R hR
  simp only [zbin, simprocAttr, *]
 ·replace h := ob h; obtain ⟨r7, h5, h⟩ := h
  replace h5 := zbil q (M + 7) (by omega) _ _ _ h5
  try simp only [kf, simprocAttr] at h5
  replace h := br h; rcases h with ⟨h6, h⟩ | ⟨h6, h⟩
  ·replace h := br h; rcases h with ⟨h7, h⟩ | ⟨h7, h⟩
   ·replace h := ob h; obtain ⟨r8, h8, h⟩ := h
    replace h8 := zbev q (M + 7) (by omega) _ _ _ h8
    try simp only [kf, simprocAttr] at h8
    replace h := bb h; rcases h with ⟨h9', h9, h⟩ | ⟨h9', h9, h⟩
    ·replace h := ob h; obtain ⟨r9, h10, h⟩ := h
     replace h10 := zbeo q (M + 7) (by omega) _ _ _ h10
     try simp only [kf, simprocAttr] at h10
     replace h := bb h; rcases h with ⟨h11', h11, h⟩ | ⟨h11', h11, h⟩
     ·cases h; subst hR; simp only [zbin, simprocAttr, *]
     ·cases h; subst hR; simp only [zbin, simprocAttr, *]
    ·cases h; subst hR; simp only [zbin, simprocAttr, *]
   ·cases h; subst hR; simp only [zbin, simprocAttr, *]
  ·cases h; subst hR; simp only [zbin, simprocAttr, *]
theorem zbip : ∀ q, zbim q
 | 0 => by intro M hM j hj; intros; rename_i h _ _ _ _ _; cases h
 | q + 1 => by have i0 := zbip q; exact zbio q i0
theorem zbiq : ∀ (q N : Nat), 8 * q ≤ N → ∀ (a0 : zjs) (a1 : (Sl zjv)) (a2 : Int), ∀ (r : Bool), zl5 q a0 a1 a2 = some r → (orc T N).deep F.zl5 [zjs.enc a0, (Sl.enc zjv.enc) a1, (V.int .i64) a2] = some [V.bool r] := by
 intro q N hM a0 a1 a2 r h
 rcases q with _ | q
 ·cases h
 obtain ⟨M, rfl⟩ : ∃ M, N = M + 8 := ⟨N - 8, by omega⟩
 have zbiu := (zbip q)
 generalize hR : some [V.bool r] = R
 rw [zhx, z4t, y4, zhv zm4 rfl]
 rw [zl5] at h
 replace h := ob h; obtain ⟨r1, h1, h⟩ := h
 replace h1 := zbig q (M + 7) (by omega)  _ h1
 replace h := ob h; obtain ⟨r2, h2, h⟩ := h
 replace h2 := zbez q (M + 7) (by omega) _ _ h2
 try simp only [kf, simprocAttr] at h2
 replace h := bb h; rcases h with ⟨h3', h3, h⟩ | ⟨h3', h3, h⟩
 ·replace h := bb h; rcases h with ⟨h4', h4, h⟩ | ⟨h4', h4, h⟩
  ·replace h := br h; rcases h with ⟨h5, h⟩ | ⟨h5, h⟩
   ·cases h; subst hR; simp only [zbin, simprocAttr, *]
   ·replace h := br h; rcases h with ⟨h6, h⟩ | ⟨h6, h⟩
    ·cases h; subst hR; simp only [zbin, simprocAttr, *]
    ·replace h := br h; rcases h with ⟨h7, h⟩ | ⟨h7, h⟩
     ·cases h; subst hR; simp only [zbin, simprocAttr, *]
     ·replace h := br h; rcases h with ⟨h8, h⟩ | ⟨h8, h⟩
      ·cases h; subst hR; simp only [zbin, simprocAttr, *]
      ·replace h := ob h; obtain ⟨r3, h9, h⟩ := h
       replace h9 := zbfy q (M + 7) (by omega) _ _ _ h9
       try simp only [kf, simprocAttr] at h9
       replace h := bn h; obtain ⟨h10, h⟩ := h
       replace h := bn h; obtain ⟨h11, h⟩ := h
       replace h := ob h; obtain ⟨r4, h12, h⟩ := h
       replace h12 := zbfy q (M + 7) (by omega) _ _ _ h12
       try simp only [kf, simprocAttr] at h12
       replace h := br h; rcases h with ⟨h13, h⟩ | ⟨h13, h⟩
       ·replace h := bn h; obtain ⟨h14, h⟩ := h
        replace h := ob h; obtain ⟨r5, h15, h⟩ := h
        replace h15 := zbfy q (M + 7) (by omega) _ _ _ h15
        try simp only [kf, simprocAttr] at h15
        replace h := zbiu M (by omega) (M + 7) (by omega) _ _ _ _ _ _ _ _ _ _ _ _ _ _ _ _ _ _ _ _ _ _ _ _ _ _ _ _ _ _ _ _ h R hR
        simp only [zbin, simprocAttr, *]
       ·replace h := br h; rcases h with ⟨h16, h⟩ | ⟨h16, h⟩
        ·cases h; subst hR; simp only [zbin, simprocAttr, *]
        ·cases h; subst hR; simp only [zbin, simprocAttr, *]
  ·cases h; subst hR; simp only [zbin, simprocAttr, *]
 ·cases h; subst hR; simp only [zbin, simprocAttr, *]
end Go.Dvm.C
