/- The machine comes to these answers: part 1. -/
import Derived.Test.YtngajodhbioheaaQl0
set_option linter.all false
set_option maxRecDepth 100000
set_option maxHeartbeats 4000000
namespace Go.Dvm.C
open Go Go.Dvm Go.Dvm.I
def z4q := And.intro @kk <| And.intro @ke <| And.intro @kn <| And.intro @z2y <| @z20
theorem z4r : ∀ (q N : Nat), 8 * q ≤ N → ∀ (a0 r : Int), zjs q a0 = some r → (orc T N).deep F.zjs [(V.int .i64) a0] = some [(V.int .i64) r] := by
 intro q N hM a0 r h
 rcases q with _ | q
 ·cases h
 obtain ⟨M, rfl⟩ : ∃ M, N = M + 8 := ⟨N - 8, by omega⟩
 generalize hR : some [(V.int .i64) r] = R
 rw [zhw, zzr, y8, zhu]
 rw [zjs] at h
 cases h; subst hR; simp only [z4q, simprocAttr, *]
def z4s := And.intro @kk <| And.intro @ke <| And.intro @kn <| And.intro @z2v <| And.intro @z2z <| @z2x
theorem z4t : ∀ (q N : Nat), 8 * q ≤ N → ∀ (a0 : Int), ∀ (r : Bool), zjt q a0 = some r → (orc T N).deep F.zjt [(V.int .i64) a0] = some [V.bool r] := by
 intro q N hM a0 r h
 rcases q with _ | q
 ·cases h
 obtain ⟨M, rfl⟩ : ∃ M, N = M + 8 := ⟨N - 8, by omega⟩
 generalize hR : some [V.bool r] = R
 rw [zhw, zzq, y8, zhu]
 rw [zjt] at h
 replace h := ob h; obtain ⟨r1, h1, h⟩ := h
 replace h1 := z4r q (M + 7) (by omega) _ _ h1
 cases h; subst hR; simp only [z4s, simprocAttr, *]
def z4u (q : Nat) : Prop := ∀ (M : Nat) (hM : 8 * q ≤ M) (j : Nat) (hj : q ≤ j) (v0z : Bool) (v0l : List Int) (v1 v5 v6 : Int) (r : Bool) (_ : zju q v0z v0l v1 v5 v6 = some r) (R : Option (List V)) (_ : some [V.bool r] = R) (fr : Fr) (H : Hp) (_ : canon 0 [0, 1, 5, 6] fr H = ([(0, (.sl v0z (List.map (V.int .i64) v0l))), (1, (.int .i64 v1)), (5, (.int .i64 v5)), (6, (.int .i64 v6))], [])), fin zwt (unw T (orc T (M + 7)) (M + 7) 0 [.blk 0, .code zwp] (iter 0 [0, 1, 5, 6] (exec T (orc T (M + 7)) (M + 7) 0 zwm) j fr H)) = R
def z4v := And.intro @kk <| And.intro @ke <| And.intro @kn <| And.intro @z21 <| @z23
theorem z4w (q : Nat) (z8l : z4u q) : z4u (q + 1) := by
 intro M hM j hj v0z v0l v1 v5 v6 r h R hR fr H hc
 obtain ⟨j, rfl⟩ : ∃ i, j = i + 1 := ⟨j - 1, by omega⟩
 rw [zhn, hc]; clear hc
 rw [zju] at h
 replace h := br h; rcases h with ⟨h1, h⟩ | ⟨h1, h⟩
 ·replace h := bn h; obtain ⟨h2, h⟩ := h
  replace h := ob h; obtain ⟨e1, h3, h⟩ := h
  replace h := br h; rcases h with ⟨h4, h⟩ | ⟨h4, h⟩
  ·cases h; subst hR; simp only [z4v, simprocAttr, *]
  ·replace h := br h; rcases h with ⟨h5, h⟩ | ⟨h5, h⟩
   ·cases h; subst hR; simp only [z4v, simprocAttr, *]
   ·replace h := bn h; obtain ⟨h6, h⟩ := h
    replace h := ob h; obtain ⟨e2, h7, h⟩ := h
    replace h := br h; rcases h with ⟨h8, h⟩ | ⟨h8, h⟩
    ·cases h; subst hR; simp only [z4v, simprocAttr, *]
    ·replace h := br h; rcases h with ⟨h9, h⟩ | ⟨h9, h⟩
     ·cases h; subst hR; simp only [z4v, simprocAttr, *]
     ·replace h := z8l M (by omega) j (by omega) _ _ _ _ _ _ h R hR
      simp only [z4v, simprocAttr, *]
 ·replace h := br h; rcases h with ⟨h10, h⟩ | ⟨h10, h⟩
  ·cases h; subst hR; simp only [z4v, simprocAttr, *]
  ·cases h; subst hR; simp only [z4v, simprocAttr, *]
theorem z4x : ∀ q, z4u q
 | 0 => by intro M hM j hj; intros; rename_i h _ _ _ _ _; cases h
 | q + 1 => by have i0 := z4x q; exact z4w q i0
theorem z4y : ∀ (q N : Nat), 8 * q ≤ N → ∀ (a0 : (Sl Int)) (a1 : Int), ∀ (r : Bool), zjv q a0 a1 = some r → (orc T N).deep F.zjv [(Sl.enc (V.int .i64)) a0, (V.int .i64) a1] = some [V.bool r] := by
 intro q N hM a0 a1 r h
 rcases q with _ | q
 ·cases h
 obtain ⟨M, rfl⟩ : ∃ M, N = M + 8 := ⟨N - 8, by omega⟩
 have z8l := (z4x q)
 generalize hR : some [V.bool r] = R
 rw [zhw, zzs, y8, zhu]
 rw [zjv] at h
 replace h := z8l M (by omega) (M + 7) (by omega) _ _ _ _ _ _ h R hR
 simp only [z4v, simprocAttr, *]
def z4z (q : Nat) : Prop := ∀ (M : Nat) (hM : 8 * q ≤ M) (j : Nat) (hj : q ≤ j) (v0z : Bool) (v0l : List Int) (v7 v8 h0_0 : Int) (h0_1z : Bool) (h0_1l : List Int) (h0_2 : Bool) (h0_3 r : Int) (_ : zjw q v0z v0l v7 v8 h0_0 h0_1z h0_1l h0_2 h0_3 = some r) (R : Option (List V × Hp)) (_ : (some ([(.int .i64 r)], [(.box [(.int .i64 h0_0), (.sl h0_1z (List.map (V.int .i64) h0_1l)), (.bool h0_2), (.int .i64 h0_3)])]) : Option (List V × Hp)) = R) (fr : Fr) (H : Hp) (_ : canon 1 [0, 1, 7, 8] fr H = ([(0, (.sl v0z (List.map (V.int .i64) v0l))), (1, (.fn F.zjt [])), (7, (.int .i64 v7)), (8, (.int .i64 v8))], [(.box [(.int .i64 h0_0), (.sl h0_1z (List.map (V.int .i64) h0_1l)), (.bool h0_2), (.int .i64 h0_3)])])), finI 1 false [.tmp 4] (unw T (orc T (M + 5)) (M + 5) 1 [.blk 0, .code zyn] (iter 1 [0, 1, 7, 8] (exec T (orc T (M + 5)) (M + 5) 1 zyk) j fr H)) = R
def z40 := And.intro @kk <| And.intro @ke <| And.intro @kn <| And.intro @z3g <| @z2w
theorem z41 (q : Nat) (z8m : z4z q) : z4z (q + 1) := by
 intro M hM j hj v0z v0l v7 v8 h0_0 h0_1z h0_1l h0_2 h0_3 r h R hR fr H hc
 obtain ⟨j, rfl⟩ : ∃ i, j = i + 1 := ⟨j - 1, by omega⟩
 rw [zhn, hc]; clear hc
 rw [zjw] at h
 replace h := br h; rcases h with ⟨h1, h⟩ | ⟨h1, h⟩
 ·replace h := bn h; obtain ⟨h2, h⟩ := h
  replace h := ob h; obtain ⟨e1, h3, h⟩ := h
  replace h := ob h; obtain ⟨r2, h4, h⟩ := h
  replace h4 := z4t q (M + 5) (by omega) _ _ h4
  replace h := bb h; rcases h with ⟨h5', h5, h⟩ | ⟨h5', h5, h⟩
  ·cases h; subst hR; simp only [z40, simprocAttr, *]
  ·replace h := z8m M (by omega) j (by omega) _ _ _ _ _ _ _ _ _ _ h R hR
   simp only [z40, simprocAttr, *]
 ·cases h; subst hR; simp only [z40, simprocAttr, *]
theorem z42 : ∀ q, z4z q
 | 0 => by intro M hM j hj; intros; rename_i h _ _ _ _ _; cases h
 | q + 1 => by have i0 := z42 q; exact z41 q i0
theorem z43 : ∀ (q M : Nat), 8 * q ≤ M → ∀ (v0z : Bool), ∀ (v0l : List Int), ∀ (h0_0 : Int), ∀ (h0_1z : Bool), ∀ (h0_1l : List Int), ∀ (h0_2 : Bool), ∀ (h0_3 r : Int), zjx q v0z v0l h0_0 h0_1z h0_1l h0_2 h0_3 = some r → (orc T (M + 6)).inl F.zlz [(.sl v0z (List.map (V.int .i64) v0l)), (.fn F.zjt [])] [(.box [(.int .i64 h0_0), (.sl h0_1z (List.map (V.int .i64) h0_1l)), (.bool h0_2), (.int .i64 h0_3)])] = (some ([(.int .i64 r)], [(.box [(.int .i64 h0_0), (.sl h0_1z (List.map (V.int .i64) h0_1l)), (.bool h0_2), (.int .i64 h0_3)])]) : Option (List V × Hp)) := by
 intro q M hM v0z v0l h0_0 h0_1z h0_1l h0_2 h0_3 r h
 rcases q with _ | q
 ·cases h
 have z8m := (z42 q)
 generalize hR : (some ([(.int .i64 r)], [(.box [(.int .i64 h0_0), (.sl h0_1z (List.map (V.int .i64) h0_1l)), (.bool h0_2), (.int .i64 h0_3)])]) : Option (List V × Hp)) = R
 rw [z3i (n := M + 5)]
 rw [zjx] at h
 replace h := z8m M (by omega) (M + 5) (by omega) _ _ _ _ _ _ _ _ _ _ h R hR
 simp only [z40, simprocAttr, *]
def z44 := And.intro @kk <| And.intro @ke <| And.intro @kn <| And.intro @z1p <| And.intro @z2s <| And.intro @z22 <| And.intro @z3h <| And.intro @z2t <| And.intro @z2u <| @z1r
theorem z45 : ∀ (q N : Nat), 8 * q ≤ N → ∀ (a0 : zjl), ∀ (r : Bool), zjy q a0 = some r → (orc T N).deep F.zjy [zjl.enc a0] = some [V.bool r] := by
 intro q N hM a0 r h
 rcases q with _ | q
 ·cases h
 obtain ⟨M, rfl⟩ : ∃ M, N = M + 8 := ⟨N - 8, by omega⟩
 generalize hR : some [V.bool r] = R
 rw [zhw, zzc, y8, zhu]
 rw [zjy] at h
 replace h := br h; rcases h with ⟨h1, h⟩ | ⟨h1, h⟩
 ·cases h; subst hR; simp only [z44, simprocAttr, *]
 ·replace h := br h; rcases h with ⟨h2, h⟩ | ⟨h2, h⟩
  ·cases h; subst hR; simp only [z44, simprocAttr, *]
  ·replace h := bb h; rcases h with ⟨h3', h3, h⟩ | ⟨h3', h3, h⟩
   ·replace h := ob h; obtain ⟨r1, h4, h⟩ := h
    replace h4 := z43 q M (by omega) _ _ _ _ _ _ _ _ h4
    try simp only [kf, simprocAttr] at h4
    replace h := br h; rcases h with ⟨h5, h⟩ | ⟨h5, h⟩
    ·replace h := br h; rcases h with ⟨h6, h⟩ | ⟨h6, h⟩
     ·cases h; subst hR; simp only [z44, simprocAttr, *]
     ·cases h; subst hR; simp only [z44, simprocAttr, *]
    ·replace h := br h; rcases h with ⟨h7, h⟩ | ⟨h7, h⟩
     ·replace h := br h; rcases h with ⟨h8, h⟩ | ⟨h8, h⟩
      ·cases h; subst hR; simp only [z44, simprocAttr, *]
      ·cases h; subst hR; simp only [z44, simprocAttr, *]
     ·replace h := br h; rcases h with ⟨h9, h⟩ | ⟨h9, h⟩
      ·replace h := br h; rcases h with ⟨h10, h⟩ | ⟨h10, h⟩
       ·cases h; subst hR; simp only [z44, simprocAttr, *]
       ·cases h; subst hR; simp only [z44, simprocAttr, *]
      ·replace h := br h; rcases h with ⟨h11, h⟩ | ⟨h11, h⟩
       ·replace h := br h; rcases h with ⟨h12, h⟩ | ⟨h12, h⟩
        ·cases h; subst hR; simp only [z44, simprocAttr, *]
        ·cases h; subst hR; simp only [z44, simprocAttr, *]
       ·replace h := br h; rcases h with ⟨h13, h⟩ | ⟨h13, h⟩
        ·replace h := ob h; obtain ⟨r2, h14, h⟩ := h
         replace h14 := z4y q (M + 7) (by omega) _ _ _ h14
         try simp only [kf, simprocAttr] at h14
         cases h; subst hR; simp only [z44, simprocAttr, *]
        ·replace h := br h; rcases h with ⟨h15, h⟩ | ⟨h15, h⟩
         ·replace h := ob h; obtain ⟨r3, h16, h⟩ := h
          replace h16 := z4y q (M + 7) (by omega) _ _ _ h16
          try simp only [kf, simprocAttr] at h16
          cases h; subst hR; simp only [z44, simprocAttr, *]
         ·cases h; subst hR; simp only [z44, simprocAttr, *]
   ·replace h := br h; rcases h with ⟨h17, h⟩ | ⟨h17, h⟩
    ·replace h := ob h; obtain ⟨r4, h18, h⟩ := h
     replace h18 := z43 q M (by omega) _ _ _ _ _ _ _ _ h18
     try simp only [kf, simprocAttr] at h18
     replace h := br h; rcases h with ⟨h19, h⟩ | ⟨h19, h⟩
     ·replace h := br h; rcases h with ⟨h20, h⟩ | ⟨h20, h⟩
      ·cases h; subst hR; simp only [z44, simprocAttr, *]
      ·cases h; subst hR; simp only [z44, simprocAttr, *]
     ·replace h := br h; rcases h with ⟨h21, h⟩ | ⟨h21, h⟩
      ·replace h := br h; rcases h with ⟨h22, h⟩ | ⟨h22, h⟩
       ·cases h; subst hR; simp only [z44, simprocAttr, *]
       ·cases h; subst hR; simp only [z44, simprocAttr, *]
      ·replace h := br h; rcases h with ⟨h23, h⟩ | ⟨h23, h⟩
       ·replace h := br h; rcases h with ⟨h24, h⟩ | ⟨h24, h⟩
        ·cases h; subst hR; simp only [z44, simprocAttr, *]
        ·cases h; subst hR; simp only [z44, simprocAttr, *]
       ·replace h := br h; rcases h with ⟨h25, h⟩ | ⟨h25, h⟩
        ·replace h := br h; rcases h with ⟨h26, h⟩ | ⟨h26, h⟩
         ·cases h; subst hR; simp only [z44, simprocAttr, *]
         ·cases h; subst hR; simp only [z44, simprocAttr, *]
        ·replace h := br h; rcases h with ⟨h27, h⟩ | ⟨h27, h⟩
         ·replace h := ob h; obtain ⟨r5, h28, h⟩ := h
          replace h28 := z4y q (M + 7) (by omega) _ _ _ h28
          try simp only [kf, simprocAttr] at h28
          cases h; subst hR; simp only [z44, simprocAttr, *]
         ·replace h := br h; rcases h with ⟨h29, h⟩ | ⟨h29, h⟩
          ·replace h := ob h; obtain ⟨r6, h30, h⟩ := h
           replace h30 := z4y q (M + 7) (by omega) _ _ _ h30
           try simp only [kf, simprocAttr] at h30
           cases h; subst hR; simp only [z44, simprocAttr, *]
          ·cases h; subst hR; simp only [z44, simprocAttr, *]
    ·cases h; subst hR; simp only [z44, simprocAttr, *]
def z46 := And.intro @kk <| And.intro @ke <| And.intro @kn <| And.intro @z24 <| @z26
theorem z47 : ∀ (q N : Nat), 8 * q ≤ N → ∀ (a0 : zjm), ∀ (r : Bool), zjz q a0 = some r → (orc T N).deep F.zjz [zjm.enc a0] = some [V.bool r] := by
 intro q N hM a0 r h
 rcases q with _ | q
 ·cases h
 obtain ⟨M, rfl⟩ : ∃ M, N = M + 8 := ⟨N - 8, by omega⟩
 generalize hR : some [V.bool r] = R
 rw [zhw, zzt, y8, zhu]
 rw [zjz] at h
 replace h := br h; rcases h with ⟨h1, h⟩ | ⟨h1, h⟩
 ·replace h := br h; rcases h with ⟨h2, h⟩ | ⟨h2, h⟩
  ·replace h := br h; rcases h with ⟨h3, h⟩ | ⟨h3, h⟩
   ·replace h := br h; rcases h with ⟨h4, h⟩ | ⟨h4, h⟩
    ·replace h := br h; rcases h with ⟨h5, h⟩ | ⟨h5, h⟩
     ·cases h; subst hR; simp only [z46, simprocAttr, *]
     ·cases h; subst hR; simp only [z46, simprocAttr, *]
    ·cases h; subst hR; simp only [z46, simprocAttr, *]
   ·cases h; subst hR; simp only [z46, simprocAttr, *]
  ·cases h; subst hR; simp only [z46, simprocAttr, *]
 ·cases h; subst hR; simp only [z46, simprocAttr, *]
def z48 (q : Nat) : Prop := ∀ (M : Nat) (hM : 8 * q ≤ M) (j : Nat) (hj : q ≤ j) (v0z : Bool) (v0l : List zjm) (v5z : Bool) (v5l : List zjm) (v6 v7 : Int) (r : Bool) (_ : zj0 q v0z v0l v5z v5l v6 v7 = some r) (R : Option (List V)) (_ : some [V.bool r] = R) (fr : Fr) (H : Hp) (_ : canon 0 [0, 5, 6, 7] fr H = ([(0, (.sl v0z (List.map zjm.enc v0l))), (5, (.sl v5z (List.map zjm.enc v5l))), (6, (.int .i64 v6)), (7, (.int .i64 v7))], [])), fin zsc (unw T (orc T (M + 7)) (M + 7) 0 [.blk 0, .code zr9] (iter 0 [0, 5, 6, 7] (exec T (orc T (M + 7)) (M + 7) 0 zr6) j fr H)) = R
def z49 := And.intro @kk <| And.intro @ke <| And.intro @kn <| And.intro @z1s <| And.intro @z25 <| @z1u
theorem z5a (q : Nat) (z8n : z48 q) : z48 (q + 1) := by
 intro M hM j hj v0z v0l v5z v5l v6 v7 r h R hR fr H hc
 obtain ⟨j, rfl⟩ : ∃ i, j = i + 1 := ⟨j - 1, by omega⟩
 rw [zhn, hc]; clear hc
 rw [zj0] at h
 replace h := br h; rcases h with ⟨h1, h⟩ | ⟨h1, h⟩
 ·replace h := bn h; obtain ⟨h2, h⟩ := h
  replace h := ob h; obtain ⟨e1, h3, h⟩ := h
  replace h := ob h; obtain ⟨r2, h4, h⟩ := h
  replace h4 := z47 q (M + 7) (by omega) _ _ h4
  try simp only [kf, simprocAttr] at h4
  replace h := bb h; rcases h with ⟨h5', h5, h⟩ | ⟨h5', h5, h⟩
  ·replace h := br h; rcases h with ⟨h6, h⟩ | ⟨h6, h⟩
   ·replace h := bn h; obtain ⟨h7, h⟩ := h
    replace h := ob h; obtain ⟨e3, h8, h⟩ := h
    replace h := br h; rcases h with ⟨h9, h⟩ | ⟨h9, h⟩
    ·cases h; subst hR; simp only [z49, simprocAttr, *]
    ·replace h := z8n M (by omega) j (by omega) _ _ _ _ _ _ _ h R hR
     simp only [z49, simprocAttr, *]
   ·replace h := z8n M (by omega) j (by omega) _ _ _ _ _ _ _ h R hR
    simp only [z49, simprocAttr, *]
  ·cases h; subst hR; simp only [z49, simprocAttr, *]
 ·cases h; subst hR; simp only [z49, simprocAttr, *]
theorem z5b : ∀ q, z48 q
 | 0 => by intro M hM j hj; intros; rename_i h _ _ _ _ _; cases h
 | q + 1 => by have i0 := z5b q; exact z5a q i0
theorem z5c : ∀ (q N : Nat), 8 * q ≤ N → ∀ (a0 : (Sl zjm)), ∀ (r : Bool), zj1 q a0 = some r → (orc T N).deep F.zj1 [(Sl.enc zjm.enc) a0] = some [V.bool r] := by
 intro q N hM a0 r h
 rcases q with _ | q
 ·cases h
 obtain ⟨M, rfl⟩ : ∃ M, N = M + 8 := ⟨N - 8, by omega⟩
 have z8n := (z5b q)
 generalize hR : some [V.bool r] = R
 rw [zhw, zzd, y8, zhu]
 rw [zj1] at h
 replace h := z8n M (by omega) (M + 7) (by omega) _ _ _ _ _ _ _ h R hR
 simp only [z49, simprocAttr, *]
def z5d := And.intro @kk <| And.intro @ke <| And.intro @kn <| And.intro @z0g <| And.intro @z1q <| And.intro @z1t <| @z0i
theorem z5e : ∀ (q N : Nat), 8 * q ≤ N → ∀ (a0 : zjn), ∀ (r : Bool), zj2 q a0 = some r → (orc T N).deep F.zj2 [zjn.enc a0] = some [V.bool r] := by
 intro q N hM a0 r h
 rcases q with _ | q
 ·cases h
 obtain ⟨M, rfl⟩ : ∃ M, N = M + 8 := ⟨N - 8, by omega⟩
 generalize hR : some [V.bool r] = R
 rw [zhw, zyx, y8, zhu]
 rw [zj2] at h
 replace h := br h; rcases h with ⟨h1, h⟩ | ⟨h1, h⟩
 ·replace h := br h; rcases h with ⟨h2, h⟩ | ⟨h2, h⟩
  ·replace h := ob h; obtain ⟨r1, h3, h⟩ := h
   replace h3 := z45 q (M + 7) (by omega) _ _ h3
   try simp only [kf, simprocAttr] at h3
   replace h := bb h; rcases h with ⟨h4', h4, h⟩ | ⟨h4', h4, h⟩
   ·replace h := ob h; obtain ⟨r2, h5, h⟩ := h
    replace h5 := z5c q (M + 7) (by omega) _ _ h5
    try simp only [kf, simprocAttr] at h5
    cases h; subst hR; simp only [z5d, simprocAttr, *]
   ·cases h; subst hR; simp only [z5d, simprocAttr, *]
  ·cases h; subst hR; simp only [z5d, simprocAttr, *]
 ·cases h; subst hR; simp only [z5d, simprocAttr, *]
def z5f (q : Nat) : Prop := ∀ (M : Nat) (hM : 8 * q ≤ M) (j : Nat) (hj : q ≤ j) (v0z : Bool) (v0l : List zjm) (v7 v8 h0_0 r : Int) (_ : zj3 q v0z v0l v7 v8 h0_0 = some r) (R : Option (List V × Hp)) (_ : (some ([(.int .i64 r)], [(.box [(.int .i64 h0_0)])]) : Option (List V × Hp)) = R) (fr : Fr) (H : Hp) (_ : canon 1 [0, 1, 7, 8] fr H = ([(0, (.sl v0z (List.map zjm.enc v0l))), (1, (.fn F.zlw [(.ptr 0 0)])), (7, (.int .i64 v7)), (8, (.int .i64 v8))], [(.box [(.int .i64 h0_0)])])), finI 1 false [.tmp 4] (unw T (orc T (M + 6)) (M + 6) 1 [.blk 0, .code zuc] (iter 1 [0, 1, 7, 8] (exec T (orc T (M + 6)) (M + 6) 1 zt9) j fr H)) = R
def z5g := And.intro @kk <| And.intro @ke <| And.intro @kn <| And.intro @z2a <| And.intro @z2p <| And.intro @z2q <| @z2r
theorem z5h (q : Nat) (z8o : z5f q) : z5f (q + 1) := by
 intro M hM j hj v0z v0l v7 v8 h0_0 r h R hR fr H hc
 obtain ⟨j, rfl⟩ : ∃ i, j = i + 1 := ⟨j - 1, by omega⟩
 rw [zhn, hc]; clear hc
 rw [zj3] at h
 replace h := br h; rcases h with ⟨h1, h⟩ | ⟨h1, h⟩
 ·replace h := bn h; obtain ⟨h2, h⟩ := h
  replace h := ob h; obtain ⟨e1, h3, h⟩ := h
  replace h := br h; rcases h with ⟨h4, h⟩ | ⟨h4, h⟩
  ·cases h; subst hR; simp only [z5g, simprocAttr, *]
  ·replace h := z8o M (by omega) j (by omega) _ _ _ _ _ _ h R hR
   simp only [z5g, simprocAttr, *]
 ·cases h; subst hR; simp only [z5g, simprocAttr, *]
theorem z5i : ∀ q, z5f q
 | 0 => by intro M hM j hj; intros; rename_i h _ _ _ _ _; cases h
 | q + 1 => by have i0 := z5i q; exact z5h q i0
theorem z5j : ∀ (q M : Nat), 8 * q ≤ M → ∀ (v0z : Bool), ∀ (v0l : List zjm), ∀ (h0_0 r : Int), zj4 q v0z v0l h0_0 = some r → (orc T (M + 7)).inl F.zlu [(.sl v0z (List.map zjm.enc v0l)), (.fn F.zlw [(.ptr 0 0)])] [(.box [(.int .i64 h0_0)])] = (some ([(.int .i64 r)], [(.box [(.int .i64 h0_0)])]) : Option (List V × Hp)) := by
 intro q M hM v0z v0l h0_0 r h
 rcases q with _ | q
 ·cases h
 have z8o := (z5i q)
 generalize hR : (some ([(.int .i64 r)], [(.box [(.int .i64 h0_0)])]) : Option (List V × Hp)) = R
 rw [z2c (n := M + 6)]
 rw [zj4] at h
 replace h := z8o M (by omega) (M + 6) (by omega) _ _ _ _ _ _ h R hR
 simp only [z5g, simprocAttr, *]
def z5k := And.intro @kk <| And.intro @ke <| And.intro @kn <| And.intro @z07 <| And.intro @z2b <| @z09
theorem z5l : ∀ (q N : Nat), 8 * q ≤ N → ∀ (a0 : (Sl zjm)) (a1 : Int), ∀ (r : Int), zj5 q a0 a1 = some r → (orc T N).deep F.zj5 [(Sl.enc zjm.enc) a0, (V.int .i64) a1] = some [(V.int .i64) r] := by
 intro q N hM a0 a1 r h
 rcases q with _ | q
 ·cases h
 obtain ⟨M, rfl⟩ : ∃ M, N = M + 8 := ⟨N - 8, by omega⟩
 generalize hR : some [(V.int .i64) r] = R
 rw [zhw, zy6, y8, zhu]
 rw [zj5] at h
 replace h := ob h; obtain ⟨r1, h1, h⟩ := h
 replace h1 := z5j q M (by omega) _ _ _ _ h1
 try simp only [kf, simprocAttr] at h1
 cases h; subst hR; simp only [z5k, simprocAttr, *]
def z5m (q : Nat) : Prop := ∀ (M : Nat) (hM : 8 * q ≤ M) (j : Nat) (hj : q ≤ j) (v0z : Bool) (v0l : List Int) (v1z : Bool) (v1l : List Int) (v5 r : Int) (_ : zj6 q v0z v0l v1z v1l v5 = some r) (R : Option (List V)) (_ : some [(V.int .i64) r] = R) (fr : Fr) (H : Hp) (_ : canon 0 [0, 1, 5] fr H = ([(0, (.sl v0z (List.map (V.int .i64) v0l))), (1, (.sl v1z (List.map (V.int .i64) v1l))), (5, (.int .i64 v5))], [])), fin zq3 (unw T (orc T (M + 7)) (M + 7) 0 [.blk 0, .code c_48_9] (iter 0 [0, 1, 5] (exec T (orc T (M + 7)) (M + 7) 0 c_48_7) j fr H)) = R
def z5n := And.intro @kk <| And.intro @ke <| And.intro @kn <| And.intro @z1d <| @z1f
theorem z5o (q : Nat) (z8p : z5m q) : z5m (q + 1) := by
 intro M hM j hj v0z v0l v1z v1l v5 r h R hR fr H hc
 obtain ⟨j, rfl⟩ : ∃ i, j = i + 1 := ⟨j - 1, by omega⟩
 rw [zhn, hc]; clear hc
 rw [zj6] at h
 replace h := br h; rcases h with ⟨h1, h⟩ | ⟨h1, h⟩
 ·replace h := br h; rcases h with ⟨h2, h⟩ | ⟨h2, h⟩
  ·replace h := bn h; obtain ⟨h3, h⟩ := h
   replace h := ob h; obtain ⟨e1, h4, h⟩ := h
   replace h := ob h; obtain ⟨e2, h5, h⟩ := h
   replace h := br h; rcases h with ⟨h6, h⟩ | ⟨h6, h⟩
   ·replace h := z8p M (by omega) j (by omega) _ _ _ _ _ _ h R hR
    simp only [z5n, simprocAttr, *]
   ·cases h; subst hR; simp only [z5n, simprocAttr, *]
  ·cases h; subst hR; simp only [z5n, simprocAttr, *]
 ·cases h; subst hR; simp only [z5n, simprocAttr, *]
theorem z5p : ∀ q, z5m q
 | 0 => by intro M hM j hj; intros; rename_i h _ _ _ _ _; cases h
 | q + 1 => by have i0 := z5p q; exact z5o q i0
theorem z5q : ∀ (q N : Nat), 8 * q ≤ N → ∀ (a0 a1 : (Sl Int)), ∀ (r : Int), zj7 q a0 a1 = some r → (orc T N).deep F.zj7 [(Sl.enc (V.int .i64)) a0, (Sl.enc (V.int .i64)) a1] = some [(V.int .i64) r] := by
 intro q N hM a0 a1 r h
 rcases q with _ | q
 ·cases h
 obtain ⟨M, rfl⟩ : ∃ M, N = M + 8 := ⟨N - 8, by omega⟩
 have z8p := (z5p q)
 generalize hR : some [(V.int .i64) r] = R
 rw [zhw, zy8, y8, zhu]
 rw [zj7] at h
 replace h := z8p M (by omega) (M + 7) (by omega) _ _ _ _ _ _ h R hR
 simp only [z5n, simprocAttr, *]
def z5r (q : Nat) : Prop := ∀ (M : Nat) (hM : 8 * q ≤ M) (j : Nat) (hj : q ≤ j) (v0z : Bool) (v0l : List Int) (v1z : Bool) (v1l : List Int) (v5 r : Int) (_ : zj8 q v0z v0l v1z v1l v5 = some r) (R : Option (List V)) (_ : some [(V.int .i64) r] = R) (fr : Fr) (H : Hp) (_ : canon 0 [0, 1, 5] fr H = ([(0, (.sl v0z (List.map (V.int .i64) v0l))), (1, (.sl v1z (List.map (V.int .i64) v1l))), (5, (.int .i64 v5))], [])), fin zq7 (unw T (orc T (M + 7)) (M + 7) 0 [.blk 0, .code c_49_9] (iter 0 [0, 1, 5] (exec T (orc T (M + 7)) (M + 7) 0 c_49_7) j fr H)) = R
def z5s := And.intro @kk <| And.intro @ke <| And.intro @kn <| And.intro @z1g <| @z1i
theorem z5t (q : Nat) (z8q : z5r q) : z5r (q + 1) := by
 intro M hM j hj v0z v0l v1z v1l v5 r h R hR fr H hc
 obtain ⟨j, rfl⟩ : ∃ i, j = i + 1 := ⟨j - 1, by omega⟩
 rw [zhn, hc]; clear hc
 rw [zj8] at h
 replace h := br h; rcases h with ⟨h1, h⟩ | ⟨h1, h⟩
 ·replace h := br h; rcases h with ⟨h2, h⟩ | ⟨h2, h⟩
  ·replace h := bn h; obtain ⟨h3, h⟩ := h
   replace h := ob h; obtain ⟨e1, h4, h⟩ := h
   replace h := bn h; obtain ⟨h5, h⟩ := h
   replace h := ob h; obtain ⟨e2, h6, h⟩ := h
   replace h := br h; rcases h with ⟨h7, h⟩ | ⟨h7, h⟩
   ·replace h := z8q M (by omega) j (by omega) _ _ _ _ _ _ h R hR
    simp only [z5s, simprocAttr, *]
   ·cases h; subst hR; simp only [z5s, simprocAttr, *]
  ·cases h; subst hR; simp only [z5s, simprocAttr, *]
 ·cases h; subst hR; simp only [z5s, simprocAttr, *]
theorem z5u : ∀ q, z5r q
 | 0 => by intro M hM j hj; intros; rename_i h _ _ _ _ _; cases h
 | q + 1 => by have i0 := z5u q; exact z5t q i0
theorem z5v : ∀ (q N : Nat), 8 * q ≤ N → ∀ (a0 a1 : (Sl Int)), ∀ (r : Int), zj9 q a0 a1 = some r → (orc T N).deep F.zj9 [(Sl.enc (V.int .i64)) a0, (Sl.enc (V.int .i64)) a1] = some [(V.int .i64) r] := by
 intro q N hM a0 a1 r h
 rcases q with _ | q
 ·cases h
 obtain ⟨M, rfl⟩ : ∃ M, N = M + 8 := ⟨N - 8, by omega⟩
 have z8q := (z5u q)
 generalize hR : some [(V.int .i64) r] = R
 rw [zhw, zy9, y8, zhu]
 rw [zj9] at h
 replace h := z8q M (by omega) (M + 7) (by omega) _ _ _ _ _ _ h R hR
 simp only [z5s, simprocAttr, *]
def z5w := And.intro @kk <| And.intro @ke <| And.intro @kn <| And.intro @z1j <| @z1l
theorem z5x : ∀ (q N : Nat), 8 * q ≤ N → ∀ (a0 : (Sl Int)), ∀ (r : (Ow Int)), zka q a0 = some r → (orc T N).deep F.zka [(Sl.enc (V.int .i64)) a0] = some [(Ow.enc 1 (V.int .i64)) r] := by
 intro q N hM a0 r h
 rcases q with _ | q
 ·cases h
 obtain ⟨M, rfl⟩ : ∃ M, N = M + 8 := ⟨N - 8, by omega⟩
 generalize hR : some [(Ow.enc 1 (V.int .i64)) r] = R
 rw [zhw, zza, y8, zhu]
 rw [zka] at h
 replace h := bb h; rcases h with ⟨h1', h1, h⟩ | ⟨h1', h1, h⟩
 ·cases h; subst hR; simp only [z5w, simprocAttr, *]
 ·replace h := bn h; obtain ⟨h2, h⟩ := h
  cases h; subst hR; simp only [z5w, simprocAttr, *]
def z5y (q : Nat) : Prop := ∀ (M : Nat) (hM : 8 * q ≤ M) (j : Nat) (hj : q ≤ j) (v0z : Bool) (v0l : List zjm) (v7 v8 h0_0 h0_1 : Int) (h0_2z : Bool) (h0_2l : List Int) (h0_3 : Bool) (h0_4 : Int) (h0_5z : Bool) (h0_5l : List zjm) (h1_0 h1_1 : Int) (h1_2z : Bool) (h1_2l : List Int) (h1_3 : Bool) (h1_4 : Int) (h1_5z : Bool) (h1_5l : List zjm) (r : Int) (_ : zkb q v0z v0l v7 v8 h0_0 h0_1 h0_2z h0_2l h0_3 h0_4 h0_5z h0_5l h1_0 h1_1 h1_2z h1_2l h1_3 h1_4 h1_5z h1_5l = some r) (R : Option (List V × Hp)) (_ : (some ([(.int .i64 r)], [(.box [(.int .i64 h0_0), (.int .i64 h0_1), (.sl h0_2z (List.map (V.int .i64) h0_2l)), (.bool h0_3), (.int .i64 h0_4), (.sl h0_5z (List.map zjm.enc h0_5l))]), (.box [(.int .i64 h1_0), (.int .i64 h1_1), (.sl h1_2z (List.map (V.int .i64) h1_2l)), (.bool h1_3), (.int .i64 h1_4), (.sl h1_5z (List.map zjm.enc h1_5l))]), (.box [(.int .i64 0), (.int .i64 0), (.int .i64 0), (.int .i64 0), (.sl true []), (.bool false), (.int .i64 0), (.sl true [])])]) : Option (List V × Hp)) = R) (fr : Fr) (H : Hp) (_ : canon 3 [0, 1, 7, 8] fr H = ([(0, (.sl v0z (List.map zjm.enc v0l))), (1, (.fn F.zlq [(.ptr 1 0)])), (7, (.int .i64 v7)), (8, (.int .i64 v8))], [(.box [(.int .i64 h0_0), (.int .i64 h0_1), (.sl h0_2z (List.map (V.int .i64) h0_2l)), (.bool h0_3), (.int .i64 h0_4), (.sl h0_5z (List.map zjm.enc h0_5l))]), (.box [(.int .i64 h1_0), (.int .i64 h1_1), (.sl h1_2z (List.map (V.int .i64) h1_2l)), (.bool h1_3), (.int .i64 h1_4), (.sl h1_5z (List.map zjm.enc h1_5l))]), (.box [(.int .i64 0), (.int .i64 0), (.int .i64 0), (.int .i64 0), (.sl true []), (.bool false), (.int .i64 0), (.sl true [])])])), finI 3 false [.tmp 4] (unw T (orc T (M + 5)) (M + 5) 3 [.blk 0, .code zuc] (iter 3 [0, 1, 7, 8] (exec T (orc T (M + 5)) (M + 5) 3 zt9) j fr H)) = R
def z5z := And.intro @kk <| And.intro @ke <| And.intro @kn <| And.intro @z04 <| And.intro @z2a <| And.intro @z08 <| And.intro @z05 <| @z06
theorem z50 (q : Nat) (z8r : z5y q) : z5y (q + 1) := by
 intro M hM j hj v0z v0l v7 v8 h0_0 h0_1 h0_2z h0_2l h0_3 h0_4 h0_5z h0_5l h1_0 h1_1 h1_2z h1_2l h1_3 h1_4 h1_5z h1_5l r h R hR fr H hc
 obtain ⟨j, rfl⟩ : ∃ i, j = i + 1 := ⟨j - 1, by omega⟩
 rw [zhn, hc]; clear hc
 rw [zkb] at h
 replace h := br h; rcases h with ⟨h1, h⟩ | ⟨h1, h⟩
 ·replace h := bn h; obtain ⟨h2, h⟩ := h
  replace h := ob h; obtain ⟨e1, h3, h⟩ := h
  replace h := ob h; obtain ⟨r2, h4, h⟩ := h
  replace h4 := z5l q (M + 4) (by omega) _ _ _ h4
  try simp only [kf, simprocAttr] at h4
  replace h := br h; rcases h with ⟨h5, h⟩ | ⟨h5, h⟩
  ·cases h; subst hR; simp only [z5z, simprocAttr, *]
  ·replace h := z8r M (by omega) j (by omega) _ _ _ _ _ _ _ _ _ _ _ _ _ _ _ _ _ _ _ _ _ h R hR
   simp only [z5z, simprocAttr, *]
 ·cases h; subst hR; simp only [z5z, simprocAttr, *]
theorem z51 : ∀ q, z5y q
 | 0 => by intro M hM j hj; intros; rename_i h _ _ _ _ _; cases h
 | q + 1 => by have i0 := z51 q; exact z50 q i0
theorem z52 : ∀ (q M : Nat), 8 * q ≤ M → ∀ (v0z : Bool), ∀ (v0l : List zjm), ∀ (h0_0 h0_1 : Int), ∀ (h0_2z : Bool), ∀ (h0_2l : List Int), ∀ (h0_3 : Bool), ∀ (h0_4 : Int), ∀ (h0_5z : Bool), ∀ (h0_5l : List zjm), ∀ (h1_0 h1_1 : Int), ∀ (h1_2z : Bool), ∀ (h1_2l : List Int), ∀ (h1_3 : Bool), ∀ (h1_4 : Int), ∀ (h1_5z : Bool), ∀ (h1_5l : List zjm), ∀ (r : Int), zkc q v0z v0l h0_0 h0_1 h0_2z h0_2l h0_3 h0_4 h0_5z h0_5l h1_0 h1_1 h1_2z h1_2l h1_3 h1_4 h1_5z h1_5l = some r → (orc T (M + 6)).inl F.zlu [(.sl v0z (List.map zjm.enc v0l)), (.fn F.zlq [(.ptr 1 0)])] [(.box [(.int .i64 h0_0), (.int .i64 h0_1), (.sl h0_2z (List.map (V.int .i64) h0_2l)), (.bool h0_3), (.int .i64 h0_4), (.sl h0_5z (List.map zjm.enc h0_5l))]), (.box [(.int .i64 h1_0), (.int .i64 h1_1), (.sl h1_2z (List.map (V.int .i64) h1_2l)), (.bool h1_3), (.int .i64 h1_4), (.sl h1_5z (List.map zjm.enc h1_5l))]), (.box [(.int .i64 0), (.int .i64 0), (.int .i64 0), (.int .i64 0), (.sl true []), (.bool false), (.int .i64 0), (.sl true [])])] = (some ([(.int .i64 r)], [(.box [(.int .i64 h0_0), (.int .i64 h0_1), (.sl h0_2z (List.map (V.int .i64) h0_2l)), (.bool h0_3), (.int .i64 h0_4), (.sl h0_5z (List.map zjm.enc h0_5l))]), (.box [(.int .i64 h1_0), (.int .i64 h1_1), (.sl h1_2z (List.map (V.int .i64) h1_2l)), (.bool h1_3), (.int .i64 h1_4), (.sl h1_5z (List.map zjm.enc h1_5l))]), (.box [(.int .i64 0), (.int .i64 0), (.int .i64 0), (.int .i64 0), (.sl true []), (.bool false), (.int .i64 0), (.sl true [])])]) : Option (List V × Hp)) := by
 intro q M hM v0z v0l h0_0 h0_1 h0_2z h0_2l h0_3 h0_4 h0_5z h0_5l h1_0 h1_1 h1_2z h1_2l h1_3 h1_4 h1_5z h1_5l r h
 rcases q with _ | q
 ·cases h
 have z8r := (z51 q)
 generalize hR : (some ([(.int .i64 r)], [(.box [(.int .i64 h0_0), (.int .i64 h0_1), (.sl h0_2z (List.map (V.int .i64) h0_2l)), (.bool h0_3), (.int .i64 h0_4), (.sl h0_5z (List.map zjm.enc h0_5l))]), (.box [(.int .i64 h1_0), (.int .i64 h1_1), (.sl h1_2z (List.map (V.int .i64) h1_2l)), (.bool h1_3), (.int .i64 h1_4), (.sl h1_5z (List.map zjm.enc h1_5l))]), (.box [(.int .i64 0), (.int .i64 0), (.int .i64 0), (.int .i64 0), (.sl true []), (.bool false), (.int .i64 0), (.sl true [])])]) : Option (List V × Hp)) = R
 rw [z2c (n := M + 5)]
 rw [zkc] at h
 replace h := z8r M (by omega) (M + 5) (by omega) _ _ _ _ _ _ _ _ _ _ _ _ _ _ _ _ _ _ _ _ _ h R hR
 simp only [z5z, simprocAttr, *]
def z53 (q : Nat) : Prop := ∀ (M : Nat) (hM : 8 * q ≤ M) (j : Nat) (hj : q ≤ j) (v89z : Bool) (v89l : List zjm) (v90 v91 h0_0 h0_1 : Int) (h0_2z : Bool) (h0_2l : List Int) (h0_3 : Bool) (h0_4 : Int) (h0_5z : Bool) (h0_5l : List zjm) (h2_0 h2_1 h2_2 h2_3 : Int) (h2_5 : Bool) (h2_6 : Int) (h3z : Bool) (h3l : List Int) (h3x : Bool) (r : zjo × Int) (_ : zke q v89z v89l v90 v91 h0_0 h0_1 h0_2z h0_2l h0_3 h0_4 h0_5z h0_5l h2_0 h2_1 h2_2 h2_3 h2_5 h2_6 h3z h3l h3x = some r) (R : Option (List V)) (_ : some [zjo.enc r.1, (V.int .i64) r.2] = R) (fr : Fr) (H : Hp) (_ : canon 0 [2, 4, 7, 89, 90, 91] fr H = ([(2, (.ptr 0 0)), (4, (.ptr 1 0)), (7, (.ptr 2 0)), (89, (.sl v89z (List.map zjm.enc v89l))), (90, (.int .i64 v90)), (91, (.int .i64 v91))], [(.box [(.int .i64 h0_0), (.int .i64 h0_1), (.sl h0_2z (List.map (V.int .i64) h0_2l)), (.bool h0_3), (.int .i64 h0_4), (.sl h0_5z (List.map zjm.enc h0_5l))]), (.box [(.int .i64 0), (.int .i64 0), (.int .i64 0), (.int .i64 0), (.sl true []), (.bool false), (.int .i64 0), (.sl true [])]), (.box [(.int .i64 h2_0), (.int .i64 h2_1), (.int .i64 h2_2), (.int .i64 h2_3), (.vw 3 0 0 h3l.length 1), (.bool h2_5), (.int .i64 h2_6), (.sl true [])]), (.row 0 h3z 1 (List.map (V.int .i64) h3l) h3x)])), fin zm4 (unw T (orc T (M + 7)) (M + 7) 0 [.blk 1, .code zmt] (iter 0 [2, 4, 7, 89, 90, 91] (exec T (orc T (M + 7)) (M + 7) 0 zmq) j fr H)) = R
def z54 (q : Nat) : Prop := ∀ (M : Nat) (hM : 8 * q ≤ M) (j : Nat) (hj : q ≤ j) (v89z : Bool) (v89l : List zjm) (v90 v91 h0_0 h0_1 : Int) (h0_2z : Bool) (h0_2l : List Int) (h0_3 : Bool) (h0_4 : Int) (h0_5z : Bool) (h0_5l : List zjm) (h2_0 h2_1 h2_2 h2_3 : Int) (h2_5 : Bool) (h2_6 : Int) (h3z : Bool) (h3l : List Int) (h3x : Bool) (h4l : List zjm) (r : zjo × Int) (_ : zkd q v89z v89l v90 v91 h0_0 h0_1 h0_2z h0_2l h0_3 h0_4 h0_5z h0_5l h2_0 h2_1 h2_2 h2_3 h2_5 h2_6 h3z h3l h3x h4l = some r) (R : Option (List V)) (_ : some [zjo.enc r.1, (V.int .i64) r.2] = R) (fr : Fr) (H : Hp) (_ : canon 0 [2, 4, 7, 89, 90, 91] fr H = ([(2, (.ptr 0 0)), (4, (.ptr 1 0)), (7, (.ptr 2 0)), (89, (.sl v89z (List.map zjm.enc v89l))), (90, (.int .i64 v90)), (91, (.int .i64 v91))], [(.box [(.int .i64 h0_0), (.int .i64 h0_1), (.sl h0_2z (List.map (V.int .i64) h0_2l)), (.bool h0_3), (.int .i64 h0_4), (.sl h0_5z (List.map zjm.enc h0_5l))]), (.box [(.int .i64 0), (.int .i64 0), (.int .i64 0), (.int .i64 0), (.sl true []), (.bool false), (.int .i64 0), (.sl true [])]), (.box [(.int .i64 h2_0), (.int .i64 h2_1), (.int .i64 h2_2), (.int .i64 h2_3), (.vw 3 0 0 h3l.length 1), (.bool h2_5), (.int .i64 h2_6), (.vw 4 0 0 h4l.length 1)]), (.row 0 h3z 1 (List.map (V.int .i64) h3l) h3x), (.row 0 false 3 (List.map zjm.enc h4l) true)])), fin zm4 (unw T (orc T (M + 7)) (M + 7) 0 [.blk 1, .code zmt] (iter 0 [2, 4, 7, 89, 90, 91] (exec T (orc T (M + 7)) (M + 7) 0 zmq) j fr H)) = R
def z55 := And.intro @kk <| And.intro @ke <| And.intro @kn <| And.intro @zz7 <| And.intro @z1a <| And.intro @z0h <| And.intro @z08 <| And.intro @z1e <| And.intro @z1h <| And.intro @z1k <| And.intro @z2b <| And.intro @z1b <| And.intro @z1c <| @zz9
theorem z56 (q : Nat) (z8s : z53 q) (z8t : z54 q) : z53 (q + 1) := by
 intro M hM j hj v89z v89l v90 v91 h0_0 h0_1 h0_2z h0_2l h0_3 h0_4 h0_5z h0_5l h2_0 h2_1 h2_2 h2_3 h2_5 h2_6 h3z h3l h3x r h R hR fr H hc
 obtain ⟨j, rfl⟩ : ∃ i, j = i + 1 := ⟨j - 1, by omega⟩
 rw [zhn, hc]; clear hc
 rw [zke] at h
 replace h := br h; rcases h with ⟨h1, h⟩ | ⟨h1, h⟩
 ·replace h := bn h; obtain ⟨h2, h⟩ := h
  replace h := ob h; obtain ⟨e7, h3, h⟩ := h
  replace h := ob h; obtain ⟨r8, h4, h⟩ := h
  replace h4 := z5l q (M + 7) (by omega) _ _ _ h4
  try simp only [kf, simprocAttr] at h4
  replace h := br h; rcases h with ⟨h5, h⟩ | ⟨h5, h⟩
  ·replace h := z8t M (by omega) j (by omega) _ _ _ _ _ _ _ _ _ _ _ _ _ _ _ _ _ _ _ _ _ _ _ h R hR
   simp only [z55, simprocAttr, *]
  ·replace h := bn h; obtain ⟨h6, h⟩ := h
   replace h := ob h; obtain ⟨e9, h7, h⟩ := h
   replace h := br h; rcases h with ⟨h8, h⟩ | ⟨h8, h⟩
   ·replace h := br h; rcases h with ⟨h9, h⟩ | ⟨h9, h⟩
    ·replace h := br h; rcases h with ⟨h10, h⟩ | ⟨h10, h⟩
     ·replace h := z8s M (by omega) j (by omega) _ _ _ _ _ _ _ _ _ _ _ _ _ _ _ _ _ _ _ _ _ _ h R hR
      simp only [z55, simprocAttr, *]
     ·replace h := z8t M (by omega) j (by omega) _ _ _ _ _ _ _ _ _ _ _ _ _ _ _ _ _ _ _ _ _ _ _ h R hR
      simp only [z55, simprocAttr, *]
    ·replace h := z8t M (by omega) j (by omega) _ _ _ _ _ _ _ _ _ _ _ _ _ _ _ _ _ _ _ _ _ _ _ h R hR
     simp only [z55, simprocAttr, *]
   ·replace h := z8t M (by omega) j (by omega) _ _ _ _ _ _ _ _ _ _ _ _ _ _ _ _ _ _ _ _ _ _ _ h R hR
    simp only [z55, simprocAttr, *]
 ·cases h; subst hR; simp only [z55, simprocAttr, *]
theorem z57 (q : Nat) (z8t : z54 q) : z54 (q + 1) := by
 intro M hM j hj v89z v89l v90 v91 h0_0 h0_1 h0_2z h0_2l h0_3 h0_4 h0_5z h0_5l h2_0 h2_1 h2_2 h2_3 h2_5 h2_6 h3z h3l h3x h4l r h R hR fr H hc
 obtain ⟨j, rfl⟩ : ∃ i, j = i + 1 := ⟨j - 1, by omega⟩
 rw [zhn, hc]; clear hc
 rw [zkd] at h
 replace h := br h; rcases h with ⟨h1, h⟩ | ⟨h1, h⟩
 ·replace h := bn h; obtain ⟨h2, h⟩ := h
  replace h := ob h; obtain ⟨e10, h3, h⟩ := h
  replace h := ob h; obtain ⟨r11, h4, h⟩ := h
  replace h4 := z5l q (M + 7) (by omega) _ _ _ h4
  try simp only [kf, simprocAttr] at h4
  replace h := br h; rcases h with ⟨h5, h⟩ | ⟨h5, h⟩
  ·replace h := bn h; obtain ⟨h6, h⟩ := h
   replace h := z8t M (by omega) j (by omega) _ _ _ _ _ _ _ _ _ _ _ _ _ _ _ _ _ _ _ _ _ _ _ h R hR
   simp only [z55, simprocAttr, *]
  ·replace h := bn h; obtain ⟨h7, h⟩ := h
   replace h := ob h; obtain ⟨e12, h8, h⟩ := h
   replace h := br h; rcases h with ⟨h9, h⟩ | ⟨h9, h⟩
   ·replace h := br h; rcases h with ⟨h10, h⟩ | ⟨h10, h⟩
    ·replace h := br h; rcases h with ⟨h11, h⟩ | ⟨h11, h⟩
     ·replace h := z8t M (by omega) j (by omega) _ _ _ _ _ _ _ _ _ _ _ _ _ _ _ _ _ _ _ _ _ _ _ h R hR
      simp only [z55, simprocAttr, *]
     ·replace h := bn h; obtain ⟨h12, h⟩ := h
      replace h := z8t M (by omega) j (by omega) _ _ _ _ _ _ _ _ _ _ _ _ _ _ _ _ _ _ _ _ _ _ _ h R hR
      simp only [z55, simprocAttr, *]
    ·replace h := bn h; obtain ⟨h13, h⟩ := h
     replace h := z8t M (by omega) j (by omega) _ _ _ _ _ _ _ _ _ _ _ _ _ _ _ _ _ _ _ _ _ _ _ h R hR
     simp only [z55, simprocAttr, *]
   ·replace h := bn h; obtain ⟨h14, h⟩ := h
    replace h := z8t M (by omega) j (by omega) _ _ _ _ _ _ _ _ _ _ _ _ _ _ _ _ _ _ _ _ _ _ _ h R hR
    simp only [z55, simprocAttr, *]
 ·cases h; subst hR; simp only [z55, simprocAttr, *]
theorem z58 : ∀ q, z53 q ∧ z54 q
 | 0 => by refine ⟨?_, ?_⟩ <;> (intro M hM j hj; intros; rename_i h _ _ _ _ _; cases h)
 | q + 1 => by have ⟨i0, i1⟩ := z58 q; exact ⟨z56 q i0 i1, z57 q i1⟩
theorem z59 : ∀ (q N : Nat), 8 * q ≤ N → ∀ (a0 a1 : zjn), ∀ (r : zjo × Int), zkf q a0 a1 = some r → (orc T N).deep F.zkf [zjn.enc a0, zjn.enc a1] = some [zjo.enc r.1, (V.int .i64) r.2] := by
 intro q N hM a0 a1 r h
 rcases q with _ | q
 ·cases h
 obtain ⟨M, rfl⟩ : ∃ M, N = M + 8 := ⟨N - 8, by omega⟩
 have z8s := (z58 q).1
 generalize hR : some [zjo.enc r.1, (V.int .i64) r.2] = R
 rw [zhw, zyu, y8, zhu]
 rw [zkf] at h
 replace h := ob h; obtain ⟨r1, h1, h⟩ := h
 replace h1 := z5e q (M + 7) (by omega) _ _ h1
 try simp only [kf, simprocAttr] at h1
 replace h := bb h; rcases h with ⟨h2', h2, h⟩ | ⟨h2', h2, h⟩
 ·replace h := ob h; obtain ⟨r2, h3, h⟩ := h
  replace h3 := z5e q (M + 7) (by omega) _ _ h3
  try simp only [kf, simprocAttr] at h3
  replace h := bb h; rcases h with ⟨h4', h4, h⟩ | ⟨h4', h4, h⟩
  ·replace h := br h; rcases h with ⟨h5, h⟩ | ⟨h5, h⟩
   ·replace h := br h; rcases h with ⟨h6, h⟩ | ⟨h6, h⟩
    ·cases h; subst hR; simp only [z55, simprocAttr, *]
    ·replace h := ob h; obtain ⟨r3, h7, h⟩ := h
     replace h7 := z52 q M (by omega) _ _ _ _ _ _ _ _ _ _ _ _ _ _ _ _ _ _ _ h7
     try simp only [kf, simprocAttr] at h7
     replace h := br h; rcases h with ⟨h8, h⟩ | ⟨h8, h⟩
     ·cases h; subst hR; simp only [z55, simprocAttr, *]
     ·replace h := ob h; obtain ⟨r4, h9, h⟩ := h
      replace h9 := z5q q (M + 7) (by omega) _ _ _ h9
      try simp only [kf, simprocAttr] at h9
      replace h := bn h; obtain ⟨h10, h⟩ := h
      replace h := bn h; obtain ⟨h11, h⟩ := h
      replace h := bn h; obtain ⟨h12, h⟩ := h
      replace h := ob h; obtain ⟨r5, h13, h⟩ := h
      replace h13 := z5v q (M + 7) (by omega) _ _ _ h13
      try simp only [kf, simprocAttr] at h13
      replace h := bn h; obtain ⟨h14, h⟩ := h
      replace h := bn h; obtain ⟨h15, h⟩ := h
      replace h := ob h; obtain ⟨r6, h16, h⟩ := h
      replace h16 := z5x q (M + 7) (by omega) _ _ h16
      try simp only [kf, simprocAttr] at h16
      replace h := z8s M (by omega) (M + 7) (by omega) _ _ _ _ _ _ _ _ _ _ _ _ _ _ _ _ _ _ _ _ _ _ h R hR
      simp only [z55, simprocAttr, *]
   ·cases h; subst hR; simp only [z55, simprocAttr, *]
  ·cases h; subst hR; simp only [z55, simprocAttr, *]
 ·cases h; subst hR; simp only [z55, simprocAttr, *]
def z6a (q : Nat) : Prop := ∀ (M : Nat) (hM : 8 * q ≤ M) (j : Nat) (hj : q ≤ j) (v0z : Bool) (v0l : List (Sl Int)) (v3 : Int) (v9z : Bool) (v9l : List (Sl Int)) (v10 v11 : Int) (r : (Ow Int)) (_ : zkj q v0z v0l v3 v9z v9l v10 v11 = some r) (R : Option (List V)) (_ : some [(Ow.enc 1 (V.int .i64)) r] = R) (fr : Fr) (H : Hp) (_ : canon 0 [0, 3, 9, 10, 11] fr H = ([(0, (.sl v0z (List.map (Sl.enc (V.int .i64)) v0l))), (3, (.int .i64 v3)), (9, (.sl v9z (List.map (Sl.enc (V.int .i64)) v9l))), (10, (.int .i64 v10)), (11, (.int .i64 v11))], [])), fin zs3 (unw T (orc T (M + 7)) (M + 7) 0 [.blk 0, .code zsz] (iter 0 [0, 3, 9, 10, 11] (exec T (orc T (M + 7)) (M + 7) 0 zsi) j fr H)) = R
def z6b (q : Nat) : Prop := ∀ (M : Nat) (hM : 8 * q ≤ M) (j : Nat) (hj : q ≤ j) (v6len : Nat) (v25z : Bool) (v25l : List (Sl Int)) (v26 v27 : Int) (h0z : Bool) (h0l : List Int) (r : (Ow Int)) (_ : zkg q v6len v25z v25l v26 v27 h0z h0l = some r) (R : Option (List V)) (_ : some [(Ow.enc 1 (V.int .i64)) r] = R) (fr : Fr) (H : Hp) (_ : canon 0 [6, 25, 26, 27] fr H = ([(6, (.vw 0 0 0 v6len 0)), (25, (.sl v25z (List.map (Sl.enc (V.int .i64)) v25l))), (26, (.int .i64 v26)), (27, (.int .i64 v27))], [(.row 0 h0z 1 (List.map (V.int .i64) h0l) true)])), fin zs3 (unw T (orc T (M + 7)) (M + 7) 0 [.blk 2, .code zsx] (iter 0 [6, 25, 26, 27] (exec T (orc T (M + 7)) (M + 7) 0 zsu) j fr H)) = R
def z6c (q : Nat) : Prop := ∀ (M : Nat) (hM : 8 * q ≤ M) (j : Nat) (hj : q ≤ j) (v25z : Bool) (v25l : List (Sl Int)) (v26 : Int) (r : (Ow Int)) (_ : zki q v25z v25l v26 = some r) (R : Option (List V)) (_ : some [(Ow.enc 1 (V.int .i64)) r] = R) (fr : Fr) (H : Hp) (_ : canon 0 [6, 25, 26, 27] fr H = ([(6, (.sl true [])), (25, (.sl v25z (List.map (Sl.enc (V.int .i64)) v25l))), (26, (.int .i64 v26)), (27, (.int .i64 0))], [])), fin zs3 (unw T (orc T (M + 7)) (M + 7) 0 [.blk 2, .code zsx] (iter 0 [6, 25, 26, 27] (exec T (orc T (M + 7)) (M + 7) 0 zsu) j fr H)) = R
def z6d (q : Nat) : Prop := ∀ (M : Nat) (hM : 8 * q ≤ M) (j : Nat) (hj : q ≤ j) (v25z : Bool) (v25l : List (Sl Int)) (v26 v27 : Int) (h0z : Bool) (h0l : List Int) (r : (Ow Int)) (_ : zkh q v25z v25l v26 v27 h0z h0l = some r) (R : Option (List V)) (_ : some [(Ow.enc 1 (V.int .i64)) r] = R) (fr : Fr) (H : Hp) (_ : canon 0 [6, 25, 26, 27] fr H = ([(6, (.vw 0 0 0 h0l.length 1)), (25, (.sl v25z (List.map (Sl.enc (V.int .i64)) v25l))), (26, (.int .i64 v26)), (27, (.int .i64 v27))], [(.row 0 h0z 1 (List.map (V.int .i64) h0l) true)])), fin zs3 (unw T (orc T (M + 7)) (M + 7) 0 [.blk 2, .code zsx] (iter 0 [6, 25, 26, 27] (exec T (orc T (M + 7)) (M + 7) 0 zsu) j fr H)) = R
def z6e := And.intro @kk <| And.intro @ke <| And.intro @kn <| And.intro @z1v <| And.intro @z27 <| And.intro @z28 <| And.intro @z29 <| @z1x
theorem z6f (q : Nat) (z8u : z6a q) (z8v : z6b q) (z8w : z6c q) : z6a (q + 1) := by
 intro M hM j hj v0z v0l v3 v9z v9l v10 v11 r h R hR fr H hc
 obtain ⟨j, rfl⟩ : ∃ i, j = i + 1 := ⟨j - 1, by omega⟩
 rw [zhn, hc]; clear hc
 rw [zkj] at h
 replace h := br h; rcases h with ⟨h1, h⟩ | ⟨h1, h⟩
 ·replace h := bn h; obtain ⟨h2, h⟩ := h
  replace h := ob h; obtain ⟨e1, h3, h⟩ := h
  replace h := bm h; obtain ⟨h4, h⟩ := h
  replace h := z8u M (by omega) j (by omega) _ _ _ _ _ _ _ _ h R hR
  simp only [z6e, simprocAttr, *]
 ·replace h := bm h; obtain ⟨h5, h⟩ := h
  replace h := br h; rcases h with ⟨h6, h⟩ | ⟨h6, h⟩
  ·replace h := bn h; obtain ⟨h7, h⟩ := h
   replace h := bn h; obtain ⟨h8, h⟩ := h
   replace h := bm h; obtain ⟨h9, h⟩ := h
   replace h := z8v M (by omega) (M + 7) (by omega) _ _ _ _ _ _ _ _ h R hR
   simp only [z6e, simprocAttr, *]
  ·replace h := z8w M (by omega) (M + 7) (by omega) _ _ _ _ h R hR
   simp only [z6e, simprocAttr, *]
theorem z6g (q : Nat) (z8v : z6b q) : z6b (q + 1) := by
 intro M hM j hj v6len v25z v25l v26 v27 h0z h0l r h R hR fr H hc
 obtain ⟨j, rfl⟩ : ∃ i, j = i + 1 := ⟨j - 1, by omega⟩
 rw [zhn, hc]; clear hc
 rw [zkg] at h
 replace h := br h; rcases h with ⟨h1, h⟩ | ⟨h1, h⟩
 ·replace h := bn h; obtain ⟨h2, h⟩ := h
  replace h := ob h; obtain ⟨e2, h3, h⟩ := h
  replace h := bn h; obtain ⟨h4, h⟩ := h
  replace h := z8v M (by omega) j (by omega) _ _ _ _ _ _ _ _ h R hR
  simp only [z6e, simprocAttr, *]
 ·cases h; subst hR; simp only [z6e, simprocAttr, *]
theorem z6h (q : Nat) (z8x : z6d q) : z6c (q + 1) := by
 intro M hM j hj v25z v25l v26 r h R hR fr H hc
 obtain ⟨j, rfl⟩ : ∃ i, j = i + 1 := ⟨j - 1, by omega⟩
 rw [zhn, hc]; clear hc
 rw [zki] at h
 replace h := br h; rcases h with ⟨h1, h⟩ | ⟨h1, h⟩
 ·replace h := ob h; obtain ⟨e3, h2, h⟩ := h
  replace h := bn h; obtain ⟨h3, h⟩ := h
  replace h := z8x M (by omega) j (by omega) _ _ _ _ _ _ _ h R hR
  simp only [z6e, simprocAttr, *]
 ·cases h; subst hR; simp only [z6e, simprocAttr, *]
theorem z6i (q : Nat) (z8x : z6d q) : z6d (q + 1) := by
 intro M hM j hj v25z v25l v26 v27 h0z h0l r h R hR fr H hc
 obtain ⟨j, rfl⟩ : ∃ i, j = i + 1 := ⟨j - 1, by omega⟩
 rw [zhn, hc]; clear hc
 rw [zkh] at h
 replace h := br h; rcases h with ⟨h1, h⟩ | ⟨h1, h⟩
 ·replace h := bn h; obtain ⟨h2, h⟩ := h
  replace h := ob h; obtain ⟨e4, h3, h⟩ := h
  replace h := bn h; obtain ⟨h4, h⟩ := h
  replace h := z8x M (by omega) j (by omega) _ _ _ _ _ _ _ h R hR
  simp only [z6e, simprocAttr, *]
 ·cases h; subst hR; simp only [z6e, simprocAttr, *]
theorem z6j : ∀ q, z6a q ∧ z6b q ∧ z6c q ∧ z6d q
 | 0 => by refine ⟨?_, ?_, ?_, ?_⟩ <;> (intro M hM j hj; intros; rename_i h _ _ _ _ _; cases h)
 | q + 1 => by have ⟨i0, i1, i2, i3⟩ := z6j q; exact ⟨z6f q i0 i1 i2, z6g q i1, z6h q i3, z6i q i3⟩
theorem z6k : ∀ (q N : Nat), 8 * q ≤ N → ∀ (a0 : (Sl (Sl Int))), ∀ (r : (Ow Int)), zkk q a0 = some r → (orc T N).deep F.zkk [(Sl.enc (Sl.enc (V.int .i64))) a0] = some [(Ow.enc 1 (V.int .i64)) r] := by
 intro q N hM a0 r h
 rcases q with _ | q
 ·cases h
 obtain ⟨M, rfl⟩ : ∃ M, N = M + 8 := ⟨N - 8, by omega⟩
 have z8u := (z6j q).1
 generalize hR : some [(Ow.enc 1 (V.int .i64)) r] = R
 rw [zhw, zze, y8, zhu]
 rw [zkk] at h
 replace h := z8u M (by omega) (M + 7) (by omega) _ _ _ _ _ _ _ _ h R hR
 simp only [z6e, simprocAttr, *]
def z6l := And.intro @kk <| And.intro @ke <| And.intro @kn <| And.intro @z14 <| @z16
theorem z6m : ∀ (q N : Nat), 8 * q ≤ N → ∀ (a0 : (Sl zjm)), ∀ (r : (Ow zjm)), zkl q a0 = some r → (orc T N).deep F.zkl [(Sl.enc zjm.enc) a0] = some [(Ow.enc 3 zjm.enc) r] := by
 intro q N hM a0 r h
 rcases q with _ | q
 ·cases h
 obtain ⟨M, rfl⟩ : ∃ M, N = M + 8 := ⟨N - 8, by omega⟩
 generalize hR : some [(Ow.enc 3 zjm.enc) r] = R
 rw [zhw, zzh, y8, zhu]
 rw [zkl] at h
 replace h := bb h; rcases h with ⟨h1', h1, h⟩ | ⟨h1', h1, h⟩
 ·cases h; subst hR; simp only [z6l, simprocAttr, *]
 ·replace h := bn h; obtain ⟨h2, h⟩ := h
  cases h; subst hR; simp only [z6l, simprocAttr, *]
def z6n := And.intro @kk <| And.intro @ke <| And.intro @kn <| And.intro @z2g <| @z2i
theorem z6o : ∀ (q N : Nat), 8 * q ≤ N → ∀ (a0 : (Ow zjm)) (a1 : Int) (a2 : (Sl zjm)), ∀ (r : (Ow zjm)), zkm q a0 a1 a2 = some r → (orc T N).deep F.zkm [(Ow.enc 3 zjm.enc) a0, (V.int .i64) a1, (Sl.enc zjm.enc) a2] = some [(Ow.enc 3 zjm.enc) r] := by
 intro q N hM a0 a1 a2 r h
 rcases q with _ | q
 ·cases h
 obtain ⟨M, rfl⟩ : ∃ M, N = M + 8 := ⟨N - 8, by omega⟩
 generalize hR : some [(Ow.enc 3 zjm.enc) r] = R
 rw [zhw, zzl, y8, zhu]
 rw [zkm] at h
 replace h := bn h; obtain ⟨h1, h⟩ := h
 replace h := bn h; obtain ⟨h2, h⟩ := h
 replace h := br h; rcases h with ⟨h3, h⟩ | ⟨h3, h⟩
 ·cases h; subst hR; simp only [z6n, simprocAttr, *]
 ·replace h := bn h; obtain ⟨h4, h⟩ := h
  replace h := bn h; obtain ⟨h5, h⟩ := h
  cases h; subst hR; simp only [z6n, simprocAttr, *]
def z6p (q : Nat) : Prop := ∀ (M : Nat) (hM : 8 * q ≤ M) (j : Nat) (hj : q ≤ j) (w1 : Nat) (v7 v8 h0_0 h0_1 h0_2 h0_3 h0_4 h0_5 h0_6 : Int) (h1z : Bool) (h1l : List zjm) (h1x : Bool) (r : Int) (_ : zkn q v7 v8 h0_0 h0_1 h0_2 h0_3 h0_4 h0_5 h0_6 h1z h1l h1x = some r) (R : Option (List V × Hp)) (_ : (some ([(.int .i64 r)], [(.box [(.int .i64 h0_0), (.int .i64 h0_1), (.int .i64 h0_2), (.int .i64 h0_3), (.int .i64 h0_4), (.int .i64 h0_5), (.int .i64 h0_6)]), (.row w1 h1z 3 (List.map zjm.enc h1l) h1x)]) : Option (List V × Hp)) = R) (fr : Fr) (H : Hp) (_ : canon 2 [0, 1, 7, 8] fr H = ([(0, (.vw 1 w1 0 h1l.length 1)), (1, (.fn F.zlt [(.ptr 0 0)])), (7, (.int .i64 v7)), (8, (.int .i64 v8))], [(.box [(.int .i64 h0_0), (.int .i64 h0_1), (.int .i64 h0_2), (.int .i64 h0_3), (.int .i64 h0_4), (.int .i64 h0_5), (.int .i64 h0_6)]), (.row w1 h1z 3 (List.map zjm.enc h1l) h1x)])), finI 2 false [.tmp 4] (unw T (orc T (M + 5)) (M + 5) 2 [.blk 0, .code zuc] (iter 2 [0, 1, 7, 8] (exec T (orc T (M + 5)) (M + 5) 2 zt9) j fr H)) = R
def z6q := And.intro @kk <| And.intro @ke <| And.intro @kn <| And.intro @z17 <| And.intro @z2a <| And.intro @z18 <| @z19
theorem z6r (q : Nat) (z8y : z6p q) : z6p (q + 1) := by
 intro M hM j hj w1 v7 v8 h0_0 h0_1 h0_2 h0_3 h0_4 h0_5 h0_6 h1z h1l h1x r h R hR fr H hc
 obtain ⟨j, rfl⟩ : ∃ i, j = i + 1 := ⟨j - 1, by omega⟩
 rw [zhn, hc]; clear hc
 rw [zkn] at h
 replace h := br h; rcases h with ⟨h1, h⟩ | ⟨h1, h⟩
 ·replace h := bn h; obtain ⟨h2, h⟩ := h
  replace h := bn h; obtain ⟨h3, h⟩ := h
  replace h := ob h; obtain ⟨e1, h4, h⟩ := h
  replace h := br h; rcases h with ⟨h5, h⟩ | ⟨h5, h⟩
  ·cases h; subst hR; simp only [z6q, simprocAttr, *]
  ·replace h := z8y M (by omega) j (by omega) w1 _ _ _ _ _ _ _ _ _ _ _ _ _ h R hR
   simp only [z6q, simprocAttr, *]
 ·cases h; subst hR; simp only [z6q, simprocAttr, *]
theorem z6s : ∀ q, z6p q
 | 0 => by intro M hM j hj; intros; rename_i h _ _ _ _ _; cases h
 | q + 1 => by have i0 := z6s q; exact z6r q i0
theorem z6t : ∀ (q M : Nat), 8 * q ≤ M → ∀ (w1 : Nat), ∀ (h0_0 h0_1 h0_2 h0_3 h0_4 h0_5 h0_6 : Int), ∀ (h1z : Bool), ∀ (h1l : List zjm), ∀ (h1x : Bool), ∀ (r : Int), zko q h0_0 h0_1 h0_2 h0_3 h0_4 h0_5 h0_6 h1z h1l h1x = some r → (orc T (M + 6)).inl F.zlu [(.vw 1 w1 0 h1l.length 1), (.fn F.zlt [(.ptr 0 0)])] [(.box [(.int .i64 h0_0), (.int .i64 h0_1), (.int .i64 h0_2), (.int .i64 h0_3), (.int .i64 h0_4), (.int .i64 h0_5), (.int .i64 h0_6)]), (.row w1 h1z 3 (List.map zjm.enc h1l) h1x)] = (some ([(.int .i64 r)], [(.box [(.int .i64 h0_0), (.int .i64 h0_1), (.int .i64 h0_2), (.int .i64 h0_3), (.int .i64 h0_4), (.int .i64 h0_5), (.int .i64 h0_6)]), (.row w1 h1z 3 (List.map zjm.enc h1l) h1x)]) : Option (List V × Hp)) := by
 intro q M hM w1 h0_0 h0_1 h0_2 h0_3 h0_4 h0_5 h0_6 h1z h1l h1x r h
 rcases q with _ | q
 ·cases h
 have z8y := (z6s q)
 generalize hR : (some ([(.int .i64 r)], [(.box [(.int .i64 h0_0), (.int .i64 h0_1), (.int .i64 h0_2), (.int .i64 h0_3), (.int .i64 h0_4), (.int .i64 h0_5), (.int .i64 h0_6)]), (.row w1 h1z 3 (List.map zjm.enc h1l) h1x)]) : Option (List V × Hp)) = R
 rw [z2c (n := M + 5)]
 rw [zko] at h
 replace h := z8y M (by omega) (M + 5) (by omega) w1 _ _ _ _ _ _ _ _ _ _ _ _ _ h R hR
 simp only [z6q, simprocAttr, *]
def z6u (q : Nat) : Prop := ∀ (M : Nat) (hM : 8 * q ≤ M) (j : Nat) (hj : q ≤ j) (w1 : Nat) (v5 v6 h0_0 h0_1 h0_2 h0_3 h0_4 h0_5 h0_6 : Int) (h1z : Bool) (h1l : List zjm) (h1x : Bool) (r : Nat × (List zjm) × Bool) (_ : zkp q v5 v6 h0_0 h0_1 h0_2 h0_3 h0_4 h0_5 h0_6 h1z h1l h1x = some r) (R : Option (List V × Hp)) (_ : (some ([(.vw 1 w1 0 r.1 0)], [(.box [(.int .i64 h0_0), (.int .i64 h0_1), (.int .i64 h0_2), (.int .i64 h0_3), (.int .i64 h0_4), (.int .i64 h0_5), (.int .i64 h0_6)]), (.row w1 h1z 3 (List.map zjm.enc r.2.1) r.2.2)]) : Option (List V × Hp)) = R) (fr : Fr) (H : Hp) (_ : canon 2 [0, 1, 5, 6] fr H = ([(0, (.vw 1 w1 0 h1l.length 1)), (1, (.fn F.zlt [(.ptr 0 0)])), (5, (.int .i64 v5)), (6, (.int .i64 v6))], [(.box [(.int .i64 h0_0), (.int .i64 h0_1), (.int .i64 h0_2), (.int .i64 h0_3), (.int .i64 h0_4), (.int .i64 h0_5), (.int .i64 h0_6)]), (.row w1 h1z 3 (List.map zjm.enc h1l) h1x)])), finI 2 true [.tmp 4] (unw T (orc T (M + 6)) (M + 6) 2 [.blk 0, .code ztw] (iter 2 [0, 1, 5, 6] (exec T (orc T (M + 6)) (M + 6) 2 ztr) j fr H)) = R
def z6v := And.intro @kk <| And.intro @ke <| And.intro @kn <| And.intro @z11 <| And.intro @z17 <| And.intro @z2b <| And.intro @z18 <| @z19
theorem z6w (q : Nat) (z8z : z6u q) : z6u (q + 1) := by
 intro M hM j hj w1 v5 v6 h0_0 h0_1 h0_2 h0_3 h0_4 h0_5 h0_6 h1z h1l h1x r h R hR fr H hc
 obtain ⟨j, rfl⟩ : ∃ i, j = i + 1 := ⟨j - 1, by omega⟩
 rw [zhn, hc]; clear hc
 rw [zkp] at h
 replace h := br h; rcases h with ⟨h1, h⟩ | ⟨h1, h⟩
 ·replace h := bn h; obtain ⟨h2, h⟩ := h
  replace h := bn h; obtain ⟨h3, h⟩ := h
  replace h := ob h; obtain ⟨e2, h4, h⟩ := h
  replace h := br h; rcases h with ⟨h5, h⟩ | ⟨h5, h⟩
  ·replace h := z8z M (by omega) j (by omega) w1 _ _ _ _ _ _ _ _ _ _ _ _ _ h R hR
   simp only [z6v, simprocAttr, *]
  ·replace h := bn h; obtain ⟨h6, h⟩ := h
   replace h := bn h; obtain ⟨h7, h⟩ := h
   replace h := ob h; obtain ⟨e3, h8, h⟩ := h
   replace h := bb h; rcases h with ⟨h9', h9, h⟩ | ⟨h9', h9, h⟩
   ·replace h := z8z M (by omega) j (by omega) w1 _ _ _ _ _ _ _ _ _ _ _ _ _ h R hR
    simp only [z6v, simprocAttr, *]
   ·cases h
 ·replace h := bn h; obtain ⟨h10, h⟩ := h
  replace h := bn h; obtain ⟨h11, h⟩ := h
  replace h := bb h; rcases h with ⟨h12', h12, h⟩ | ⟨h12', h12, h⟩
  ·replace h := bn h; obtain ⟨h13, h⟩ := h
   replace h := bb h; rcases h with ⟨h14', h14, h⟩ | ⟨h14', h14, h⟩
   ·cases h; subst hR; simp only [z6v, simprocAttr, *]
   ·cases h; subst hR; simp only [z6v, simprocAttr, *]
  ·cases h
theorem z6x : ∀ q, z6u q
 | 0 => by intro M hM j hj; intros; rename_i h _ _ _ _ _; cases h
 | q + 1 => by have i0 := z6x q; exact z6w q i0
theorem z6y : ∀ (q M : Nat), 8 * q ≤ M → ∀ (w1 : Nat), ∀ (h0_0 h0_1 h0_2 h0_3 h0_4 h0_5 h0_6 : Int), ∀ (h1z : Bool), ∀ (h1l : List zjm), ∀ (h1x : Bool), ∀ (r : Nat × (List zjm) × Bool), zkq q h0_0 h0_1 h0_2 h0_3 h0_4 h0_5 h0_6 h1z h1l h1x = some r → (orc T (M + 7)).inl F.zls [(.vw 1 w1 0 h1l.length 1), (.fn F.zlt [(.ptr 0 0)])] [(.box [(.int .i64 h0_0), (.int .i64 h0_1), (.int .i64 h0_2), (.int .i64 h0_3), (.int .i64 h0_4), (.int .i64 h0_5), (.int .i64 h0_6)]), (.row w1 h1z 3 (List.map zjm.enc h1l) h1x)] = (some ([(.vw 1 w1 0 r.1 0)], [(.box [(.int .i64 h0_0), (.int .i64 h0_1), (.int .i64 h0_2), (.int .i64 h0_3), (.int .i64 h0_4), (.int .i64 h0_5), (.int .i64 h0_6)]), (.row w1 h1z 3 (List.map zjm.enc r.2.1) r.2.2)]) : Option (List V × Hp)) := by
 intro q M hM w1 h0_0 h0_1 h0_2 h0_3 h0_4 h0_5 h0_6 h1z h1l h1x r h
 rcases q with _ | q
 ·cases h
 have z8z := (z6x q)
 generalize hR : (some ([(.vw 1 w1 0 r.1 0)], [(.box [(.int .i64 h0_0), (.int .i64 h0_1), (.int .i64 h0_2), (.int .i64 h0_3), (.int .i64 h0_4), (.int .i64 h0_5), (.int .i64 h0_6)]), (.row w1 h1z 3 (List.map zjm.enc r.2.1) r.2.2)]) : Option (List V × Hp)) = R
 rw [z13 (n := M + 6)]
 rw [zkq] at h
 replace h := ob h; obtain ⟨r1, h1, h⟩ := h
 replace h1 := z6t q M (by omega) w1 _ _ _ _ _ _ _ _ _ _ _ h1
 try simp only [kf, simprocAttr] at h1
 replace h := br h; rcases h with ⟨h2, h⟩ | ⟨h2, h⟩
 ·cases h; subst hR; simp only [z6v, simprocAttr, *]
 ·replace h := z8z M (by omega) (M + 6) (by omega) w1 _ _ _ _ _ _ _ _ _ _ _ _ _ h R hR
  simp only [z6v, simprocAttr, *]
def z6z (q : Nat) : Prop := ∀ (M : Nat) (hM : 8 * q ≤ M) (j : Nat) (hj : q ≤ j) (w1 v0len : Nat) (v7 v8 h0_0 h0_1 h0_2 h0_3 h0_4 h0_5 h0_6 : Int) (h1z : Bool) (h1l : List zjm) (h1x : Bool) (r : Int) (_ : zkr q v0len v7 v8 h0_0 h0_1 h0_2 h0_3 h0_4 h0_5 h0_6 h1z h1l h1x = some r) (R : Option (List V × Hp)) (_ : (some ([(.int .i64 r)], [(.box [(.int .i64 h0_0), (.int .i64 h0_1), (.int .i64 h0_2), (.int .i64 h0_3), (.int .i64 h0_4), (.int .i64 h0_5), (.int .i64 h0_6)]), (.row w1 h1z 3 (List.map zjm.enc h1l) h1x)]) : Option (List V × Hp)) = R) (fr : Fr) (H : Hp) (_ : canon 2 [0, 1, 7, 8] fr H = ([(0, (.vw 1 w1 0 v0len 0)), (1, (.fn F.zlv [(.ptr 0 0)])), (7, (.int .i64 v7)), (8, (.int .i64 v8))], [(.box [(.int .i64 h0_0), (.int .i64 h0_1), (.int .i64 h0_2), (.int .i64 h0_3), (.int .i64 h0_4), (.int .i64 h0_5), (.int .i64 h0_6)]), (.row w1 h1z 3 (List.map zjm.enc h1l) h1x)])), finI 2 false [.tmp 4] (unw T (orc T (M + 6)) (M + 6) 2 [.blk 0, .code zuc] (iter 2 [0, 1, 7, 8] (exec T (orc T (M + 6)) (M + 6) 2 zt9) j fr H)) = R
def z60 := And.intro @kk <| And.intro @ke <| And.intro @kn <| And.intro @z2a <| And.intro @z2d <| And.intro @z2e <| @z2f
theorem z61 (q : Nat) (z80 : z6z q) : z6z (q + 1) := by
 intro M hM j hj w1 v0len v7 v8 h0_0 h0_1 h0_2 h0_3 h0_4 h0_5 h0_6 h1z h1l h1x r h R hR fr H hc
 obtain ⟨j, rfl⟩ : ∃ i, j = i + 1 := ⟨j - 1, by omega⟩
 rw [zhn, hc]; clear hc
 rw [zkr] at h
 replace h := br h; rcases h with ⟨h1, h⟩ | ⟨h1, h⟩
 ·replace h := bn h; obtain ⟨h2, h⟩ := h
  replace h := bn h; obtain ⟨h3, h⟩ := h
  replace h := ob h; obtain ⟨e1, h4, h⟩ := h
  replace h := br h; rcases h with ⟨h5, h⟩ | ⟨h5, h⟩
  ·cases h; subst hR; simp only [z60, simprocAttr, *]
  ·replace h := z80 M (by omega) j (by omega) w1 _ _ _ _ _ _ _ _ _ _ _ _ _ _ h R hR
   simp only [z60, simprocAttr, *]
 ·cases h; subst hR; simp only [z60, simprocAttr, *]
theorem z62 : ∀ q, z6z q
 | 0 => by intro M hM j hj; intros; rename_i h _ _ _ _ _; cases h
 | q + 1 => by have i0 := z62 q; exact z61 q i0
theorem z63 : ∀ (q M : Nat), 8 * q ≤ M → ∀ (w1 v0len : Nat), ∀ (h0_0 h0_1 h0_2 h0_3 h0_4 h0_5 h0_6 : Int), ∀ (h1z : Bool), ∀ (h1l : List zjm), ∀ (h1x : Bool), ∀ (r : Int), zks q v0len h0_0 h0_1 h0_2 h0_3 h0_4 h0_5 h0_6 h1z h1l h1x = some r → (orc T (M + 7)).inl F.zlu [(.vw 1 w1 0 v0len 0), (.fn F.zlv [(.ptr 0 0)])] [(.box [(.int .i64 h0_0), (.int .i64 h0_1), (.int .i64 h0_2), (.int .i64 h0_3), (.int .i64 h0_4), (.int .i64 h0_5), (.int .i64 h0_6)]), (.row w1 h1z 3 (List.map zjm.enc h1l) h1x)] = (some ([(.int .i64 r)], [(.box [(.int .i64 h0_0), (.int .i64 h0_1), (.int .i64 h0_2), (.int .i64 h0_3), (.int .i64 h0_4), (.int .i64 h0_5), (.int .i64 h0_6)]), (.row w1 h1z 3 (List.map zjm.enc h1l) h1x)]) : Option (List V × Hp)) := by
 intro q M hM w1 v0len h0_0 h0_1 h0_2 h0_3 h0_4 h0_5 h0_6 h1z h1l h1x r h
 rcases q with _ | q
 ·cases h
 have z80 := (z62 q)
 generalize hR : (some ([(.int .i64 r)], [(.box [(.int .i64 h0_0), (.int .i64 h0_1), (.int .i64 h0_2), (.int .i64 h0_3), (.int .i64 h0_4), (.int .i64 h0_5), (.int .i64 h0_6)]), (.row w1 h1z 3 (List.map zjm.enc h1l) h1x)]) : Option (List V × Hp)) = R
 rw [z2c (n := M + 6)]
 rw [zks] at h
 replace h := z80 M (by omega) (M + 6) (by omega) w1 _ _ _ _ _ _ _ _ _ _ _ _ _ _ h R hR
 simp only [z60, simprocAttr, *]
def z64 := And.intro @kk <| And.intro @ke <| And.intro @kn <| And.intro @z0p <| And.intro @z12 <| And.intro @z15 <| And.intro @z2b <| And.intro @z2h <| @z0r
theorem z65 : ∀ (q N : Nat), 8 * q ≤ N → ∀ (a0 : (Sl zjm)) (a1 : zjq), ∀ (r : (Ow zjm)), zkt q a0 a1 = some r → (orc T N).deep F.zkt [(Sl.enc zjm.enc) a0, zjq.enc a1] = some [(Ow.enc 3 zjm.enc) r] := by
 intro q N hM a0 a1 r h
 rcases q with _ | q
 ·cases h
 obtain ⟨M, rfl⟩ : ∃ M, N = M + 8 := ⟨N - 8, by omega⟩
 generalize hR : some [(Ow.enc 3 zjm.enc) r] = R
 rw [zhw, zy0, y8, zhu]
 rw [zkt] at h
 replace h := ob h; obtain ⟨r1, h1, h⟩ := h
 replace h1 := z6m q (M + 7) (by omega) _ _ h1
 try simp only [kf, simprocAttr] at h1
 replace h := ob h; obtain ⟨r2, h2, h⟩ := h
 replace h2 := z6y q M (by omega) 0 _ _ _ _ _ _ _ _ _ _ _ h2
 try simp only [kf, simprocAttr] at h2
 replace h := ob h; obtain ⟨r3, h3, h⟩ := h
 replace h3 := z63 q M (by omega) 0 _ _ _ _ _ _ _ _ _ _ _ _ h3
 try simp only [kf, simprocAttr] at h3
 replace h := br h; rcases h with ⟨h4, h⟩ | ⟨h4, h⟩
 ·replace h := bb h; rcases h with ⟨h5', h5, h⟩ | ⟨h5', h5, h⟩
  ·replace h := ob h; obtain ⟨r4, h6, h⟩ := h
   replace h6 := z6o q (M + 7) (by omega) _ _ _ _ h6
   try simp only [kf, simprocAttr] at h6
   cases h; subst hR; simp only [z64, simprocAttr, *]
  ·cases h
 ·replace h := bb h; rcases h with ⟨h7', h7, h⟩ | ⟨h7', h7, h⟩
  ·replace h := ob h; obtain ⟨r5, h8, h⟩ := h
   replace h8 := z6o q (M + 7) (by omega) _ _ _ _ h8
   try simp only [kf, simprocAttr] at h8
   cases h; subst hR; simp only [z64, simprocAttr, *]
  ·cases h
def z66 (q : Nat) : Prop := ∀ (M : Nat) (hM : 8 * q ≤ M) (j : Nat) (hj : q ≤ j) (v89z : Bool) (v89l : List zjm) (v90 h1_0 h1_1 : Int) (h1_3 : Bool) (h1_4 : Int) (h1_5z : Bool) (h1_5l : List zjm) (h2z : Bool) (h2l : List Int) (h2x : Bool) (r : zjn × Int) (_ : zkv q v89z v89l v90 h1_0 h1_1 h1_3 h1_4 h1_5z h1_5l h2z h2l h2x = some r) (R : Option (List V)) (_ : some [zjn.enc r.1, (V.int .i64) r.2] = R) (fr : Fr) (H : Hp) (_ : canon 0 [4, 7, 89, 90, 91] fr H = ([(4, (.ptr 0 0)), (7, (.ptr 1 0)), (89, (.sl v89z (List.map zjm.enc v89l))), (90, (.int .i64 v90)), (91, (.int .i64 0))], [(.box [(.int .i64 0), (.int .i64 0), (.sl true []), (.bool false), (.int .i64 0), (.sl true [])]), (.box [(.int .i64 h1_0), (.int .i64 h1_1), (.vw 2 0 0 h2l.length 1), (.bool h1_3), (.int .i64 h1_4), (.sl h1_5z (List.map zjm.enc h1_5l))]), (.row 0 h2z 1 (List.map (V.int .i64) h2l) h2x)])), fin zp7 (unw T (orc T (M + 7)) (M + 7) 0 [.blk 1, .code zp0] (iter 0 [4, 7, 89, 90, 91] (exec T (orc T (M + 7)) (M + 7) 0 zpt) j fr H)) = R
def z67 (q : Nat) : Prop := ∀ (M : Nat) (hM : 8 * q ≤ M) (j : Nat) (hj : q ≤ j) (v89z : Bool) (v89l : List zjm) (v90 v91 h1_0 h1_1 : Int) (h1_3 : Bool) (h1_4 : Int) (h2z : Bool) (h2l : List Int) (h2x h3z : Bool) (h3l : List zjm) (h3x : Bool) (r : zjn × Int) (_ : zku q v89z v89l v90 v91 h1_0 h1_1 h1_3 h1_4 h2z h2l h2x h3z h3l h3x = some r) (R : Option (List V)) (_ : some [zjn.enc r.1, (V.int .i64) r.2] = R) (fr : Fr) (H : Hp) (_ : canon 0 [4, 7, 89, 90, 91] fr H = ([(4, (.ptr 0 0)), (7, (.ptr 1 0)), (89, (.sl v89z (List.map zjm.enc v89l))), (90, (.int .i64 v90)), (91, (.int .i64 v91))], [(.box [(.int .i64 0), (.int .i64 0), (.sl true []), (.bool false), (.int .i64 0), (.sl true [])]), (.box [(.int .i64 h1_0), (.int .i64 h1_1), (.vw 2 0 0 h2l.length 1), (.bool h1_3), (.int .i64 h1_4), (.vw 3 0 0 h3l.length 1)]), (.row 0 h2z 1 (List.map (V.int .i64) h2l) h2x), (.row 0 h3z 3 (List.map zjm.enc h3l) h3x)])), fin zp7 (unw T (orc T (M + 7)) (M + 7) 0 [.blk 1, .code zp0] (iter 0 [4, 7, 89, 90, 91] (exec T (orc T (M + 7)) (M + 7) 0 zpt) j fr H)) = R
def z68 := And.intro @kk <| And.intro @ke <| And.intro @kn <| And.intro @z0j <| And.intro @z0h <| And.intro @z0q <| And.intro @z1w <| @z0l
theorem z69 (q : Nat) (z81 : z67 q) : z66 (q + 1) := by
 intro M hM j hj v89z v89l v90 h1_0 h1_1 h1_3 h1_4 h1_5z h1_5l h2z h2l h2x r h R hR fr H hc
 obtain ⟨j, rfl⟩ : ∃ i, j = i + 1 := ⟨j - 1, by omega⟩
 rw [zhn, hc]; clear hc
 rw [zkv] at h
 replace h := br h; rcases h with ⟨h1, h⟩ | ⟨h1, h⟩
 ·replace h := ob h; obtain ⟨e3, h2, h⟩ := h
  replace h := ob h; obtain ⟨r4, h3, h⟩ := h
  replace h3 := z65 q (M + 7) (by omega) _ _ _ h3
  try simp only [kf, simprocAttr] at h3
  replace h := z81 M (by omega) j (by omega) _ _ _ _ _ _ _ _ _ _ _ _ _ _ _ h R hR
  simp only [z68, simprocAttr, *]
 ·replace h := ob h; obtain ⟨r5, h4, h⟩ := h
  replace h4 := z5e q (M + 7) (by omega) _ _ h4
  try simp only [kf, simprocAttr] at h4
  replace h := bb h; rcases h with ⟨h5', h5, h⟩ | ⟨h5', h5, h⟩
  ·cases h; subst hR; simp only [z68, simprocAttr, *]
  ·cases h; subst hR; simp only [z68, simprocAttr, *]
theorem z7a (q : Nat) (z81 : z67 q) : z67 (q + 1) := by
 intro M hM j hj v89z v89l v90 v91 h1_0 h1_1 h1_3 h1_4 h2z h2l h2x h3z h3l h3x r h R hR fr H hc
 obtain ⟨j, rfl⟩ : ∃ i, j = i + 1 := ⟨j - 1, by omega⟩
 rw [zhn, hc]; clear hc
 rw [zku] at h
 replace h := br h; rcases h with ⟨h1, h⟩ | ⟨h1, h⟩
 ·replace h := bn h; obtain ⟨h2, h⟩ := h
  replace h := ob h; obtain ⟨e6, h3, h⟩ := h
  replace h := ob h; obtain ⟨r7, h4, h⟩ := h
  replace h4 := z65 q (M + 7) (by omega) _ _ _ h4
  try simp only [kf, simprocAttr] at h4
  replace h := z81 M (by omega) j (by omega) _ _ _ _ _ _ _ _ _ _ _ _ _ _ _ h R hR
  simp only [z68, simprocAttr, *]
 ·replace h := ob h; obtain ⟨r8, h5, h⟩ := h
  replace h5 := z5e q (M + 7) (by omega) _ _ h5
  try simp only [kf, simprocAttr] at h5
  replace h := bb h; rcases h with ⟨h6', h6, h⟩ | ⟨h6', h6, h⟩
  ·cases h; subst hR; simp only [z68, simprocAttr, *]
  ·cases h; subst hR; simp only [z68, simprocAttr, *]
theorem z7b : ∀ q, z66 q ∧ z67 q
 | 0 => by refine ⟨?_, ?_⟩ <;> (intro M hM j hj; intros; rename_i h _ _ _ _ _; cases h)
 | q + 1 => by have ⟨i0, i1⟩ := z7b q; exact ⟨z69 q i1, z7a q i1⟩
theorem z7c : ∀ (q N : Nat), 8 * q ≤ N → ∀ (a0 : zjn) (a1 : zjo), ∀ (r : zjn × Int), zkw q a0 a1 = some r → (orc T N).deep F.zkw [zjn.enc a0, zjo.enc a1] = some [zjn.enc r.1, (V.int .i64) r.2] := by
 intro q N hM a0 a1 r h
 rcases q with _ | q
 ·cases h
 obtain ⟨M, rfl⟩ : ∃ M, N = M + 8 := ⟨N - 8, by omega⟩
 have ih_delta_Apply_l0 := (z7b q).1
 generalize hR : some [zjn.enc r.1, (V.int .i64) r.2] = R
 rw [zhw, zyy, y8, zhu]
 rw [zkw] at h
 replace h := ob h; obtain ⟨r1, h1, h⟩ := h
 replace h1 := z5e q (M + 7) (by omega) _ _ h1
 try simp only [kf, simprocAttr] at h1
 replace h := bb h; rcases h with ⟨h2', h2, h⟩ | ⟨h2', h2, h⟩
 ·replace h := br h; rcases h with ⟨h3, h⟩ | ⟨h3, h⟩
  ·cases h; subst hR; simp only [z68, simprocAttr, *]
  ·replace h := br h; rcases h with ⟨h4, h⟩ | ⟨h4, h⟩
   ·cases h; subst hR; simp only [z68, simprocAttr, *]
   ·replace h := br h; rcases h with ⟨h5, h⟩ | ⟨h5, h⟩
    ·cases h; subst hR; simp only [z68, simprocAttr, *]
    ·replace h := br h; rcases h with ⟨h6, h⟩ | ⟨h6, h⟩
     ·cases h; subst hR; simp only [z68, simprocAttr, *]
     ·replace h := br h; rcases h with ⟨h7, h⟩ | ⟨h7, h⟩
      ·replace h := br h; rcases h with ⟨h8, h⟩ | ⟨h8, h⟩
       ·cases h; subst hR; simp only [z68, simprocAttr, *]
       ·replace h := bn h; obtain ⟨h9, h⟩ := h
        replace h := bn h; obtain ⟨h10, h⟩ := h
        replace h := bn h; obtain ⟨h11, h⟩ := h
        replace h := bn h; obtain ⟨h12, h⟩ := h
        replace h := ob h; obtain ⟨r2, h13, h⟩ := h
        replace h13 := z6k q (M + 7) (by omega) _ _ h13
        try simp only [kf, simprocAttr] at h13
        replace h := ih_delta_Apply_l0 M (by omega) (M + 7) (by omega) _ _ _ _ _ _ _ _ _ _ _ _ _ h R hR
        simp only [z68, simprocAttr, *]
      ·cases h; subst hR; simp only [z68, simprocAttr, *]
 ·cases h; subst hR; simp only [z68, simprocAttr, *]
def z7d (q : Nat) : Prop := ∀ (M : Nat) (hM : 8 * q ≤ M) (j : Nat) (hj : q ≤ j) (v0z : Bool) (v0l : List Int) (v1z : Bool) (v1l : List Int) (v12 v13 : Int) (r : Bool) (_ : zkx q v0z v0l v1z v1l v12 v13 = some r) (R : Option (List V)) (_ : some [V.bool r] = R) (fr : Fr) (H : Hp) (_ : canon 0 [0, 1, 12, 13] fr H = ([(0, (.sl v0z (List.map (V.int .i64) v0l))), (1, (.sl v1z (List.map (V.int .i64) v1l))), (12, (.int .i64 v12)), (13, (.int .i64 v13))], [])), fin zvl (unw T (orc T (M + 7)) (M + 7) 0 [.blk 0, .code zvh] (iter 0 [0, 1, 12, 13] (exec T (orc T (M + 7)) (M + 7) 0 zve) j fr H)) = R
def z7e := And.intro @kk <| And.intro @ke <| And.intro @kn <| And.intro @z2j <| @z2l
theorem z7f (q : Nat) (z82 : z7d q) : z7d (q + 1) := by
 intro M hM j hj v0z v0l v1z v1l v12 v13 r h R hR fr H hc
 obtain ⟨j, rfl⟩ : ∃ i, j = i + 1 := ⟨j - 1, by omega⟩
 rw [zhn, hc]; clear hc
 rw [zkx] at h
 replace h := br h; rcases h with ⟨h1, h⟩ | ⟨h1, h⟩
 ·replace h := bn h; obtain ⟨h2, h⟩ := h
  replace h := ob h; obtain ⟨e1, h3, h⟩ := h
  replace h := ob h; obtain ⟨e2, h4, h⟩ := h
  replace h := br h; rcases h with ⟨h5, h⟩ | ⟨h5, h⟩
  ·replace h := z82 M (by omega) j (by omega) _ _ _ _ _ _ _ h R hR
   simp only [z7e, simprocAttr, *]
  ·cases h; subst hR; simp only [z7e, simprocAttr, *]
 ·cases h; subst hR; simp only [z7e, simprocAttr, *]
theorem z7g : ∀ q, z7d q
 | 0 => by intro M hM j hj; intros; rename_i h _ _ _ _ _; cases h
 | q + 1 => by have i0 := z7g q; exact z7f q i0
theorem z7h : ∀ (q N : Nat), 8 * q ≤ N → ∀ (a0 a1 : (Sl Int)), ∀ (r : Bool), zky q a0 a1 = some r → (orc T N).deep F.zky [(Sl.enc (V.int .i64)) a0, (Sl.enc (V.int .i64)) a1] = some [V.bool r] := by
 intro q N hM a0 a1 r h
 rcases q with _ | q
 ·cases h
 obtain ⟨M, rfl⟩ : ∃ M, N = M + 8 := ⟨N - 8, by omega⟩
 have z82 := (z7g q)
 generalize hR : some [V.bool r] = R
 rw [zhw, zzm, y8, zhu]
 rw [zky] at h
 replace h := br h; rcases h with ⟨h1, h⟩ | ⟨h1, h⟩
 ·replace h := z82 M (by omega) (M + 7) (by omega) _ _ _ _ _ _ _ h R hR
  simp only [z7e, simprocAttr, *]
 ·cases h; subst hR; simp only [z7e, simprocAttr, *]
def z7i := And.intro @kk <| And.intro @ke <| And.intro @kn <| And.intro @z0y <| And.intro @z2k <| @z00
theorem z7j : ∀ (q N : Nat), 8 * q ≤ N → ∀ (a0 a1 : zjl), ∀ (r : Bool), zkz q a0 a1 = some r → (orc T N).deep F.zkz [zjl.enc a0, zjl.enc a1] = some [V.bool r] := by
 intro q N hM a0 a1 r h
 rcases q with _ | q
 ·cases h
 obtain ⟨M, rfl⟩ : ∃ M, N = M + 8 := ⟨N - 8, by omega⟩
 generalize hR : some [V.bool r] = R
 rw [zhw, zy3, y8, zhu]
 rw [zkz] at h
 replace h := br h; rcases h with ⟨h1, h⟩ | ⟨h1, h⟩
 ·replace h := bb h; rcases h with ⟨h2', h2, h⟩ | ⟨h2', h2, h⟩
  ·replace h := br h; rcases h with ⟨h3, h⟩ | ⟨h3, h⟩
   ·replace h := ob h; obtain ⟨r1, h4, h⟩ := h
    replace h4 := z7h q (M + 7) (by omega) _ _ _ h4
    try simp only [kf, simprocAttr] at h4
    cases h; subst hR; simp only [z7i, simprocAttr, *]
   ·cases h; subst hR; simp only [z7i, simprocAttr, *]
  ·cases h; subst hR; simp only [z7i, simprocAttr, *]
 ·cases h; subst hR; simp only [z7i, simprocAttr, *]
def z7k (q : Nat) : Prop := ∀ (M : Nat) (hM : 8 * q ≤ M) (j : Nat) (hj : q ≤ j) (v0z : Bool) (v0l : List zjm) (v1z : Bool) (v1l : List zjm) (v12 v13 : Int) (r : Bool) (_ : zk0 q v0z v0l v1z v1l v12 v13 = some r) (R : Option (List V)) (_ : some [V.bool r] = R) (fr : Fr) (H : Hp) (_ : canon 0 [0, 1, 12, 13] fr H = ([(0, (.sl v0z (List.map zjm.enc v0l))), (1, (.sl v1z (List.map zjm.enc v1l))), (12, (.int .i64 v12)), (13, (.int .i64 v13))], [])), fin zth (unw T (orc T (M + 7)) (M + 7) 0 [.blk 0, .code ztd] (iter 0 [0, 1, 12, 13] (exec T (orc T (M + 7)) (M + 7) 0 zta) j fr H)) = R
def z7l := And.intro @kk <| And.intro @ke <| And.intro @kn <| And.intro @z1y <| @z10
theorem z7m (q : Nat) (z83 : z7k q) : z7k (q + 1) := by
 intro M hM j hj v0z v0l v1z v1l v12 v13 r h R hR fr H hc
 obtain ⟨j, rfl⟩ : ∃ i, j = i + 1 := ⟨j - 1, by omega⟩
 rw [zhn, hc]; clear hc
 rw [zk0] at h
 replace h := br h; rcases h with ⟨h1, h⟩ | ⟨h1, h⟩
 ·replace h := bn h; obtain ⟨h2, h⟩ := h
  replace h := ob h; obtain ⟨e1, h3, h⟩ := h
  replace h := ob h; obtain ⟨e2, h4, h⟩ := h
  replace h := br h; rcases h with ⟨h5, h⟩ | ⟨h5, h⟩
  ·replace h := br h; rcases h with ⟨h6, h⟩ | ⟨h6, h⟩
   ·replace h := br h; rcases h with ⟨h7, h⟩ | ⟨h7, h⟩
    ·replace h := z83 M (by omega) j (by omega) _ _ _ _ _ _ _ h R hR
     simp only [z7l, simprocAttr, *]
    ·cases h; subst hR; simp only [z7l, simprocAttr, *]
   ·cases h; subst hR; simp only [z7l, simprocAttr, *]
  ·cases h; subst hR; simp only [z7l, simprocAttr, *]
 ·cases h; subst hR; simp only [z7l, simprocAttr, *]
theorem z7n : ∀ q, z7k q
 | 0 => by intro M hM j hj; intros; rename_i h _ _ _ _ _; cases h
 | q + 1 => by have i0 := z7n q; exact z7m q i0
theorem z7o : ∀ (q N : Nat), 8 * q ≤ N → ∀ (a0 a1 : (Sl zjm)), ∀ (r : Bool), zk1 q a0 a1 = some r → (orc T N).deep F.zk1 [(Sl.enc zjm.enc) a0, (Sl.enc zjm.enc) a1] = some [V.bool r] := by
 intro q N hM a0 a1 r h
 rcases q with _ | q
 ·cases h
 obtain ⟨M, rfl⟩ : ∃ M, N = M + 8 := ⟨N - 8, by omega⟩
 have z83 := (z7n q)
 generalize hR : some [V.bool r] = R
 rw [zhw, zzf, y8, zhu]
 rw [zk1] at h
 replace h := br h; rcases h with ⟨h1, h⟩ | ⟨h1, h⟩
 ·replace h := z83 M (by omega) (M + 7) (by omega) _ _ _ _ _ _ _ h R hR
  simp only [z7l, simprocAttr, *]
 ·cases h; subst hR; simp only [z7l, simprocAttr, *]
def z7p := And.intro @kk <| And.intro @ke <| And.intro @kn <| And.intro @z0m <| And.intro @z0z <| And.intro @z1z <| @z0o
theorem z7q : ∀ (q N : Nat), 8 * q ≤ N → ∀ (a0 a1 : zjn), ∀ (r : Bool), zk2 q a0 a1 = some r → (orc T N).deep F.zk2 [zjn.enc a0, zjn.enc a1] = some [V.bool r] := by
 intro q N hM a0 a1 r h
 rcases q with _ | q
 ·cases h
 obtain ⟨M, rfl⟩ : ∃ M, N = M + 8 := ⟨N - 8, by omega⟩
 generalize hR : some [V.bool r] = R
 rw [zhw, zyz, y8, zhu]
 rw [zk2] at h
 replace h := br h; rcases h with ⟨h1, h⟩ | ⟨h1, h⟩
 ·replace h := ob h; obtain ⟨r1, h2, h⟩ := h
  replace h2 := z7j q (M + 7) (by omega) _ _ _ h2
  try simp only [kf, simprocAttr] at h2
  replace h := bb h; rcases h with ⟨h3', h3, h⟩ | ⟨h3', h3, h⟩
  ·replace h := ob h; obtain ⟨r2, h4, h⟩ := h
   replace h4 := z7o q (M + 7) (by omega) _ _ _ h4
   try simp only [kf, simprocAttr] at h4
   cases h; subst hR; simp only [z7p, simprocAttr, *]
  ·cases h; subst hR; simp only [z7p, simprocAttr, *]
 ·cases h; subst hR; simp only [z7p, simprocAttr, *]
def z7r := And.intro @kk <| And.intro @ke <| And.intro @kn <| And.intro @zz1 <| And.intro @zz8 <| And.intro @z0k <| And.intro @z0n <| @zz3
theorem z7s : ∀ (q N : Nat), 8 * q ≤ N → ∀ (r : Bool), zk3 q = some r → (orc T N).deep F.zk3 [] = some [V.bool r] := by
 intro q N hM r h
 rcases q with _ | q
 ·cases h
 obtain ⟨M, rfl⟩ : ∃ M, N = M + 8 := ⟨N - 8, by omega⟩
 generalize hR : some [V.bool r] = R
 rw [zhw, zys, y8, zhu]
 rw [zk3] at h
 replace h := ob h; obtain ⟨r1, h1, h⟩ := h
 replace h1 := z59 q (M + 7) (by omega) _ _ _ h1
 try simp only [kf, simprocAttr] at h1
 replace h := ob h; obtain ⟨r2, h2, h⟩ := h
 replace h2 := z7c q (M + 7) (by omega) _ _ _ h2
 try simp only [kf, simprocAttr] at h2
 replace h := br h; rcases h with ⟨h3, h⟩ | ⟨h3, h⟩
 ·replace h := br h; rcases h with ⟨h4, h⟩ | ⟨h4, h⟩
  ·replace h := br h; rcases h with ⟨h5, h⟩ | ⟨h5, h⟩
   ·replace h := br h; rcases h with ⟨h6, h⟩ | ⟨h6, h⟩
    ·replace h := br h; rcases h with ⟨h7, h⟩ | ⟨h7, h⟩
     ·replace h := ob h; obtain ⟨e3, h8, h⟩ := h
      replace h := br h; rcases h with ⟨h9, h⟩ | ⟨h9, h⟩
      ·replace h := ob h; obtain ⟨r4, h10, h⟩ := h
       replace h10 := z7q q (M + 7) (by omega) _ _ _ h10
       try simp only [kf, simprocAttr] at h10
       cases h; subst hR; simp only [z7r, simprocAttr, *]
      ·cases h; subst hR; simp only [z7r, simprocAttr, *]
     ·cases h; subst hR; simp only [z7r, simprocAttr, *]
    ·cases h; subst hR; simp only [z7r, simprocAttr, *]
   ·cases h; subst hR; simp only [z7r, simprocAttr, *]
  ·cases h; subst hR; simp only [z7r, simprocAttr, *]
 ·cases h; subst hR; simp only [z7r, simprocAttr, *]
def z7t := And.intro @kk <| And.intro @ke <| And.intro @kn <| And.intro @z01 <| @z03
theorem z7u : ∀ (q N : Nat), 8 * q ≤ N → ∀ (a0 : zjl), ∀ (r : Bool), zk4 q a0 = some r → (orc T N).deep F.zk4 [zjl.enc a0] = some [V.bool r] := by
 intro q N hM a0 r h
 rcases q with _ | q
 ·cases h
 obtain ⟨M, rfl⟩ : ∃ M, N = M + 8 := ⟨N - 8, by omega⟩
 generalize hR : some [V.bool r] = R
 rw [zhw, zy4, y8, zhu]
 rw [zk4] at h
 cases h; subst hR; simp only [z7t, simprocAttr, *]
def z7v := And.intro @kk <| And.intro @ke <| And.intro @kn <| And.intro @zz4 <| And.intro @z02 <| @zz6
theorem z7w : ∀ (q N : Nat), 8 * q ≤ N → ∀ (a0 : zjn), ∀ (r : Bool), zk5 q a0 = some r → (orc T N).deep F.zk5 [zjn.enc a0] = some [V.bool r] := by
 intro q N hM a0 r h
 rcases q with _ | q
 ·cases h
 obtain ⟨M, rfl⟩ : ∃ M, N = M + 8 := ⟨N - 8, by omega⟩
 generalize hR : some [V.bool r] = R
 rw [zhw, zyt, y8, zhu]
 rw [zk5] at h
 replace h := ob h; obtain ⟨r1, h1, h⟩ := h
 replace h1 := z7u q (M + 7) (by omega) _ _ h1
 try simp only [kf, simprocAttr] at h1
 replace h := bb h; rcases h with ⟨h2', h2, h⟩ | ⟨h2', h2, h⟩
 ·cases h; subst hR; simp only [z7v, simprocAttr, *]
 ·cases h; subst hR; simp only [z7v, simprocAttr, *]
def z7x (q : Nat) : Prop := ∀ (M : Nat) (hM : 8 * q ≤ M) (j : Nat) (hj : q ≤ j) (v0z : Bool) (v0l : List Int) (v1 v5 : Int) (r : Bool) (_ : zk6 q v0z v0l v1 v5 = some r) (R : Option (List V)) (_ : some [V.bool r] = R) (fr : Fr) (H : Hp) (_ : canon 0 [0, 1, 5] fr H = ([(0, (.sl v0z (List.map (V.int .i64) v0l))), (1, (.int .i64 v1)), (5, (.int .i64 v5))], [])), fin zxu (unw T (orc T (M + 7)) (M + 7) 0 [.blk 0, .code zxq] (iter 0 [0, 1, 5] (exec T (orc T (M + 7)) (M + 7) 0 zxn) j fr H)) = R
def z7y := And.intro @kk <| And.intro @ke <| And.intro @kn <| And.intro @z3a <| @z3c
theorem z7z (q : Nat) (z84 : z7x q) : z7x (q + 1) := by
 intro M hM j hj v0z v0l v1 v5 r h R hR fr H hc
 obtain ⟨j, rfl⟩ : ∃ i, j = i + 1 := ⟨j - 1, by omega⟩
 rw [zhn, hc]; clear hc
 rw [zk6] at h
 replace h := br h; rcases h with ⟨h1, h⟩ | ⟨h1, h⟩
 ·replace h := bn h; obtain ⟨h2, h⟩ := h
  replace h := ob h; obtain ⟨e1, h3, h⟩ := h
  replace h := br h; rcases h with ⟨h4, h⟩ | ⟨h4, h⟩
  ·cases h; subst hR; simp only [z7y, simprocAttr, *]
  ·replace h := br h; rcases h with ⟨h5, h⟩ | ⟨h5, h⟩
   ·cases h; subst hR; simp only [z7y, simprocAttr, *]
   ·replace h := br h; rcases h with ⟨h6, h⟩ | ⟨h6, h⟩
    ·replace h := bn h; obtain ⟨h7, h⟩ := h
     replace h := ob h; obtain ⟨e2, h8, h⟩ := h
     replace h := br h; rcases h with ⟨h9, h⟩ | ⟨h9, h⟩
     ·cases h; subst hR; simp only [z7y, simprocAttr, *]
     ·replace h := bn h; obtain ⟨h10, h⟩ := h
      replace h := ob h; obtain ⟨e3, h11, h⟩ := h
      replace h := br h; rcases h with ⟨h12, h⟩ | ⟨h12, h⟩
      ·cases h; subst hR; simp only [z7y, simprocAttr, *]
      ·replace h := br h; rcases h with ⟨h13, h⟩ | ⟨h13, h⟩
       ·cases h; subst hR; simp only [z7y, simprocAttr, *]
       ·replace h := z84 M (by omega) j (by omega) _ _ _ _ _ h R hR
        simp only [z7y, simprocAttr, *]
    ·replace h := bn h; obtain ⟨h14, h⟩ := h
     replace h := ob h; obtain ⟨e4, h15, h⟩ := h
     replace h := br h; rcases h with ⟨h16, h⟩ | ⟨h16, h⟩
     ·cases h; subst hR; simp only [z7y, simprocAttr, *]
     ·replace h := br h; rcases h with ⟨h17, h⟩ | ⟨h17, h⟩
      ·cases h; subst hR; simp only [z7y, simprocAttr, *]
      ·replace h := z84 M (by omega) j (by omega) _ _ _ _ _ h R hR
       simp only [z7y, simprocAttr, *]
 ·cases h; subst hR; simp only [z7y, simprocAttr, *]
theorem z70 : ∀ q, z7x q
 | 0 => by intro M hM j hj; intros; rename_i h _ _ _ _ _; cases h
 | q + 1 => by have i0 := z70 q; exact z7z q i0
theorem z71 : ∀ (q N : Nat), 8 * q ≤ N → ∀ (a0 : (Sl Int)) (a1 : Int), ∀ (r : Bool), zk7 q a0 a1 = some r → (orc T N).deep F.zk7 [(Sl.enc (V.int .i64)) a0, (V.int .i64) a1] = some [V.bool r] := by
 intro q N hM a0 a1 r h
 rcases q with _ | q
 ·cases h
 obtain ⟨M, rfl⟩ : ∃ M, N = M + 8 := ⟨N - 8, by omega⟩
 have z84 := (z70 q)
 generalize hR : some [V.bool r] = R
 rw [zhw, zzv, y8, zhu]
 rw [zk7] at h
 replace h := br h; rcases h with ⟨h1, h⟩ | ⟨h1, h⟩
 ·replace h := br h; rcases h with ⟨h2, h⟩ | ⟨h2, h⟩
  ·cases h; subst hR; simp only [z7y, simprocAttr, *]
  ·replace h := z84 M (by omega) (M + 7) (by omega) _ _ _ _ _ h R hR
   simp only [z7y, simprocAttr, *]
 ·cases h; subst hR; simp only [z7y, simprocAttr, *]
def z72 := And.intro @kk <| And.intro @ke <| And.intro @kn <| And.intro @z3d <| @z3f
theorem z73 : ∀ (q N : Nat), 8 * q ≤ N → ∀ (a0 r : Int), zk8 q a0 = some r → (orc T N).deep F.zk8 [(V.int .i64) a0] = some [(V.int .i64) r] := by
 intro q N hM a0 r h
 rcases q with _ | q
 ·cases h
 obtain ⟨M, rfl⟩ : ∃ M, N = M + 8 := ⟨N - 8, by omega⟩
 generalize hR : some [(V.int .i64) r] = R
 rw [zhw, zzw, y8, zhu]
 rw [zk8] at h
 replace h := br h; rcases h with ⟨h1, h⟩ | ⟨h1, h⟩
 ·cases h; subst hR; simp only [z72, simprocAttr, *]
 ·replace h := br h; rcases h with ⟨h2, h⟩ | ⟨h2, h⟩
  ·cases h; subst hR; simp only [z72, simprocAttr, *]
  ·cases h; subst hR; simp only [z72, simprocAttr, *]
def z74 (q : Nat) : Prop := ∀ (M : Nat) (hM : 8 * q ≤ M) (j : Nat) (hj : q ≤ j) (v3 h0_0 : Int) (h0_1z : Bool) (h0_1l : List Int) (h0_2 : Bool) (h0_3 : Int) (r : Bool) (_ : zk9 q v3 h0_0 h0_1z h0_1l h0_2 h0_3 = some r) (R : Option (List V)) (_ : some [V.bool r] = R) (fr : Fr) (H : Hp) (_ : canon 0 [1, 3] fr H = ([(1, (.ptr 0 0)), (3, (.int .i64 v3))], [(.box [(.int .i64 h0_0), (.sl h0_1z (List.map (V.int .i64) h0_1l)), (.bool h0_2), (.int .i64 h0_3)])])), fin zv9 (unw T (orc T (M + 7)) (M + 7) 0 [.blk 0, .code zv2] (iter 0 [1, 3] (exec T (orc T (M + 7)) (M + 7) 0 zvz) j fr H)) = R
def z75 := And.intro @kk <| And.intro @ke <| And.intro @kn <| And.intro @z2m <| And.intro @z3b <| And.intro @z3e <| @z2o
theorem z76 (q : Nat) (z85 : z74 q) : z74 (q + 1) := by
 intro M hM j hj v3 h0_0 h0_1z h0_1l h0_2 h0_3 r h R hR fr H hc
 obtain ⟨j, rfl⟩ : ∃ i, j = i + 1 := ⟨j - 1, by omega⟩
 rw [zhn, hc]; clear hc
 rw [zk9] at h
 replace h := br h; rcases h with ⟨h1, h⟩ | ⟨h1, h⟩
 ·replace h := bn h; obtain ⟨h2, h⟩ := h
  replace h := ob h; obtain ⟨e5, h3, h⟩ := h
  replace h := ob h; obtain ⟨r6, h4, h⟩ := h
  replace h4 := z73 q (M + 7) (by omega) _ _ h4
  replace h := br h; rcases h with ⟨h5, h⟩ | ⟨h5, h⟩
  ·replace h := z85 M (by omega) j (by omega) _ _ _ _ _ _ _ h R hR
   simp only [z75, simprocAttr, *]
  ·cases h; subst hR; simp only [z75, simprocAttr, *]
 ·cases h; subst hR; simp only [z75, simprocAttr, *]
theorem z77 : ∀ q, z74 q
 | 0 => by intro M hM j hj; intros; rename_i h _ _ _ _ _; cases h
 | q + 1 => by have i0 := z77 q; exact z76 q i0
theorem z78 : ∀ (q N : Nat), 8 * q ≤ N → ∀ (a0 : zjl), ∀ (r : Bool), zla q a0 = some r → (orc T N).deep F.zla [zjl.enc a0] = some [V.bool r] := by
 intro q N hM a0 r h
 rcases q with _ | q
 ·cases h
 obtain ⟨M, rfl⟩ : ∃ M, N = M + 8 := ⟨N - 8, by omega⟩
 have z85 := (z77 q)
 generalize hR : some [V.bool r] = R
 rw [zhw, zzn, y8, zhu]
 rw [zla] at h
 replace h := br h; rcases h with ⟨h1, h⟩ | ⟨h1, h⟩
 ·cases h; subst hR; simp only [z75, simprocAttr, *]
 ·replace h := br h; rcases h with ⟨h2, h⟩ | ⟨h2, h⟩
  ·cases h; subst hR; simp only [z75, simprocAttr, *]
  ·replace h := bb h; rcases h with ⟨h3', h3, h⟩ | ⟨h3', h3, h⟩
   ·replace h := br h; rcases h with ⟨h4, h⟩ | ⟨h4, h⟩
    ·cases h; subst hR; simp only [z75, simprocAttr, *]
    ·replace h := br h; rcases h with ⟨h5, h⟩ | ⟨h5, h⟩
     ·cases h; subst hR; simp only [z75, simprocAttr, *]
     ·replace h := br h; rcases h with ⟨h6, h⟩ | ⟨h6, h⟩
      ·replace h := ob h; obtain ⟨r1, h7, h⟩ := h
       replace h7 := z71 q (M + 7) (by omega) _ _ _ h7
       try simp only [kf, simprocAttr] at h7
       cases h; subst hR; simp only [z75, simprocAttr, *]
      ·replace h := br h; rcases h with ⟨h8, h⟩ | ⟨h8, h⟩
       ·replace h := ob h; obtain ⟨r2, h9, h⟩ := h
        replace h9 := z71 q (M + 7) (by omega) _ _ _ h9
        try simp only [kf, simprocAttr] at h9
        cases h; subst hR; simp only [z75, simprocAttr, *]
       ·replace h := br h; rcases h with ⟨h10, h⟩ | ⟨h10, h⟩
        ·cases h; subst hR; simp only [z75, simprocAttr, *]
        ·replace h := br h; rcases h with ⟨h11, h⟩ | ⟨h11, h⟩
         ·replace h := z85 M (by omega) (M + 7) (by omega) _ _ _ _ _ _ _ h R hR
          simp only [z75, simprocAttr, *]
         ·replace h := br h; rcases h with ⟨h12, h⟩ | ⟨h12, h⟩
          ·cases h; subst hR; simp only [z75, simprocAttr, *]
          ·replace h := z85 M (by omega) (M + 7) (by omega) _ _ _ _ _ _ _ h R hR
           simp only [z75, simprocAttr, *]
   ·replace h := br h; rcases h with ⟨h13, h⟩ | ⟨h13, h⟩
    ·replace h := br h; rcases h with ⟨h14, h⟩ | ⟨h14, h⟩
     ·cases h; subst hR; simp only [z75, simprocAttr, *]
     ·replace h := br h; rcases h with ⟨h15, h⟩ | ⟨h15, h⟩
      ·cases h; subst hR; simp only [z75, simprocAttr, *]
      ·replace h := br h; rcases h with ⟨h16, h⟩ | ⟨h16, h⟩
       ·replace h := ob h; obtain ⟨r3, h17, h⟩ := h
        replace h17 := z71 q (M + 7) (by omega) _ _ _ h17
        try simp only [kf, simprocAttr] at h17
        cases h; subst hR; simp only [z75, simprocAttr, *]
       ·replace h := br h; rcases h with ⟨h18, h⟩ | ⟨h18, h⟩
        ·replace h := ob h; obtain ⟨r4, h19, h⟩ := h
         replace h19 := z71 q (M + 7) (by omega) _ _ _ h19
         try simp only [kf, simprocAttr] at h19
         cases h; subst hR; simp only [z75, simprocAttr, *]
        ·replace h := br h; rcases h with ⟨h20, h⟩ | ⟨h20, h⟩
         ·cases h; subst hR; simp only [z75, simprocAttr, *]
         ·replace h := br h; rcases h with ⟨h21, h⟩ | ⟨h21, h⟩
          ·replace h := z85 M (by omega) (M + 7) (by omega) _ _ _ _ _ _ _ h R hR
           simp only [z75, simprocAttr, *]
          ·replace h := br h; rcases h with ⟨h22, h⟩ | ⟨h22, h⟩
           ·cases h; subst hR; simp only [z75, simprocAttr, *]
           ·replace h := z85 M (by omega) (M + 7) (by omega) _ _ _ _ _ _ _ h R hR
            simp only [z75, simprocAttr, *]
    ·cases h; subst hR; simp only [z75, simprocAttr, *]
def z79 (q : Nat) : Prop := ∀ (M : Nat) (hM : 8 * q ≤ M) (j : Nat) (hj : q ≤ j) (v0z : Bool) (v0l : List zjm) (v3 : Int) (r : Bool) (_ : zlb q v0z v0l v3 = some r) (R : Option (List V)) (_ : some [V.bool r] = R) (fr : Fr) (H : Hp) (_ : canon 0 [0, 3] fr H = ([(0, (.sl v0z (List.map zjm.enc v0l))), (3, (.int .i64 v3))], [])), fin zqp (unw T (orc T (M + 7)) (M + 7) 0 [.blk 0, .code zqm] (iter 0 [0, 3] (exec T (orc T (M + 7)) (M + 7) 0 zqj) j fr H)) = R
def z8a := And.intro @kk <| And.intro @ke <| And.intro @kn <| And.intro @z0v <| @z0x
theorem z8b (q : Nat) (z86 : z79 q) : z79 (q + 1) := by
 intro M hM j hj v0z v0l v3 r h R hR fr H hc
 obtain ⟨j, rfl⟩ : ∃ i, j = i + 1 := ⟨j - 1, by omega⟩
 rw [zhn, hc]; clear hc
 rw [zlb] at h
 replace h := br h; rcases h with ⟨h1, h⟩ | ⟨h1, h⟩
 ·replace h := bn h; obtain ⟨h2, h⟩ := h
  replace h := ob h; obtain ⟨e1, h3, h⟩ := h
  replace h := br h; rcases h with ⟨h4, h⟩ | ⟨h4, h⟩
  ·cases h; subst hR; simp only [z8a, simprocAttr, *]
  ·replace h := br h; rcases h with ⟨h5, h⟩ | ⟨h5, h⟩
   ·cases h; subst hR; simp only [z8a, simprocAttr, *]
   ·replace h := br h; rcases h with ⟨h6, h⟩ | ⟨h6, h⟩
    ·cases h; subst hR; simp only [z8a, simprocAttr, *]
    ·replace h := br h; rcases h with ⟨h7, h⟩ | ⟨h7, h⟩
     ·cases h; subst hR; simp only [z8a, simprocAttr, *]
     ·replace h := br h; rcases h with ⟨h8, h⟩ | ⟨h8, h⟩
      ·cases h; subst hR; simp only [z8a, simprocAttr, *]
      ·replace h := br h; rcases h with ⟨h9, h⟩ | ⟨h9, h⟩
       ·cases h; subst hR; simp only [z8a, simprocAttr, *]
       ·replace h := br h; rcases h with ⟨h10, h⟩ | ⟨h10, h⟩
        ·replace h := bn h; obtain ⟨h11, h⟩ := h
         replace h := ob h; obtain ⟨e2, h12, h⟩ := h
         replace h := br h; rcases h with ⟨h13, h⟩ | ⟨h13, h⟩
         ·cases h; subst hR; simp only [z8a, simprocAttr, *]
         ·replace h := z86 M (by omega) j (by omega) _ _ _ _ h R hR
          simp only [z8a, simprocAttr, *]
        ·replace h := z86 M (by omega) j (by omega) _ _ _ _ h R hR
         simp only [z8a, simprocAttr, *]
 ·cases h; subst hR; simp only [z8a, simprocAttr, *]
theorem z8c : ∀ q, z79 q
 | 0 => by intro M hM j hj; intros; rename_i h _ _ _ _ _; cases h
 | q + 1 => by have i0 := z8c q; exact z8b q i0
theorem z8d : ∀ (q N : Nat), 8 * q ≤ N → ∀ (a0 : (Sl zjm)), ∀ (r : Bool), zlc q a0 = some r → (orc T N).deep F.zlc [(Sl.enc zjm.enc) a0] = some [V.bool r] := by
 intro q N hM a0 r h
 rcases q with _ | q
 ·cases h
 obtain ⟨M, rfl⟩ : ∃ M, N = M + 8 := ⟨N - 8, by omega⟩
 have z86 := (z8c q)
 generalize hR : some [V.bool r] = R
 rw [zhw, zy2, y8, zhu]
 rw [zlc] at h
 replace h := z86 M (by omega) (M + 7) (by omega) _ _ _ _ h R hR
 simp only [z8a, simprocAttr, *]
def z8e := And.intro @kk <| And.intro @ke <| And.intro @kn <| And.intro @z0s <| And.intro @z0w <| And.intro @z2n <| @z0u
theorem z8f : ∀ (q N : Nat), 8 * q ≤ N → ∀ (a0 : zjn), ∀ (r : Bool), zld q a0 = some r → (orc T N).deep F.zld [zjn.enc a0] = some [V.bool r] := by
 intro q N hM a0 r h
 rcases q with _ | q
 ·cases h
 obtain ⟨M, rfl⟩ : ∃ M, N = M + 8 := ⟨N - 8, by omega⟩
 generalize hR : some [V.bool r] = R
 rw [zhw, zy1, y8, zhu]
 rw [zld] at h
 replace h := ob h; obtain ⟨r1, h1, h⟩ := h
 replace h1 := z78 q (M + 7) (by omega) _ _ h1
 try simp only [kf, simprocAttr] at h1
 replace h := ob h; obtain ⟨r2, h2, h⟩ := h
 replace h2 := z8d q (M + 7) (by omega) _ _ h2
 try simp only [kf, simprocAttr] at h2
 replace h := bb h; rcases h with ⟨h3', h3, h⟩ | ⟨h3', h3, h⟩
 ·replace h := bb h; rcases h with ⟨h4', h4, h⟩ | ⟨h4', h4, h⟩
  ·replace h := br h; rcases h with ⟨h5, h⟩ | ⟨h5, h⟩
   ·cases h; subst hR; simp only [z8e, simprocAttr, *]
   ·cases h; subst hR; simp only [z8e, simprocAttr, *]
  ·cases h; subst hR; simp only [z8e, simprocAttr, *]
 ·cases h; subst hR; simp only [z8e, simprocAttr, *]
def z8g (q : Nat) : Prop := ∀ (M : Nat) (hM : 8 * q ≤ M) (j : Nat) (hj : q ≤ j) (v0z : Bool) (v0l : List zjm) (v1 v6 : Int) (r : zjm × Bool) (_ : zle q v0z v0l v1 v6 = some r) (R : Option (List V)) (_ : some [zjm.enc r.1, V.bool r.2] = R) (fr : Fr) (H : Hp) (_ : canon 0 [0, 1, 4, 6] fr H = ([(0, (.sl v0z (List.map zjm.enc v0l))), (1, (.int .i64 v1)), (4, (.ptr 0 0)), (6, (.int .i64 v6))], [(.box [(.int .i64 0), (.int .i64 0), (.int .i64 0)])])), fin zrh (unw T (orc T (M + 7)) (M + 7) 0 [.blk 0, .code zre] (iter 0 [0, 1, 4, 6] (exec T (orc T (M + 7)) (M + 7) 0 zrb) j fr H)) = R
def z8h := And.intro @kk <| And.intro @ke <| And.intro @kn <| And.intro @z1m <| @z1o
theorem z8i (q : Nat) (z87 : z8g q) : z8g (q + 1) := by
 intro M hM j hj v0z v0l v1 v6 r h R hR fr H hc
 obtain ⟨j, rfl⟩ : ∃ i, j = i + 1 := ⟨j - 1, by omega⟩
 rw [zhn, hc]; clear hc
 rw [zle] at h
 replace h := br h; rcases h with ⟨h1, h⟩ | ⟨h1, h⟩
 ·replace h := bn h; obtain ⟨h2, h⟩ := h
  replace h := ob h; obtain ⟨e1, h3, h⟩ := h
  replace h := br h; rcases h with ⟨h4, h⟩ | ⟨h4, h⟩
  ·cases h; subst hR; simp only [z8h, simprocAttr, *]
  ·replace h := z87 M (by omega) j (by omega) _ _ _ _ _ h R hR
   simp only [z8h, simprocAttr, *]
 ·cases h; subst hR; simp only [z8h, simprocAttr, *]
theorem z8j : ∀ q, z8g q
 | 0 => by intro M hM j hj; intros; rename_i h _ _ _ _ _; cases h
 | q + 1 => by have i0 := z8j q; exact z8i q i0
theorem z8k : ∀ (q N : Nat), 8 * q ≤ N → ∀ (a0 : (Sl zjm)) (a1 : Int), ∀ (r : zjm × Bool), zlf q a0 a1 = some r → (orc T N).deep F.zlf [(Sl.enc zjm.enc) a0, (V.int .i64) a1] = some [zjm.enc r.1, V.bool r.2] := by
 intro q N hM a0 a1 r h
 rcases q with _ | q
 ·cases h
 obtain ⟨M, rfl⟩ : ∃ M, N = M + 8 := ⟨N - 8, by omega⟩
 have z87 := (z8j q)
 generalize hR : some [zjm.enc r.1, V.bool r.2] = R
 rw [zhw, zzb, y8, zhu]
 rw [zlf] at h
 replace h := z87 M (by omega) (M + 7) (by omega) _ _ _ _ _ h R hR
 simp only [z8h, simprocAttr, *]
end Go.Dvm.C
