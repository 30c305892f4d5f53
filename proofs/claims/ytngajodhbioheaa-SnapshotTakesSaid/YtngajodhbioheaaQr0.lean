/- The machine comes to these answers: part 1. -/
import Derived.Test.YtngajodhbioheaaQl0
set_option linter.all false
set_option maxRecDepth 100000
set_option maxHeartbeats 4000000
namespace Go.Dvm.C
open Go Go.Dvm Go.Dvm.I
def zbpn := And.intro @kk <| And.intro @ke <| And.intro @kn <| And.intro @zbke <| @zbkg
theorem zbpo : ∀ (q N : Nat), 8 * q ≤ N → ∀ (a0 r : Int), zjt q a0 = some r → (orc T N).deep F.zjt [(V.int .i64) a0] = some [(V.int .i64) r] := by
 intro q N hM a0 r h
 rcases q with _ | q
 ·cases h
 obtain ⟨M, rfl⟩ : ∃ M, N = M + 8 := ⟨N - 8, by omega⟩
 generalize hR : some [(V.int .i64) r] = R
 rw [zhu, zbgg, y6, zhs zwa rfl]
 rw [zjt] at h
 cases h; subst hR; simp only [zbpn, simprocAttr, *]
def zbpp := And.intro @kk <| And.intro @ke <| And.intro @kn <| And.intro @zbkb <| And.intro @zbkf <| @zbkd
theorem zbpq : ∀ (q N : Nat), 8 * q ≤ N → ∀ (a0 : Int), ∀ (r : Bool), zju q a0 = some r → (orc T N).deep F.zju [(V.int .i64) a0] = some [V.bool r] := by
 intro q N hM a0 r h
 rcases q with _ | q
 ·cases h
 obtain ⟨M, rfl⟩ : ∃ M, N = M + 8 := ⟨N - 8, by omega⟩
 generalize hR : some [V.bool r] = R
 rw [zhu, zbgf, y6, zhs zv8 rfl]
 rw [zju] at h
 replace h := ob h; obtain ⟨r1, h1, h⟩ := h
 replace h1 := zbpo q (M + 7) (by omega) _ _ h1
 cases h; subst hR; simp only [zbpp, simprocAttr, *]
def zbpr (q : Nat) : Prop := ∀ (M : Nat) (hM : 8 * q ≤ M) (j : Nat) (hj : q ≤ j) (v0z : Bool) (v0l : List Int) (v1 v5 v6 : Int) (r : Bool) (_ : zjv q v0z v0l v1 v5 v6 = some r) (R : Option (List V)) (_ : some [V.bool r] = R) (fr : Fr) (H : Hp) (_ : canon 0 [0, 1, 5, 6] fr H = ([(0, (.sl v0z (List.map (V.int .i64) v0l))), (1, (.int .i64 v1)), (5, (.int .i64 v5)), (6, (.int .i64 v6))], [])), fin zwm (unw T (orc T (M + 7)) (M + 7) 0 [.blk 0, .code zwi] (iter 0 [0, 1, 5, 6] (exec T (orc T (M + 7)) (M + 7) 0 zwf) j fr H)) = R
def zbps := And.intro @kk <| And.intro @ke <| And.intro @kn <| And.intro @zbkh <| @zbkj
theorem zbpt (q : Nat) (zbtq : zbpr q) : zbpr (q + 1) := by
 intro M hM j hj v0z v0l v1 v5 v6 r h R hR fr H hc
 obtain ⟨j, rfl⟩ : ∃ i, j = i + 1 := ⟨j - 1, by omega⟩
 rw [zhk, hc]; clear hc
 rw [zjv] at h
 replace h := br h; rcases h with ⟨h1, h⟩ | ⟨h1, h⟩
 ·replace h := bn h; obtain ⟨h2, h⟩ := h
  replace h := ob h; obtain ⟨e1, h3, h⟩ := h
  replace h := br h; rcases h with ⟨h4, h⟩ | ⟨h4, h⟩
  ·cases h; subst hR; simp only [zbps, simprocAttr, *]
  ·replace h := br h; rcases h with ⟨h5, h⟩ | ⟨h5, h⟩
   ·cases h; subst hR; simp only [zbps, simprocAttr, *]
   ·replace h := bn h; obtain ⟨h6, h⟩ := h
    replace h := ob h; obtain ⟨e2, h7, h⟩ := h
    replace h := br h; rcases h with ⟨h8, h⟩ | ⟨h8, h⟩
    ·cases h; subst hR; simp only [zbps, simprocAttr, *]
    ·replace h := br h; rcases h with ⟨h9, h⟩ | ⟨h9, h⟩
     ·cases h; subst hR; simp only [zbps, simprocAttr, *]
     ·replace h := zbtq M (by omega) j (by omega) _ _ _ _ _ _ h R hR
      simp only [zbps, simprocAttr, *]
 ·replace h := br h; rcases h with ⟨h10, h⟩ | ⟨h10, h⟩
  ·cases h; subst hR; simp only [zbps, simprocAttr, *]
  ·cases h; subst hR; simp only [zbps, simprocAttr, *]
theorem zbpu : ∀ q, zbpr q
 | 0 => by intro M hM j hj; intros; rename_i h _ _ _ _ _; cases h
 | q + 1 => by have i0 := zbpu q; exact zbpt q i0
theorem zbpv : ∀ (q N : Nat), 8 * q ≤ N → ∀ (a0 : (Sl Int)) (a1 : Int), ∀ (r : Bool), zjw q a0 a1 = some r → (orc T N).deep F.zjw [(Sl.enc (V.int .i64)) a0, (V.int .i64) a1] = some [V.bool r] := by
 intro q N hM a0 a1 r h
 rcases q with _ | q
 ·cases h
 obtain ⟨M, rfl⟩ : ∃ M, N = M + 8 := ⟨N - 8, by omega⟩
 have zbtq := (zbpu q)
 generalize hR : some [V.bool r] = R
 rw [zhu, zbgh, y6, zhs zwm rfl]
 rw [zjw] at h
 replace h := zbtq M (by omega) (M + 7) (by omega) _ _ _ _ _ _ h R hR
 simp only [zbps, simprocAttr, *]
def zbpw (q : Nat) : Prop := ∀ (M : Nat) (hM : 8 * q ≤ M) (j : Nat) (hj : q ≤ j) (v0z : Bool) (v0l : List Int) (v7 v8 h0_0 : Int) (h0_1z : Bool) (h0_1l : List Int) (h0_2 : Bool) (h0_3 r : Int) (_ : zjx q v0z v0l v7 v8 h0_0 h0_1z h0_1l h0_2 h0_3 = some r) (R : Option (List V × Hp)) (_ : (some ([(.int .i64 r)], [(.box [(.int .i64 h0_0), (.sl h0_1z (List.map (V.int .i64) h0_1l)), (.bool h0_2), (.int .i64 h0_3)])]) : Option (List V × Hp)) = R) (fr : Fr) (H : Hp) (_ : canon 1 [0, 1, 7, 8] fr H = ([(0, (.sl v0z (List.map (V.int .i64) v0l))), (1, (.fn F.zju [])), (7, (.int .i64 v7)), (8, (.int .i64 v8))], [(.box [(.int .i64 h0_0), (.sl h0_1z (List.map (V.int .i64) h0_1l)), (.bool h0_2), (.int .i64 h0_3)])])), finI 1 false [.tmp 4] (unw T (orc T (M + 5)) (M + 5) 1 [.blk 0, .code z8k] (iter 1 [0, 1, 7, 8] (exec T (orc T (M + 5)) (M + 5) 1 z8h) j fr H)) = R
def zbpx := And.intro @kk <| And.intro @ke <| And.intro @kn <| And.intro @zbl8 <| @zbkc
theorem zbpy (q : Nat) (zbtr : zbpw q) : zbpw (q + 1) := by
 intro M hM j hj v0z v0l v7 v8 h0_0 h0_1z h0_1l h0_2 h0_3 r h R hR fr H hc
 obtain ⟨j, rfl⟩ : ∃ i, j = i + 1 := ⟨j - 1, by omega⟩
 rw [zhk, hc]; clear hc
 rw [zjx] at h
 replace h := br h; rcases h with ⟨h1, h⟩ | ⟨h1, h⟩
 ·replace h := bn h; obtain ⟨h2, h⟩ := h
  replace h := ob h; obtain ⟨e1, h3, h⟩ := h
  replace h := ob h; obtain ⟨r2, h4, h⟩ := h
  replace h4 := zbpq q (M + 5) (by omega) _ _ h4
  replace h := bb h; rcases h with ⟨h5', h5, h⟩ | ⟨h5', h5, h⟩
  ·cases h; subst hR; simp only [zbpx, simprocAttr, *]
  ·replace h := zbtr M (by omega) j (by omega) _ _ _ _ _ _ _ _ _ _ h R hR
   simp only [zbpx, simprocAttr, *]
 ·cases h; subst hR; simp only [zbpx, simprocAttr, *]
theorem zbpz : ∀ q, zbpw q
 | 0 => by intro M hM j hj; intros; rename_i h _ _ _ _ _; cases h
 | q + 1 => by have i0 := zbpz q; exact zbpy q i0
theorem zbp0 : ∀ (q M : Nat), 8 * q ≤ M → ∀ (v0z : Bool), ∀ (v0l : List Int), ∀ (h0_0 : Int), ∀ (h0_1z : Bool), ∀ (h0_1l : List Int), ∀ (h0_2 : Bool), ∀ (h0_3 r : Int), zjy q v0z v0l h0_0 h0_1z h0_1l h0_2 h0_3 = some r → (orc T (M + 6)).inl F.zmr [(.sl v0z (List.map (V.int .i64) v0l)), (.fn F.zju [])] [(.box [(.int .i64 h0_0), (.sl h0_1z (List.map (V.int .i64) h0_1l)), (.bool h0_2), (.int .i64 h0_3)])] = (some ([(.int .i64 r)], [(.box [(.int .i64 h0_0), (.sl h0_1z (List.map (V.int .i64) h0_1l)), (.bool h0_2), (.int .i64 h0_3)])]) : Option (List V × Hp)) := by
 intro q M hM v0z v0l h0_0 h0_1z h0_1l h0_2 h0_3 r h
 rcases q with _ | q
 ·cases h
 have zbtr := (zbpz q)
 generalize hR : (some ([(.int .i64 r)], [(.box [(.int .i64 h0_0), (.sl h0_1z (List.map (V.int .i64) h0_1l)), (.bool h0_2), (.int .i64 h0_3)])]) : Option (List V × Hp)) = R
 rw [zbma (n := M + 5)]
 rw [zjy] at h
 replace h := zbtr M (by omega) (M + 5) (by omega) _ _ _ _ _ _ _ _ _ _ h R hR
 simp only [zbpx, simprocAttr, *]
def zbp1 := And.intro @kk <| And.intro @ke <| And.intro @kn <| And.intro @zbif <| And.intro @zbj8 <| And.intro @zbki <| And.intro @zbl9 <| And.intro @zbj9 <| And.intro @zbka <| @zbih
theorem zbp2 : ∀ (q N : Nat), 8 * q ≤ N → ∀ (a0 : zjm), ∀ (r : Bool), zjz q a0 = some r → (orc T N).deep F.zjz [zjm.enc a0] = some [V.bool r] := by
 intro q N hM a0 r h
 rcases q with _ | q
 ·cases h
 obtain ⟨M, rfl⟩ : ∃ M, N = M + 8 := ⟨N - 8, by omega⟩
 generalize hR : some [V.bool r] = R
 rw [zhu, zbfs, y6, zhs zqf rfl]
 rw [zjz] at h
 replace h := br h; rcases h with ⟨h1, h⟩ | ⟨h1, h⟩
 ·cases h; subst hR; simp only [zbp1, simprocAttr, *]
 ·replace h := br h; rcases h with ⟨h2, h⟩ | ⟨h2, h⟩
  ·cases h; subst hR; simp only [zbp1, simprocAttr, *]
  ·replace h := bb h; rcases h with ⟨h3', h3, h⟩ | ⟨h3', h3, h⟩
   ·replace h := ob h; obtain ⟨r1, h4, h⟩ := h
    replace h4 := zbp0 q M (by omega) _ _ _ _ _ _ _ _ h4
    try simp only [kf, simprocAttr] at h4
    replace h := br h; rcases h with ⟨h5, h⟩ | ⟨h5, h⟩
    ·replace h := br h; rcases h with ⟨h6, h⟩ | ⟨h6, h⟩
     ·cases h; subst hR; simp only [zbp1, simprocAttr, *]
     ·cases h; subst hR; simp only [zbp1, simprocAttr, *]
    ·replace h := br h; rcases h with ⟨h7, h⟩ | ⟨h7, h⟩
     ·replace h := br h; rcases h with ⟨h8, h⟩ | ⟨h8, h⟩
      ·cases h; subst hR; simp only [zbp1, simprocAttr, *]
      ·cases h; subst hR; simp only [zbp1, simprocAttr, *]
     ·replace h := br h; rcases h with ⟨h9, h⟩ | ⟨h9, h⟩
      ·replace h := br h; rcases h with ⟨h10, h⟩ | ⟨h10, h⟩
       ·cases h; subst hR; simp only [zbp1, simprocAttr, *]
       ·cases h; subst hR; simp only [zbp1, simprocAttr, *]
      ·replace h := br h; rcases h with ⟨h11, h⟩ | ⟨h11, h⟩
       ·replace h := br h; rcases h with ⟨h12, h⟩ | ⟨h12, h⟩
        ·cases h; subst hR; simp only [zbp1, simprocAttr, *]
        ·cases h; subst hR; simp only [zbp1, simprocAttr, *]
       ·replace h := br h; rcases h with ⟨h13, h⟩ | ⟨h13, h⟩
        ·replace h := ob h; obtain ⟨r2, h14, h⟩ := h
         replace h14 := zbpv q (M + 7) (by omega) _ _ _ h14
         try simp only [kf, simprocAttr] at h14
         cases h; subst hR; simp only [zbp1, simprocAttr, *]
        ·replace h := br h; rcases h with ⟨h15, h⟩ | ⟨h15, h⟩
         ·replace h := ob h; obtain ⟨r3, h16, h⟩ := h
          replace h16 := zbpv q (M + 7) (by omega) _ _ _ h16
          try simp only [kf, simprocAttr] at h16
          cases h; subst hR; simp only [zbp1, simprocAttr, *]
         ·cases h; subst hR; simp only [zbp1, simprocAttr, *]
   ·replace h := br h; rcases h with ⟨h17, h⟩ | ⟨h17, h⟩
    ·replace h := ob h; obtain ⟨r4, h18, h⟩ := h
     replace h18 := zbp0 q M (by omega) _ _ _ _ _ _ _ _ h18
     try simp only [kf, simprocAttr] at h18
     replace h := br h; rcases h with ⟨h19, h⟩ | ⟨h19, h⟩
     ·replace h := br h; rcases h with ⟨h20, h⟩ | ⟨h20, h⟩
      ·cases h; subst hR; simp only [zbp1, simprocAttr, *]
      ·cases h; subst hR; simp only [zbp1, simprocAttr, *]
     ·replace h := br h; rcases h with ⟨h21, h⟩ | ⟨h21, h⟩
      ·replace h := br h; rcases h with ⟨h22, h⟩ | ⟨h22, h⟩
       ·cases h; subst hR; simp only [zbp1, simprocAttr, *]
       ·cases h; subst hR; simp only [zbp1, simprocAttr, *]
      ·replace h := br h; rcases h with ⟨h23, h⟩ | ⟨h23, h⟩
       ·replace h := br h; rcases h with ⟨h24, h⟩ | ⟨h24, h⟩
        ·cases h; subst hR; simp only [zbp1, simprocAttr, *]
        ·cases h; subst hR; simp only [zbp1, simprocAttr, *]
       ·replace h := br h; rcases h with ⟨h25, h⟩ | ⟨h25, h⟩
        ·replace h := br h; rcases h with ⟨h26, h⟩ | ⟨h26, h⟩
         ·cases h; subst hR; simp only [zbp1, simprocAttr, *]
         ·cases h; subst hR; simp only [zbp1, simprocAttr, *]
        ·replace h := br h; rcases h with ⟨h27, h⟩ | ⟨h27, h⟩
         ·replace h := ob h; obtain ⟨r5, h28, h⟩ := h
          replace h28 := zbpv q (M + 7) (by omega) _ _ _ h28
          try simp only [kf, simprocAttr] at h28
          cases h; subst hR; simp only [zbp1, simprocAttr, *]
         ·replace h := br h; rcases h with ⟨h29, h⟩ | ⟨h29, h⟩
          ·replace h := ob h; obtain ⟨r6, h30, h⟩ := h
           replace h30 := zbpv q (M + 7) (by omega) _ _ _ h30
           try simp only [kf, simprocAttr] at h30
           cases h; subst hR; simp only [zbp1, simprocAttr, *]
          ·cases h; subst hR; simp only [zbp1, simprocAttr, *]
    ·cases h; subst hR; simp only [zbp1, simprocAttr, *]
def zbp3 := And.intro @kk <| And.intro @ke <| And.intro @kn <| And.intro @zbkk <| @zbkm
theorem zbp4 : ∀ (q N : Nat), 8 * q ≤ N → ∀ (a0 : zjn), ∀ (r : Bool), zj0 q a0 = some r → (orc T N).deep F.zj0 [zjn.enc a0] = some [V.bool r] := by
 intro q N hM a0 r h
 rcases q with _ | q
 ·cases h
 obtain ⟨M, rfl⟩ : ∃ M, N = M + 8 := ⟨N - 8, by omega⟩
 generalize hR : some [V.bool r] = R
 rw [zhu, zbgi, y6, zhs zwo rfl]
 rw [zj0] at h
 replace h := br h; rcases h with ⟨h1, h⟩ | ⟨h1, h⟩
 ·replace h := br h; rcases h with ⟨h2, h⟩ | ⟨h2, h⟩
  ·replace h := br h; rcases h with ⟨h3, h⟩ | ⟨h3, h⟩
   ·replace h := br h; rcases h with ⟨h4, h⟩ | ⟨h4, h⟩
    ·replace h := br h; rcases h with ⟨h5, h⟩ | ⟨h5, h⟩
     ·cases h; subst hR; simp only [zbp3, simprocAttr, *]
     ·cases h; subst hR; simp only [zbp3, simprocAttr, *]
    ·cases h; subst hR; simp only [zbp3, simprocAttr, *]
   ·cases h; subst hR; simp only [zbp3, simprocAttr, *]
  ·cases h; subst hR; simp only [zbp3, simprocAttr, *]
 ·cases h; subst hR; simp only [zbp3, simprocAttr, *]
def zbp5 (q : Nat) : Prop := ∀ (M : Nat) (hM : 8 * q ≤ M) (j : Nat) (hj : q ≤ j) (v0z : Bool) (v0l : List zjn) (v5z : Bool) (v5l : List zjn) (v6 v7 : Int) (r : Bool) (_ : zj1 q v0z v0l v5z v5l v6 v7 = some r) (R : Option (List V)) (_ : some [V.bool r] = R) (fr : Fr) (H : Hp) (_ : canon 0 [0, 5, 6, 7] fr H = ([(0, (.sl v0z (List.map zjn.enc v0l))), (5, (.sl v5z (List.map zjn.enc v5l))), (6, (.int .i64 v6)), (7, (.int .i64 v7))], [])), fin zqp (unw T (orc T (M + 7)) (M + 7) 0 [.blk 0, .code zqm] (iter 0 [0, 5, 6, 7] (exec T (orc T (M + 7)) (M + 7) 0 zqj) j fr H)) = R
def zbp6 := And.intro @kk <| And.intro @ke <| And.intro @kn <| And.intro @zbii <| And.intro @zbkl <| @zbik
theorem zbp7 (q : Nat) (zbts : zbp5 q) : zbp5 (q + 1) := by
 intro M hM j hj v0z v0l v5z v5l v6 v7 r h R hR fr H hc
 obtain ⟨j, rfl⟩ : ∃ i, j = i + 1 := ⟨j - 1, by omega⟩
 rw [zhk, hc]; clear hc
 rw [zj1] at h
 replace h := br h; rcases h with ⟨h1, h⟩ | ⟨h1, h⟩
 ·replace h := bn h; obtain ⟨h2, h⟩ := h
  replace h := ob h; obtain ⟨e1, h3, h⟩ := h
  replace h := ob h; obtain ⟨r2, h4, h⟩ := h
  replace h4 := zbp4 q (M + 7) (by omega) _ _ h4
  try simp only [kf, simprocAttr] at h4
  replace h := bb h; rcases h with ⟨h5', h5, h⟩ | ⟨h5', h5, h⟩
  ·replace h := br h; rcases h with ⟨h6, h⟩ | ⟨h6, h⟩
   ·replace h := bn h; obtain ⟨h7, h⟩ := h
    replace h := ob h; obtain ⟨e3, h8, h⟩ := h
    replace h := br h; rcases h with ⟨h9, h⟩ | ⟨h9, h⟩
    ·cases h; subst hR; simp only [zbp6, simprocAttr, *]
    ·replace h := zbts M (by omega) j (by omega) _ _ _ _ _ _ _ h R hR
     simp only [zbp6, simprocAttr, *]
   ·replace h := zbts M (by omega) j (by omega) _ _ _ _ _ _ _ h R hR
    simp only [zbp6, simprocAttr, *]
  ·cases h; subst hR; simp only [zbp6, simprocAttr, *]
 ·cases h; subst hR; simp only [zbp6, simprocAttr, *]
theorem zbp8 : ∀ q, zbp5 q
 | 0 => by intro M hM j hj; intros; rename_i h _ _ _ _ _; cases h
 | q + 1 => by have i0 := zbp8 q; exact zbp7 q i0
theorem zbp9 : ∀ (q N : Nat), 8 * q ≤ N → ∀ (a0 : (Sl zjn)), ∀ (r : Bool), zj2 q a0 = some r → (orc T N).deep F.zj2 [(Sl.enc zjn.enc) a0] = some [V.bool r] := by
 intro q N hM a0 r h
 rcases q with _ | q
 ·cases h
 obtain ⟨M, rfl⟩ : ∃ M, N = M + 8 := ⟨N - 8, by omega⟩
 have zbts := (zbp8 q)
 generalize hR : some [V.bool r] = R
 rw [zhu, zbft, y6, zhs zqp rfl]
 rw [zj2] at h
 replace h := zbts M (by omega) (M + 7) (by omega) _ _ _ _ _ _ _ h R hR
 simp only [zbp6, simprocAttr, *]
def zbqa := And.intro @kk <| And.intro @ke <| And.intro @kn <| And.intro @zbhl <| And.intro @zbig <| And.intro @zbij <| @zbhn
theorem zbqb : ∀ (q N : Nat), 8 * q ≤ N → ∀ (a0 : zjo), ∀ (r : Bool), zj3 q a0 = some r → (orc T N).deep F.zj3 [zjo.enc a0] = some [V.bool r] := by
 intro q N hM a0 r h
 rcases q with _ | q
 ·cases h
 obtain ⟨M, rfl⟩ : ∃ M, N = M + 8 := ⟨N - 8, by omega⟩
 generalize hR : some [V.bool r] = R
 rw [zhu, zbfi, y6, zhs zmx rfl]
 rw [zj3] at h
 replace h := br h; rcases h with ⟨h1, h⟩ | ⟨h1, h⟩
 ·replace h := br h; rcases h with ⟨h2, h⟩ | ⟨h2, h⟩
  ·replace h := ob h; obtain ⟨r1, h3, h⟩ := h
   replace h3 := zbp2 q (M + 7) (by omega) _ _ h3
   try simp only [kf, simprocAttr] at h3
   replace h := bb h; rcases h with ⟨h4', h4, h⟩ | ⟨h4', h4, h⟩
   ·replace h := ob h; obtain ⟨r2, h5, h⟩ := h
    replace h5 := zbp9 q (M + 7) (by omega) _ _ h5
    try simp only [kf, simprocAttr] at h5
    cases h; subst hR; simp only [zbqa, simprocAttr, *]
   ·cases h; subst hR; simp only [zbqa, simprocAttr, *]
  ·cases h; subst hR; simp only [zbqa, simprocAttr, *]
 ·cases h; subst hR; simp only [zbqa, simprocAttr, *]
def zbqc := And.intro @kk <| And.intro @ke <| And.intro @kn <| And.intro @zbic <| @zbie
theorem zbqd : ∀ (q N : Nat), 8 * q ≤ N → ∀ (a0 : (Sl Int)), ∀ (r : (Ow Int)), zj4 q a0 = some r → (orc T N).deep F.zj4 [(Sl.enc (V.int .i64)) a0] = some [(Ow.enc 1 (V.int .i64)) r] := by
 intro q N hM a0 r h
 rcases q with _ | q
 ·cases h
 obtain ⟨M, rfl⟩ : ∃ M, N = M + 8 := ⟨N - 8, by omega⟩
 generalize hR : some [(Ow.enc 1 (V.int .i64)) r] = R
 rw [zhu, zbfr, y6, zhs zpu rfl]
 rw [zj4] at h
 replace h := bb h; rcases h with ⟨h1', h1, h⟩ | ⟨h1', h1, h⟩
 ·cases h; subst hR; simp only [zbqc, simprocAttr, *]
 ·replace h := bn h; obtain ⟨h2, h⟩ := h
  cases h; subst hR; simp only [zbqc, simprocAttr, *]
def zbqe := And.intro @kk <| And.intro @ke <| And.intro @kn <| And.intro @zbi9 <| @zbjb
theorem zbqf : ∀ (q N : Nat), 8 * q ≤ N → ∀ (a0 : (Sl zjn)), ∀ (r : (Ow zjn)), zj5 q a0 = some r → (orc T N).deep F.zj5 [(Sl.enc zjn.enc) a0] = some [(Ow.enc 3 zjn.enc) r] := by
 intro q N hM a0 r h
 rcases q with _ | q
 ·cases h
 obtain ⟨M, rfl⟩ : ∃ M, N = M + 8 := ⟨N - 8, by omega⟩
 generalize hR : some [(Ow.enc 3 zjn.enc) r] = R
 rw [zhu, zbf2, y6, zhs ztq rfl]
 rw [zj5] at h
 replace h := bb h; rcases h with ⟨h1', h1, h⟩ | ⟨h1', h1, h⟩
 ·cases h; subst hR; simp only [zbqe, simprocAttr, *]
 ·replace h := bn h; obtain ⟨h2, h⟩ := h
  cases h; subst hR; simp only [zbqe, simprocAttr, *]
theorem zbqg : ∀ (q N : Nat), 8 * q ≤ N → ∀ (a0 : (Ow zjn)) (a1 : Int) (a2 : (Ow zjn)), ∀ (r : (Ow zjn)), zj6 q a0 a1 a2 = some r → (orc T N).deep F.zj6 [(Ow.enc 3 zjn.enc) a0, (V.int .i64) a1, (Ow.enc 3 zjn.enc) a2] = some [(Ow.enc 3 zjn.enc) r] := by
 intro q N hM a0 a1 a2 r h
 rcases q with _ | q
 ·cases h
 obtain ⟨M, rfl⟩ : ∃ M, N = M + 8 := ⟨N - 8, by omega⟩
 rw [zhu, zbf6, y6, zhr zt5 rfl]
 rw [zj6] at h
 by_cases c : insOk a0 a1 a2
 ·rw [if_pos c] at h; cases h; exact zi0 zjn.enc 3 c
 ·rw [if_neg c] at h; cases h
def zbqh (q : Nat) : Prop := ∀ (M : Nat) (hM : 8 * q ≤ M) (j : Nat) (hj : q ≤ j) (w1 : Nat) (v7 v8 h0_0 h0_1 h0_2 h0_3 h0_4 h0_5 h0_6 : Int) (h1z : Bool) (h1l : List zjn) (h1x : Bool) (r : Int) (_ : zj7 q v7 v8 h0_0 h0_1 h0_2 h0_3 h0_4 h0_5 h0_6 h1z h1l h1x = some r) (R : Option (List V × Hp)) (_ : (some ([(.int .i64 r)], [(.box [(.int .i64 h0_0), (.int .i64 h0_1), (.int .i64 h0_2), (.int .i64 h0_3), (.int .i64 h0_4), (.int .i64 h0_5), (.int .i64 h0_6)]), (.row w1 h1z 3 (List.map zjn.enc h1l) h1x)]) : Option (List V × Hp)) = R) (fr : Fr) (H : Hp) (_ : canon 2 [0, 1, 7, 8] fr H = ([(0, (.vw 1 w1 0 h1l.length 1)), (1, (.fn F.zmm [(.ptr 0 0)])), (7, (.int .i64 v7)), (8, (.int .i64 v8))], [(.box [(.int .i64 h0_0), (.int .i64 h0_1), (.int .i64 h0_2), (.int .i64 h0_3), (.int .i64 h0_4), (.int .i64 h0_5), (.int .i64 h0_6)]), (.row w1 h1z 3 (List.map zjn.enc h1l) h1x)])), finI 2 false [.tmp 4] (unw T (orc T (M + 5)) (M + 5) 2 [.blk 0, .code ztz] (iter 2 [0, 1, 7, 8] (exec T (orc T (M + 5)) (M + 5) 2 ztw) j fr H)) = R
def zbqi := And.intro @kk <| And.intro @ke <| And.intro @kn <| And.intro @zbjc <| And.intro @zbjf <| And.intro @zbjd <| @zbje
theorem zbqj (q : Nat) (zbtt : zbqh q) : zbqh (q + 1) := by
 intro M hM j hj w1 v7 v8 h0_0 h0_1 h0_2 h0_3 h0_4 h0_5 h0_6 h1z h1l h1x r h R hR fr H hc
 obtain ⟨j, rfl⟩ : ∃ i, j = i + 1 := ⟨j - 1, by omega⟩
 rw [zhk, hc]; clear hc
 rw [zj7] at h
 replace h := br h; rcases h with ⟨h1, h⟩ | ⟨h1, h⟩
 ·replace h := bn h; obtain ⟨h2, h⟩ := h
  replace h := bn h; obtain ⟨h3, h⟩ := h
  replace h := ob h; obtain ⟨e1, h4, h⟩ := h
  replace h := br h; rcases h with ⟨h5, h⟩ | ⟨h5, h⟩
  ·cases h; subst hR; simp only [zbqi, simprocAttr, *]
  ·replace h := zbtt M (by omega) j (by omega) w1 _ _ _ _ _ _ _ _ _ _ _ _ _ h R hR
   simp only [zbqi, simprocAttr, *]
 ·cases h; subst hR; simp only [zbqi, simprocAttr, *]
theorem zbqk : ∀ q, zbqh q
 | 0 => by intro M hM j hj; intros; rename_i h _ _ _ _ _; cases h
 | q + 1 => by have i0 := zbqk q; exact zbqj q i0
theorem zbql : ∀ (q M : Nat), 8 * q ≤ M → ∀ (w1 : Nat), ∀ (h0_0 h0_1 h0_2 h0_3 h0_4 h0_5 h0_6 : Int), ∀ (h1z : Bool), ∀ (h1l : List zjn), ∀ (h1x : Bool), ∀ (r : Int), zj8 q h0_0 h0_1 h0_2 h0_3 h0_4 h0_5 h0_6 h1z h1l h1x = some r → (orc T (M + 6)).inl F.zmn [(.vw 1 w1 0 h1l.length 1), (.fn F.zmm [(.ptr 0 0)])] [(.box [(.int .i64 h0_0), (.int .i64 h0_1), (.int .i64 h0_2), (.int .i64 h0_3), (.int .i64 h0_4), (.int .i64 h0_5), (.int .i64 h0_6)]), (.row w1 h1z 3 (List.map zjn.enc h1l) h1x)] = (some ([(.int .i64 r)], [(.box [(.int .i64 h0_0), (.int .i64 h0_1), (.int .i64 h0_2), (.int .i64 h0_3), (.int .i64 h0_4), (.int .i64 h0_5), (.int .i64 h0_6)]), (.row w1 h1z 3 (List.map zjn.enc h1l) h1x)]) : Option (List V × Hp)) := by
 intro q M hM w1 h0_0 h0_1 h0_2 h0_3 h0_4 h0_5 h0_6 h1z h1l h1x r h
 rcases q with _ | q
 ·cases h
 have zbtt := (zbqk q)
 generalize hR : (some ([(.int .i64 r)], [(.box [(.int .i64 h0_0), (.int .i64 h0_1), (.int .i64 h0_2), (.int .i64 h0_3), (.int .i64 h0_4), (.int .i64 h0_5), (.int .i64 h0_6)]), (.row w1 h1z 3 (List.map zjn.enc h1l) h1x)]) : Option (List V × Hp)) = R
 rw [zbjh (n := M + 5)]
 rw [zj8] at h
 replace h := zbtt M (by omega) (M + 5) (by omega) w1 _ _ _ _ _ _ _ _ _ _ _ _ _ h R hR
 simp only [zbqi, simprocAttr, *]
def zbqm (q : Nat) : Prop := ∀ (M : Nat) (hM : 8 * q ≤ M) (j : Nat) (hj : q ≤ j) (w1 : Nat) (v5 v6 h0_0 h0_1 h0_2 h0_3 h0_4 h0_5 h0_6 : Int) (h1z : Bool) (h1l : List zjn) (h1x : Bool) (r : Nat × (List zjn) × Bool) (_ : zj9 q v5 v6 h0_0 h0_1 h0_2 h0_3 h0_4 h0_5 h0_6 h1z h1l h1x = some r) (R : Option (List V × Hp)) (_ : (some ([(.vw 1 w1 0 r.1 0)], [(.box [(.int .i64 h0_0), (.int .i64 h0_1), (.int .i64 h0_2), (.int .i64 h0_3), (.int .i64 h0_4), (.int .i64 h0_5), (.int .i64 h0_6)]), (.row w1 h1z 3 (List.map zjn.enc r.2.1) r.2.2)]) : Option (List V × Hp)) = R) (fr : Fr) (H : Hp) (_ : canon 2 [0, 1, 5, 6] fr H = ([(0, (.vw 1 w1 0 h1l.length 1)), (1, (.fn F.zmm [(.ptr 0 0)])), (5, (.int .i64 v5)), (6, (.int .i64 v6))], [(.box [(.int .i64 h0_0), (.int .i64 h0_1), (.int .i64 h0_2), (.int .i64 h0_3), (.int .i64 h0_4), (.int .i64 h0_5), (.int .i64 h0_6)]), (.row w1 h1z 3 (List.map zjn.enc h1l) h1x)])), finI 2 true [.tmp 4] (unw T (orc T (M + 6)) (M + 6) 2 [.blk 0, .code ztj] (iter 2 [0, 1, 5, 6] (exec T (orc T (M + 6)) (M + 6) 2 zte) j fr H)) = R
def zbqn := And.intro @kk <| And.intro @ke <| And.intro @kn <| And.intro @zbi6 <| And.intro @zbjc <| And.intro @zbjg <| And.intro @zbjd <| @zbje
theorem zbqo (q : Nat) (zbtu : zbqm q) : zbqm (q + 1) := by
 intro M hM j hj w1 v5 v6 h0_0 h0_1 h0_2 h0_3 h0_4 h0_5 h0_6 h1z h1l h1x r h R hR fr H hc
 obtain ⟨j, rfl⟩ : ∃ i, j = i + 1 := ⟨j - 1, by omega⟩
 rw [zhk, hc]; clear hc
 rw [zj9] at h
 replace h := br h; rcases h with ⟨h1, h⟩ | ⟨h1, h⟩
 ·replace h := bn h; obtain ⟨h2, h⟩ := h
  replace h := bn h; obtain ⟨h3, h⟩ := h
  replace h := ob h; obtain ⟨e2, h4, h⟩ := h
  replace h := br h; rcases h with ⟨h5, h⟩ | ⟨h5, h⟩
  ·replace h := zbtu M (by omega) j (by omega) w1 _ _ _ _ _ _ _ _ _ _ _ _ _ h R hR
   simp only [zbqn, simprocAttr, *]
  ·replace h := bn h; obtain ⟨h6, h⟩ := h
   replace h := bn h; obtain ⟨h7, h⟩ := h
   replace h := ob h; obtain ⟨e3, h8, h⟩ := h
   replace h := bb h; rcases h with ⟨h9', h9, h⟩ | ⟨h9', h9, h⟩
   ·replace h := zbtu M (by omega) j (by omega) w1 _ _ _ _ _ _ _ _ _ _ _ _ _ h R hR
    simp only [zbqn, simprocAttr, *]
   ·cases h
 ·replace h := bn h; obtain ⟨h10, h⟩ := h
  replace h := bn h; obtain ⟨h11, h⟩ := h
  replace h := bb h; rcases h with ⟨h12', h12, h⟩ | ⟨h12', h12, h⟩
  ·replace h := bn h; obtain ⟨h13, h⟩ := h
   replace h := bb h; rcases h with ⟨h14', h14, h⟩ | ⟨h14', h14, h⟩
   ·cases h; subst hR; simp only [zbqn, simprocAttr, *]
   ·cases h; subst hR; simp only [zbqn, simprocAttr, *]
  ·cases h
theorem zbqp : ∀ q, zbqm q
 | 0 => by intro M hM j hj; intros; rename_i h _ _ _ _ _; cases h
 | q + 1 => by have i0 := zbqp q; exact zbqo q i0
theorem zbqq : ∀ (q M : Nat), 8 * q ≤ M → ∀ (w1 : Nat), ∀ (h0_0 h0_1 h0_2 h0_3 h0_4 h0_5 h0_6 : Int), ∀ (h1z : Bool), ∀ (h1l : List zjn), ∀ (h1x : Bool), ∀ (r : Nat × (List zjn) × Bool), zka q h0_0 h0_1 h0_2 h0_3 h0_4 h0_5 h0_6 h1z h1l h1x = some r → (orc T (M + 7)).inl F.zml [(.vw 1 w1 0 h1l.length 1), (.fn F.zmm [(.ptr 0 0)])] [(.box [(.int .i64 h0_0), (.int .i64 h0_1), (.int .i64 h0_2), (.int .i64 h0_3), (.int .i64 h0_4), (.int .i64 h0_5), (.int .i64 h0_6)]), (.row w1 h1z 3 (List.map zjn.enc h1l) h1x)] = (some ([(.vw 1 w1 0 r.1 0)], [(.box [(.int .i64 h0_0), (.int .i64 h0_1), (.int .i64 h0_2), (.int .i64 h0_3), (.int .i64 h0_4), (.int .i64 h0_5), (.int .i64 h0_6)]), (.row w1 h1z 3 (List.map zjn.enc r.2.1) r.2.2)]) : Option (List V × Hp)) := by
 intro q M hM w1 h0_0 h0_1 h0_2 h0_3 h0_4 h0_5 h0_6 h1z h1l h1x r h
 rcases q with _ | q
 ·cases h
 have zbtu := (zbqp q)
 generalize hR : (some ([(.vw 1 w1 0 r.1 0)], [(.box [(.int .i64 h0_0), (.int .i64 h0_1), (.int .i64 h0_2), (.int .i64 h0_3), (.int .i64 h0_4), (.int .i64 h0_5), (.int .i64 h0_6)]), (.row w1 h1z 3 (List.map zjn.enc r.2.1) r.2.2)]) : Option (List V × Hp)) = R
 rw [zbi8 (n := M + 6)]
 rw [zka] at h
 replace h := ob h; obtain ⟨r1, h1, h⟩ := h
 replace h1 := zbql q M (by omega) w1 _ _ _ _ _ _ _ _ _ _ _ h1
 try simp only [kf, simprocAttr] at h1
 replace h := br h; rcases h with ⟨h2, h⟩ | ⟨h2, h⟩
 ·cases h; subst hR; simp only [zbqn, simprocAttr, *]
 ·replace h := zbtu M (by omega) (M + 6) (by omega) w1 _ _ _ _ _ _ _ _ _ _ _ _ _ h R hR
  simp only [zbqn, simprocAttr, *]
def zbqr (q : Nat) : Prop := ∀ (M : Nat) (hM : 8 * q ≤ M) (j : Nat) (hj : q ≤ j) (w1 v0len : Nat) (v7 v8 h0_0 h0_1 h0_2 h0_3 h0_4 h0_5 h0_6 : Int) (h1z : Bool) (h1l : List zjn) (h1x : Bool) (r : Int) (_ : zkb q v0len v7 v8 h0_0 h0_1 h0_2 h0_3 h0_4 h0_5 h0_6 h1z h1l h1x = some r) (R : Option (List V × Hp)) (_ : (some ([(.int .i64 r)], [(.box [(.int .i64 h0_0), (.int .i64 h0_1), (.int .i64 h0_2), (.int .i64 h0_3), (.int .i64 h0_4), (.int .i64 h0_5), (.int .i64 h0_6)]), (.row w1 h1z 3 (List.map zjn.enc h1l) h1x)]) : Option (List V × Hp)) = R) (fr : Fr) (H : Hp) (_ : canon 2 [0, 1, 7, 8] fr H = ([(0, (.vw 1 w1 0 v0len 0)), (1, (.fn F.zmo [(.ptr 0 0)])), (7, (.int .i64 v7)), (8, (.int .i64 v8))], [(.box [(.int .i64 h0_0), (.int .i64 h0_1), (.int .i64 h0_2), (.int .i64 h0_3), (.int .i64 h0_4), (.int .i64 h0_5), (.int .i64 h0_6)]), (.row w1 h1z 3 (List.map zjn.enc h1l) h1x)])), finI 2 false [.tmp 4] (unw T (orc T (M + 6)) (M + 6) 2 [.blk 0, .code ztz] (iter 2 [0, 1, 7, 8] (exec T (orc T (M + 6)) (M + 6) 2 ztw) j fr H)) = R
def zbqs := And.intro @kk <| And.intro @ke <| And.intro @kn <| And.intro @zbjf <| And.intro @zbji <| And.intro @zbjj <| @zbjk
theorem zbqt (q : Nat) (zbtv : zbqr q) : zbqr (q + 1) := by
 intro M hM j hj w1 v0len v7 v8 h0_0 h0_1 h0_2 h0_3 h0_4 h0_5 h0_6 h1z h1l h1x r h R hR fr H hc
 obtain ⟨j, rfl⟩ : ∃ i, j = i + 1 := ⟨j - 1, by omega⟩
 rw [zhk, hc]; clear hc
 rw [zkb] at h
 replace h := br h; rcases h with ⟨h1, h⟩ | ⟨h1, h⟩
 ·replace h := bn h; obtain ⟨h2, h⟩ := h
  replace h := bn h; obtain ⟨h3, h⟩ := h
  replace h := ob h; obtain ⟨e1, h4, h⟩ := h
  replace h := br h; rcases h with ⟨h5, h⟩ | ⟨h5, h⟩
  ·cases h; subst hR; simp only [zbqs, simprocAttr, *]
  ·replace h := zbtv M (by omega) j (by omega) w1 _ _ _ _ _ _ _ _ _ _ _ _ _ _ h R hR
   simp only [zbqs, simprocAttr, *]
 ·cases h; subst hR; simp only [zbqs, simprocAttr, *]
theorem zbqu : ∀ q, zbqr q
 | 0 => by intro M hM j hj; intros; rename_i h _ _ _ _ _; cases h
 | q + 1 => by have i0 := zbqu q; exact zbqt q i0
theorem zbqv : ∀ (q M : Nat), 8 * q ≤ M → ∀ (w1 v0len : Nat), ∀ (h0_0 h0_1 h0_2 h0_3 h0_4 h0_5 h0_6 : Int), ∀ (h1z : Bool), ∀ (h1l : List zjn), ∀ (h1x : Bool), ∀ (r : Int), zkc q v0len h0_0 h0_1 h0_2 h0_3 h0_4 h0_5 h0_6 h1z h1l h1x = some r → (orc T (M + 7)).inl F.zmn [(.vw 1 w1 0 v0len 0), (.fn F.zmo [(.ptr 0 0)])] [(.box [(.int .i64 h0_0), (.int .i64 h0_1), (.int .i64 h0_2), (.int .i64 h0_3), (.int .i64 h0_4), (.int .i64 h0_5), (.int .i64 h0_6)]), (.row w1 h1z 3 (List.map zjn.enc h1l) h1x)] = (some ([(.int .i64 r)], [(.box [(.int .i64 h0_0), (.int .i64 h0_1), (.int .i64 h0_2), (.int .i64 h0_3), (.int .i64 h0_4), (.int .i64 h0_5), (.int .i64 h0_6)]), (.row w1 h1z 3 (List.map zjn.enc h1l) h1x)]) : Option (List V × Hp)) := by
 intro q M hM w1 v0len h0_0 h0_1 h0_2 h0_3 h0_4 h0_5 h0_6 h1z h1l h1x r h
 rcases q with _ | q
 ·cases h
 have zbtv := (zbqu q)
 generalize hR : (some ([(.int .i64 r)], [(.box [(.int .i64 h0_0), (.int .i64 h0_1), (.int .i64 h0_2), (.int .i64 h0_3), (.int .i64 h0_4), (.int .i64 h0_5), (.int .i64 h0_6)]), (.row w1 h1z 3 (List.map zjn.enc h1l) h1x)]) : Option (List V × Hp)) = R
 rw [zbjh (n := M + 6)]
 rw [zkc] at h
 replace h := zbtv M (by omega) (M + 6) (by omega) w1 _ _ _ _ _ _ _ _ _ _ _ _ _ _ h R hR
 simp only [zbqs, simprocAttr, *]
def zbqw := And.intro @kk <| And.intro @ke <| And.intro @kn <| And.intro @zbh0 <| And.intro @zbi7 <| And.intro @zbja <| And.intro @zbjg <| And.intro @zbjl <| @zbh2
theorem zbqx : ∀ (q N : Nat), 8 * q ≤ N → ∀ (a0 : (Sl zjn)) (a1 : zjr), ∀ (r : (Ow zjn)), zkd q a0 a1 = some r → (orc T N).deep F.zkd [(Sl.enc zjn.enc) a0, zjr.enc a1] = some [(Ow.enc 3 zjn.enc) r] := by
 intro q N hM a0 a1 r h
 rcases q with _ | q
 ·cases h
 obtain ⟨M, rfl⟩ : ∃ M, N = M + 8 := ⟨N - 8, by omega⟩
 generalize hR : some [(Ow.enc 3 zjn.enc) r] = R
 rw [zhu, zbfn, y6, zhs zoo rfl]
 rw [zkd] at h
 replace h := ob h; obtain ⟨r1, h1, h⟩ := h
 replace h1 := zbqf q (M + 7) (by omega) _ _ h1
 try simp only [kf, simprocAttr] at h1
 replace h := ob h; obtain ⟨r2, h2, h⟩ := h
 replace h2 := zbqq q M (by omega) 0 _ _ _ _ _ _ _ _ _ _ _ h2
 try simp only [kf, simprocAttr] at h2
 replace h := ob h; obtain ⟨r3, h3, h⟩ := h
 replace h3 := zbqv q M (by omega) 0 _ _ _ _ _ _ _ _ _ _ _ _ h3
 try simp only [kf, simprocAttr] at h3
 replace h := br h; rcases h with ⟨h4, h⟩ | ⟨h4, h⟩
 ·replace h := bb h; rcases h with ⟨h5', h5, h⟩ | ⟨h5', h5, h⟩
  ·replace h := ob h; obtain ⟨r4, h6, h⟩ := h
   replace h6 := zbqg q (M + 7) (by omega) _ _ _ _ h6
   try simp only [kf, simprocAttr] at h6
   cases h; subst hR; simp only [zbqw, simprocAttr, *]
  ·cases h
 ·replace h := bb h; rcases h with ⟨h7', h7, h⟩ | ⟨h7', h7, h⟩
  ·replace h := ob h; obtain ⟨r5, h8, h⟩ := h
   replace h8 := zbqg q (M + 7) (by omega) _ _ _ _ h8
   try simp only [kf, simprocAttr] at h8
   cases h; subst hR; simp only [zbqw, simprocAttr, *]
  ·cases h
def zbqy := And.intro @kk <| And.intro @ke <| And.intro @kn <| And.intro @zbh9 <| @zbib
theorem zbqz : ∀ (q N : Nat), 8 * q ≤ N → ∀ (a0 : zjm), ∀ (r : Bool), zke q a0 = some r → (orc T N).deep F.zke [zjm.enc a0] = some [V.bool r] := by
 intro q N hM a0 r h
 rcases q with _ | q
 ·cases h
 obtain ⟨M, rfl⟩ : ∃ M, N = M + 8 := ⟨N - 8, by omega⟩
 generalize hR : some [V.bool r] = R
 rw [zhu, zbfq, y6, zhs zps rfl]
 rw [zke] at h
 cases h; subst hR; simp only [zbqy, simprocAttr, *]
def zbq0 := And.intro @kk <| And.intro @ke <| And.intro @kn <| And.intro @zbhi <| And.intro @zbia <| @zbhk
theorem zbq1 : ∀ (q N : Nat), 8 * q ≤ N → ∀ (a0 : zjo), ∀ (r : Bool), zkf q a0 = some r → (orc T N).deep F.zkf [zjo.enc a0] = some [V.bool r] := by
 intro q N hM a0 r h
 rcases q with _ | q
 ·cases h
 obtain ⟨M, rfl⟩ : ∃ M, N = M + 8 := ⟨N - 8, by omega⟩
 generalize hR : some [V.bool r] = R
 rw [zhu, zbfh, y6, zhs zmv rfl]
 rw [zkf] at h
 replace h := ob h; obtain ⟨r1, h1, h⟩ := h
 replace h1 := zbqz q (M + 7) (by omega) _ _ h1
 try simp only [kf, simprocAttr] at h1
 replace h := bb h; rcases h with ⟨h2', h2, h⟩ | ⟨h2', h2, h⟩
 ·cases h; subst hR; simp only [zbq0, simprocAttr, *]
 ·cases h; subst hR; simp only [zbq0, simprocAttr, *]
def zbq2 (q : Nat) : Prop := ∀ (M : Nat) (hM : 8 * q ≤ M) (j : Nat) (hj : q ≤ j) (v0z : Bool) (v0l : List Int) (v1 v5 : Int) (r : Bool) (_ : zkg q v0z v0l v1 v5 = some r) (R : Option (List V)) (_ : some [V.bool r] = R) (fr : Fr) (H : Hp) (_ : canon 0 [0, 1, 5] fr H = ([(0, (.sl v0z (List.map (V.int .i64) v0l))), (1, (.int .i64 v1)), (5, (.int .i64 v5))], [])), fin z7d (unw T (orc T (M + 7)) (M + 7) 0 [.blk 0, .code z69] (iter 0 [0, 1, 5] (exec T (orc T (M + 7)) (M + 7) 0 z66) j fr H)) = R
def zbq3 := And.intro @kk <| And.intro @ke <| And.intro @kn <| And.intro @zblz <| @zbl1
theorem zbq4 (q : Nat) (zbtw : zbq2 q) : zbq2 (q + 1) := by
 intro M hM j hj v0z v0l v1 v5 r h R hR fr H hc
 obtain ⟨j, rfl⟩ : ∃ i, j = i + 1 := ⟨j - 1, by omega⟩
 rw [zhk, hc]; clear hc
 rw [zkg] at h
 replace h := br h; rcases h with ⟨h1, h⟩ | ⟨h1, h⟩
 ·replace h := bn h; obtain ⟨h2, h⟩ := h
  replace h := ob h; obtain ⟨e1, h3, h⟩ := h
  replace h := br h; rcases h with ⟨h4, h⟩ | ⟨h4, h⟩
  ·cases h; subst hR; simp only [zbq3, simprocAttr, *]
  ·replace h := br h; rcases h with ⟨h5, h⟩ | ⟨h5, h⟩
   ·cases h; subst hR; simp only [zbq3, simprocAttr, *]
   ·replace h := br h; rcases h with ⟨h6, h⟩ | ⟨h6, h⟩
    ·replace h := bn h; obtain ⟨h7, h⟩ := h
     replace h := ob h; obtain ⟨e2, h8, h⟩ := h
     replace h := br h; rcases h with ⟨h9, h⟩ | ⟨h9, h⟩
     ·cases h; subst hR; simp only [zbq3, simprocAttr, *]
     ·replace h := bn h; obtain ⟨h10, h⟩ := h
      replace h := ob h; obtain ⟨e3, h11, h⟩ := h
      replace h := br h; rcases h with ⟨h12, h⟩ | ⟨h12, h⟩
      ·cases h; subst hR; simp only [zbq3, simprocAttr, *]
      ·replace h := br h; rcases h with ⟨h13, h⟩ | ⟨h13, h⟩
       ·cases h; subst hR; simp only [zbq3, simprocAttr, *]
       ·replace h := zbtw M (by omega) j (by omega) _ _ _ _ _ h R hR
        simp only [zbq3, simprocAttr, *]
    ·replace h := bn h; obtain ⟨h14, h⟩ := h
     replace h := ob h; obtain ⟨e4, h15, h⟩ := h
     replace h := br h; rcases h with ⟨h16, h⟩ | ⟨h16, h⟩
     ·cases h; subst hR; simp only [zbq3, simprocAttr, *]
     ·replace h := br h; rcases h with ⟨h17, h⟩ | ⟨h17, h⟩
      ·cases h; subst hR; simp only [zbq3, simprocAttr, *]
      ·replace h := zbtw M (by omega) j (by omega) _ _ _ _ _ h R hR
       simp only [zbq3, simprocAttr, *]
 ·cases h; subst hR; simp only [zbq3, simprocAttr, *]
theorem zbq5 : ∀ q, zbq2 q
 | 0 => by intro M hM j hj; intros; rename_i h _ _ _ _ _; cases h
 | q + 1 => by have i0 := zbq5 q; exact zbq4 q i0
theorem zbq6 : ∀ (q N : Nat), 8 * q ≤ N → ∀ (a0 : (Sl Int)) (a1 : Int), ∀ (r : Bool), zkh q a0 a1 = some r → (orc T N).deep F.zkh [(Sl.enc (V.int .i64)) a0, (V.int .i64) a1] = some [V.bool r] := by
 intro q N hM a0 a1 r h
 rcases q with _ | q
 ·cases h
 obtain ⟨M, rfl⟩ : ∃ M, N = M + 8 := ⟨N - 8, by omega⟩
 have zbtw := (zbq5 q)
 generalize hR : some [V.bool r] = R
 rw [zhu, zbgz, y6, zhs z7d rfl]
 rw [zkh] at h
 replace h := br h; rcases h with ⟨h1, h⟩ | ⟨h1, h⟩
 ·replace h := br h; rcases h with ⟨h2, h⟩ | ⟨h2, h⟩
  ·cases h; subst hR; simp only [zbq3, simprocAttr, *]
  ·replace h := zbtw M (by omega) (M + 7) (by omega) _ _ _ _ _ h R hR
   simp only [zbq3, simprocAttr, *]
 ·cases h; subst hR; simp only [zbq3, simprocAttr, *]
def zbq7 := And.intro @kk <| And.intro @ke <| And.intro @kn <| And.intro @zbl2 <| @zbl4
theorem zbq8 : ∀ (q N : Nat), 8 * q ≤ N → ∀ (a0 r : Int), zki q a0 = some r → (orc T N).deep F.zki [(V.int .i64) a0] = some [(V.int .i64) r] := by
 intro q N hM a0 r h
 rcases q with _ | q
 ·cases h
 obtain ⟨M, rfl⟩ : ∃ M, N = M + 8 := ⟨N - 8, by omega⟩
 generalize hR : some [(V.int .i64) r] = R
 rw [zhu, zbg0, y6, zhs z7q rfl]
 rw [zki] at h
 replace h := br h; rcases h with ⟨h1, h⟩ | ⟨h1, h⟩
 ·cases h; subst hR; simp only [zbq7, simprocAttr, *]
 ·replace h := br h; rcases h with ⟨h2, h⟩ | ⟨h2, h⟩
  ·cases h; subst hR; simp only [zbq7, simprocAttr, *]
  ·cases h; subst hR; simp only [zbq7, simprocAttr, *]
def zbq9 (q : Nat) : Prop := ∀ (M : Nat) (hM : 8 * q ≤ M) (j : Nat) (hj : q ≤ j) (v3 h0_0 : Int) (h0_1z : Bool) (h0_1l : List Int) (h0_2 : Bool) (h0_3 : Int) (r : Bool) (_ : zkj q v3 h0_0 h0_1z h0_1l h0_2 h0_3 = some r) (R : Option (List V)) (_ : some [V.bool r] = R) (fr : Fr) (H : Hp) (_ : canon 0 [1, 3] fr H = ([(1, (.ptr 0 0)), (3, (.int .i64 v3))], [(.box [(.int .i64 h0_0), (.sl h0_1z (List.map (V.int .i64) h0_1l)), (.bool h0_2), (.int .i64 h0_3)])])), fin zvd (unw T (orc T (M + 7)) (M + 7) 0 [.blk 0, .code zu6] (iter 0 [1, 3] (exec T (orc T (M + 7)) (M + 7) 0 zu3) j fr H)) = R
def zbra := And.intro @kk <| And.intro @ke <| And.intro @kn <| And.intro @zbj2 <| And.intro @zbl0 <| And.intro @zbl3 <| @zbj4
theorem zbrb (q : Nat) (zbtx : zbq9 q) : zbq9 (q + 1) := by
 intro M hM j hj v3 h0_0 h0_1z h0_1l h0_2 h0_3 r h R hR fr H hc
 obtain ⟨j, rfl⟩ : ∃ i, j = i + 1 := ⟨j - 1, by omega⟩
 rw [zhk, hc]; clear hc
 rw [zkj] at h
 replace h := br h; rcases h with ⟨h1, h⟩ | ⟨h1, h⟩
 ·replace h := bn h; obtain ⟨h2, h⟩ := h
  replace h := ob h; obtain ⟨e5, h3, h⟩ := h
  replace h := ob h; obtain ⟨r6, h4, h⟩ := h
  replace h4 := zbq8 q (M + 7) (by omega) _ _ h4
  replace h := br h; rcases h with ⟨h5, h⟩ | ⟨h5, h⟩
  ·replace h := zbtx M (by omega) j (by omega) _ _ _ _ _ _ _ h R hR
   simp only [zbra, simprocAttr, *]
  ·cases h; subst hR; simp only [zbra, simprocAttr, *]
 ·cases h; subst hR; simp only [zbra, simprocAttr, *]
theorem zbrc : ∀ q, zbq9 q
 | 0 => by intro M hM j hj; intros; rename_i h _ _ _ _ _; cases h
 | q + 1 => by have i0 := zbrc q; exact zbrb q i0
theorem zbrd : ∀ (q N : Nat), 8 * q ≤ N → ∀ (a0 : zjm), ∀ (r : Bool), zkk q a0 = some r → (orc T N).deep F.zkk [zjm.enc a0] = some [V.bool r] := by
 intro q N hM a0 r h
 rcases q with _ | q
 ·cases h
 obtain ⟨M, rfl⟩ : ∃ M, N = M + 8 := ⟨N - 8, by omega⟩
 have zbtx := (zbrc q)
 generalize hR : some [V.bool r] = R
 rw [zhu, zbgc, y6, zhs zvd rfl]
 rw [zkk] at h
 replace h := br h; rcases h with ⟨h1, h⟩ | ⟨h1, h⟩
 ·cases h; subst hR; simp only [zbra, simprocAttr, *]
 ·replace h := br h; rcases h with ⟨h2, h⟩ | ⟨h2, h⟩
  ·cases h; subst hR; simp only [zbra, simprocAttr, *]
  ·replace h := bb h; rcases h with ⟨h3', h3, h⟩ | ⟨h3', h3, h⟩
   ·replace h := br h; rcases h with ⟨h4, h⟩ | ⟨h4, h⟩
    ·cases h; subst hR; simp only [zbra, simprocAttr, *]
    ·replace h := br h; rcases h with ⟨h5, h⟩ | ⟨h5, h⟩
     ·cases h; subst hR; simp only [zbra, simprocAttr, *]
     ·replace h := br h; rcases h with ⟨h6, h⟩ | ⟨h6, h⟩
      ·replace h := ob h; obtain ⟨r1, h7, h⟩ := h
       replace h7 := zbq6 q (M + 7) (by omega) _ _ _ h7
       try simp only [kf, simprocAttr] at h7
       cases h; subst hR; simp only [zbra, simprocAttr, *]
      ·replace h := br h; rcases h with ⟨h8, h⟩ | ⟨h8, h⟩
       ·replace h := ob h; obtain ⟨r2, h9, h⟩ := h
        replace h9 := zbq6 q (M + 7) (by omega) _ _ _ h9
        try simp only [kf, simprocAttr] at h9
        cases h; subst hR; simp only [zbra, simprocAttr, *]
       ·replace h := br h; rcases h with ⟨h10, h⟩ | ⟨h10, h⟩
        ·cases h; subst hR; simp only [zbra, simprocAttr, *]
        ·replace h := br h; rcases h with ⟨h11, h⟩ | ⟨h11, h⟩
         ·replace h := zbtx M (by omega) (M + 7) (by omega) _ _ _ _ _ _ _ h R hR
          simp only [zbra, simprocAttr, *]
         ·replace h := br h; rcases h with ⟨h12, h⟩ | ⟨h12, h⟩
          ·cases h; subst hR; simp only [zbra, simprocAttr, *]
          ·replace h := zbtx M (by omega) (M + 7) (by omega) _ _ _ _ _ _ _ h R hR
           simp only [zbra, simprocAttr, *]
   ·replace h := br h; rcases h with ⟨h13, h⟩ | ⟨h13, h⟩
    ·replace h := br h; rcases h with ⟨h14, h⟩ | ⟨h14, h⟩
     ·cases h; subst hR; simp only [zbra, simprocAttr, *]
     ·replace h := br h; rcases h with ⟨h15, h⟩ | ⟨h15, h⟩
      ·cases h; subst hR; simp only [zbra, simprocAttr, *]
      ·replace h := br h; rcases h with ⟨h16, h⟩ | ⟨h16, h⟩
       ·replace h := ob h; obtain ⟨r3, h17, h⟩ := h
        replace h17 := zbq6 q (M + 7) (by omega) _ _ _ h17
        try simp only [kf, simprocAttr] at h17
        cases h; subst hR; simp only [zbra, simprocAttr, *]
       ·replace h := br h; rcases h with ⟨h18, h⟩ | ⟨h18, h⟩
        ·replace h := ob h; obtain ⟨r4, h19, h⟩ := h
         replace h19 := zbq6 q (M + 7) (by omega) _ _ _ h19
         try simp only [kf, simprocAttr] at h19
         cases h; subst hR; simp only [zbra, simprocAttr, *]
        ·replace h := br h; rcases h with ⟨h20, h⟩ | ⟨h20, h⟩
         ·cases h; subst hR; simp only [zbra, simprocAttr, *]
         ·replace h := br h; rcases h with ⟨h21, h⟩ | ⟨h21, h⟩
          ·replace h := zbtx M (by omega) (M + 7) (by omega) _ _ _ _ _ _ _ h R hR
           simp only [zbra, simprocAttr, *]
          ·replace h := br h; rcases h with ⟨h22, h⟩ | ⟨h22, h⟩
           ·cases h; subst hR; simp only [zbra, simprocAttr, *]
           ·replace h := zbtx M (by omega) (M + 7) (by omega) _ _ _ _ _ _ _ h R hR
            simp only [zbra, simprocAttr, *]
    ·cases h; subst hR; simp only [zbra, simprocAttr, *]
def zbre := And.intro @kk <| And.intro @ke <| And.intro @kn <| And.intro @zbkn <| And.intro @zbkf <| @zbkp
theorem zbrf : ∀ (q N : Nat), 8 * q ≤ N → ∀ (a0 : zjq), ∀ (r : Bool), zkl q a0 = some r → (orc T N).deep F.zkl [zjq.enc a0] = some [V.bool r] := by
 intro q N hM a0 r h
 rcases q with _ | q
 ·cases h
 obtain ⟨M, rfl⟩ : ∃ M, N = M + 8 := ⟨N - 8, by omega⟩
 generalize hR : some [V.bool r] = R
 rw [zhu, zbgj, y6, zhs zwt rfl]
 rw [zkl] at h
 replace h := br h; rcases h with ⟨h1, h⟩ | ⟨h1, h⟩
 ·replace h := br h; rcases h with ⟨h2, h⟩ | ⟨h2, h⟩
  ·replace h := ob h; obtain ⟨r1, h3, h⟩ := h
   replace h3 := zbpo q (M + 7) (by omega) _ _ h3
   replace h := br h; rcases h with ⟨h4, h⟩ | ⟨h4, h⟩
   ·replace h := ob h; obtain ⟨r2, h5, h⟩ := h
    replace h5 := zbpo q (M + 7) (by omega) _ _ h5
    cases h; subst hR; simp only [zbre, simprocAttr, *]
   ·cases h; subst hR; simp only [zbre, simprocAttr, *]
  ·cases h; subst hR; simp only [zbre, simprocAttr, *]
 ·cases h; subst hR; simp only [zbre, simprocAttr, *]
def zbrg := And.intro @kk <| And.intro @ke <| And.intro @kn <| And.intro @zbil <| And.intro @zbko <| @zbin
theorem zbrh : ∀ (q N : Nat), 8 * q ≤ N → ∀ (a0 : zjr), ∀ (r : Bool), zkm q a0 = some r → (orc T N).deep F.zkm [zjr.enc a0] = some [V.bool r] := by
 intro q N hM a0 r h
 rcases q with _ | q
 ·cases h
 obtain ⟨M, rfl⟩ : ∃ M, N = M + 8 := ⟨N - 8, by omega⟩
 generalize hR : some [V.bool r] = R
 rw [zhu, zbfu, y6, zhs zqr rfl]
 rw [zkm] at h
 replace h := br h; rcases h with ⟨h1, h⟩ | ⟨h1, h⟩
 ·replace h := br h; rcases h with ⟨h2, h⟩ | ⟨h2, h⟩
  ·replace h := br h; rcases h with ⟨h3, h⟩ | ⟨h3, h⟩
   ·replace h := br h; rcases h with ⟨h4, h⟩ | ⟨h4, h⟩
    ·replace h := br h; rcases h with ⟨h5, h⟩ | ⟨h5, h⟩
     ·replace h := br h; rcases h with ⟨h6, h⟩ | ⟨h6, h⟩
      ·replace h := ob h; obtain ⟨r1, h7, h⟩ := h
       replace h7 := zbrf q (M + 7) (by omega) _ _ h7
       try simp only [kf, simprocAttr] at h7
       replace h := bb h; rcases h with ⟨h8', h8, h⟩ | ⟨h8', h8, h⟩
       ·replace h := br h; rcases h with ⟨h9, h⟩ | ⟨h9, h⟩
        ·cases h; subst hR; simp only [zbrg, simprocAttr, *]
        ·cases h; subst hR; simp only [zbrg, simprocAttr, *]
       ·cases h; subst hR; simp only [zbrg, simprocAttr, *]
      ·cases h; subst hR; simp only [zbrg, simprocAttr, *]
     ·cases h; subst hR; simp only [zbrg, simprocAttr, *]
    ·cases h; subst hR; simp only [zbrg, simprocAttr, *]
   ·cases h; subst hR; simp only [zbrg, simprocAttr, *]
  ·cases h; subst hR; simp only [zbrg, simprocAttr, *]
 ·cases h; subst hR; simp only [zbrg, simprocAttr, *]
def zbri := And.intro @kk <| And.intro @ke <| And.intro @kn <| And.intro @zbkq <| And.intro @zbkf <| @zbks
theorem zbrj : ∀ (q N : Nat), 8 * q ≤ N → ∀ (a0 : zjm) (a1 : zjq), ∀ (r : zjm × Int), zkn q a0 a1 = some r → (orc T N).deep F.zkn [zjm.enc a0, zjq.enc a1] = some [zjm.enc r.1, (V.int .i64) r.2] := by
 intro q N hM a0 a1 r h
 rcases q with _ | q
 ·cases h
 obtain ⟨M, rfl⟩ : ∃ M, N = M + 8 := ⟨N - 8, by omega⟩
 generalize hR : some [zjm.enc r.1, (V.int .i64) r.2] = R
 rw [zhu, zbgk, y6, zhs zxe rfl]
 rw [zkn] at h
 replace h := ob h; obtain ⟨e1, h1, h⟩ := h
 replace h := br h; rcases h with ⟨h2, h⟩ | ⟨h2, h⟩
 ·cases h; subst hR; simp only [zbri, simprocAttr, *]
 ·replace h := br h; rcases h with ⟨h3, h⟩ | ⟨h3, h⟩
  ·replace h := br h; rcases h with ⟨h4, h⟩ | ⟨h4, h⟩
   ·replace h := ob h; obtain ⟨r2, h5, h⟩ := h
    replace h5 := zbpo q (M + 7) (by omega) _ _ h5
    replace h := ob h; obtain ⟨r3, h6, h⟩ := h
    replace h6 := zbpo q (M + 7) (by omega) _ _ h6
    cases h; subst hR; simp only [zbri, simprocAttr, *]
   ·replace h := br h; rcases h with ⟨h7, h⟩ | ⟨h7, h⟩
    ·replace h := br h; rcases h with ⟨h8, h⟩ | ⟨h8, h⟩
     ·replace h := ob h; obtain ⟨r4, h9, h⟩ := h
      replace h9 := zbpo q (M + 7) (by omega) _ _ h9
      cases h; subst hR; simp only [zbri, simprocAttr, *]
     ·cases h; subst hR; simp only [zbri, simprocAttr, *]
    ·cases h; subst hR; simp only [zbri, simprocAttr, *]
  ·replace h := br h; rcases h with ⟨h10, h⟩ | ⟨h10, h⟩
   ·replace h := br h; rcases h with ⟨h11, h⟩ | ⟨h11, h⟩
    ·replace h := ob h; obtain ⟨r5, h12, h⟩ := h
     replace h12 := zbpo q (M + 7) (by omega) _ _ h12
     cases h; subst hR; simp only [zbri, simprocAttr, *]
    ·cases h; subst hR; simp only [zbri, simprocAttr, *]
   ·cases h; subst hR; simp only [zbri, simprocAttr, *]
def zbrk := And.intro @kk <| And.intro @ke <| And.intro @kn <| And.intro @zbmb <| @zbmd
theorem zbrl : ∀ (q N : Nat), 8 * q ≤ N → ∀ (a0 : (Ow Int)) (a1 a2 : Int), ∀ (r : (Ow Int)), zko q a0 a1 a2 = some r → (orc T N).deep F.zko [(Ow.enc 1 (V.int .i64)) a0, (V.int .i64) a1, (V.int .i64) a2] = some [(Ow.enc 1 (V.int .i64)) r] := by
 intro q N hM a0 a1 a2 r h
 rcases q with _ | q
 ·cases h
 obtain ⟨M, rfl⟩ : ∃ M, N = M + 8 := ⟨N - 8, by omega⟩
 generalize hR : some [(Ow.enc 1 (V.int .i64)) r] = R
 rw [zhu, zbg3, y6, zhs z84 rfl]
 rw [zko] at h
 replace h := bn h; obtain ⟨h1, h⟩ := h
 replace h := bn h; obtain ⟨h2, h⟩ := h
 replace h := bn h; obtain ⟨h3, h⟩ := h
 replace h := br h; rcases h with ⟨h4, h⟩ | ⟨h4, h⟩
 ·cases h; subst hR; simp only [zbrk, simprocAttr, *]
 ·replace h := bn h; obtain ⟨h5, h⟩ := h
  replace h := bb h; rcases h with ⟨h6', h6, h⟩ | ⟨h6', h6, h⟩
  ·replace h := bn h; obtain ⟨h7, h⟩ := h
   replace h := bn h; obtain ⟨h8, h⟩ := h
   replace h := bn h; obtain ⟨h9, h⟩ := h
   replace h := bn h; obtain ⟨h10, h⟩ := h
   replace h := bn h; obtain ⟨h11, h⟩ := h
   replace h := bm h; obtain ⟨h12, h⟩ := h
   replace h := bb h; rcases h with ⟨h13', h13, h⟩ | ⟨h13', h13, h⟩
   ·cases h; subst hR; simp only [zbrk, simprocAttr, *]
   ·cases h
  ·replace h := bn h; obtain ⟨h14, h⟩ := h
   replace h := bn h; obtain ⟨h15, h⟩ := h
   replace h := bn h; obtain ⟨h16, h⟩ := h
   replace h := bb h; rcases h with ⟨h17', h17, h⟩ | ⟨h17', h17, h⟩
   ·replace h := bn h; obtain ⟨h18, h⟩ := h
    replace h := bn h; obtain ⟨h19, h⟩ := h
    cases h; subst hR; simp only [zbrk, simprocAttr, *]
   ·cases h
def zbrm := And.intro @kk <| And.intro @ke <| And.intro @kn <| And.intro @zbkt <| And.intro @zbid <| And.intro @zbkf <| And.intro @zbmc <| @zbkv
theorem zbrn : ∀ (q N : Nat), 8 * q ≤ N → ∀ (a0 : zjm) (a1 : zjq), ∀ (r : zjm × Int), zkp q a0 a1 = some r → (orc T N).deep F.zkp [zjm.enc a0, zjq.enc a1] = some [zjm.enc r.1, (V.int .i64) r.2] := by
 intro q N hM a0 a1 r h
 rcases q with _ | q
 ·cases h
 obtain ⟨M, rfl⟩ : ∃ M, N = M + 8 := ⟨N - 8, by omega⟩
 generalize hR : some [zjm.enc r.1, (V.int .i64) r.2] = R
 rw [zhu, zbgl, y6, zhs zyc rfl]
 rw [zkp] at h
 replace h := br h; rcases h with ⟨h1, h⟩ | ⟨h1, h⟩
 ·cases h; subst hR; simp only [zbrm, simprocAttr, *]
 ·replace h := br h; rcases h with ⟨h2, h⟩ | ⟨h2, h⟩
  ·replace h := br h; rcases h with ⟨h3, h⟩ | ⟨h3, h⟩
   ·replace h := ob h; obtain ⟨r1, h4, h⟩ := h
    replace h4 := zbqd q (M + 7) (by omega) _ _ h4
    try simp only [kf, simprocAttr] at h4
    replace h := ob h; obtain ⟨r2, h5, h⟩ := h
    replace h5 := zbpo q (M + 7) (by omega) _ _ h5
    replace h := bn h; obtain ⟨h6, h⟩ := h
    cases h; subst hR; simp only [zbrm, simprocAttr, *]
   ·cases h; subst hR; simp only [zbrm, simprocAttr, *]
  ·replace h := br h; rcases h with ⟨h7, h⟩ | ⟨h7, h⟩
   ·replace h := br h; rcases h with ⟨h8, h⟩ | ⟨h8, h⟩
    ·cases h; subst hR; simp only [zbrm, simprocAttr, *]
    ·replace h := br h; rcases h with ⟨h9, h⟩ | ⟨h9, h⟩
     ·replace h := ob h; obtain ⟨e3, h10, h⟩ := h
      replace h := ob h; obtain ⟨r4, h11, h⟩ := h
      replace h11 := zbqd q (M + 7) (by omega) _ _ h11
      try simp only [kf, simprocAttr] at h11
      replace h := ob h; obtain ⟨r5, h12, h⟩ := h
      replace h12 := zbrl q (M + 7) (by omega) _ _ _ _ h12
      try simp only [kf, simprocAttr] at h12
      cases h; subst hR; simp only [zbrm, simprocAttr, *]
     ·replace h := bn h; obtain ⟨h13, h⟩ := h
      replace h := ob h; obtain ⟨e6, h14, h⟩ := h
      replace h := ob h; obtain ⟨r7, h15, h⟩ := h
      replace h15 := zbqd q (M + 7) (by omega) _ _ h15
      try simp only [kf, simprocAttr] at h15
      replace h := ob h; obtain ⟨r8, h16, h⟩ := h
      replace h16 := zbrl q (M + 7) (by omega) _ _ _ _ h16
      try simp only [kf, simprocAttr] at h16
      cases h; subst hR; simp only [zbrm, simprocAttr, *]
   ·cases h; subst hR; simp only [zbrm, simprocAttr, *]
def zbro (q : Nat) : Prop := ∀ (M : Nat) (hM : 8 * q ≤ M) (j : Nat) (hj : q ≤ j) (v0z : Bool) (v0l : List Int) (v1 v6 : Int) (r : Int × Bool) (_ : zkq q v0z v0l v1 v6 = some r) (R : Option (List V)) (_ : some [(V.int .i64) r.1, V.bool r.2] = R) (fr : Fr) (H : Hp) (_ : canon 0 [0, 1, 6] fr H = ([(0, (.sl v0z (List.map (V.int .i64) v0l))), (1, (.int .i64 v1)), (6, (.int .i64 v6))], [])), fin z9s (unw T (orc T (M + 7)) (M + 7) 0 [.blk 0, .code z9o] (iter 0 [0, 1, 6] (exec T (orc T (M + 7)) (M + 7) 0 z9m) j fr H)) = R
def zbrp := And.intro @kk <| And.intro @ke <| And.intro @kn <| And.intro @zbmh <| @zbmj
theorem zbrq (q : Nat) (zbty : zbro q) : zbro (q + 1) := by
 intro M hM j hj v0z v0l v1 v6 r h R hR fr H hc
 obtain ⟨j, rfl⟩ : ∃ i, j = i + 1 := ⟨j - 1, by omega⟩
 rw [zhk, hc]; clear hc
 rw [zkq] at h
 replace h := br h; rcases h with ⟨h1, h⟩ | ⟨h1, h⟩
 ·replace h := bn h; obtain ⟨h2, h⟩ := h
  replace h := ob h; obtain ⟨e1, h3, h⟩ := h
  replace h := br h; rcases h with ⟨h4, h⟩ | ⟨h4, h⟩
  ·replace h := zbty M (by omega) j (by omega) _ _ _ _ _ h R hR
   simp only [zbrp, simprocAttr, *]
  ·cases h; subst hR; simp only [zbrp, simprocAttr, *]
 ·cases h; subst hR; simp only [zbrp, simprocAttr, *]
theorem zbrr : ∀ q, zbro q
 | 0 => by intro M hM j hj; intros; rename_i h _ _ _ _ _; cases h
 | q + 1 => by have i0 := zbrr q; exact zbrq q i0
theorem zbrs : ∀ (q N : Nat), 8 * q ≤ N → ∀ (a0 : (Sl Int)) (a1 : Int), ∀ (r : Int × Bool), zkr q a0 a1 = some r → (orc T N).deep F.zkr [(Sl.enc (V.int .i64)) a0, (V.int .i64) a1] = some [(V.int .i64) r.1, V.bool r.2] := by
 intro q N hM a0 a1 r h
 rcases q with _ | q
 ·cases h
 obtain ⟨M, rfl⟩ : ∃ M, N = M + 8 := ⟨N - 8, by omega⟩
 have zbty := (zbrr q)
 generalize hR : some [(V.int .i64) r.1, V.bool r.2] = R
 rw [zhu, zbg5, y6, zhs z9s rfl]
 rw [zkr] at h
 replace h := zbty M (by omega) (M + 7) (by omega) _ _ _ _ _ h R hR
 simp only [zbrp, simprocAttr, *]
def zbrt := And.intro @kk <| And.intro @ke <| And.intro @kn <| And.intro @zbme <| And.intro @zbmi <| @zbmg
theorem zbru : ∀ (q N : Nat), 8 * q ≤ N → ∀ (a0 : (Sl Int)) (a1 : Int), ∀ (r : Int), zks q a0 a1 = some r → (orc T N).deep F.zks [(Sl.enc (V.int .i64)) a0, (V.int .i64) a1] = some [(V.int .i64) r] := by
 intro q N hM a0 a1 r h
 rcases q with _ | q
 ·cases h
 obtain ⟨M, rfl⟩ : ∃ M, N = M + 8 := ⟨N - 8, by omega⟩
 generalize hR : some [(V.int .i64) r] = R
 rw [zhu, zbg4, y6, zhs z9f rfl]
 rw [zks] at h
 replace h := ob h; obtain ⟨r1, h1, h⟩ := h
 replace h1 := zbrs q (M + 7) (by omega) _ _ _ h1
 try simp only [kf, simprocAttr] at h1
 replace h := bb h; rcases h with ⟨h2', h2, h⟩ | ⟨h2', h2, h⟩
 ·replace h := bn h; obtain ⟨h3, h⟩ := h
  replace h := ob h; obtain ⟨e2, h4, h⟩ := h
  cases h; subst hR; simp only [zbrt, simprocAttr, *]
 ·cases h; subst hR; simp only [zbrt, simprocAttr, *]
theorem zbrv : ∀ (q N : Nat), 8 * q ≤ N → ∀ (a0 : (Ow Int)) (a1 : Int) (a2 : (Ow Int)), ∀ (r : (Ow Int)), zkt q a0 a1 a2 = some r → (orc T N).deep F.zkt [(Ow.enc 1 (V.int .i64)) a0, (V.int .i64) a1, (Ow.enc 1 (V.int .i64)) a2] = some [(Ow.enc 1 (V.int .i64)) r] := by
 intro q N hM a0 a1 a2 r h
 rcases q with _ | q
 ·cases h
 obtain ⟨M, rfl⟩ : ∃ M, N = M + 8 := ⟨N - 8, by omega⟩
 rw [zhu, zbhe, y6, zhr zbff rfl]
 rw [zkt] at h
 by_cases c : insOk a0 a1 a2
 ·rw [if_pos c] at h; cases h; exact zi0 (V.int .i64) 1 c
 ·rw [if_neg c] at h; cases h
def zbrw := And.intro @kk <| And.intro @ke <| And.intro @kn <| And.intro @zbmk <| And.intro @zbid <| And.intro @zbmi <| And.intro @zbm8 <| @zbmm
theorem zbrx : ∀ (q N : Nat), 8 * q ≤ N → ∀ (a0 : (Sl Int)) (a1 a2 : Int), ∀ (r : (Sl Int) × Bool), zku q a0 a1 a2 = some r → (orc T N).deep F.zku [(Sl.enc (V.int .i64)) a0, (V.int .i64) a1, (V.int .i64) a2] = some [(Sl.enc (V.int .i64)) r.1, V.bool r.2] := by
 intro q N hM a0 a1 a2 r h
 rcases q with _ | q
 ·cases h
 obtain ⟨M, rfl⟩ : ∃ M, N = M + 8 := ⟨N - 8, by omega⟩
 generalize hR : some [(Sl.enc (V.int .i64)) r.1, V.bool r.2] = R
 rw [zhu, zbg6, y6, zhs zbaa rfl]
 rw [zku] at h
 replace h := ob h; obtain ⟨r1, h1, h⟩ := h
 replace h1 := zbrs q (M + 7) (by omega) _ _ _ h1
 try simp only [kf, simprocAttr] at h1
 replace h := bb h; rcases h with ⟨h2', h2, h⟩ | ⟨h2', h2, h⟩
 ·replace h := ob h; obtain ⟨r2, h3, h⟩ := h
  replace h3 := zbqd q (M + 7) (by omega) _ _ h3
  try simp only [kf, simprocAttr] at h3
  replace h := bn h; obtain ⟨h4, h⟩ := h
  replace h := bn h; obtain ⟨h5, h⟩ := h
  replace h := ob h; obtain ⟨e3, h6, h⟩ := h
  replace h := bb h; rcases h with ⟨h7', h7, h⟩ | ⟨h7', h7, h⟩
  ·cases h; subst hR; simp only [zbrw, simprocAttr, *]
  ·cases h
 ·replace h := br h; rcases h with ⟨h8, h⟩ | ⟨h8, h⟩
  ·cases h; subst hR; simp only [zbrw, simprocAttr, *]
  ·replace h := ob h; obtain ⟨r4, h9, h⟩ := h
   replace h9 := zbqd q (M + 7) (by omega) _ _ h9
   try simp only [kf, simprocAttr] at h9
   replace h := ob h; obtain ⟨r5, h10, h⟩ := h
   replace h10 := zbrv q (M + 7) (by omega) _ _ _ _ h10
   try simp only [kf, simprocAttr] at h10
   cases h; subst hR; simp only [zbrw, simprocAttr, *]
def zbry := And.intro @kk <| And.intro @ke <| And.intro @kn <| And.intro @zbkw <| And.intro @zbid <| And.intro @zbkf <| And.intro @zbmc <| And.intro @zbmf <| And.intro @zbmi <| And.intro @zbml <| @zbky
theorem zbrz : ∀ (q N : Nat), 8 * q ≤ N → ∀ (a0 : zjm) (a1 : zjq), ∀ (r : zjm × Int), zkv q a0 a1 = some r → (orc T N).deep F.zkv [zjm.enc a0, zjq.enc a1] = some [zjm.enc r.1, (V.int .i64) r.2] := by
 intro q N hM a0 a1 r h
 rcases q with _ | q
 ·cases h
 obtain ⟨M, rfl⟩ : ∃ M, N = M + 8 := ⟨N - 8, by omega⟩
 generalize hR : some [zjm.enc r.1, (V.int .i64) r.2] = R
 rw [zhu, zbgm, y6, zhs zzc rfl]
 rw [zkv] at h
 replace h := br h; rcases h with ⟨h1, h⟩ | ⟨h1, h⟩
 ·replace h := br h; rcases h with ⟨h2, h⟩ | ⟨h2, h⟩
  ·cases h; subst hR; simp only [zbry, simprocAttr, *]
  ·replace h := br h; rcases h with ⟨h3, h⟩ | ⟨h3, h⟩
   ·cases h; subst hR; simp only [zbry, simprocAttr, *]
   ·replace h := ob h; obtain ⟨r1, h4, h⟩ := h
    replace h4 := zbru q (M + 7) (by omega) _ _ _ h4
    try simp only [kf, simprocAttr] at h4
    replace h := ob h; obtain ⟨r2, h5, h⟩ := h
    replace h5 := zbrs q (M + 7) (by omega) _ _ _ h5
    try simp only [kf, simprocAttr] at h5
    replace h := br h; rcases h with ⟨h6, h⟩ | ⟨h6, h⟩
    ·replace h := bb h; rcases h with ⟨h7', h7, h⟩ | ⟨h7', h7, h⟩
     ·replace h := ob h; obtain ⟨r3, h8, h⟩ := h
      replace h8 := zbqd q (M + 7) (by omega) _ _ h8
      try simp only [kf, simprocAttr] at h8
      replace h := ob h; obtain ⟨r4, h9, h⟩ := h
      replace h9 := zbrl q (M + 7) (by omega) _ _ _ _ h9
      try simp only [kf, simprocAttr] at h9
      cases h; subst hR; simp only [zbry, simprocAttr, *]
     ·replace h := br h; rcases h with ⟨h10, h⟩ | ⟨h10, h⟩
      ·replace h := ob h; obtain ⟨r5, h11, h⟩ := h
       replace h11 := zbpo q (M + 7) (by omega) _ _ h11
       replace h := ob h; obtain ⟨r6, h12, h⟩ := h
       replace h12 := zbrx q (M + 7) (by omega) _ _ _ _ h12
       try simp only [kf, simprocAttr] at h12
       replace h := bb h; rcases h with ⟨h13', h13, h⟩ | ⟨h13', h13, h⟩
       ·cases h; subst hR; simp only [zbry, simprocAttr, *]
       ·cases h; subst hR; simp only [zbry, simprocAttr, *]
      ·cases h; subst hR; simp only [zbry, simprocAttr, *]
    ·replace h := br h; rcases h with ⟨h14, h⟩ | ⟨h14, h⟩
     ·replace h := ob h; obtain ⟨r7, h15, h⟩ := h
      replace h15 := zbpo q (M + 7) (by omega) _ _ h15
      replace h := ob h; obtain ⟨r8, h16, h⟩ := h
      replace h16 := zbrx q (M + 7) (by omega) _ _ _ _ h16
      try simp only [kf, simprocAttr] at h16
      replace h := bb h; rcases h with ⟨h17', h17, h⟩ | ⟨h17', h17, h⟩
      ·cases h; subst hR; simp only [zbry, simprocAttr, *]
      ·cases h; subst hR; simp only [zbry, simprocAttr, *]
     ·cases h; subst hR; simp only [zbry, simprocAttr, *]
 ·replace h := br h; rcases h with ⟨h18, h⟩ | ⟨h18, h⟩
  ·replace h := br h; rcases h with ⟨h19, h⟩ | ⟨h19, h⟩
   ·cases h; subst hR; simp only [zbry, simprocAttr, *]
   ·replace h := br h; rcases h with ⟨h20, h⟩ | ⟨h20, h⟩
    ·cases h; subst hR; simp only [zbry, simprocAttr, *]
    ·replace h := ob h; obtain ⟨r9, h21, h⟩ := h
     replace h21 := zbru q (M + 7) (by omega) _ _ _ h21
     try simp only [kf, simprocAttr] at h21
     replace h := ob h; obtain ⟨r10, h22, h⟩ := h
     replace h22 := zbrs q (M + 7) (by omega) _ _ _ h22
     try simp only [kf, simprocAttr] at h22
     replace h := bb h; rcases h with ⟨h23', h23, h⟩ | ⟨h23', h23, h⟩
     ·replace h := ob h; obtain ⟨r11, h24, h⟩ := h
      replace h24 := zbqd q (M + 7) (by omega) _ _ h24
      try simp only [kf, simprocAttr] at h24
      replace h := ob h; obtain ⟨r12, h25, h⟩ := h
      replace h25 := zbrl q (M + 7) (by omega) _ _ _ _ h25
      try simp only [kf, simprocAttr] at h25
      cases h; subst hR; simp only [zbry, simprocAttr, *]
     ·replace h := br h; rcases h with ⟨h26, h⟩ | ⟨h26, h⟩
      ·replace h := ob h; obtain ⟨r13, h27, h⟩ := h
       replace h27 := zbpo q (M + 7) (by omega) _ _ h27
       replace h := ob h; obtain ⟨r14, h28, h⟩ := h
       replace h28 := zbrx q (M + 7) (by omega) _ _ _ _ h28
       try simp only [kf, simprocAttr] at h28
       replace h := bb h; rcases h with ⟨h29', h29, h⟩ | ⟨h29', h29, h⟩
       ·cases h; subst hR; simp only [zbry, simprocAttr, *]
       ·cases h; subst hR; simp only [zbry, simprocAttr, *]
      ·cases h; subst hR; simp only [zbry, simprocAttr, *]
  ·replace h := br h; rcases h with ⟨h30, h⟩ | ⟨h30, h⟩
   ·replace h := br h; rcases h with ⟨h31, h⟩ | ⟨h31, h⟩
    ·cases h; subst hR; simp only [zbry, simprocAttr, *]
    ·replace h := br h; rcases h with ⟨h32, h⟩ | ⟨h32, h⟩
     ·cases h; subst hR; simp only [zbry, simprocAttr, *]
     ·replace h := ob h; obtain ⟨r15, h33, h⟩ := h
      replace h33 := zbru q (M + 7) (by omega) _ _ _ h33
      try simp only [kf, simprocAttr] at h33
      replace h := ob h; obtain ⟨r16, h34, h⟩ := h
      replace h34 := zbrs q (M + 7) (by omega) _ _ _ h34
      try simp only [kf, simprocAttr] at h34
      replace h := ob h; obtain ⟨r17, h35, h⟩ := h
      replace h35 := zbpo q (M + 7) (by omega) _ _ h35
      replace h := ob h; obtain ⟨r18, h36, h⟩ := h
      replace h36 := zbrx q (M + 7) (by omega) _ _ _ _ h36
      try simp only [kf, simprocAttr] at h36
      replace h := bb h; rcases h with ⟨h37', h37, h⟩ | ⟨h37', h37, h⟩
      ·cases h; subst hR; simp only [zbry, simprocAttr, *]
      ·cases h; subst hR; simp only [zbry, simprocAttr, *]
   ·cases h; subst hR; simp only [zbry, simprocAttr, *]
def zbr0 := And.intro @kk <| And.intro @ke <| And.intro @kn <| And.intro @zbmn <| And.intro @zbmf <| And.intro @zbml <| @zbmp
theorem zbr1 : ∀ (q N : Nat), 8 * q ≤ N → ∀ (a0 : zjm) (a1 : zjq), ∀ (r : zjm × Int), zkw q a0 a1 = some r → (orc T N).deep F.zkw [zjm.enc a0, zjq.enc a1] = some [zjm.enc r.1, (V.int .i64) r.2] := by
 intro q N hM a0 a1 r h
 rcases q with _ | q
 ·cases h
 obtain ⟨M, rfl⟩ : ∃ M, N = M + 8 := ⟨N - 8, by omega⟩
 generalize hR : some [zjm.enc r.1, (V.int .i64) r.2] = R
 rw [zhu, zbg7, y6, zhs zba2 rfl]
 rw [zkw] at h
 replace h := br h; rcases h with ⟨h1, h⟩ | ⟨h1, h⟩
 ·cases h; subst hR; simp only [zbr0, simprocAttr, *]
 ·replace h := br h; rcases h with ⟨h2, h⟩ | ⟨h2, h⟩
  ·cases h; subst hR; simp only [zbr0, simprocAttr, *]
  ·replace h := br h; rcases h with ⟨h3, h⟩ | ⟨h3, h⟩
   ·cases h; subst hR; simp only [zbr0, simprocAttr, *]
   ·replace h := ob h; obtain ⟨r1, h4, h⟩ := h
    replace h4 := zbru q (M + 7) (by omega) _ _ _ h4
    try simp only [kf, simprocAttr] at h4
    replace h := ob h; obtain ⟨r2, h5, h⟩ := h
    replace h5 := zbru q (M + 7) (by omega) _ _ _ h5
    try simp only [kf, simprocAttr] at h5
    replace h := br h; rcases h with ⟨h6, h⟩ | ⟨h6, h⟩
    ·cases h; subst hR; simp only [zbr0, simprocAttr, *]
    ·replace h := br h; rcases h with ⟨h7, h⟩ | ⟨h7, h⟩
     ·cases h; subst hR; simp only [zbr0, simprocAttr, *]
     ·replace h := ob h; obtain ⟨r3, h8, h⟩ := h
      replace h8 := zbrx q (M + 7) (by omega) _ _ _ _ h8
      try simp only [kf, simprocAttr] at h8
      replace h := bb h; rcases h with ⟨h9', h9, h⟩ | ⟨h9', h9, h⟩
      ·replace h := br h; rcases h with ⟨h10, h⟩ | ⟨h10, h⟩
       ·cases h; subst hR; simp only [zbr0, simprocAttr, *]
       ·replace h := ob h; obtain ⟨r4, h11, h⟩ := h
        replace h11 := zbrx q (M + 7) (by omega) _ _ _ _ h11
        try simp only [kf, simprocAttr] at h11
        cases h; subst hR; simp only [zbr0, simprocAttr, *]
      ·cases h; subst hR; simp only [zbr0, simprocAttr, *]
def zbr2 := And.intro @kk <| And.intro @ke <| And.intro @kn <| And.intro @zbkz <| And.intro @zbkf <| And.intro @zbmf <| And.intro @zbml <| And.intro @zbmo <| @zbk1
theorem zbr3 : ∀ (q N : Nat), 8 * q ≤ N → ∀ (a0 : zjm) (a1 : zjq), ∀ (r : zjm × Int), zkx q a0 a1 = some r → (orc T N).deep F.zkx [zjm.enc a0, zjq.enc a1] = some [zjm.enc r.1, (V.int .i64) r.2] := by
 intro q N hM a0 a1 r h
 rcases q with _ | q
 ·cases h
 obtain ⟨M, rfl⟩ : ∃ M, N = M + 8 := ⟨N - 8, by omega⟩
 generalize hR : some [zjm.enc r.1, (V.int .i64) r.2] = R
 rw [zhu, zbgn, y6, zhs zz7 rfl]
 rw [zkx] at h
 replace h := br h; rcases h with ⟨h1, h⟩ | ⟨h1, h⟩
 ·replace h := ob h; obtain ⟨r1, h2, h⟩ := h
  replace h2 := zbr1 q (M + 7) (by omega) _ _ _ h2
  try simp only [kf, simprocAttr] at h2
  cases h; subst hR; simp only [zbr2, simprocAttr, *]
 ·replace h := br h; rcases h with ⟨h3, h⟩ | ⟨h3, h⟩
  ·replace h := br h; rcases h with ⟨h4, h⟩ | ⟨h4, h⟩
   ·cases h; subst hR; simp only [zbr2, simprocAttr, *]
   ·replace h := br h; rcases h with ⟨h5, h⟩ | ⟨h5, h⟩
    ·cases h; subst hR; simp only [zbr2, simprocAttr, *]
    ·replace h := ob h; obtain ⟨r2, h6, h⟩ := h
     replace h6 := zbru q (M + 7) (by omega) _ _ _ h6
     try simp only [kf, simprocAttr] at h6
     cases h; subst hR; simp only [zbr2, simprocAttr, *]
  ·replace h := br h; rcases h with ⟨h7, h⟩ | ⟨h7, h⟩
   ·replace h := br h; rcases h with ⟨h8, h⟩ | ⟨h8, h⟩
    ·cases h; subst hR; simp only [zbr2, simprocAttr, *]
    ·replace h := br h; rcases h with ⟨h9, h⟩ | ⟨h9, h⟩
     ·cases h; subst hR; simp only [zbr2, simprocAttr, *]
     ·replace h := br h; rcases h with ⟨h10, h⟩ | ⟨h10, h⟩
      ·cases h; subst hR; simp only [zbr2, simprocAttr, *]
      ·replace h := ob h; obtain ⟨r3, h11, h⟩ := h
       replace h11 := zbru q (M + 7) (by omega) _ _ _ h11
       try simp only [kf, simprocAttr] at h11
       replace h := ob h; obtain ⟨r4, h12, h⟩ := h
       replace h12 := zbpo q (M + 7) (by omega) _ _ h12
       replace h := ob h; obtain ⟨r5, h13, h⟩ := h
       replace h13 := zbpo q (M + 7) (by omega) _ _ h13
       replace h := ob h; obtain ⟨r6, h14, h⟩ := h
       replace h14 := zbrx q (M + 7) (by omega) _ _ _ _ h14
       try simp only [kf, simprocAttr] at h14
       replace h := bb h; rcases h with ⟨h15', h15, h⟩ | ⟨h15', h15, h⟩
       ·cases h; subst hR; simp only [zbr2, simprocAttr, *]
       ·cases h; subst hR; simp only [zbr2, simprocAttr, *]
   ·cases h; subst hR; simp only [zbr2, simprocAttr, *]
def zbr4 := And.intro @kk <| And.intro @ke <| And.intro @kn <| And.intro @zbio <| And.intro @zbig <| And.intro @zbkr <| And.intro @zbku <| And.intro @zbkx <| And.intro @zbk0 <| @zbiq
theorem zbr5 : ∀ (q N : Nat), 8 * q ≤ N → ∀ (a0 : zjm) (a1 : zjq), ∀ (r : zjm × Int), zky q a0 a1 = some r → (orc T N).deep F.zky [zjm.enc a0, zjq.enc a1] = some [zjm.enc r.1, (V.int .i64) r.2] := by
 intro q N hM a0 a1 r h
 rcases q with _ | q
 ·cases h
 obtain ⟨M, rfl⟩ : ∃ M, N = M + 8 := ⟨N - 8, by omega⟩
 generalize hR : some [zjm.enc r.1, (V.int .i64) r.2] = R
 rw [zhu, zbfv, y6, zhs zrj rfl]
 rw [zky] at h
 replace h := ob h; obtain ⟨r1, h1, h⟩ := h
 replace h1 := zbp2 q (M + 7) (by omega) _ _ h1
 try simp only [kf, simprocAttr] at h1
 replace h := bb h; rcases h with ⟨h2', h2, h⟩ | ⟨h2', h2, h⟩
 ·replace h := bb h; rcases h with ⟨h3', h3, h⟩ | ⟨h3', h3, h⟩
  ·cases h; subst hR; simp only [zbr4, simprocAttr, *]
  ·replace h := br h; rcases h with ⟨h4, h⟩ | ⟨h4, h⟩
   ·replace h := br h; rcases h with ⟨h5, h⟩ | ⟨h5, h⟩
    ·replace h := br h; rcases h with ⟨h6, h⟩ | ⟨h6, h⟩
     ·cases h; subst hR; simp only [zbr4, simprocAttr, *]
     ·cases h; subst hR; simp only [zbr4, simprocAttr, *]
    ·cases h; subst hR; simp only [zbr4, simprocAttr, *]
   ·replace h := br h; rcases h with ⟨h7, h⟩ | ⟨h7, h⟩
    ·replace h := ob h; obtain ⟨r2, h8, h⟩ := h
     replace h8 := zbrj q (M + 7) (by omega) _ _ _ h8
     try simp only [kf, simprocAttr] at h8
     cases h; subst hR; simp only [zbr4, simprocAttr, *]
    ·replace h := br h; rcases h with ⟨h9, h⟩ | ⟨h9, h⟩
     ·replace h := ob h; obtain ⟨r3, h10, h⟩ := h
      replace h10 := zbrj q (M + 7) (by omega) _ _ _ h10
      try simp only [kf, simprocAttr] at h10
      cases h; subst hR; simp only [zbr4, simprocAttr, *]
     ·replace h := br h; rcases h with ⟨h11, h⟩ | ⟨h11, h⟩
      ·replace h := ob h; obtain ⟨r4, h12, h⟩ := h
       replace h12 := zbrn q (M + 7) (by omega) _ _ _ h12
       try simp only [kf, simprocAttr] at h12
       cases h; subst hR; simp only [zbr4, simprocAttr, *]
      ·replace h := br h; rcases h with ⟨h13, h⟩ | ⟨h13, h⟩
       ·replace h := ob h; obtain ⟨r5, h14, h⟩ := h
        replace h14 := zbrn q (M + 7) (by omega) _ _ _ h14
        try simp only [kf, simprocAttr] at h14
        cases h; subst hR; simp only [zbr4, simprocAttr, *]
       ·replace h := br h; rcases h with ⟨h15, h⟩ | ⟨h15, h⟩
        ·replace h := ob h; obtain ⟨r6, h16, h⟩ := h
         replace h16 := zbrz q (M + 7) (by omega) _ _ _ h16
         try simp only [kf, simprocAttr] at h16
         cases h; subst hR; simp only [zbr4, simprocAttr, *]
        ·replace h := ob h; obtain ⟨r7, h17, h⟩ := h
         replace h17 := zbr3 q (M + 7) (by omega) _ _ _ h17
         try simp only [kf, simprocAttr] at h17
         cases h; subst hR; simp only [zbr4, simprocAttr, *]
 ·cases h; subst hR; simp only [zbr4, simprocAttr, *]
def zbr6 (q : Nat) : Prop := ∀ (M : Nat) (hM : 8 * q ≤ M) (j : Nat) (hj : q ≤ j) (v8z : Bool) (v8l : List zjr) (v9 h0_0 h0_1 : Int) (h0_2z : Bool) (h0_2l : List Int) (h0_3 : Bool) (h0_4 : Int) (h0_5z : Bool) (h0_5l : List zjn) (r : zjo × Int) (_ : zk0 q v8z v8l v9 h0_0 h0_1 h0_2z h0_2l h0_3 h0_4 h0_5z h0_5l = some r) (R : Option (List V)) (_ : some [zjo.enc r.1, (V.int .i64) r.2] = R) (fr : Fr) (H : Hp) (_ : canon 0 [2, 4, 8, 9, 10] fr H = ([(2, (.ptr 0 0)), (4, (.ptr 1 0)), (8, (.sl v8z (List.map zjr.enc v8l))), (9, (.int .i64 v9)), (10, (.int .i64 0))], [(.box [(.int .i64 h0_0), (.int .i64 h0_1), (.sl h0_2z (List.map (V.int .i64) h0_2l)), (.bool h0_3), (.int .i64 h0_4), (.sl h0_5z (List.map zjn.enc h0_5l))]), (.box [(.int .i64 0), (.int .i64 0), (.sl true []), (.bool false), (.int .i64 0), (.sl true [])])])), fin zne (unw T (orc T (M + 7)) (M + 7) 0 [.blk 0, .code znb] (iter 0 [2, 4, 8, 9, 10] (exec T (orc T (M + 7)) (M + 7) 0 zm8) j fr H)) = R
def zbr7 (q : Nat) : Prop := ∀ (M : Nat) (hM : 8 * q ≤ M) (j : Nat) (hj : q ≤ j) (v8z : Bool) (v8l : List zjr) (v9 v10 h0_0 h0_1 : Int) (h0_2z : Bool) (h0_2l : List Int) (h0_3 : Bool) (h0_4 : Int) (h2z : Bool) (h2l : List zjn) (h2x : Bool) (r : zjo × Int) (_ : zkz q v8z v8l v9 v10 h0_0 h0_1 h0_2z h0_2l h0_3 h0_4 h2z h2l h2x = some r) (R : Option (List V)) (_ : some [zjo.enc r.1, (V.int .i64) r.2] = R) (fr : Fr) (H : Hp) (_ : canon 0 [2, 4, 8, 9, 10] fr H = ([(2, (.ptr 0 0)), (4, (.ptr 1 0)), (8, (.sl v8z (List.map zjr.enc v8l))), (9, (.int .i64 v9)), (10, (.int .i64 v10))], [(.box [(.int .i64 h0_0), (.int .i64 h0_1), (.sl h0_2z (List.map (V.int .i64) h0_2l)), (.bool h0_3), (.int .i64 h0_4), (.vw 2 0 0 h2l.length 1)]), (.box [(.int .i64 0), (.int .i64 0), (.sl true []), (.bool false), (.int .i64 0), (.sl true [])]), (.row 0 h2z 3 (List.map zjn.enc h2l) h2x)])), fin zne (unw T (orc T (M + 7)) (M + 7) 0 [.blk 0, .code znb] (iter 0 [2, 4, 8, 9, 10] (exec T (orc T (M + 7)) (M + 7) 0 zm8) j fr H)) = R
def zbr8 := And.intro @kk <| And.intro @ke <| And.intro @kn <| And.intro @zbho <| And.intro @zbh1 <| And.intro @zbim <| And.intro @zbip <| @zbhq
theorem zbr9 (q : Nat) (zbtz : zbr7 q) : zbr6 (q + 1) := by
 intro M hM j hj v8z v8l v9 h0_0 h0_1 h0_2z h0_2l h0_3 h0_4 h0_5z h0_5l r h R hR fr H hc
 obtain ⟨j, rfl⟩ : ∃ i, j = i + 1 := ⟨j - 1, by omega⟩
 rw [zhk, hc]; clear hc
 rw [zk0] at h
 replace h := br h; rcases h with ⟨h1, h⟩ | ⟨h1, h⟩
 ·replace h := ob h; obtain ⟨e1, h2, h⟩ := h
  replace h := br h; rcases h with ⟨h3, h⟩ | ⟨h3, h⟩
  ·replace h := ob h; obtain ⟨r2, h4, h⟩ := h
   replace h4 := zbrh q (M + 7) (by omega) _ _ h4
   try simp only [kf, simprocAttr] at h4
   replace h := bb h; rcases h with ⟨h5', h5, h⟩ | ⟨h5', h5, h⟩
   ·replace h := ob h; obtain ⟨r3, h6, h⟩ := h
    replace h6 := zbr5 q (M + 7) (by omega) _ _ _ h6
    try simp only [kf, simprocAttr] at h6
    replace h := ob h; obtain ⟨r4, h7, h⟩ := h
    replace h7 := zbqx q (M + 7) (by omega) _ _ _ h7
    try simp only [kf, simprocAttr] at h7
    replace h := zbtz M (by omega) j (by omega) _ _ _ _ _ _ _ _ _ _ _ _ _ _ h R hR
    simp only [zbr8, simprocAttr, *]
   ·cases h; subst hR; simp only [zbr8, simprocAttr, *]
  ·cases h; subst hR; simp only [zbr8, simprocAttr, *]
 ·cases h; subst hR; simp only [zbr8, simprocAttr, *]
theorem zbsa (q : Nat) (zbtz : zbr7 q) : zbr7 (q + 1) := by
 intro M hM j hj v8z v8l v9 v10 h0_0 h0_1 h0_2z h0_2l h0_3 h0_4 h2z h2l h2x r h R hR fr H hc
 obtain ⟨j, rfl⟩ : ∃ i, j = i + 1 := ⟨j - 1, by omega⟩
 rw [zhk, hc]; clear hc
 rw [zkz] at h
 replace h := br h; rcases h with ⟨h1, h⟩ | ⟨h1, h⟩
 ·replace h := bn h; obtain ⟨h2, h⟩ := h
  replace h := ob h; obtain ⟨e5, h3, h⟩ := h
  replace h := br h; rcases h with ⟨h4, h⟩ | ⟨h4, h⟩
  ·replace h := ob h; obtain ⟨r6, h5, h⟩ := h
   replace h5 := zbrh q (M + 7) (by omega) _ _ h5
   try simp only [kf, simprocAttr] at h5
   replace h := bb h; rcases h with ⟨h6', h6, h⟩ | ⟨h6', h6, h⟩
   ·replace h := ob h; obtain ⟨r7, h7, h⟩ := h
    replace h7 := zbr5 q (M + 7) (by omega) _ _ _ h7
    try simp only [kf, simprocAttr] at h7
    replace h := ob h; obtain ⟨r8, h8, h⟩ := h
    replace h8 := zbqx q (M + 7) (by omega) _ _ _ h8
    try simp only [kf, simprocAttr] at h8
    replace h := zbtz M (by omega) j (by omega) _ _ _ _ _ _ _ _ _ _ _ _ _ _ h R hR
    simp only [zbr8, simprocAttr, *]
   ·cases h; subst hR; simp only [zbr8, simprocAttr, *]
  ·cases h; subst hR; simp only [zbr8, simprocAttr, *]
 ·cases h; subst hR; simp only [zbr8, simprocAttr, *]
theorem zbsb : ∀ q, zbr6 q ∧ zbr7 q
 | 0 => by refine ⟨?_, ?_⟩ <;> (intro M hM j hj; intros; rename_i h _ _ _ _ _; cases h)
 | q + 1 => by have ⟨i0, i1⟩ := zbsb q; exact ⟨zbr9 q i1, zbsa q i1⟩
theorem zbsc : ∀ (q N : Nat), 8 * q ≤ N → ∀ (a0 : zjo) (a1 : (Sl zjr)), ∀ (r : zjo × Int), zk1 q a0 a1 = some r → (orc T N).deep F.zk1 [zjo.enc a0, (Sl.enc zjr.enc) a1] = some [zjo.enc r.1, (V.int .i64) r.2] := by
 intro q N hM a0 a1 r h
 rcases q with _ | q
 ·cases h
 obtain ⟨M, rfl⟩ : ∃ M, N = M + 8 := ⟨N - 8, by omega⟩
 have ih_snapshot_Take_l0 := (zbsb q).1
 generalize hR : some [zjo.enc r.1, (V.int .i64) r.2] = R
 rw [zhu, zbfj, y6, zhs zne rfl]
 rw [zk1] at h
 replace h := ih_snapshot_Take_l0 M (by omega) (M + 7) (by omega) _ _ _ _ _ _ _ _ _ _ _ _ h R hR
 simp only [zbr8, simprocAttr, *]
def zbsd (q : Nat) : Prop := ∀ (M : Nat) (hM : 8 * q ≤ M) (j : Nat) (hj : q ≤ j) (v5 : Int) (h0_0 h1_0 : List Int) (r : (List Int)) (_ : zk2 q v5 h0_0 h1_0 = some r) (R : Option (List V)) (_ : some [(arrEnc (V.int .u32)) r] = R) (fr : Fr) (H : Hp) (_ : canon 0 [0, 1, 5] fr H = ([(0, (.ptr 0 0)), (1, (.ptr 1 0)), (5, (.int .i64 v5))], [(.box (List.map (V.int .u32) h0_0)), (.box (List.map (V.int .u32) h1_0))])), fin zbfe (unw T (orc T (M + 7)) (M + 7) 0 [.blk 0, .code zbfa] (iter 0 [0, 1, 5] (exec T (orc T (M + 7)) (M + 7) 0 zbe7) j fr H)) = R
def zbse (q : Nat) : Prop := ∀ (M : Nat) (hM : 8 * q ≤ M) (j : Nat) (hj : q ≤ j) (j1 : Nat) (hj1 : q ≤ j1) (v2 v3 v5 v10 : Int) (h0_0 h1_0 : List Int) (r : (List Int)) (_ : zk3 q v2 v3 v5 v10 h0_0 h1_0 = some r) (R : Option (List V)) (_ : some [(arrEnc (V.int .u32)) r] = R) (fr : Fr) (H : Hp) (_ : canon 0 [0, 1, 2, 3, 5, 10] fr H = ([(0, (.ptr 0 0)), (1, (.ptr 1 0)), (2, (.int .i64 v2)), (3, (.int .u32 v3)), (5, (.int .i64 v5)), (10, (.int .i64 v10))], [(.box (List.map (V.int .u32) h0_0)), (.box (List.map (V.int .u32) h1_0))])), fin zbfe (unw T (orc T (M + 7)) (M + 7) 0 [.blk 2, .code zbe0, .blk 1, .code zbe4, .rounds [0, 1, 5] zbe7 j1, .blk 0, .code zbfa] (iter 0 [0, 1, 2, 3, 5, 10] (exec T (orc T (M + 7)) (M + 7) 0 zbex) j fr H)) = R
def zbsf := And.intro @kk <| And.intro @ke <| And.intro @kn <| And.intro @zbm5 <| @zbm7
theorem zbsg (q : Nat) (zbt0 : zbse q) : zbsd (q + 1) := by
 intro M hM j hj v5 h0_0 h1_0 r h R hR fr H hc
 obtain ⟨j, rfl⟩ : ∃ i, j = i + 1 := ⟨j - 1, by omega⟩
 rw [zhk, hc]; clear hc
 rw [zk2] at h
 replace h := br h; rcases h with ⟨h1, h⟩ | ⟨h1, h⟩
 ·replace h := zbt0 M (by omega) (M + 7) (by omega) j (by omega) _ _ _ _ _ _ _ h R hR
  simp (maxDischargeDepth := 12) only [zbsf, simprocAttr, arrEnc, *]
 ·replace h := bn h; obtain ⟨h2, h⟩ := h
  replace h := bc h; rcases h with ⟨h3, h⟩ | ⟨h3, h⟩
  ·replace h := bn h; obtain ⟨h4, h⟩ := h
   replace h := bn h; obtain ⟨h5, h⟩ := h
   cases h; subst hR; simp (maxDischargeDepth := 12) only [zbsf, simprocAttr, arrEnc, *]
  ·cases h
theorem zbsh (q : Nat) (zbt1 : zbsd q) (zbt0 : zbse q) : zbse (q + 1) := by
 intro M hM j hj j1 hj1 v2 v3 v5 v10 h0_0 h1_0 r h R hR fr H hc
 obtain ⟨j, rfl⟩ : ∃ i, j = i + 1 := ⟨j - 1, by omega⟩
 rw [zhk, hc]; clear hc
 rw [zk3] at h
 replace h := br h; rcases h with ⟨h1, h⟩ | ⟨h1, h⟩
 ·replace h := zbt0 M (by omega) j (by omega) j1 (by omega) _ _ _ _ _ _ _ h R hR
  simp (maxDischargeDepth := 12) only [zbsf, simprocAttr, arrEnc, *]
 ·replace h := bn h; obtain ⟨h2, h⟩ := h
  replace h := bn h; obtain ⟨h3, h⟩ := h
  replace h := bn h; obtain ⟨h4, h⟩ := h
  replace h := zbt1 M (by omega) j1 (by omega) _ _ _ _ h R hR
  simp (maxDischargeDepth := 12) only [zbsf, simprocAttr, arrEnc, *]
theorem zbsi : ∀ q, zbsd q ∧ zbse q
 | 0 => by refine ⟨?_, ?_⟩ <;> (intro M hM j hj; intros; rename_i h _ _ _ _ _; cases h)
 | q + 1 => by have ⟨i0, i1⟩ := zbsi q; exact ⟨zbsg q i1, zbsh q i0 i1⟩
theorem zbsj : ∀ (q N : Nat), 8 * q ≤ N → ∀ (r : (List Int)), zk4 q = some r → (orc T N).deep F.zk4 [] = some [(arrEnc (V.int .u32)) r] := by
 intro q N hM r h
 rcases q with _ | q
 ·cases h
 obtain ⟨M, rfl⟩ : ∃ M, N = M + 8 := ⟨N - 8, by omega⟩
 have zbt1 := (zbsi q).1
 generalize hR : some [(arrEnc (V.int .u32)) r] = R
 rw [zhu, zbhd, y6, zhs zbfe rfl]
 rw [zk4] at h
 replace h := zbt1 M (by omega) (M + 7) (by omega) _ _ _ _ h R hR
 simp (maxDischargeDepth := 12) only [zbsf, simprocAttr, arrEnc, *]
def zbsk (q : Nat) : Prop := ∀ (M : Nat) (hM : 8 * q ≤ M) (j : Nat) (hj : q ≤ j) (v6 : Int) (v12z : Bool) (v12l : List Int) (v13 v14 : Int) (h0_0 : List Int) (r : Int) (_ : zk5 q v6 v12z v12l v13 v14 h0_0 = some r) (R : Option (List V)) (_ : some [(V.int .u32) r] = R) (fr : Fr) (H : Hp) (_ : canon 0 [5, 6, 12, 13, 14] fr H = ([(5, (.ptr 0 0)), (6, (.int .u32 v6)), (12, (.sl v12z (List.map (V.int .u8) v12l))), (13, (.int .i64 v13)), (14, (.int .i64 v14))], [(.box (List.map (V.int .u32) h0_0))])), fin z6s (unw T (orc T (M + 7)) (M + 7) 0 [.blk 0, .code z6n] (iter 0 [5, 6, 12, 13, 14] (exec T (orc T (M + 7)) (M + 7) 0 z6k) j fr H)) = R
def zbsl := And.intro @kk <| And.intro @ke <| And.intro @kn <| And.intro @zblw <| And.intro @zbm6 <| @zbly
theorem zbsm (q : Nat) (zbt2 : zbsk q) : zbsk (q + 1) := by
 intro M hM j hj v6 v12z v12l v13 v14 h0_0 r h R hR fr H hc
 obtain ⟨j, rfl⟩ : ∃ i, j = i + 1 := ⟨j - 1, by omega⟩
 rw [zhk, hc]; clear hc
 rw [zk5] at h
 replace h := br h; rcases h with ⟨h1, h⟩ | ⟨h1, h⟩
 ·replace h := bn h; obtain ⟨h2, h⟩ := h
  replace h := ob h; obtain ⟨e2, h3, h⟩ := h
  replace h := bn h; obtain ⟨h4, h⟩ := h
  replace h := bn h; obtain ⟨h5, h⟩ := h
  replace h := ob h; obtain ⟨e3, h6, h⟩ := h
  replace h := zbt2 M (by omega) j (by omega) _ _ _ _ _ _ _ h R hR
  simp only [zbsl, simprocAttr, arrEnc, *]
 ·cases h; subst hR; simp only [zbsl, simprocAttr, arrEnc, *]
theorem zbsn : ∀ q, zbsk q
 | 0 => by intro M hM j hj; intros; rename_i h _ _ _ _ _; cases h
 | q + 1 => by have i0 := zbsn q; exact zbsm q i0
theorem zbso : ∀ (q N : Nat), 8 * q ≤ N → ∀ (a0 : Int) (a1 : (Sl Int)), ∀ (r : Int), zk6 q a0 a1 = some r → (orc T N).deep F.zk6 [(V.int .u32) a0, (Sl.enc (V.int .u8)) a1] = some [(V.int .u32) r] := by
 intro q N hM a0 a1 r h
 rcases q with _ | q
 ·cases h
 obtain ⟨M, rfl⟩ : ∃ M, N = M + 8 := ⟨N - 8, by omega⟩
 have zbt2 := (zbsn q)
 generalize hR : some [(V.int .u32) r] = R
 rw [zhu, zbgy, y6, zhs z6s rfl]
 rw [zk6] at h
 replace h := ob h; obtain ⟨r1, h1, h⟩ := h
 replace h1 := zbsj q (M + 7) (by omega)  _ h1
 try simp only [kf, simprocAttr] at h1
 replace h := bc h; rcases h with ⟨h2, h⟩ | ⟨h2, h⟩
 ·replace h := zbt2 M (by omega) (M + 7) (by omega) _ _ _ _ _ _ _ h R hR
  simp only [zbsl, simprocAttr, arrEnc, *]
 ·cases h
def zbsp := And.intro @kk <| And.intro @ke <| And.intro @kn <| And.intro @zbjz <| And.intro @zblx <| @zbj1
theorem zbsq : ∀ (q N : Nat), 8 * q ≤ N → ∀ (a0 : (Sl Int)), ∀ (r : Int), zk7 q a0 = some r → (orc T N).deep F.zk7 [(Sl.enc (V.int .u8)) a0] = some [(V.int .u32) r] := by
 intro q N hM a0 r h
 rcases q with _ | q
 ·cases h
 obtain ⟨M, rfl⟩ : ∃ M, N = M + 8 := ⟨N - 8, by omega⟩
 generalize hR : some [(V.int .u32) r] = R
 rw [zhu, zbgb, y6, zhs zup rfl]
 rw [zk7] at h
 replace h := ob h; obtain ⟨r1, h1, h⟩ := h
 replace h1 := zbso q (M + 7) (by omega) _ _ _ h1
 try simp only [kf, simprocAttr] at h1
 cases h; subst hR; simp only [zbsp, simprocAttr, *]
def zbsr (q : Nat) : Prop := ∀ (M : Nat) (hM : 8 * q ≤ M) (j : Nat) (hj : q ≤ j) (v0 v7 v8 : Int) (h0z : Bool) (h0l : List Int) (r : (Ow Int)) (_ : zk8 q v0 v7 v8 h0z h0l = some r) (R : Option (List V)) (_ : some [(Ow.enc 1 (V.int .u8)) r] = R) (fr : Fr) (H : Hp) (_ : canon 0 [0, 5, 7, 8] fr H = ([(0, (.int .u64 v0)), (5, (.vw 0 0 0 h0l.length 1)), (7, (.int .i64 v7)), (8, (.int .i64 v8))], [(.row 0 h0z 1 (List.map (V.int .u8) h0l) true)])), fin z57 (unw T (orc T (M + 7)) (M + 7) 0 [.blk 0, .code z53] (iter 0 [0, 5, 7, 8] (exec T (orc T (M + 7)) (M + 7) 0 z50) j fr H)) = R
def zbss := And.intro @kk <| And.intro @ke <| And.intro @kn <| And.intro @zblt <| @zblv
theorem zbst (q : Nat) (zbt3 : zbsr q) : zbsr (q + 1) := by
 intro M hM j hj v0 v7 v8 h0z h0l r h R hR fr H hc
 obtain ⟨j, rfl⟩ : ∃ i, j = i + 1 := ⟨j - 1, by omega⟩
 rw [zhk, hc]; clear hc
 rw [zk8] at h
 replace h := br h; rcases h with ⟨h1, h⟩ | ⟨h1, h⟩
 ·replace h := bm h; obtain ⟨h2, h⟩ := h
  replace h := bn h; obtain ⟨h3, h⟩ := h
  replace h := zbt3 M (by omega) j (by omega) _ _ _ _ _ _ h R hR
  simp only [zbss, simprocAttr, *]
 ·cases h; subst hR; simp only [zbss, simprocAttr, *]
theorem zbsu : ∀ q, zbsr q
 | 0 => by intro M hM j hj; intros; rename_i h _ _ _ _ _; cases h
 | q + 1 => by have i0 := zbsu q; exact zbst q i0
theorem zbsv : ∀ (q N : Nat), 8 * q ≤ N → ∀ (a0 a1 : Int), ∀ (r : (Ow Int)), zk9 q a0 a1 = some r → (orc T N).deep F.zk9 [(V.int .u64) a0, (V.int .i64) a1] = some [(Ow.enc 1 (V.int .u8)) r] := by
 intro q N hM a0 a1 r h
 rcases q with _ | q
 ·cases h
 obtain ⟨M, rfl⟩ : ∃ M, N = M + 8 := ⟨N - 8, by omega⟩
 have zbt3 := (zbsu q)
 generalize hR : some [(Ow.enc 1 (V.int .u8)) r] = R
 rw [zhu, zbgx, y6, zhs z57 rfl]
 rw [zk9] at h
 replace h := zbt3 M (by omega) (M + 7) (by omega) _ _ _ _ _ _ h R hR
 simp only [zbss, simprocAttr, *]
def zbsw := And.intro @kk <| And.intro @ke <| And.intro @kn <| And.intro @zbjw <| And.intro @zblu <| @zbjy
theorem zbsx : ∀ (q N : Nat), 8 * q ≤ N → ∀ (a0 : Int), ∀ (r : (Ow Int)), zla q a0 = some r → (orc T N).deep F.zla [(V.int .u32) a0] = some [(Ow.enc 1 (V.int .u8)) r] := by
 intro q N hM a0 r h
 rcases q with _ | q
 ·cases h
 obtain ⟨M, rfl⟩ : ∃ M, N = M + 8 := ⟨N - 8, by omega⟩
 generalize hR : some [(Ow.enc 1 (V.int .u8)) r] = R
 rw [zhu, zbga, y6, zhs zun rfl]
 rw [zla] at h
 replace h := ob h; obtain ⟨r1, h1, h⟩ := h
 replace h1 := zbsv q (M + 7) (by omega) _ _ _ h1
 try simp only [kf, simprocAttr] at h1
 cases h; subst hR; simp only [zbsw, simprocAttr, *]
def zbsy := And.intro @kk <| And.intro @ke <| And.intro @kn <| And.intro @zbk2 <| And.intro @zbjx <| And.intro @zbj0 <| And.intro @zblx <| @zbk4
theorem zbsz : ∀ (q N : Nat), 8 * q ≤ N → ∀ (a0 a1 : (Sl Int)), ∀ (r : (Ow Int)), zlb q a0 a1 = some r → (orc T N).deep F.zlb [(Sl.enc (V.int .u8)) a0, (Sl.enc (V.int .u8)) a1] = some [(Ow.enc 1 (V.int .u8)) r] := by
 intro q N hM a0 a1 r h
 rcases q with _ | q
 ·cases h
 obtain ⟨M, rfl⟩ : ∃ M, N = M + 8 := ⟨N - 8, by omega⟩
 generalize hR : some [(Ow.enc 1 (V.int .u8)) r] = R
 rw [zhu, zbgo, y6, zhs z0c rfl]
 rw [zlb] at h
 replace h := ob h; obtain ⟨r1, h1, h⟩ := h
 replace h1 := zbsq q (M + 7) (by omega) _ _ h1
 try simp only [kf, simprocAttr] at h1
 replace h := ob h; obtain ⟨r2, h2, h⟩ := h
 replace h2 := zbso q (M + 7) (by omega) _ _ _ h2
 try simp only [kf, simprocAttr] at h2
 replace h := ob h; obtain ⟨r3, h3, h⟩ := h
 replace h3 := zbsx q (M + 7) (by omega) _ _ h3
 try simp only [kf, simprocAttr] at h3
 cases h; subst hR; simp only [zbsy, simprocAttr, *]
def zbs0 (q : Nat) : Prop := ∀ (M : Nat) (hM : 8 * q ≤ M) (j : Nat) (hj : q ≤ j) (w0 : Nat) (v1 : Int) (h0z : Bool) (h0l : List Int) (h0x : Bool) (r : (Ow Int)) (_ : zlc q v1 h0z h0l h0x = some r) (R : Option (List V)) (_ : some [(Ow.enc 1 (V.int .u8)) r] = R) (fr : Fr) (H : Hp) (_ : canon 1 [0, 1] fr H = ([(0, (.vw 0 w0 0 h0l.length 1)), (1, (.int .u64 v1))], [(.row w0 h0z 1 (List.map (V.int .u8) h0l) h0x)])), fin z0p (unw T (orc T (M + 7)) (M + 7) 1 [.blk 0, .code z0m] (iter 1 [0, 1] (exec T (orc T (M + 7)) (M + 7) 1 z0k) j fr H)) = R
def zbs1 := And.intro @kk <| And.intro @ke <| And.intro @kn <| And.intro @zbk5 <| @zbk7
theorem zbs2 (q : Nat) (zbt4 : zbs0 q) : zbs0 (q + 1) := by
 intro M hM j hj w0 v1 h0z h0l h0x r h R hR fr H hc
 obtain ⟨j, rfl⟩ : ∃ i, j = i + 1 := ⟨j - 1, by omega⟩
 rw [zhk, hc]; clear hc
 rw [zlc] at h
 replace h := br h; rcases h with ⟨h1, h⟩ | ⟨h1, h⟩
 ·replace h := bn h; obtain ⟨h2, h⟩ := h
  replace h := zbt4 M (by omega) j (by omega) (w0 + 1) _ _ _ _ _ h R hR
  simp only [zbs1, simprocAttr, *]
 ·replace h := bn h; obtain ⟨h3, h⟩ := h
  cases h; subst hR; simp only [zbs1, simprocAttr, *]
theorem zbs3 : ∀ q, zbs0 q
 | 0 => by intro M hM j hj; intros; rename_i h _ _ _ _ _; cases h
 | q + 1 => by have i0 := zbs3 q; exact zbs2 q i0
theorem zbs4 : ∀ (q N : Nat), 8 * q ≤ N → ∀ (a0 : (Ow Int)) (a1 : Int), ∀ (r : (Ow Int)), zld q a0 a1 = some r → (orc T N).deep F.zld [(Ow.enc 1 (V.int .u8)) a0, (V.int .u64) a1] = some [(Ow.enc 1 (V.int .u8)) r] := by
 intro q N hM a0 a1 r h
 rcases q with _ | q
 ·cases h
 obtain ⟨M, rfl⟩ : ∃ M, N = M + 8 := ⟨N - 8, by omega⟩
 have zbt4 := (zbs3 q)
 generalize hR : some [(Ow.enc 1 (V.int .u8)) r] = R
 rw [zhu, zbgp, y6, zhs z0p rfl]
 rw [zld] at h
 replace h := zbt4 M (by omega) (M + 7) (by omega) 0 _ _ _ _ _ h R hR
 simp only [zbs1, simprocAttr, *]
def zbs5 := And.intro @kk <| And.intro @ke <| And.intro @kn <| And.intro @zbjq <| And.intro @zbk6 <| @zbjs
theorem zbs6 : ∀ (q N : Nat), 8 * q ≤ N → ∀ (a0 : (Ow Int)) (a1 : Int), ∀ (r : (Ow Int)), zle q a0 a1 = some r → (orc T N).deep F.zle [(Ow.enc 1 (V.int .u8)) a0, (V.int .i64) a1] = some [(Ow.enc 1 (V.int .u8)) r] := by
 intro q N hM a0 a1 r h
 rcases q with _ | q
 ·cases h
 obtain ⟨M, rfl⟩ : ∃ M, N = M + 8 := ⟨N - 8, by omega⟩
 generalize hR : some [(Ow.enc 1 (V.int .u8)) r] = R
 rw [zhu, zbf8, y6, zhs zuj rfl]
 rw [zle] at h
 replace h := br h; rcases h with ⟨h1, h⟩ | ⟨h1, h⟩
 ·cases h; subst hR; simp only [zbs5, simprocAttr, *]
 ·replace h := br h; rcases h with ⟨h2, h⟩ | ⟨h2, h⟩
  ·cases h; subst hR; simp only [zbs5, simprocAttr, *]
  ·replace h := ob h; obtain ⟨r1, h3, h⟩ := h
   replace h3 := zbs4 q (M + 7) (by omega) _ _ _ h3
   try simp only [kf, simprocAttr] at h3
   cases h; subst hR; simp only [zbs5, simprocAttr, *]
def zbs7 := And.intro @kk <| And.intro @ke <| And.intro @kn <| And.intro @zbk8 <| @zbla
theorem zbs8 : ∀ (q N : Nat), 8 * q ≤ N → ∀ (a0 r : Int), zlf q a0 = some r → (orc T N).deep F.zlf [(V.int .i64) a0] = some [(V.int .u64) r] := by
 intro q N hM a0 r h
 rcases q with _ | q
 ·cases h
 obtain ⟨M, rfl⟩ : ∃ M, N = M + 8 := ⟨N - 8, by omega⟩
 generalize hR : some [(V.int .u64) r] = R
 rw [zhu, zbgq, y6, zhs z0u rfl]
 rw [zlf] at h
 cases h; subst hR; simp only [zbs7, simprocAttr, *]
def zbs9 := And.intro @kk <| And.intro @ke <| And.intro @kn <| And.intro @zbir <| And.intro @zbk6 <| And.intro @zbk9 <| @zbit
theorem zbta : ∀ (q N : Nat), 8 * q ≤ N → ∀ (a0 : (Ow Int)) (a1 : Int), ∀ (r : (Ow Int)), zlg q a0 a1 = some r → (orc T N).deep F.zlg [(Ow.enc 1 (V.int .u8)) a0, (V.int .i64) a1] = some [(Ow.enc 1 (V.int .u8)) r] := by
 intro q N hM a0 a1 r h
 rcases q with _ | q
 ·cases h
 obtain ⟨M, rfl⟩ : ∃ M, N = M + 8 := ⟨N - 8, by omega⟩
 generalize hR : some [(Ow.enc 1 (V.int .u8)) r] = R
 rw [zhu, zbfw, y6, zhs zrl rfl]
 rw [zlg] at h
 replace h := ob h; obtain ⟨r1, h1, h⟩ := h
 replace h1 := zbs8 q (M + 7) (by omega) _ _ h1
 replace h := ob h; obtain ⟨r2, h2, h⟩ := h
 replace h2 := zbs4 q (M + 7) (by omega) _ _ _ h2
 try simp only [kf, simprocAttr] at h2
 cases h; subst hR; simp only [zbs9, simprocAttr, *]
def zbtb (q : Nat) : Prop := ∀ (M : Nat) (hM : 8 * q ≤ M) (j : Nat) (hj : q ≤ j) (v0z : Bool) (v0l : List (Sl Int)) (v3 : Int) (v9z : Bool) (v9l : List (Sl Int)) (v10 v11 : Int) (r : (Ow Int)) (_ : zlk q v0z v0l v3 v9z v9l v10 v11 = some r) (R : Option (List V)) (_ : some [(Ow.enc 1 (V.int .u8)) r] = R) (fr : Fr) (H : Hp) (_ : canon 0 [0, 3, 9, 10, 11] fr H = ([(0, (.sl v0z (List.map (Sl.enc (V.int .u8)) v0l))), (3, (.int .i64 v3)), (9, (.sl v9z (List.map (Sl.enc (V.int .u8)) v9l))), (10, (.int .i64 v10)), (11, (.int .i64 v11))], [])), fin zv4 (unw T (orc T (M + 7)) (M + 7) 0 [.blk 0, .code zv0] (iter 0 [0, 3, 9, 10, 11] (exec T (orc T (M + 7)) (M + 7) 0 zvj) j fr H)) = R
def zbtc (q : Nat) : Prop := ∀ (M : Nat) (hM : 8 * q ≤ M) (j : Nat) (hj : q ≤ j) (v6len : Nat) (v25z : Bool) (v25l : List (Sl Int)) (v26 v27 : Int) (h0z : Bool) (h0l : List Int) (r : (Ow Int)) (_ : zlh q v6len v25z v25l v26 v27 h0z h0l = some r) (R : Option (List V)) (_ : some [(Ow.enc 1 (V.int .u8)) r] = R) (fr : Fr) (H : Hp) (_ : canon 0 [6, 25, 26, 27] fr H = ([(6, (.vw 0 0 0 v6len 0)), (25, (.sl v25z (List.map (Sl.enc (V.int .u8)) v25l))), (26, (.int .i64 v26)), (27, (.int .i64 v27))], [(.row 0 h0z 1 (List.map (V.int .u8) h0l) true)])), fin zv4 (unw T (orc T (M + 7)) (M + 7) 0 [.blk 2, .code zvy] (iter 0 [6, 25, 26, 27] (exec T (orc T (M + 7)) (M + 7) 0 zvv) j fr H)) = R
def zbtd (q : Nat) : Prop := ∀ (M : Nat) (hM : 8 * q ≤ M) (j : Nat) (hj : q ≤ j) (v25z : Bool) (v25l : List (Sl Int)) (v26 : Int) (r : (Ow Int)) (_ : zlj q v25z v25l v26 = some r) (R : Option (List V)) (_ : some [(Ow.enc 1 (V.int .u8)) r] = R) (fr : Fr) (H : Hp) (_ : canon 0 [6, 25, 26, 27] fr H = ([(6, (.sl true [])), (25, (.sl v25z (List.map (Sl.enc (V.int .u8)) v25l))), (26, (.int .i64 v26)), (27, (.int .i64 0))], [])), fin zv4 (unw T (orc T (M + 7)) (M + 7) 0 [.blk 2, .code zvy] (iter 0 [6, 25, 26, 27] (exec T (orc T (M + 7)) (M + 7) 0 zvv) j fr H)) = R
def zbte (q : Nat) : Prop := ∀ (M : Nat) (hM : 8 * q ≤ M) (j : Nat) (hj : q ≤ j) (v25z : Bool) (v25l : List (Sl Int)) (v26 v27 : Int) (h0z : Bool) (h0l : List Int) (r : (Ow Int)) (_ : zli q v25z v25l v26 v27 h0z h0l = some r) (R : Option (List V)) (_ : some [(Ow.enc 1 (V.int .u8)) r] = R) (fr : Fr) (H : Hp) (_ : canon 0 [6, 25, 26, 27] fr H = ([(6, (.vw 0 0 0 h0l.length 1)), (25, (.sl v25z (List.map (Sl.enc (V.int .u8)) v25l))), (26, (.int .i64 v26)), (27, (.int .i64 v27))], [(.row 0 h0z 1 (List.map (V.int .u8) h0l) true)])), fin zv4 (unw T (orc T (M + 7)) (M + 7) 0 [.blk 2, .code zvy] (iter 0 [6, 25, 26, 27] (exec T (orc T (M + 7)) (M + 7) 0 zvv) j fr H)) = R
def zbtf := And.intro @kk <| And.intro @ke <| And.intro @kn <| And.intro @zbj5 <| And.intro @zbl5 <| And.intro @zbl6 <| And.intro @zbl7 <| @zbj7
theorem zbtg (q : Nat) (zbt5 : zbtb q) (zbt6 : zbtc q) (zbt7 : zbtd q) : zbtb (q + 1) := by
 intro M hM j hj v0z v0l v3 v9z v9l v10 v11 r h R hR fr H hc
 obtain ⟨j, rfl⟩ : ∃ i, j = i + 1 := ⟨j - 1, by omega⟩
 rw [zhk, hc]; clear hc
 rw [zlk] at h
 replace h := br h; rcases h with ⟨h1, h⟩ | ⟨h1, h⟩
 ·replace h := bn h; obtain ⟨h2, h⟩ := h
  replace h := ob h; obtain ⟨e1, h3, h⟩ := h
  replace h := bm h; obtain ⟨h4, h⟩ := h
  replace h := zbt5 M (by omega) j (by omega) _ _ _ _ _ _ _ _ h R hR
  simp only [zbtf, simprocAttr, *]
 ·replace h := bm h; obtain ⟨h5, h⟩ := h
  replace h := br h; rcases h with ⟨h6, h⟩ | ⟨h6, h⟩
  ·replace h := bn h; obtain ⟨h7, h⟩ := h
   replace h := bn h; obtain ⟨h8, h⟩ := h
   replace h := bm h; obtain ⟨h9, h⟩ := h
   replace h := zbt6 M (by omega) (M + 7) (by omega) _ _ _ _ _ _ _ _ h R hR
   simp only [zbtf, simprocAttr, *]
  ·replace h := zbt7 M (by omega) (M + 7) (by omega) _ _ _ _ h R hR
   simp only [zbtf, simprocAttr, *]
theorem zbth (q : Nat) (zbt6 : zbtc q) : zbtc (q + 1) := by
 intro M hM j hj v6len v25z v25l v26 v27 h0z h0l r h R hR fr H hc
 obtain ⟨j, rfl⟩ : ∃ i, j = i + 1 := ⟨j - 1, by omega⟩
 rw [zhk, hc]; clear hc
 rw [zlh] at h
 replace h := br h; rcases h with ⟨h1, h⟩ | ⟨h1, h⟩
 ·replace h := bn h; obtain ⟨h2, h⟩ := h
  replace h := ob h; obtain ⟨e2, h3, h⟩ := h
  replace h := bn h; obtain ⟨h4, h⟩ := h
  replace h := zbt6 M (by omega) j (by omega) _ _ _ _ _ _ _ _ h R hR
  simp only [zbtf, simprocAttr, *]
 ·cases h; subst hR; simp only [zbtf, simprocAttr, *]
theorem zbti (q : Nat) (zbt8 : zbte q) : zbtd (q + 1) := by
 intro M hM j hj v25z v25l v26 r h R hR fr H hc
 obtain ⟨j, rfl⟩ : ∃ i, j = i + 1 := ⟨j - 1, by omega⟩
 rw [zhk, hc]; clear hc
 rw [zlj] at h
 replace h := br h; rcases h with ⟨h1, h⟩ | ⟨h1, h⟩
 ·replace h := ob h; obtain ⟨e3, h2, h⟩ := h
  replace h := bn h; obtain ⟨h3, h⟩ := h
  replace h := zbt8 M (by omega) j (by omega) _ _ _ _ _ _ _ h R hR
  simp only [zbtf, simprocAttr, *]
 ·cases h; subst hR; simp only [zbtf, simprocAttr, *]
theorem zbtj (q : Nat) (zbt8 : zbte q) : zbte (q + 1) := by
 intro M hM j hj v25z v25l v26 v27 h0z h0l r h R hR fr H hc
 obtain ⟨j, rfl⟩ : ∃ i, j = i + 1 := ⟨j - 1, by omega⟩
 rw [zhk, hc]; clear hc
 rw [zli] at h
 replace h := br h; rcases h with ⟨h1, h⟩ | ⟨h1, h⟩
 ·replace h := bn h; obtain ⟨h2, h⟩ := h
  replace h := ob h; obtain ⟨e4, h3, h⟩ := h
  replace h := bn h; obtain ⟨h4, h⟩ := h
  replace h := zbt8 M (by omega) j (by omega) _ _ _ _ _ _ _ h R hR
  simp only [zbtf, simprocAttr, *]
 ·cases h; subst hR; simp only [zbtf, simprocAttr, *]
theorem zbtk : ∀ q, zbtb q ∧ zbtc q ∧ zbtd q ∧ zbte q
 | 0 => by refine ⟨?_, ?_, ?_, ?_⟩ <;> (intro M hM j hj; intros; rename_i h _ _ _ _ _; cases h)
 | q + 1 => by have ⟨i0, i1, i2, i3⟩ := zbtk q; exact ⟨zbtg q i0 i1 i2, zbth q i1, zbti q i3, zbtj q i3⟩
theorem zbtl : ∀ (q N : Nat), 8 * q ≤ N → ∀ (a0 : (Sl (Sl Int))), ∀ (r : (Ow Int)), zll q a0 = some r → (orc T N).deep F.zll [(Sl.enc (Sl.enc (V.int .u8))) a0] = some [(Ow.enc 1 (V.int .u8)) r] := by
 intro q N hM a0 r h
 rcases q with _ | q
 ·cases h
 obtain ⟨M, rfl⟩ : ∃ M, N = M + 8 := ⟨N - 8, by omega⟩
 have zbt5 := (zbtk q).1
 generalize hR : some [(Ow.enc 1 (V.int .u8)) r] = R
 rw [zhu, zbgd, y6, zhs zv4 rfl]
 rw [zll] at h
 replace h := zbt5 M (by omega) (M + 7) (by omega) _ _ _ _ _ _ _ _ h R hR
 simp only [zbtf, simprocAttr, *]
def zbtm := And.intro @kk <| And.intro @ke <| And.intro @kn <| And.intro @zbiu <| And.intro @zbjr <| And.intro @zbj6 <| And.intro @zbk3 <| @zbiw
theorem zbtn : ∀ (q N : Nat), 8 * q ≤ N → ∀ (a0 : (Sl Int)), ∀ (r : (Ow Int) × Int), zlm q a0 = some r → (orc T N).deep F.zlm [(Sl.enc (V.int .u8)) a0] = some [(Ow.enc 1 (V.int .u8)) r.1, (V.int .i64) r.2] := by
 intro q N hM a0 r h
 rcases q with _ | q
 ·cases h
 obtain ⟨M, rfl⟩ : ∃ M, N = M + 8 := ⟨N - 8, by omega⟩
 generalize hR : some [(Ow.enc 1 (V.int .u8)) r.1, (V.int .i64) r.2] = R
 rw [zhu, zbfx, y6, zhs zrn rfl]
 rw [zlm] at h
 replace h := br h; rcases h with ⟨h1, h⟩ | ⟨h1, h⟩
 ·cases h; subst hR; simp only [zbtm, simprocAttr, *]
 ·replace h := ob h; obtain ⟨r1, h2, h⟩ := h
  replace h2 := zbs6 q (M + 7) (by omega) _ _ _ h2
  try simp only [kf, simprocAttr] at h2
  replace h := ob h; obtain ⟨r2, h3, h⟩ := h
  replace h3 := zbsz q (M + 7) (by omega) _ _ _ h3
  try simp only [kf, simprocAttr] at h3
  replace h := ob h; obtain ⟨r3, h4, h⟩ := h
  replace h4 := zbtl q (M + 7) (by omega) _ _ h4
  try simp only [kf, simprocAttr] at h4
  cases h; subst hR; simp only [zbtm, simprocAttr, *]
def zbto := And.intro @kk <| And.intro @ke <| And.intro @kn <| And.intro @zbm2 <| @zbm4
theorem zbtp : ∀ (q N : Nat), 8 * q ≤ N → ∀ (a0 : zjm), ∀ (r : Int), zln q a0 = some r → (orc T N).deep F.zln [zjm.enc a0] = some [(V.int .i64) r] := by
 intro q N hM a0 r h
 rcases q with _ | q
 ·cases h
 obtain ⟨M, rfl⟩ : ∃ M, N = M + 8 := ⟨N - 8, by omega⟩
 generalize hR : some [(V.int .i64) r] = R
 rw [zhu, zbhc, y6, zhs zbeh rfl]
 rw [zln] at h
 replace h := bb h; rcases h with ⟨h1', h1, h⟩ | ⟨h1', h1, h⟩
 ·cases h; subst hR; simp only [zbto, simprocAttr, *]
 ·cases h; subst hR; simp only [zbto, simprocAttr, *]
end Go.Dvm.C
