/- The machine comes to these answers: part 1. -/
import Derived.Test.YtngajodhbioheaaGreatQl0
set_option linter.all false
set_option maxRecDepth 100000
set_option maxHeartbeats 4000000
namespace Go.Dvm.C
open Go Go.Dvm Go.Dvm.I
def zbr1 := And.intro @kk <| And.intro @ke <| And.intro @kn <| And.intro @zbmt <| @zbmv
theorem zbr2 : ∀ (q N : Nat), 8 * q ≤ N → ∀ (a0 r : Int), zjl q a0 = some r → (orc T N).deep F.zjl [(V.int .i64) a0] = some [(V.int .i64) r] := by
 intro q N hM a0 r h
 rcases q with _ | q
 ·cases h
 obtain ⟨M, rfl⟩ : ∃ M, N = M + 8 := ⟨N - 8, by omega⟩
 generalize hR : some [(V.int .i64) r] = R
 rw [zhs, zbgb, y5, zhq]
 rw [zjl] at h
 cases h; subst hR; simp only [zbr1, simprocAttr, *]
def zbr3 := And.intro @kk <| And.intro @ke <| And.intro @kn <| And.intro @zbkw <| And.intro @zbmu <| @zbky
theorem zbr4 : ∀ (q N : Nat), 8 * q ≤ N → ∀ (a0 : zjf), ∀ (r : Bool), zjm q a0 = some r → (orc T N).deep F.zjm [zjf.enc a0] = some [V.bool r] := by
 intro q N hM a0 r h
 rcases q with _ | q
 ·cases h
 obtain ⟨M, rfl⟩ : ∃ M, N = M + 8 := ⟨N - 8, by omega⟩
 generalize hR : some [V.bool r] = R
 rw [zhs, zbfo, y5, zhq]
 rw [zjm] at h
 replace h := br h; rcases h with ⟨h1, h⟩ | ⟨h1, h⟩
 ·replace h := br h; rcases h with ⟨h2, h⟩ | ⟨h2, h⟩
  ·replace h := ob h; obtain ⟨r1, h3, h⟩ := h
   replace h3 := zbr2 q (M + 7) (by omega) _ _ h3
   replace h := br h; rcases h with ⟨h4, h⟩ | ⟨h4, h⟩
   ·replace h := ob h; obtain ⟨r2, h5, h⟩ := h
    replace h5 := zbr2 q (M + 7) (by omega) _ _ h5
    cases h; subst hR; simp only [zbr3, simprocAttr, *]
   ·cases h; subst hR; simp only [zbr3, simprocAttr, *]
  ·cases h; subst hR; simp only [zbr3, simprocAttr, *]
 ·cases h; subst hR; simp only [zbr3, simprocAttr, *]
def zbr5 := And.intro @kk <| And.intro @ke <| And.intro @kn <| And.intro @zbiw <| And.intro @zbkx <| @zbiy
theorem zbr6 : ∀ (q N : Nat), 8 * q ≤ N → ∀ (a0 : zjg), ∀ (r : Bool), zjn q a0 = some r → (orc T N).deep F.zjn [zjg.enc a0] = some [V.bool r] := by
 intro q N hM a0 r h
 rcases q with _ | q
 ·cases h
 obtain ⟨M, rfl⟩ : ∃ M, N = M + 8 := ⟨N - 8, by omega⟩
 generalize hR : some [V.bool r] = R
 rw [zhs, zbe0, y5, zhq]
 rw [zjn] at h
 replace h := br h; rcases h with ⟨h1, h⟩ | ⟨h1, h⟩
 ·replace h := br h; rcases h with ⟨h2, h⟩ | ⟨h2, h⟩
  ·replace h := br h; rcases h with ⟨h3, h⟩ | ⟨h3, h⟩
   ·replace h := br h; rcases h with ⟨h4, h⟩ | ⟨h4, h⟩
    ·replace h := br h; rcases h with ⟨h5, h⟩ | ⟨h5, h⟩
     ·replace h := br h; rcases h with ⟨h6, h⟩ | ⟨h6, h⟩
      ·replace h := ob h; obtain ⟨r1, h7, h⟩ := h
       replace h7 := zbr4 q (M + 7) (by omega) _ _ h7
       try simp only [kf, simprocAttr] at h7
       replace h := bb h; rcases h with ⟨h8', h8, h⟩ | ⟨h8', h8, h⟩
       ·replace h := br h; rcases h with ⟨h9, h⟩ | ⟨h9, h⟩
        ·cases h; subst hR; simp only [zbr5, simprocAttr, *]
        ·cases h; subst hR; simp only [zbr5, simprocAttr, *]
       ·cases h; subst hR; simp only [zbr5, simprocAttr, *]
      ·cases h; subst hR; simp only [zbr5, simprocAttr, *]
     ·cases h; subst hR; simp only [zbr5, simprocAttr, *]
    ·cases h; subst hR; simp only [zbr5, simprocAttr, *]
   ·cases h; subst hR; simp only [zbr5, simprocAttr, *]
  ·cases h; subst hR; simp only [zbr5, simprocAttr, *]
 ·cases h; subst hR; simp only [zbr5, simprocAttr, *]
def zbr7 := And.intro @kk <| And.intro @ke <| And.intro @kn <| And.intro @zbmq <| And.intro @zbmu <| @zbms
theorem zbr8 : ∀ (q N : Nat), 8 * q ≤ N → ∀ (a0 : Int), ∀ (r : Bool), zjo q a0 = some r → (orc T N).deep F.zjo [(V.int .i64) a0] = some [V.bool r] := by
 intro q N hM a0 r h
 rcases q with _ | q
 ·cases h
 obtain ⟨M, rfl⟩ : ∃ M, N = M + 8 := ⟨N - 8, by omega⟩
 generalize hR : some [V.bool r] = R
 rw [zhs, zbga, y5, zhq]
 rw [zjo] at h
 replace h := ob h; obtain ⟨r1, h1, h⟩ := h
 replace h1 := zbr2 q (M + 7) (by omega) _ _ h1
 cases h; subst hR; simp only [zbr7, simprocAttr, *]
def zbr9 (q : Nat) : Prop := ∀ (M : Nat) (hM : 8 * q ≤ M) (j : Nat) (hj : q ≤ j) (v0z : Bool) (v0l : List Int) (v1 v5 v6 : Int) (r : Bool) (_ : zjp q v0z v0l v1 v5 v6 = some r) (R : Option (List V)) (_ : some [V.bool r] = R) (fr : Fr) (H : Hp) (_ : canon 0 [0, 1, 5, 6] fr H = ([(0, (.sl v0z (List.map (V.int .i64) v0l))), (1, (.int .i64 v1)), (5, (.int .i64 v5)), (6, (.int .i64 v6))], [])), fin z8n (unw T (orc T (M + 7)) (M + 7) 0 [.blk 0, .code z8j] (iter 0 [0, 1, 5, 6] (exec T (orc T (M + 7)) (M + 7) 0 z8g) j fr H)) = R
def zbsa := And.intro @kk <| And.intro @ke <| And.intro @kn <| And.intro @zbmw <| @zbmy
theorem zbsb (q : Nat) (zbwg : zbr9 q) : zbr9 (q + 1) := by
 intro M hM j hj v0z v0l v1 v5 v6 r h R hR fr H hc
 obtain ⟨j, rfl⟩ : ∃ i, j = i + 1 := ⟨j - 1, by omega⟩
 rw [zhj, hc]; clear hc
 rw [zjp] at h
 replace h := br h; rcases h with ⟨h1, h⟩ | ⟨h1, h⟩
 ·replace h := bn h; obtain ⟨h2, h⟩ := h
  replace h := ob h; obtain ⟨e1, h3, h⟩ := h
  replace h := br h; rcases h with ⟨h4, h⟩ | ⟨h4, h⟩
  ·cases h; subst hR; simp only [zbsa, simprocAttr, *]
  ·replace h := br h; rcases h with ⟨h5, h⟩ | ⟨h5, h⟩
   ·cases h; subst hR; simp only [zbsa, simprocAttr, *]
   ·replace h := bn h; obtain ⟨h6, h⟩ := h
    replace h := ob h; obtain ⟨e2, h7, h⟩ := h
    replace h := br h; rcases h with ⟨h8, h⟩ | ⟨h8, h⟩
    ·cases h; subst hR; simp only [zbsa, simprocAttr, *]
    ·replace h := br h; rcases h with ⟨h9, h⟩ | ⟨h9, h⟩
     ·cases h; subst hR; simp only [zbsa, simprocAttr, *]
     ·replace h := zbwg M (by omega) j (by omega) _ _ _ _ _ _ h R hR
      simp only [zbsa, simprocAttr, *]
 ·replace h := br h; rcases h with ⟨h10, h⟩ | ⟨h10, h⟩
  ·cases h; subst hR; simp only [zbsa, simprocAttr, *]
  ·cases h; subst hR; simp only [zbsa, simprocAttr, *]
theorem zbsc : ∀ q, zbr9 q
 | 0 => by intro M hM j hj; intros; rename_i h _ _ _ _ _; cases h
 | q + 1 => by have i0 := zbsc q; exact zbsb q i0
theorem zbsd : ∀ (q N : Nat), 8 * q ≤ N → ∀ (a0 : (Sl Int)) (a1 : Int), ∀ (r : Bool), zjq q a0 a1 = some r → (orc T N).deep F.zjq [(Sl.enc (V.int .i64)) a0, (V.int .i64) a1] = some [V.bool r] := by
 intro q N hM a0 a1 r h
 rcases q with _ | q
 ·cases h
 obtain ⟨M, rfl⟩ : ∃ M, N = M + 8 := ⟨N - 8, by omega⟩
 have zbwg := (zbsc q)
 generalize hR : some [V.bool r] = R
 rw [zhs, zbgc, y5, zhq]
 rw [zjq] at h
 replace h := zbwg M (by omega) (M + 7) (by omega) _ _ _ _ _ _ h R hR
 simp only [zbsa, simprocAttr, *]
def zbse (q : Nat) : Prop := ∀ (M : Nat) (hM : 8 * q ≤ M) (j : Nat) (hj : q ≤ j) (v0z : Bool) (v0l : List Int) (v7 v8 h0_0 : Int) (h0_1z : Bool) (h0_1l : List Int) (h0_2 : Bool) (h0_3 r : Int) (_ : zjr q v0z v0l v7 v8 h0_0 h0_1z h0_1l h0_2 h0_3 = some r) (R : Option (List V × Hp)) (_ : (some ([(.int .i64 r)], [(.box [(.int .i64 h0_0), (.sl h0_1z (List.map (V.int .i64) h0_1l)), (.bool h0_2), (.int .i64 h0_3)])]) : Option (List V × Hp)) = R) (fr : Fr) (H : Hp) (_ : canon 1 [0, 1, 7, 8] fr H = ([(0, (.sl v0z (List.map (V.int .i64) v0l))), (1, (.fn F.zjo [])), (7, (.int .i64 v7)), (8, (.int .i64 v8))], [(.box [(.int .i64 h0_0), (.sl h0_1z (List.map (V.int .i64) h0_1l)), (.bool h0_2), (.int .i64 h0_3)])])), finI 1 false [.tmp 4] (unw T (orc T (M + 5)) (M + 5) 1 [.blk 0, .code zbc1] (iter 1 [0, 1, 7, 8] (exec T (orc T (M + 5)) (M + 5) 1 zbcy) j fr H)) = R
def zbsf := And.intro @kk <| And.intro @ke <| And.intro @kn <| And.intro @zbot <| @zbmr
theorem zbsg (q : Nat) (zbwh : zbse q) : zbse (q + 1) := by
 intro M hM j hj v0z v0l v7 v8 h0_0 h0_1z h0_1l h0_2 h0_3 r h R hR fr H hc
 obtain ⟨j, rfl⟩ : ∃ i, j = i + 1 := ⟨j - 1, by omega⟩
 rw [zhj, hc]; clear hc
 rw [zjr] at h
 replace h := br h; rcases h with ⟨h1, h⟩ | ⟨h1, h⟩
 ·replace h := bn h; obtain ⟨h2, h⟩ := h
  replace h := ob h; obtain ⟨e1, h3, h⟩ := h
  replace h := ob h; obtain ⟨r2, h4, h⟩ := h
  replace h4 := zbr8 q (M + 5) (by omega) _ _ h4
  replace h := bb h; rcases h with ⟨h5', h5, h⟩ | ⟨h5', h5, h⟩
  ·cases h; subst hR; simp only [zbsf, simprocAttr, *]
  ·replace h := zbwh M (by omega) j (by omega) _ _ _ _ _ _ _ _ _ _ h R hR
   simp only [zbsf, simprocAttr, *]
 ·cases h; subst hR; simp only [zbsf, simprocAttr, *]
theorem zbsh : ∀ q, zbse q
 | 0 => by intro M hM j hj; intros; rename_i h _ _ _ _ _; cases h
 | q + 1 => by have i0 := zbsh q; exact zbsg q i0
theorem zbsi : ∀ (q M : Nat), 8 * q ≤ M → ∀ (v0z : Bool), ∀ (v0l : List Int), ∀ (h0_0 : Int), ∀ (h0_1z : Bool), ∀ (h0_1l : List Int), ∀ (h0_2 : Bool), ∀ (h0_3 r : Int), zjs q v0z v0l h0_0 h0_1z h0_1l h0_2 h0_3 = some r → (orc T (M + 6)).inl F.znq [(.sl v0z (List.map (V.int .i64) v0l)), (.fn F.zjo [])] [(.box [(.int .i64 h0_0), (.sl h0_1z (List.map (V.int .i64) h0_1l)), (.bool h0_2), (.int .i64 h0_3)])] = (some ([(.int .i64 r)], [(.box [(.int .i64 h0_0), (.sl h0_1z (List.map (V.int .i64) h0_1l)), (.bool h0_2), (.int .i64 h0_3)])]) : Option (List V × Hp)) := by
 intro q M hM v0z v0l h0_0 h0_1z h0_1l h0_2 h0_3 r h
 rcases q with _ | q
 ·cases h
 have zbwh := (zbsh q)
 generalize hR : (some ([(.int .i64 r)], [(.box [(.int .i64 h0_0), (.sl h0_1z (List.map (V.int .i64) h0_1l)), (.bool h0_2), (.int .i64 h0_3)])]) : Option (List V × Hp)) = R
 rw [zbov (n := M + 5)]
 rw [zjs] at h
 replace h := zbwh M (by omega) (M + 5) (by omega) _ _ _ _ _ _ _ _ _ _ h R hR
 simp only [zbsf, simprocAttr, *]
def zbsj := And.intro @kk <| And.intro @ke <| And.intro @kn <| And.intro @zbj2 <| And.intro @zbmn <| And.intro @zbmx <| And.intro @zbou <| And.intro @zbmo <| And.intro @zbmp <| @zbj4
theorem zbsk : ∀ (q N : Nat), 8 * q ≤ N → ∀ (a0 : zjh), ∀ (r : Bool), zjt q a0 = some r → (orc T N).deep F.zjt [zjh.enc a0] = some [V.bool r] := by
 intro q N hM a0 r h
 rcases q with _ | q
 ·cases h
 obtain ⟨M, rfl⟩ : ∃ M, N = M + 8 := ⟨N - 8, by omega⟩
 generalize hR : some [V.bool r] = R
 rw [zhs, zbfe, y5, zhq]
 rw [zjt] at h
 replace h := br h; rcases h with ⟨h1, h⟩ | ⟨h1, h⟩
 ·cases h; subst hR; simp only [zbsj, simprocAttr, *]
 ·replace h := br h; rcases h with ⟨h2, h⟩ | ⟨h2, h⟩
  ·cases h; subst hR; simp only [zbsj, simprocAttr, *]
  ·replace h := bb h; rcases h with ⟨h3', h3, h⟩ | ⟨h3', h3, h⟩
   ·replace h := ob h; obtain ⟨r1, h4, h⟩ := h
    replace h4 := zbsi q M (by omega) _ _ _ _ _ _ _ _ h4
    try simp only [kf, simprocAttr] at h4
    replace h := br h; rcases h with ⟨h5, h⟩ | ⟨h5, h⟩
    ·replace h := br h; rcases h with ⟨h6, h⟩ | ⟨h6, h⟩
     ·cases h; subst hR; simp only [zbsj, simprocAttr, *]
     ·cases h; subst hR; simp only [zbsj, simprocAttr, *]
    ·replace h := br h; rcases h with ⟨h7, h⟩ | ⟨h7, h⟩
     ·replace h := br h; rcases h with ⟨h8, h⟩ | ⟨h8, h⟩
      ·cases h; subst hR; simp only [zbsj, simprocAttr, *]
      ·cases h; subst hR; simp only [zbsj, simprocAttr, *]
     ·replace h := br h; rcases h with ⟨h9, h⟩ | ⟨h9, h⟩
      ·replace h := br h; rcases h with ⟨h10, h⟩ | ⟨h10, h⟩
       ·cases h; subst hR; simp only [zbsj, simprocAttr, *]
       ·cases h; subst hR; simp only [zbsj, simprocAttr, *]
      ·replace h := br h; rcases h with ⟨h11, h⟩ | ⟨h11, h⟩
       ·replace h := br h; rcases h with ⟨h12, h⟩ | ⟨h12, h⟩
        ·cases h; subst hR; simp only [zbsj, simprocAttr, *]
        ·cases h; subst hR; simp only [zbsj, simprocAttr, *]
       ·replace h := br h; rcases h with ⟨h13, h⟩ | ⟨h13, h⟩
        ·replace h := ob h; obtain ⟨r2, h14, h⟩ := h
         replace h14 := zbsd q (M + 7) (by omega) _ _ _ h14
         try simp only [kf, simprocAttr] at h14
         cases h; subst hR; simp only [zbsj, simprocAttr, *]
        ·replace h := br h; rcases h with ⟨h15, h⟩ | ⟨h15, h⟩
         ·replace h := ob h; obtain ⟨r3, h16, h⟩ := h
          replace h16 := zbsd q (M + 7) (by omega) _ _ _ h16
          try simp only [kf, simprocAttr] at h16
          cases h; subst hR; simp only [zbsj, simprocAttr, *]
         ·cases h; subst hR; simp only [zbsj, simprocAttr, *]
   ·replace h := br h; rcases h with ⟨h17, h⟩ | ⟨h17, h⟩
    ·replace h := ob h; obtain ⟨r4, h18, h⟩ := h
     replace h18 := zbsi q M (by omega) _ _ _ _ _ _ _ _ h18
     try simp only [kf, simprocAttr] at h18
     replace h := br h; rcases h with ⟨h19, h⟩ | ⟨h19, h⟩
     ·replace h := br h; rcases h with ⟨h20, h⟩ | ⟨h20, h⟩
      ·cases h; subst hR; simp only [zbsj, simprocAttr, *]
      ·cases h; subst hR; simp only [zbsj, simprocAttr, *]
     ·replace h := br h; rcases h with ⟨h21, h⟩ | ⟨h21, h⟩
      ·replace h := br h; rcases h with ⟨h22, h⟩ | ⟨h22, h⟩
       ·cases h; subst hR; simp only [zbsj, simprocAttr, *]
       ·cases h; subst hR; simp only [zbsj, simprocAttr, *]
      ·replace h := br h; rcases h with ⟨h23, h⟩ | ⟨h23, h⟩
       ·replace h := br h; rcases h with ⟨h24, h⟩ | ⟨h24, h⟩
        ·cases h; subst hR; simp only [zbsj, simprocAttr, *]
        ·cases h; subst hR; simp only [zbsj, simprocAttr, *]
       ·replace h := br h; rcases h with ⟨h25, h⟩ | ⟨h25, h⟩
        ·replace h := br h; rcases h with ⟨h26, h⟩ | ⟨h26, h⟩
         ·cases h; subst hR; simp only [zbsj, simprocAttr, *]
         ·cases h; subst hR; simp only [zbsj, simprocAttr, *]
        ·replace h := br h; rcases h with ⟨h27, h⟩ | ⟨h27, h⟩
         ·replace h := ob h; obtain ⟨r5, h28, h⟩ := h
          replace h28 := zbsd q (M + 7) (by omega) _ _ _ h28
          try simp only [kf, simprocAttr] at h28
          cases h; subst hR; simp only [zbsj, simprocAttr, *]
         ·replace h := br h; rcases h with ⟨h29, h⟩ | ⟨h29, h⟩
          ·replace h := ob h; obtain ⟨r6, h30, h⟩ := h
           replace h30 := zbsd q (M + 7) (by omega) _ _ _ h30
           try simp only [kf, simprocAttr] at h30
           cases h; subst hR; simp only [zbsj, simprocAttr, *]
          ·cases h; subst hR; simp only [zbsj, simprocAttr, *]
    ·cases h; subst hR; simp only [zbsj, simprocAttr, *]
def zbsl := And.intro @kk <| And.intro @ke <| And.intro @kn <| And.intro @zbkz <| And.intro @zbmu <| @zbk1
theorem zbsm : ∀ (q N : Nat), 8 * q ≤ N → ∀ (a0 : zjh) (a1 : zjf), ∀ (r : zjh × Int), zju q a0 a1 = some r → (orc T N).deep F.zju [zjh.enc a0, zjf.enc a1] = some [zjh.enc r.1, (V.int .i64) r.2] := by
 intro q N hM a0 a1 r h
 rcases q with _ | q
 ·cases h
 obtain ⟨M, rfl⟩ : ∃ M, N = M + 8 := ⟨N - 8, by omega⟩
 generalize hR : some [zjh.enc r.1, (V.int .i64) r.2] = R
 rw [zhs, zbfp, y5, zhq]
 rw [zju] at h
 replace h := ob h; obtain ⟨e1, h1, h⟩ := h
 replace h := br h; rcases h with ⟨h2, h⟩ | ⟨h2, h⟩
 ·cases h; subst hR; simp only [zbsl, simprocAttr, *]
 ·replace h := br h; rcases h with ⟨h3, h⟩ | ⟨h3, h⟩
  ·replace h := br h; rcases h with ⟨h4, h⟩ | ⟨h4, h⟩
   ·replace h := ob h; obtain ⟨r2, h5, h⟩ := h
    replace h5 := zbr2 q (M + 7) (by omega) _ _ h5
    replace h := ob h; obtain ⟨r3, h6, h⟩ := h
    replace h6 := zbr2 q (M + 7) (by omega) _ _ h6
    cases h; subst hR; simp only [zbsl, simprocAttr, *]
   ·replace h := br h; rcases h with ⟨h7, h⟩ | ⟨h7, h⟩
    ·replace h := br h; rcases h with ⟨h8, h⟩ | ⟨h8, h⟩
     ·replace h := ob h; obtain ⟨r4, h9, h⟩ := h
      replace h9 := zbr2 q (M + 7) (by omega) _ _ h9
      cases h; subst hR; simp only [zbsl, simprocAttr, *]
     ·cases h; subst hR; simp only [zbsl, simprocAttr, *]
    ·cases h; subst hR; simp only [zbsl, simprocAttr, *]
  ·replace h := br h; rcases h with ⟨h10, h⟩ | ⟨h10, h⟩
   ·replace h := br h; rcases h with ⟨h11, h⟩ | ⟨h11, h⟩
    ·replace h := ob h; obtain ⟨r5, h12, h⟩ := h
     replace h12 := zbr2 q (M + 7) (by omega) _ _ h12
     cases h; subst hR; simp only [zbsl, simprocAttr, *]
    ·cases h; subst hR; simp only [zbsl, simprocAttr, *]
   ·cases h; subst hR; simp only [zbsl, simprocAttr, *]
def zbsn := And.intro @kk <| And.intro @ke <| And.intro @kn <| And.intro @zbnk <| @zbnm
theorem zbso : ∀ (q N : Nat), 8 * q ≤ N → ∀ (a0 : (Sl Int)), ∀ (r : (Ow Int)), zjv q a0 = some r → (orc T N).deep F.zjv [(Sl.enc (V.int .i64)) a0] = some [(Ow.enc 1 (V.int .i64)) r] := by
 intro q N hM a0 r h
 rcases q with _ | q
 ·cases h
 obtain ⟨M, rfl⟩ : ∃ M, N = M + 8 := ⟨N - 8, by omega⟩
 generalize hR : some [(Ow.enc 1 (V.int .i64)) r] = R
 rw [zhs, zbgk, y5, zhq]
 rw [zjv] at h
 replace h := bb h; rcases h with ⟨h1', h1, h⟩ | ⟨h1', h1, h⟩
 ·cases h; subst hR; simp only [zbsn, simprocAttr, *]
 ·replace h := bn h; obtain ⟨h2, h⟩ := h
  cases h; subst hR; simp only [zbsn, simprocAttr, *]
def zbsp := And.intro @kk <| And.intro @ke <| And.intro @kn <| And.intro @zbnn <| @zbnp
theorem zbsq : ∀ (q N : Nat), 8 * q ≤ N → ∀ (a0 : (Ow Int)) (a1 a2 : Int), ∀ (r : (Ow Int)), zjw q a0 a1 a2 = some r → (orc T N).deep F.zjw [(Ow.enc 1 (V.int .i64)) a0, (V.int .i64) a1, (V.int .i64) a2] = some [(Ow.enc 1 (V.int .i64)) r] := by
 intro q N hM a0 a1 a2 r h
 rcases q with _ | q
 ·cases h
 obtain ⟨M, rfl⟩ : ∃ M, N = M + 8 := ⟨N - 8, by omega⟩
 generalize hR : some [(Ow.enc 1 (V.int .i64)) r] = R
 rw [zhs, zbgl, y5, zhq]
 rw [zjw] at h
 replace h := bn h; obtain ⟨h1, h⟩ := h
 replace h := bn h; obtain ⟨h2, h⟩ := h
 replace h := bn h; obtain ⟨h3, h⟩ := h
 replace h := br h; rcases h with ⟨h4, h⟩ | ⟨h4, h⟩
 ·cases h; subst hR; simp only [zbsp, simprocAttr, *]
 ·replace h := bn h; obtain ⟨h5, h⟩ := h
  replace h := bb h; rcases h with ⟨h6', h6, h⟩ | ⟨h6', h6, h⟩
  ·replace h := bn h; obtain ⟨h7, h⟩ := h
   replace h := bn h; obtain ⟨h8, h⟩ := h
   replace h := bn h; obtain ⟨h9, h⟩ := h
   replace h := bn h; obtain ⟨h10, h⟩ := h
   replace h := bn h; obtain ⟨h11, h⟩ := h
   replace h := bm h; obtain ⟨h12, h⟩ := h
   replace h := bb h; rcases h with ⟨h13', h13, h⟩ | ⟨h13', h13, h⟩
   ·cases h; subst hR; simp only [zbsp, simprocAttr, *]
   ·cases h
  ·replace h := bn h; obtain ⟨h14, h⟩ := h
   replace h := bn h; obtain ⟨h15, h⟩ := h
   replace h := bn h; obtain ⟨h16, h⟩ := h
   replace h := bb h; rcases h with ⟨h17', h17, h⟩ | ⟨h17', h17, h⟩
   ·replace h := bn h; obtain ⟨h18, h⟩ := h
    replace h := bn h; obtain ⟨h19, h⟩ := h
    cases h; subst hR; simp only [zbsp, simprocAttr, *]
   ·cases h
def zbsr := And.intro @kk <| And.intro @ke <| And.intro @kn <| And.intro @zbk2 <| And.intro @zbmu <| And.intro @zbnl <| And.intro @zbno <| @zbk4
theorem zbss : ∀ (q N : Nat), 8 * q ≤ N → ∀ (a0 : zjh) (a1 : zjf), ∀ (r : zjh × Int), zjx q a0 a1 = some r → (orc T N).deep F.zjx [zjh.enc a0, zjf.enc a1] = some [zjh.enc r.1, (V.int .i64) r.2] := by
 intro q N hM a0 a1 r h
 rcases q with _ | q
 ·cases h
 obtain ⟨M, rfl⟩ : ∃ M, N = M + 8 := ⟨N - 8, by omega⟩
 generalize hR : some [zjh.enc r.1, (V.int .i64) r.2] = R
 rw [zhs, zbfq, y5, zhq]
 rw [zjx] at h
 replace h := br h; rcases h with ⟨h1, h⟩ | ⟨h1, h⟩
 ·cases h; subst hR; simp only [zbsr, simprocAttr, *]
 ·replace h := br h; rcases h with ⟨h2, h⟩ | ⟨h2, h⟩
  ·replace h := br h; rcases h with ⟨h3, h⟩ | ⟨h3, h⟩
   ·replace h := ob h; obtain ⟨r1, h4, h⟩ := h
    replace h4 := zbso q (M + 7) (by omega) _ _ h4
    try simp only [kf, simprocAttr] at h4
    replace h := ob h; obtain ⟨r2, h5, h⟩ := h
    replace h5 := zbr2 q (M + 7) (by omega) _ _ h5
    replace h := bn h; obtain ⟨h6, h⟩ := h
    cases h; subst hR; simp only [zbsr, simprocAttr, *]
   ·cases h; subst hR; simp only [zbsr, simprocAttr, *]
  ·replace h := br h; rcases h with ⟨h7, h⟩ | ⟨h7, h⟩
   ·replace h := br h; rcases h with ⟨h8, h⟩ | ⟨h8, h⟩
    ·cases h; subst hR; simp only [zbsr, simprocAttr, *]
    ·replace h := br h; rcases h with ⟨h9, h⟩ | ⟨h9, h⟩
     ·replace h := ob h; obtain ⟨e3, h10, h⟩ := h
      replace h := ob h; obtain ⟨r4, h11, h⟩ := h
      replace h11 := zbso q (M + 7) (by omega) _ _ h11
      try simp only [kf, simprocAttr] at h11
      replace h := ob h; obtain ⟨r5, h12, h⟩ := h
      replace h12 := zbsq q (M + 7) (by omega) _ _ _ _ h12
      try simp only [kf, simprocAttr] at h12
      cases h; subst hR; simp only [zbsr, simprocAttr, *]
     ·replace h := bn h; obtain ⟨h13, h⟩ := h
      replace h := ob h; obtain ⟨e6, h14, h⟩ := h
      replace h := ob h; obtain ⟨r7, h15, h⟩ := h
      replace h15 := zbso q (M + 7) (by omega) _ _ h15
      try simp only [kf, simprocAttr] at h15
      replace h := ob h; obtain ⟨r8, h16, h⟩ := h
      replace h16 := zbsq q (M + 7) (by omega) _ _ _ _ h16
      try simp only [kf, simprocAttr] at h16
      cases h; subst hR; simp only [zbsr, simprocAttr, *]
   ·cases h; subst hR; simp only [zbsr, simprocAttr, *]
def zbst (q : Nat) : Prop := ∀ (M : Nat) (hM : 8 * q ≤ M) (j : Nat) (hj : q ≤ j) (v0z : Bool) (v0l : List Int) (v1 v6 : Int) (r : Int × Bool) (_ : zjy q v0z v0l v1 v6 = some r) (R : Option (List V)) (_ : some [(V.int .i64) r.1, V.bool r.2] = R) (fr : Fr) (H : Hp) (_ : canon 0 [0, 1, 6] fr H = ([(0, (.sl v0z (List.map (V.int .i64) v0l))), (1, (.int .i64 v1)), (6, (.int .i64 v6))], [])), fin zbbf (unw T (orc T (M + 7)) (M + 7) 0 [.blk 0, .code c_83_9] (iter 0 [0, 1, 6] (exec T (orc T (M + 7)) (M + 7) 0 c_83_7) j fr H)) = R
def zbsu := And.intro @kk <| And.intro @ke <| And.intro @kn <| And.intro @zbnt <| @zbnv
theorem zbsv (q : Nat) (zbwi : zbst q) : zbst (q + 1) := by
 intro M hM j hj v0z v0l v1 v6 r h R hR fr H hc
 obtain ⟨j, rfl⟩ : ∃ i, j = i + 1 := ⟨j - 1, by omega⟩
 rw [zhj, hc]; clear hc
 rw [zjy] at h
 replace h := br h; rcases h with ⟨h1, h⟩ | ⟨h1, h⟩
 ·replace h := bn h; obtain ⟨h2, h⟩ := h
  replace h := ob h; obtain ⟨e1, h3, h⟩ := h
  replace h := br h; rcases h with ⟨h4, h⟩ | ⟨h4, h⟩
  ·replace h := zbwi M (by omega) j (by omega) _ _ _ _ _ h R hR
   simp only [zbsu, simprocAttr, *]
  ·cases h; subst hR; simp only [zbsu, simprocAttr, *]
 ·cases h; subst hR; simp only [zbsu, simprocAttr, *]
theorem zbsw : ∀ q, zbst q
 | 0 => by intro M hM j hj; intros; rename_i h _ _ _ _ _; cases h
 | q + 1 => by have i0 := zbsw q; exact zbsv q i0
theorem zbsx : ∀ (q N : Nat), 8 * q ≤ N → ∀ (a0 : (Sl Int)) (a1 : Int), ∀ (r : Int × Bool), zjz q a0 a1 = some r → (orc T N).deep F.zjz [(Sl.enc (V.int .i64)) a0, (V.int .i64) a1] = some [(V.int .i64) r.1, V.bool r.2] := by
 intro q N hM a0 a1 r h
 rcases q with _ | q
 ·cases h
 obtain ⟨M, rfl⟩ : ∃ M, N = M + 8 := ⟨N - 8, by omega⟩
 have zbwi := (zbsw q)
 generalize hR : some [(V.int .i64) r.1, V.bool r.2] = R
 rw [zhs, zbgn, y5, zhq]
 rw [zjz] at h
 replace h := zbwi M (by omega) (M + 7) (by omega) _ _ _ _ _ h R hR
 simp only [zbsu, simprocAttr, *]
def zbsy := And.intro @kk <| And.intro @ke <| And.intro @kn <| And.intro @zbnq <| And.intro @zbnu <| @zbns
theorem zbsz : ∀ (q N : Nat), 8 * q ≤ N → ∀ (a0 : (Sl Int)) (a1 : Int), ∀ (r : Int), zj0 q a0 a1 = some r → (orc T N).deep F.zj0 [(Sl.enc (V.int .i64)) a0, (V.int .i64) a1] = some [(V.int .i64) r] := by
 intro q N hM a0 a1 r h
 rcases q with _ | q
 ·cases h
 obtain ⟨M, rfl⟩ : ∃ M, N = M + 8 := ⟨N - 8, by omega⟩
 generalize hR : some [(V.int .i64) r] = R
 rw [zhs, zbgm, y5, zhq]
 rw [zj0] at h
 replace h := ob h; obtain ⟨r1, h1, h⟩ := h
 replace h1 := zbsx q (M + 7) (by omega) _ _ _ h1
 try simp only [kf, simprocAttr] at h1
 replace h := bb h; rcases h with ⟨h2', h2, h⟩ | ⟨h2', h2, h⟩
 ·replace h := bn h; obtain ⟨h3, h⟩ := h
  replace h := ob h; obtain ⟨e2, h4, h⟩ := h
  cases h; subst hR; simp only [zbsy, simprocAttr, *]
 ·cases h; subst hR; simp only [zbsy, simprocAttr, *]
def zbs0 := And.intro @kk <| And.intro @ke <| And.intro @kn <| And.intro @zbk5 <| And.intro @zbmu <| And.intro @zbnl <| And.intro @zbno <| And.intro @zbnr <| And.intro @zbnu <| @zbk7
theorem zbs1 : ∀ (q N : Nat), 8 * q ≤ N → ∀ (a0 : zjh) (a1 : zjf), ∀ (r : zjh × Int), zj1 q a0 a1 = some r → (orc T N).deep F.zj1 [zjh.enc a0, zjf.enc a1] = some [zjh.enc r.1, (V.int .i64) r.2] := by
 intro q N hM a0 a1 r h
 rcases q with _ | q
 ·cases h
 obtain ⟨M, rfl⟩ : ∃ M, N = M + 8 := ⟨N - 8, by omega⟩
 generalize hR : some [zjh.enc r.1, (V.int .i64) r.2] = R
 rw [zhs, zbfr, y5, zhq]
 rw [zj1] at h
 replace h := br h; rcases h with ⟨h1, h⟩ | ⟨h1, h⟩
 ·replace h := br h; rcases h with ⟨h2, h⟩ | ⟨h2, h⟩
  ·cases h; subst hR; simp only [zbs0, simprocAttr, *]
  ·replace h := br h; rcases h with ⟨h3, h⟩ | ⟨h3, h⟩
   ·cases h; subst hR; simp only [zbs0, simprocAttr, *]
   ·replace h := ob h; obtain ⟨r1, h4, h⟩ := h
    replace h4 := zbsz q (M + 7) (by omega) _ _ _ h4
    try simp only [kf, simprocAttr] at h4
    replace h := ob h; obtain ⟨r2, h5, h⟩ := h
    replace h5 := zbsx q (M + 7) (by omega) _ _ _ h5
    try simp only [kf, simprocAttr] at h5
    replace h := br h; rcases h with ⟨h6, h⟩ | ⟨h6, h⟩
    ·replace h := bb h; rcases h with ⟨h7', h7, h⟩ | ⟨h7', h7, h⟩
     ·replace h := ob h; obtain ⟨r3, h8, h⟩ := h
      replace h8 := zbso q (M + 7) (by omega) _ _ h8
      try simp only [kf, simprocAttr] at h8
      replace h := ob h; obtain ⟨r4, h9, h⟩ := h
      replace h9 := zbsq q (M + 7) (by omega) _ _ _ _ h9
      try simp only [kf, simprocAttr] at h9
      cases h; subst hR; simp only [zbs0, simprocAttr, *]
     ·replace h := bm h; obtain ⟨h10, h⟩ := h
      cases h; subst hR; simp only [zbs0, simprocAttr, *]
    ·replace h := bm h; obtain ⟨h11, h⟩ := h
     cases h; subst hR; simp only [zbs0, simprocAttr, *]
 ·replace h := br h; rcases h with ⟨h12, h⟩ | ⟨h12, h⟩
  ·replace h := br h; rcases h with ⟨h13, h⟩ | ⟨h13, h⟩
   ·cases h; subst hR; simp only [zbs0, simprocAttr, *]
   ·replace h := br h; rcases h with ⟨h14, h⟩ | ⟨h14, h⟩
    ·cases h; subst hR; simp only [zbs0, simprocAttr, *]
    ·replace h := ob h; obtain ⟨r7, h15, h⟩ := h
     replace h15 := zbsz q (M + 7) (by omega) _ _ _ h15
     try simp only [kf, simprocAttr] at h15
     replace h := ob h; obtain ⟨r8, h16, h⟩ := h
     replace h16 := zbsx q (M + 7) (by omega) _ _ _ h16
     try simp only [kf, simprocAttr] at h16
     replace h := bb h; rcases h with ⟨h17', h17, h⟩ | ⟨h17', h17, h⟩
     ·replace h := ob h; obtain ⟨r9, h18, h⟩ := h
      replace h18 := zbso q (M + 7) (by omega) _ _ h18
      try simp only [kf, simprocAttr] at h18
      replace h := ob h; obtain ⟨r10, h19, h⟩ := h
      replace h19 := zbsq q (M + 7) (by omega) _ _ _ _ h19
      try simp only [kf, simprocAttr] at h19
      cases h; subst hR; simp only [zbs0, simprocAttr, *]
     ·replace h := bm h; obtain ⟨h20, h⟩ := h
      cases h; subst hR; simp only [zbs0, simprocAttr, *]
  ·replace h := br h; rcases h with ⟨h21, h⟩ | ⟨h21, h⟩
   ·replace h := br h; rcases h with ⟨h22, h⟩ | ⟨h22, h⟩
    ·cases h; subst hR; simp only [zbs0, simprocAttr, *]
    ·replace h := br h; rcases h with ⟨h23, h⟩ | ⟨h23, h⟩
     ·cases h; subst hR; simp only [zbs0, simprocAttr, *]
     ·replace h := ob h; obtain ⟨r12, h24, h⟩ := h
      replace h24 := zbsz q (M + 7) (by omega) _ _ _ h24
      try simp only [kf, simprocAttr] at h24
      replace h := ob h; obtain ⟨r13, h25, h⟩ := h
      replace h25 := zbsx q (M + 7) (by omega) _ _ _ h25
      try simp only [kf, simprocAttr] at h25
      cases h
   ·cases h; subst hR; simp only [zbs0, simprocAttr, *]
def zbs2 := And.intro @kk <| And.intro @ke <| And.intro @kn <| And.intro @zbnw <| And.intro @zbnr <| @zbny
theorem zbs3 : ∀ (q N : Nat), 8 * q ≤ N → ∀ (a0 : zjh) (a1 : zjf), ∀ (r : zjh × Int), zj2 q a0 a1 = some r → (orc T N).deep F.zj2 [zjh.enc a0, zjf.enc a1] = some [zjh.enc r.1, (V.int .i64) r.2] := by
 intro q N hM a0 a1 r h
 rcases q with _ | q
 ·cases h
 obtain ⟨M, rfl⟩ : ∃ M, N = M + 8 := ⟨N - 8, by omega⟩
 generalize hR : some [zjh.enc r.1, (V.int .i64) r.2] = R
 rw [zhs, zbgo, y5, zhq]
 rw [zj2] at h
 replace h := br h; rcases h with ⟨h1, h⟩ | ⟨h1, h⟩
 ·cases h; subst hR; simp only [zbs2, simprocAttr, *]
 ·replace h := br h; rcases h with ⟨h2, h⟩ | ⟨h2, h⟩
  ·cases h; subst hR; simp only [zbs2, simprocAttr, *]
  ·replace h := br h; rcases h with ⟨h3, h⟩ | ⟨h3, h⟩
   ·cases h; subst hR; simp only [zbs2, simprocAttr, *]
   ·replace h := ob h; obtain ⟨r1, h4, h⟩ := h
    replace h4 := zbsz q (M + 7) (by omega) _ _ _ h4
    try simp only [kf, simprocAttr] at h4
    replace h := ob h; obtain ⟨r2, h5, h⟩ := h
    replace h5 := zbsz q (M + 7) (by omega) _ _ _ h5
    try simp only [kf, simprocAttr] at h5
    replace h := br h; rcases h with ⟨h6, h⟩ | ⟨h6, h⟩
    ·cases h; subst hR; simp only [zbs2, simprocAttr, *]
    ·replace h := bn h; obtain ⟨h7, h⟩ := h
     cases h; subst hR; simp only [zbs2, simprocAttr, *]
def zbs4 := And.intro @kk <| And.intro @ke <| And.intro @kn <| And.intro @zbk8 <| And.intro @zbmu <| And.intro @zbnr <| And.intro @zbnx <| @zbla
theorem zbs5 : ∀ (q N : Nat), 8 * q ≤ N → ∀ (a0 : zjh) (a1 : zjf), ∀ (r : zjh × Int), zj3 q a0 a1 = some r → (orc T N).deep F.zj3 [zjh.enc a0, zjf.enc a1] = some [zjh.enc r.1, (V.int .i64) r.2] := by
 intro q N hM a0 a1 r h
 rcases q with _ | q
 ·cases h
 obtain ⟨M, rfl⟩ : ∃ M, N = M + 8 := ⟨N - 8, by omega⟩
 generalize hR : some [zjh.enc r.1, (V.int .i64) r.2] = R
 rw [zhs, zbfs, y5, zhq]
 rw [zj3] at h
 replace h := br h; rcases h with ⟨h1, h⟩ | ⟨h1, h⟩
 ·replace h := ob h; obtain ⟨r1, h2, h⟩ := h
  replace h2 := zbs3 q (M + 7) (by omega) _ _ _ h2
  try simp only [kf, simprocAttr] at h2
  cases h; subst hR; simp only [zbs4, simprocAttr, *]
 ·replace h := br h; rcases h with ⟨h3, h⟩ | ⟨h3, h⟩
  ·replace h := br h; rcases h with ⟨h4, h⟩ | ⟨h4, h⟩
   ·cases h; subst hR; simp only [zbs4, simprocAttr, *]
   ·replace h := br h; rcases h with ⟨h5, h⟩ | ⟨h5, h⟩
    ·cases h; subst hR; simp only [zbs4, simprocAttr, *]
    ·replace h := ob h; obtain ⟨r2, h6, h⟩ := h
     replace h6 := zbsz q (M + 7) (by omega) _ _ _ h6
     try simp only [kf, simprocAttr] at h6
     cases h; subst hR; simp only [zbs4, simprocAttr, *]
  ·replace h := br h; rcases h with ⟨h7, h⟩ | ⟨h7, h⟩
   ·replace h := br h; rcases h with ⟨h8, h⟩ | ⟨h8, h⟩
    ·cases h; subst hR; simp only [zbs4, simprocAttr, *]
    ·replace h := br h; rcases h with ⟨h9, h⟩ | ⟨h9, h⟩
     ·cases h; subst hR; simp only [zbs4, simprocAttr, *]
     ·replace h := br h; rcases h with ⟨h10, h⟩ | ⟨h10, h⟩
      ·cases h; subst hR; simp only [zbs4, simprocAttr, *]
      ·replace h := ob h; obtain ⟨r3, h11, h⟩ := h
       replace h11 := zbsz q (M + 7) (by omega) _ _ _ h11
       try simp only [kf, simprocAttr] at h11
       replace h := ob h; obtain ⟨r4, h12, h⟩ := h
       replace h12 := zbr2 q (M + 7) (by omega) _ _ h12
       replace h := ob h; obtain ⟨r5, h13, h⟩ := h
       replace h13 := zbr2 q (M + 7) (by omega) _ _ h13
       cases h
   ·cases h; subst hR; simp only [zbs4, simprocAttr, *]
def zbs6 := And.intro @kk <| And.intro @ke <| And.intro @kn <| And.intro @zbiz <| And.intro @zbj3 <| And.intro @zbk0 <| And.intro @zbk3 <| And.intro @zbk6 <| And.intro @zbk9 <| @zbi1
theorem zbs7 : ∀ (q N : Nat), 8 * q ≤ N → ∀ (a0 : zjh) (a1 : zjf), ∀ (r : zjh × Int), zj4 q a0 a1 = some r → (orc T N).deep F.zj4 [zjh.enc a0, zjf.enc a1] = some [zjh.enc r.1, (V.int .i64) r.2] := by
 intro q N hM a0 a1 r h
 rcases q with _ | q
 ·cases h
 obtain ⟨M, rfl⟩ : ∃ M, N = M + 8 := ⟨N - 8, by omega⟩
 generalize hR : some [zjh.enc r.1, (V.int .i64) r.2] = R
 rw [zhs, zbe1, y5, zhq]
 rw [zj4] at h
 replace h := ob h; obtain ⟨r1, h1, h⟩ := h
 replace h1 := zbsk q (M + 7) (by omega) _ _ h1
 try simp only [kf, simprocAttr] at h1
 replace h := bb h; rcases h with ⟨h2', h2, h⟩ | ⟨h2', h2, h⟩
 ·replace h := bb h; rcases h with ⟨h3', h3, h⟩ | ⟨h3', h3, h⟩
  ·cases h; subst hR; simp only [zbs6, simprocAttr, *]
  ·replace h := br h; rcases h with ⟨h4, h⟩ | ⟨h4, h⟩
   ·replace h := br h; rcases h with ⟨h5, h⟩ | ⟨h5, h⟩
    ·replace h := br h; rcases h with ⟨h6, h⟩ | ⟨h6, h⟩
     ·cases h; subst hR; simp only [zbs6, simprocAttr, *]
     ·cases h; subst hR; simp only [zbs6, simprocAttr, *]
    ·cases h; subst hR; simp only [zbs6, simprocAttr, *]
   ·replace h := br h; rcases h with ⟨h7, h⟩ | ⟨h7, h⟩
    ·replace h := ob h; obtain ⟨r2, h8, h⟩ := h
     replace h8 := zbsm q (M + 7) (by omega) _ _ _ h8
     try simp only [kf, simprocAttr] at h8
     cases h; subst hR; simp only [zbs6, simprocAttr, *]
    ·replace h := br h; rcases h with ⟨h9, h⟩ | ⟨h9, h⟩
     ·replace h := ob h; obtain ⟨r3, h10, h⟩ := h
      replace h10 := zbsm q (M + 7) (by omega) _ _ _ h10
      try simp only [kf, simprocAttr] at h10
      cases h; subst hR; simp only [zbs6, simprocAttr, *]
     ·replace h := br h; rcases h with ⟨h11, h⟩ | ⟨h11, h⟩
      ·replace h := ob h; obtain ⟨r4, h12, h⟩ := h
       replace h12 := zbss q (M + 7) (by omega) _ _ _ h12
       try simp only [kf, simprocAttr] at h12
       cases h; subst hR; simp only [zbs6, simprocAttr, *]
      ·replace h := br h; rcases h with ⟨h13, h⟩ | ⟨h13, h⟩
       ·replace h := ob h; obtain ⟨r5, h14, h⟩ := h
        replace h14 := zbss q (M + 7) (by omega) _ _ _ h14
        try simp only [kf, simprocAttr] at h14
        cases h; subst hR; simp only [zbs6, simprocAttr, *]
       ·replace h := br h; rcases h with ⟨h15, h⟩ | ⟨h15, h⟩
        ·replace h := ob h; obtain ⟨r6, h16, h⟩ := h
         replace h16 := zbs1 q (M + 7) (by omega) _ _ _ h16
         try simp only [kf, simprocAttr] at h16
         cases h; subst hR; simp only [zbs6, simprocAttr, *]
        ·replace h := ob h; obtain ⟨r7, h17, h⟩ := h
         replace h17 := zbs5 q (M + 7) (by omega) _ _ _ h17
         try simp only [kf, simprocAttr] at h17
         cases h; subst hR; simp only [zbs6, simprocAttr, *]
 ·cases h; subst hR; simp only [zbs6, simprocAttr, *]
def zbs8 := And.intro @kk <| And.intro @ke <| And.intro @kn <| And.intro @zble <| @zblg
theorem zbs9 : ∀ (q N : Nat), 8 * q ≤ N → ∀ (a0 : (Sl zji)), ∀ (r : (Ow zji)), zj5 q a0 = some r → (orc T N).deep F.zj5 [(Sl.enc zji.enc) a0] = some [(Ow.enc 3 zji.enc) r] := by
 intro q N hM a0 r h
 rcases q with _ | q
 ·cases h
 obtain ⟨M, rfl⟩ : ∃ M, N = M + 8 := ⟨N - 8, by omega⟩
 generalize hR : some [(Ow.enc 3 zji.enc) r] = R
 rw [zhs, zbfu, y5, zhq]
 rw [zj5] at h
 replace h := bb h; rcases h with ⟨h1', h1, h⟩ | ⟨h1', h1, h⟩
 ·cases h; subst hR; simp only [zbs8, simprocAttr, *]
 ·replace h := bn h; obtain ⟨h2, h⟩ := h
  cases h; subst hR; simp only [zbs8, simprocAttr, *]
def zbta := And.intro @kk <| And.intro @ke <| And.intro @kn <| And.intro @zblq <| @zbls
theorem zbtb : ∀ (q N : Nat), 8 * q ≤ N → ∀ (a0 : (Ow zji)) (a1 : Int) (a2 : (Sl zji)), ∀ (r : (Ow zji)), zj6 q a0 a1 a2 = some r → (orc T N).deep F.zj6 [(Ow.enc 3 zji.enc) a0, (V.int .i64) a1, (Sl.enc zji.enc) a2] = some [(Ow.enc 3 zji.enc) r] := by
 intro q N hM a0 a1 a2 r h
 rcases q with _ | q
 ·cases h
 obtain ⟨M, rfl⟩ : ∃ M, N = M + 8 := ⟨N - 8, by omega⟩
 generalize hR : some [(Ow.enc 3 zji.enc) r] = R
 rw [zhs, zbfy, y5, zhq]
 rw [zj6] at h
 replace h := bn h; obtain ⟨h1, h⟩ := h
 replace h := bn h; obtain ⟨h2, h⟩ := h
 replace h := br h; rcases h with ⟨h3, h⟩ | ⟨h3, h⟩
 ·cases h; subst hR; simp only [zbta, simprocAttr, *]
 ·replace h := bn h; obtain ⟨h4, h⟩ := h
  replace h := bn h; obtain ⟨h5, h⟩ := h
  cases h; subst hR; simp only [zbta, simprocAttr, *]
def zbtc (q : Nat) : Prop := ∀ (M : Nat) (hM : 8 * q ≤ M) (j : Nat) (hj : q ≤ j) (w1 : Nat) (v7 v8 h0_0 h0_1 h0_2 h0_3 h0_4 h0_5 h0_6 : Int) (h1z : Bool) (h1l : List zji) (h1x : Bool) (r : Int) (_ : zj7 q v7 v8 h0_0 h0_1 h0_2 h0_3 h0_4 h0_5 h0_6 h1z h1l h1x = some r) (R : Option (List V × Hp)) (_ : (some ([(.int .i64 r)], [(.box [(.int .i64 h0_0), (.int .i64 h0_1), (.int .i64 h0_2), (.int .i64 h0_3), (.int .i64 h0_4), (.int .i64 h0_5), (.int .i64 h0_6)]), (.row w1 h1z 3 (List.map zji.enc h1l) h1x)]) : Option (List V × Hp)) = R) (fr : Fr) (H : Hp) (_ : canon 2 [0, 1, 7, 8] fr H = ([(0, (.vw 1 w1 0 h1l.length 1)), (1, (.fn F.znh [(.ptr 0 0)])), (7, (.int .i64 v7)), (8, (.int .i64 v8))], [(.box [(.int .i64 h0_0), (.int .i64 h0_1), (.int .i64 h0_2), (.int .i64 h0_3), (.int .i64 h0_4), (.int .i64 h0_5), (.int .i64 h0_6)]), (.row w1 h1z 3 (List.map zji.enc h1l) h1x)])), finI 2 false [.tmp 4] (unw T (orc T (M + 5)) (M + 5) 2 [.blk 0, .code z4f] (iter 2 [0, 1, 7, 8] (exec T (orc T (M + 5)) (M + 5) 2 z4c) j fr H)) = R
def zbtd := And.intro @kk <| And.intro @ke <| And.intro @kn <| And.intro @zblh <| And.intro @zblk <| And.intro @zbli <| @zblj
theorem zbte (q : Nat) (zbwj : zbtc q) : zbtc (q + 1) := by
 intro M hM j hj w1 v7 v8 h0_0 h0_1 h0_2 h0_3 h0_4 h0_5 h0_6 h1z h1l h1x r h R hR fr H hc
 obtain ⟨j, rfl⟩ : ∃ i, j = i + 1 := ⟨j - 1, by omega⟩
 rw [zhj, hc]; clear hc
 rw [zj7] at h
 replace h := br h; rcases h with ⟨h1, h⟩ | ⟨h1, h⟩
 ·replace h := bn h; obtain ⟨h2, h⟩ := h
  replace h := bn h; obtain ⟨h3, h⟩ := h
  replace h := ob h; obtain ⟨e1, h4, h⟩ := h
  replace h := br h; rcases h with ⟨h5, h⟩ | ⟨h5, h⟩
  ·cases h; subst hR; simp only [zbtd, simprocAttr, *]
  ·replace h := zbwj M (by omega) j (by omega) w1 _ _ _ _ _ _ _ _ _ _ _ _ _ h R hR
   simp only [zbtd, simprocAttr, *]
 ·cases h; subst hR; simp only [zbtd, simprocAttr, *]
theorem zbtf : ∀ q, zbtc q
 | 0 => by intro M hM j hj; intros; rename_i h _ _ _ _ _; cases h
 | q + 1 => by have i0 := zbtf q; exact zbte q i0
theorem zbtg : ∀ (q M : Nat), 8 * q ≤ M → ∀ (w1 : Nat), ∀ (h0_0 h0_1 h0_2 h0_3 h0_4 h0_5 h0_6 : Int), ∀ (h1z : Bool), ∀ (h1l : List zji), ∀ (h1x : Bool), ∀ (r : Int), zj8 q h0_0 h0_1 h0_2 h0_3 h0_4 h0_5 h0_6 h1z h1l h1x = some r → (orc T (M + 6)).inl F.zni [(.vw 1 w1 0 h1l.length 1), (.fn F.znh [(.ptr 0 0)])] [(.box [(.int .i64 h0_0), (.int .i64 h0_1), (.int .i64 h0_2), (.int .i64 h0_3), (.int .i64 h0_4), (.int .i64 h0_5), (.int .i64 h0_6)]), (.row w1 h1z 3 (List.map zji.enc h1l) h1x)] = (some ([(.int .i64 r)], [(.box [(.int .i64 h0_0), (.int .i64 h0_1), (.int .i64 h0_2), (.int .i64 h0_3), (.int .i64 h0_4), (.int .i64 h0_5), (.int .i64 h0_6)]), (.row w1 h1z 3 (List.map zji.enc h1l) h1x)]) : Option (List V × Hp)) := by
 intro q M hM w1 h0_0 h0_1 h0_2 h0_3 h0_4 h0_5 h0_6 h1z h1l h1x r h
 rcases q with _ | q
 ·cases h
 have zbwj := (zbtf q)
 generalize hR : (some ([(.int .i64 r)], [(.box [(.int .i64 h0_0), (.int .i64 h0_1), (.int .i64 h0_2), (.int .i64 h0_3), (.int .i64 h0_4), (.int .i64 h0_5), (.int .i64 h0_6)]), (.row w1 h1z 3 (List.map zji.enc h1l) h1x)]) : Option (List V × Hp)) = R
 rw [zblm (n := M + 5)]
 rw [zj8] at h
 replace h := zbwj M (by omega) (M + 5) (by omega) w1 _ _ _ _ _ _ _ _ _ _ _ _ _ h R hR
 simp only [zbtd, simprocAttr, *]
def zbth (q : Nat) : Prop := ∀ (M : Nat) (hM : 8 * q ≤ M) (j : Nat) (hj : q ≤ j) (w1 : Nat) (v5 v6 h0_0 h0_1 h0_2 h0_3 h0_4 h0_5 h0_6 : Int) (h1z : Bool) (h1l : List zji) (h1x : Bool) (r : Nat × (List zji) × Bool) (_ : zj9 q v5 v6 h0_0 h0_1 h0_2 h0_3 h0_4 h0_5 h0_6 h1z h1l h1x = some r) (R : Option (List V × Hp)) (_ : (some ([(.vw 1 w1 0 r.1 0)], [(.box [(.int .i64 h0_0), (.int .i64 h0_1), (.int .i64 h0_2), (.int .i64 h0_3), (.int .i64 h0_4), (.int .i64 h0_5), (.int .i64 h0_6)]), (.row w1 h1z 3 (List.map zji.enc r.2.1) r.2.2)]) : Option (List V × Hp)) = R) (fr : Fr) (H : Hp) (_ : canon 2 [0, 1, 5, 6] fr H = ([(0, (.vw 1 w1 0 h1l.length 1)), (1, (.fn F.znh [(.ptr 0 0)])), (5, (.int .i64 v5)), (6, (.int .i64 v6))], [(.box [(.int .i64 h0_0), (.int .i64 h0_1), (.int .i64 h0_2), (.int .i64 h0_3), (.int .i64 h0_4), (.int .i64 h0_5), (.int .i64 h0_6)]), (.row w1 h1z 3 (List.map zji.enc h1l) h1x)])), finI 2 true [.tmp 4] (unw T (orc T (M + 6)) (M + 6) 2 [.blk 0, .code z3z] (iter 2 [0, 1, 5, 6] (exec T (orc T (M + 6)) (M + 6) 2 z3u) j fr H)) = R
def zbti := And.intro @kk <| And.intro @ke <| And.intro @kn <| And.intro @zblb <| And.intro @zblh <| And.intro @zbll <| And.intro @zbli <| @zblj
theorem zbtj (q : Nat) (zbwk : zbth q) : zbth (q + 1) := by
 intro M hM j hj w1 v5 v6 h0_0 h0_1 h0_2 h0_3 h0_4 h0_5 h0_6 h1z h1l h1x r h R hR fr H hc
 obtain ⟨j, rfl⟩ : ∃ i, j = i + 1 := ⟨j - 1, by omega⟩
 rw [zhj, hc]; clear hc
 rw [zj9] at h
 replace h := br h; rcases h with ⟨h1, h⟩ | ⟨h1, h⟩
 ·replace h := bn h; obtain ⟨h2, h⟩ := h
  replace h := bn h; obtain ⟨h3, h⟩ := h
  replace h := ob h; obtain ⟨e2, h4, h⟩ := h
  replace h := br h; rcases h with ⟨h5, h⟩ | ⟨h5, h⟩
  ·replace h := zbwk M (by omega) j (by omega) w1 _ _ _ _ _ _ _ _ _ _ _ _ _ h R hR
   simp only [zbti, simprocAttr, *]
  ·replace h := bn h; obtain ⟨h6, h⟩ := h
   replace h := bn h; obtain ⟨h7, h⟩ := h
   replace h := ob h; obtain ⟨e3, h8, h⟩ := h
   replace h := bb h; rcases h with ⟨h9', h9, h⟩ | ⟨h9', h9, h⟩
   ·replace h := zbwk M (by omega) j (by omega) w1 _ _ _ _ _ _ _ _ _ _ _ _ _ h R hR
    simp only [zbti, simprocAttr, *]
   ·cases h
 ·replace h := bn h; obtain ⟨h10, h⟩ := h
  replace h := bn h; obtain ⟨h11, h⟩ := h
  replace h := bb h; rcases h with ⟨h12', h12, h⟩ | ⟨h12', h12, h⟩
  ·replace h := bn h; obtain ⟨h13, h⟩ := h
   replace h := bb h; rcases h with ⟨h14', h14, h⟩ | ⟨h14', h14, h⟩
   ·cases h; subst hR; simp only [zbti, simprocAttr, *]
   ·cases h; subst hR; simp only [zbti, simprocAttr, *]
  ·cases h
theorem zbtk : ∀ q, zbth q
 | 0 => by intro M hM j hj; intros; rename_i h _ _ _ _ _; cases h
 | q + 1 => by have i0 := zbtk q; exact zbtj q i0
theorem zbtl : ∀ (q M : Nat), 8 * q ≤ M → ∀ (w1 : Nat), ∀ (h0_0 h0_1 h0_2 h0_3 h0_4 h0_5 h0_6 : Int), ∀ (h1z : Bool), ∀ (h1l : List zji), ∀ (h1x : Bool), ∀ (r : Nat × (List zji) × Bool), zka q h0_0 h0_1 h0_2 h0_3 h0_4 h0_5 h0_6 h1z h1l h1x = some r → (orc T (M + 7)).inl F.zng [(.vw 1 w1 0 h1l.length 1), (.fn F.znh [(.ptr 0 0)])] [(.box [(.int .i64 h0_0), (.int .i64 h0_1), (.int .i64 h0_2), (.int .i64 h0_3), (.int .i64 h0_4), (.int .i64 h0_5), (.int .i64 h0_6)]), (.row w1 h1z 3 (List.map zji.enc h1l) h1x)] = (some ([(.vw 1 w1 0 r.1 0)], [(.box [(.int .i64 h0_0), (.int .i64 h0_1), (.int .i64 h0_2), (.int .i64 h0_3), (.int .i64 h0_4), (.int .i64 h0_5), (.int .i64 h0_6)]), (.row w1 h1z 3 (List.map zji.enc r.2.1) r.2.2)]) : Option (List V × Hp)) := by
 intro q M hM w1 h0_0 h0_1 h0_2 h0_3 h0_4 h0_5 h0_6 h1z h1l h1x r h
 rcases q with _ | q
 ·cases h
 have zbwk := (zbtk q)
 generalize hR : (some ([(.vw 1 w1 0 r.1 0)], [(.box [(.int .i64 h0_0), (.int .i64 h0_1), (.int .i64 h0_2), (.int .i64 h0_3), (.int .i64 h0_4), (.int .i64 h0_5), (.int .i64 h0_6)]), (.row w1 h1z 3 (List.map zji.enc r.2.1) r.2.2)]) : Option (List V × Hp)) = R
 rw [zbld (n := M + 6)]
 rw [zka] at h
 replace h := ob h; obtain ⟨r1, h1, h⟩ := h
 replace h1 := zbtg q M (by omega) w1 _ _ _ _ _ _ _ _ _ _ _ h1
 try simp only [kf, simprocAttr] at h1
 replace h := br h; rcases h with ⟨h2, h⟩ | ⟨h2, h⟩
 ·cases h; subst hR; simp only [zbti, simprocAttr, *]
 ·replace h := zbwk M (by omega) (M + 6) (by omega) w1 _ _ _ _ _ _ _ _ _ _ _ _ _ h R hR
  simp only [zbti, simprocAttr, *]
def zbtm (q : Nat) : Prop := ∀ (M : Nat) (hM : 8 * q ≤ M) (j : Nat) (hj : q ≤ j) (w1 v0len : Nat) (v7 v8 h0_0 h0_1 h0_2 h0_3 h0_4 h0_5 h0_6 : Int) (h1z : Bool) (h1l : List zji) (h1x : Bool) (r : Int) (_ : zkb q v0len v7 v8 h0_0 h0_1 h0_2 h0_3 h0_4 h0_5 h0_6 h1z h1l h1x = some r) (R : Option (List V × Hp)) (_ : (some ([(.int .i64 r)], [(.box [(.int .i64 h0_0), (.int .i64 h0_1), (.int .i64 h0_2), (.int .i64 h0_3), (.int .i64 h0_4), (.int .i64 h0_5), (.int .i64 h0_6)]), (.row w1 h1z 3 (List.map zji.enc h1l) h1x)]) : Option (List V × Hp)) = R) (fr : Fr) (H : Hp) (_ : canon 2 [0, 1, 7, 8] fr H = ([(0, (.vw 1 w1 0 v0len 0)), (1, (.fn F.znj [(.ptr 0 0)])), (7, (.int .i64 v7)), (8, (.int .i64 v8))], [(.box [(.int .i64 h0_0), (.int .i64 h0_1), (.int .i64 h0_2), (.int .i64 h0_3), (.int .i64 h0_4), (.int .i64 h0_5), (.int .i64 h0_6)]), (.row w1 h1z 3 (List.map zji.enc h1l) h1x)])), finI 2 false [.tmp 4] (unw T (orc T (M + 6)) (M + 6) 2 [.blk 0, .code z4f] (iter 2 [0, 1, 7, 8] (exec T (orc T (M + 6)) (M + 6) 2 z4c) j fr H)) = R
def zbtn := And.intro @kk <| And.intro @ke <| And.intro @kn <| And.intro @zblk <| And.intro @zbln <| And.intro @zblo <| @zblp
theorem zbto (q : Nat) (zbwl : zbtm q) : zbtm (q + 1) := by
 intro M hM j hj w1 v0len v7 v8 h0_0 h0_1 h0_2 h0_3 h0_4 h0_5 h0_6 h1z h1l h1x r h R hR fr H hc
 obtain ⟨j, rfl⟩ : ∃ i, j = i + 1 := ⟨j - 1, by omega⟩
 rw [zhj, hc]; clear hc
 rw [zkb] at h
 replace h := br h; rcases h with ⟨h1, h⟩ | ⟨h1, h⟩
 ·replace h := bn h; obtain ⟨h2, h⟩ := h
  replace h := bn h; obtain ⟨h3, h⟩ := h
  replace h := ob h; obtain ⟨e1, h4, h⟩ := h
  replace h := br h; rcases h with ⟨h5, h⟩ | ⟨h5, h⟩
  ·cases h; subst hR; simp only [zbtn, simprocAttr, *]
  ·replace h := zbwl M (by omega) j (by omega) w1 _ _ _ _ _ _ _ _ _ _ _ _ _ _ h R hR
   simp only [zbtn, simprocAttr, *]
 ·cases h; subst hR; simp only [zbtn, simprocAttr, *]
theorem zbtp : ∀ q, zbtm q
 | 0 => by intro M hM j hj; intros; rename_i h _ _ _ _ _; cases h
 | q + 1 => by have i0 := zbtp q; exact zbto q i0
theorem zbtq : ∀ (q M : Nat), 8 * q ≤ M → ∀ (w1 v0len : Nat), ∀ (h0_0 h0_1 h0_2 h0_3 h0_4 h0_5 h0_6 : Int), ∀ (h1z : Bool), ∀ (h1l : List zji), ∀ (h1x : Bool), ∀ (r : Int), zkc q v0len h0_0 h0_1 h0_2 h0_3 h0_4 h0_5 h0_6 h1z h1l h1x = some r → (orc T (M + 7)).inl F.zni [(.vw 1 w1 0 v0len 0), (.fn F.znj [(.ptr 0 0)])] [(.box [(.int .i64 h0_0), (.int .i64 h0_1), (.int .i64 h0_2), (.int .i64 h0_3), (.int .i64 h0_4), (.int .i64 h0_5), (.int .i64 h0_6)]), (.row w1 h1z 3 (List.map zji.enc h1l) h1x)] = (some ([(.int .i64 r)], [(.box [(.int .i64 h0_0), (.int .i64 h0_1), (.int .i64 h0_2), (.int .i64 h0_3), (.int .i64 h0_4), (.int .i64 h0_5), (.int .i64 h0_6)]), (.row w1 h1z 3 (List.map zji.enc h1l) h1x)]) : Option (List V × Hp)) := by
 intro q M hM w1 v0len h0_0 h0_1 h0_2 h0_3 h0_4 h0_5 h0_6 h1z h1l h1x r h
 rcases q with _ | q
 ·cases h
 have zbwl := (zbtp q)
 generalize hR : (some ([(.int .i64 r)], [(.box [(.int .i64 h0_0), (.int .i64 h0_1), (.int .i64 h0_2), (.int .i64 h0_3), (.int .i64 h0_4), (.int .i64 h0_5), (.int .i64 h0_6)]), (.row w1 h1z 3 (List.map zji.enc h1l) h1x)]) : Option (List V × Hp)) = R
 rw [zblm (n := M + 6)]
 rw [zkc] at h
 replace h := zbwl M (by omega) (M + 6) (by omega) w1 _ _ _ _ _ _ _ _ _ _ _ _ _ _ h R hR
 simp only [zbtn, simprocAttr, *]
def zbtr := And.intro @kk <| And.intro @ke <| And.intro @kn <| And.intro @zbi2 <| And.intro @zblc <| And.intro @zblf <| And.intro @zbll <| And.intro @zblr <| @zbi4
theorem zbts : ∀ (q N : Nat), 8 * q ≤ N → ∀ (a0 : (Sl zji)) (a1 : zjg), ∀ (r : (Ow zji)), zkd q a0 a1 = some r → (orc T N).deep F.zkd [(Sl.enc zji.enc) a0, zjg.enc a1] = some [(Ow.enc 3 zji.enc) r] := by
 intro q N hM a0 a1 r h
 rcases q with _ | q
 ·cases h
 obtain ⟨M, rfl⟩ : ∃ M, N = M + 8 := ⟨N - 8, by omega⟩
 generalize hR : some [(Ow.enc 3 zji.enc) r] = R
 rw [zhs, zbe2, y5, zhq]
 rw [zkd] at h
 replace h := ob h; obtain ⟨r1, h1, h⟩ := h
 replace h1 := zbs9 q (M + 7) (by omega) _ _ h1
 try simp only [kf, simprocAttr] at h1
 replace h := ob h; obtain ⟨r2, h2, h⟩ := h
 replace h2 := zbtl q M (by omega) 0 _ _ _ _ _ _ _ _ _ _ _ h2
 try simp only [kf, simprocAttr] at h2
 replace h := ob h; obtain ⟨r3, h3, h⟩ := h
 replace h3 := zbtq q M (by omega) 0 _ _ _ _ _ _ _ _ _ _ _ _ h3
 try simp only [kf, simprocAttr] at h3
 replace h := br h; rcases h with ⟨h4, h⟩ | ⟨h4, h⟩
 ·replace h := bb h; rcases h with ⟨h5', h5, h⟩ | ⟨h5', h5, h⟩
  ·replace h := ob h; obtain ⟨r4, h6, h⟩ := h
   replace h6 := zbtb q (M + 7) (by omega) _ _ _ _ h6
   try simp only [kf, simprocAttr] at h6
   cases h; subst hR; simp only [zbtr, simprocAttr, *]
  ·cases h
 ·replace h := bb h; rcases h with ⟨h7', h7, h⟩ | ⟨h7', h7, h⟩
  ·replace h := ob h; obtain ⟨r5, h8, h⟩ := h
   replace h8 := zbtb q (M + 7) (by omega) _ _ _ _ h8
   try simp only [kf, simprocAttr] at h8
   cases h; subst hR; simp only [zbtr, simprocAttr, *]
  ·cases h
def zbtt (q : Nat) : Prop := ∀ (M : Nat) (hM : 8 * q ≤ M) (j : Nat) (hj : q ≤ j) (v8z : Bool) (v8l : List zjg) (v9 h0_0 h0_1 : Int) (h0_2z : Bool) (h0_2l : List Int) (h0_3 : Bool) (h0_4 : Int) (h0_5z : Bool) (h0_5l : List zji) (r : zjj × Int) (_ : zkf q v8z v8l v9 h0_0 h0_1 h0_2z h0_2l h0_3 h0_4 h0_5z h0_5l = some r) (R : Option (List V)) (_ : some [zjj.enc r.1, (V.int .i64) r.2] = R) (fr : Fr) (H : Hp) (_ : canon 0 [2, 4, 8, 9, 10] fr H = ([(2, (.ptr 0 0)), (4, (.ptr 1 0)), (8, (.sl v8z (List.map zjg.enc v8l))), (9, (.int .i64 v9)), (10, (.int .i64 0))], [(.box [(.int .i64 h0_0), (.int .i64 h0_1), (.sl h0_2z (List.map (V.int .i64) h0_2l)), (.bool h0_3), (.int .i64 h0_4), (.sl h0_5z (List.map zji.enc h0_5l))]), (.box [(.int .i64 0), (.int .i64 0), (.sl true []), (.bool false), (.int .i64 0), (.sl true [])])])), fin zn4 (unw T (orc T (M + 7)) (M + 7) 0 [.blk 0, .code c_8_23] (iter 0 [2, 4, 8, 9, 10] (exec T (orc T (M + 7)) (M + 7) 0 c_8_20) j fr H)) = R
def zbtu (q : Nat) : Prop := ∀ (M : Nat) (hM : 8 * q ≤ M) (j : Nat) (hj : q ≤ j) (v8z : Bool) (v8l : List zjg) (v9 v10 h0_0 h0_1 : Int) (h0_2z : Bool) (h0_2l : List Int) (h0_3 : Bool) (h0_4 : Int) (h2z : Bool) (h2l : List zji) (h2x : Bool) (r : zjj × Int) (_ : zke q v8z v8l v9 v10 h0_0 h0_1 h0_2z h0_2l h0_3 h0_4 h2z h2l h2x = some r) (R : Option (List V)) (_ : some [zjj.enc r.1, (V.int .i64) r.2] = R) (fr : Fr) (H : Hp) (_ : canon 0 [2, 4, 8, 9, 10] fr H = ([(2, (.ptr 0 0)), (4, (.ptr 1 0)), (8, (.sl v8z (List.map zjg.enc v8l))), (9, (.int .i64 v9)), (10, (.int .i64 v10))], [(.box [(.int .i64 h0_0), (.int .i64 h0_1), (.sl h0_2z (List.map (V.int .i64) h0_2l)), (.bool h0_3), (.int .i64 h0_4), (.vw 2 0 0 h2l.length 1)]), (.box [(.int .i64 0), (.int .i64 0), (.sl true []), (.bool false), (.int .i64 0), (.sl true [])]), (.row 0 h2z 3 (List.map zji.enc h2l) h2x)])), fin zn4 (unw T (orc T (M + 7)) (M + 7) 0 [.blk 0, .code c_8_23] (iter 0 [2, 4, 8, 9, 10] (exec T (orc T (M + 7)) (M + 7) 0 c_8_20) j fr H)) = R
def zbtv := And.intro @kk <| And.intro @ke <| And.intro @kn <| And.intro @zbhk <| And.intro @zbix <| And.intro @zbi0 <| And.intro @zbi3 <| @zbhm
theorem zbtw (q : Nat) (zbwm : zbtu q) : zbtt (q + 1) := by
 intro M hM j hj v8z v8l v9 h0_0 h0_1 h0_2z h0_2l h0_3 h0_4 h0_5z h0_5l r h R hR fr H hc
 obtain ⟨j, rfl⟩ : ∃ i, j = i + 1 := ⟨j - 1, by omega⟩
 rw [zhj, hc]; clear hc
 rw [zkf] at h
 replace h := br h; rcases h with ⟨h1, h⟩ | ⟨h1, h⟩
 ·replace h := ob h; obtain ⟨e1, h2, h⟩ := h
  replace h := br h; rcases h with ⟨h3, h⟩ | ⟨h3, h⟩
  ·replace h := ob h; obtain ⟨r2, h4, h⟩ := h
   replace h4 := zbr6 q (M + 7) (by omega) _ _ h4
   try simp only [kf, simprocAttr] at h4
   replace h := bb h; rcases h with ⟨h5', h5, h⟩ | ⟨h5', h5, h⟩
   ·replace h := ob h; obtain ⟨r3, h6, h⟩ := h
    replace h6 := zbs7 q (M + 7) (by omega) _ _ _ h6
    try simp only [kf, simprocAttr] at h6
    replace h := ob h; obtain ⟨r4, h7, h⟩ := h
    replace h7 := zbts q (M + 7) (by omega) _ _ _ h7
    try simp only [kf, simprocAttr] at h7
    replace h := zbwm M (by omega) j (by omega) _ _ _ _ _ _ _ _ _ _ _ _ _ _ h R hR
    simp only [zbtv, simprocAttr, *]
   ·cases h; subst hR; simp only [zbtv, simprocAttr, *]
  ·cases h; subst hR; simp only [zbtv, simprocAttr, *]
 ·cases h; subst hR; simp only [zbtv, simprocAttr, *]
theorem zbtx (q : Nat) (zbwm : zbtu q) : zbtu (q + 1) := by
 intro M hM j hj v8z v8l v9 v10 h0_0 h0_1 h0_2z h0_2l h0_3 h0_4 h2z h2l h2x r h R hR fr H hc
 obtain ⟨j, rfl⟩ : ∃ i, j = i + 1 := ⟨j - 1, by omega⟩
 rw [zhj, hc]; clear hc
 rw [zke] at h
 replace h := br h; rcases h with ⟨h1, h⟩ | ⟨h1, h⟩
 ·replace h := bn h; obtain ⟨h2, h⟩ := h
  replace h := ob h; obtain ⟨e5, h3, h⟩ := h
  replace h := br h; rcases h with ⟨h4, h⟩ | ⟨h4, h⟩
  ·replace h := ob h; obtain ⟨r6, h5, h⟩ := h
   replace h5 := zbr6 q (M + 7) (by omega) _ _ h5
   try simp only [kf, simprocAttr] at h5
   replace h := bb h; rcases h with ⟨h6', h6, h⟩ | ⟨h6', h6, h⟩
   ·replace h := ob h; obtain ⟨r7, h7, h⟩ := h
    replace h7 := zbs7 q (M + 7) (by omega) _ _ _ h7
    try simp only [kf, simprocAttr] at h7
    replace h := ob h; obtain ⟨r8, h8, h⟩ := h
    replace h8 := zbts q (M + 7) (by omega) _ _ _ h8
    try simp only [kf, simprocAttr] at h8
    replace h := zbwm M (by omega) j (by omega) _ _ _ _ _ _ _ _ _ _ _ _ _ _ h R hR
    simp only [zbtv, simprocAttr, *]
   ·cases h; subst hR; simp only [zbtv, simprocAttr, *]
  ·cases h; subst hR; simp only [zbtv, simprocAttr, *]
 ·cases h; subst hR; simp only [zbtv, simprocAttr, *]
theorem zbty : ∀ q, zbtt q ∧ zbtu q
 | 0 => by refine ⟨?_, ?_⟩ <;> (intro M hM j hj; intros; rename_i h _ _ _ _ _; cases h)
 | q + 1 => by have ⟨i0, i1⟩ := zbty q; exact ⟨zbtw q i1, zbtx q i1⟩
theorem zbtz : ∀ (q N : Nat), 8 * q ≤ N → ∀ (a0 : zjj) (a1 : (Sl zjg)), ∀ (r : zjj × Int), zkg q a0 a1 = some r → (orc T N).deep F.zkg [zjj.enc a0, (Sl.enc zjg.enc) a1] = some [zjj.enc r.1, (V.int .i64) r.2] := by
 intro q N hM a0 a1 r h
 rcases q with _ | q
 ·cases h
 obtain ⟨M, rfl⟩ : ∃ M, N = M + 8 := ⟨N - 8, by omega⟩
 have ih_snapshot_Take_l0 := (zbty q).1
 generalize hR : some [zjj.enc r.1, (V.int .i64) r.2] = R
 rw [zhs, zbek, y5, zhq]
 rw [zkg] at h
 replace h := ih_snapshot_Take_l0 M (by omega) (M + 7) (by omega) _ _ _ _ _ _ _ _ _ _ _ _ h R hR
 simp only [zbtv, simprocAttr, *]
def zbt0 := And.intro @kk <| And.intro @ke <| And.intro @kn <| And.intro @zbmz <| @zbm1
theorem zbt1 : ∀ (q N : Nat), 8 * q ≤ N → ∀ (a0 : zji), ∀ (r : Bool), zkh q a0 = some r → (orc T N).deep F.zkh [zji.enc a0] = some [V.bool r] := by
 intro q N hM a0 r h
 rcases q with _ | q
 ·cases h
 obtain ⟨M, rfl⟩ : ∃ M, N = M + 8 := ⟨N - 8, by omega⟩
 generalize hR : some [V.bool r] = R
 rw [zhs, zbgd, y5, zhq]
 rw [zkh] at h
 replace h := br h; rcases h with ⟨h1, h⟩ | ⟨h1, h⟩
 ·replace h := br h; rcases h with ⟨h2, h⟩ | ⟨h2, h⟩
  ·replace h := br h; rcases h with ⟨h3, h⟩ | ⟨h3, h⟩
   ·replace h := br h; rcases h with ⟨h4, h⟩ | ⟨h4, h⟩
    ·replace h := br h; rcases h with ⟨h5, h⟩ | ⟨h5, h⟩
     ·cases h; subst hR; simp only [zbt0, simprocAttr, *]
     ·cases h; subst hR; simp only [zbt0, simprocAttr, *]
    ·cases h; subst hR; simp only [zbt0, simprocAttr, *]
   ·cases h; subst hR; simp only [zbt0, simprocAttr, *]
  ·cases h; subst hR; simp only [zbt0, simprocAttr, *]
 ·cases h; subst hR; simp only [zbt0, simprocAttr, *]
def zbt2 (q : Nat) : Prop := ∀ (M : Nat) (hM : 8 * q ≤ M) (j : Nat) (hj : q ≤ j) (v0z : Bool) (v0l : List zji) (v5z : Bool) (v5l : List zji) (v6 v7 : Int) (r : Bool) (_ : zki q v0z v0l v5z v5l v6 v7 = some r) (R : Option (List V)) (_ : some [V.bool r] = R) (fr : Fr) (H : Hp) (_ : canon 0 [0, 5, 6, 7] fr H = ([(0, (.sl v0z (List.map zji.enc v0l))), (5, (.sl v5z (List.map zji.enc v5l))), (6, (.int .i64 v6)), (7, (.int .i64 v7))], [])), fin zxc (unw T (orc T (M + 7)) (M + 7) 0 [.blk 0, .code zw9] (iter 0 [0, 5, 6, 7] (exec T (orc T (M + 7)) (M + 7) 0 zw6) j fr H)) = R
def zbt3 := And.intro @kk <| And.intro @ke <| And.intro @kn <| And.intro @zbj5 <| And.intro @zbm0 <| @zbj7
theorem zbt4 (q : Nat) (zbwn : zbt2 q) : zbt2 (q + 1) := by
 intro M hM j hj v0z v0l v5z v5l v6 v7 r h R hR fr H hc
 obtain ⟨j, rfl⟩ : ∃ i, j = i + 1 := ⟨j - 1, by omega⟩
 rw [zhj, hc]; clear hc
 rw [zki] at h
 replace h := br h; rcases h with ⟨h1, h⟩ | ⟨h1, h⟩
 ·replace h := bn h; obtain ⟨h2, h⟩ := h
  replace h := ob h; obtain ⟨e1, h3, h⟩ := h
  replace h := ob h; obtain ⟨r2, h4, h⟩ := h
  replace h4 := zbt1 q (M + 7) (by omega) _ _ h4
  try simp only [kf, simprocAttr] at h4
  replace h := bb h; rcases h with ⟨h5', h5, h⟩ | ⟨h5', h5, h⟩
  ·replace h := br h; rcases h with ⟨h6, h⟩ | ⟨h6, h⟩
   ·replace h := bn h; obtain ⟨h7, h⟩ := h
    replace h := ob h; obtain ⟨e3, h8, h⟩ := h
    replace h := br h; rcases h with ⟨h9, h⟩ | ⟨h9, h⟩
    ·cases h; subst hR; simp only [zbt3, simprocAttr, *]
    ·replace h := zbwn M (by omega) j (by omega) _ _ _ _ _ _ _ h R hR
     simp only [zbt3, simprocAttr, *]
   ·replace h := zbwn M (by omega) j (by omega) _ _ _ _ _ _ _ h R hR
    simp only [zbt3, simprocAttr, *]
  ·cases h; subst hR; simp only [zbt3, simprocAttr, *]
 ·cases h; subst hR; simp only [zbt3, simprocAttr, *]
theorem zbt5 : ∀ q, zbt2 q
 | 0 => by intro M hM j hj; intros; rename_i h _ _ _ _ _; cases h
 | q + 1 => by have i0 := zbt5 q; exact zbt4 q i0
theorem zbt6 : ∀ (q N : Nat), 8 * q ≤ N → ∀ (a0 : (Sl zji)), ∀ (r : Bool), zkj q a0 = some r → (orc T N).deep F.zkj [(Sl.enc zji.enc) a0] = some [V.bool r] := by
 intro q N hM a0 r h
 rcases q with _ | q
 ·cases h
 obtain ⟨M, rfl⟩ : ∃ M, N = M + 8 := ⟨N - 8, by omega⟩
 have zbwn := (zbt5 q)
 generalize hR : some [V.bool r] = R
 rw [zhs, zbff, y5, zhq]
 rw [zkj] at h
 replace h := zbwn M (by omega) (M + 7) (by omega) _ _ _ _ _ _ _ h R hR
 simp only [zbt3, simprocAttr, *]
def zbt7 := And.intro @kk <| And.intro @ke <| And.intro @kn <| And.intro @zbh8 <| And.intro @zbj3 <| And.intro @zbj6 <| @zbia
theorem zbt8 : ∀ (q N : Nat), 8 * q ≤ N → ∀ (a0 : zjj), ∀ (r : Bool), zkk q a0 = some r → (orc T N).deep F.zkk [zjj.enc a0] = some [V.bool r] := by
 intro q N hM a0 r h
 rcases q with _ | q
 ·cases h
 obtain ⟨M, rfl⟩ : ∃ M, N = M + 8 := ⟨N - 8, by omega⟩
 generalize hR : some [V.bool r] = R
 rw [zhs, zbes, y5, zhq]
 rw [zkk] at h
 replace h := br h; rcases h with ⟨h1, h⟩ | ⟨h1, h⟩
 ·replace h := br h; rcases h with ⟨h2, h⟩ | ⟨h2, h⟩
  ·replace h := ob h; obtain ⟨r1, h3, h⟩ := h
   replace h3 := zbsk q (M + 7) (by omega) _ _ h3
   try simp only [kf, simprocAttr] at h3
   replace h := bb h; rcases h with ⟨h4', h4, h⟩ | ⟨h4', h4, h⟩
   ·replace h := ob h; obtain ⟨r2, h5, h⟩ := h
    replace h5 := zbt6 q (M + 7) (by omega) _ _ h5
    try simp only [kf, simprocAttr] at h5
    cases h; subst hR; simp only [zbt7, simprocAttr, *]
   ·cases h; subst hR; simp only [zbt7, simprocAttr, *]
  ·cases h; subst hR; simp only [zbt7, simprocAttr, *]
 ·cases h; subst hR; simp only [zbt7, simprocAttr, *]
def zbt9 (q : Nat) : Prop := ∀ (M : Nat) (hM : 8 * q ≤ M) (j : Nat) (hj : q ≤ j) (w0 : Nat) (v1 : Int) (h0z : Bool) (h0l : List Int) (h0x : Bool) (r : (Ow Int)) (_ : zkl q v1 h0z h0l h0x = some r) (R : Option (List V)) (_ : some [(Ow.enc 1 (V.int .u8)) r] = R) (fr : Fr) (H : Hp) (_ : canon 1 [0, 1] fr H = ([(0, (.vw 0 w0 0 h0l.length 1)), (1, (.int .u64 v1))], [(.row w0 h0z 1 (List.map (V.int .u8) h0l) h0x)])), fin z5u (unw T (orc T (M + 7)) (M + 7) 1 [.blk 0, .code z5r] (iter 1 [0, 1] (exec T (orc T (M + 7)) (M + 7) 1 c_61_8) j fr H)) = R
def zbua := And.intro @kk <| And.intro @ke <| And.intro @kn <| And.intro @zblz <| @zbl1
theorem zbub (q : Nat) (zbwo : zbt9 q) : zbt9 (q + 1) := by
 intro M hM j hj w0 v1 h0z h0l h0x r h R hR fr H hc
 obtain ⟨j, rfl⟩ : ∃ i, j = i + 1 := ⟨j - 1, by omega⟩
 rw [zhj, hc]; clear hc
 rw [zkl] at h
 replace h := br h; rcases h with ⟨h1, h⟩ | ⟨h1, h⟩
 ·replace h := bn h; obtain ⟨h2, h⟩ := h
  replace h := zbwo M (by omega) j (by omega) (w0 + 1) _ _ _ _ _ h R hR
  simp only [zbua, simprocAttr, *]
 ·replace h := bn h; obtain ⟨h3, h⟩ := h
  cases h; subst hR; simp only [zbua, simprocAttr, *]
theorem zbuc : ∀ q, zbt9 q
 | 0 => by intro M hM j hj; intros; rename_i h _ _ _ _ _; cases h
 | q + 1 => by have i0 := zbuc q; exact zbub q i0
theorem zbud : ∀ (q N : Nat), 8 * q ≤ N → ∀ (a0 : (Ow Int)) (a1 : Int), ∀ (r : (Ow Int)), zkm q a0 a1 = some r → (orc T N).deep F.zkm [(Ow.enc 1 (V.int .u8)) a0, (V.int .u64) a1] = some [(Ow.enc 1 (V.int .u8)) r] := by
 intro q N hM a0 a1 r h
 rcases q with _ | q
 ·cases h
 obtain ⟨M, rfl⟩ : ∃ M, N = M + 8 := ⟨N - 8, by omega⟩
 have zbwo := (zbuc q)
 generalize hR : some [(Ow.enc 1 (V.int .u8)) r] = R
 rw [zhs, zbf1, y5, zhq]
 rw [zkm] at h
 replace h := zbwo M (by omega) (M + 7) (by omega) 0 _ _ _ _ _ h R hR
 simp only [zbua, simprocAttr, *]
def zbue := And.intro @kk <| And.intro @ke <| And.intro @kn <| And.intro @zbi8 <| And.intro @zbl0 <| @zbja
theorem zbuf : ∀ (q N : Nat), 8 * q ≤ N → ∀ (a0 : (Ow Int)) (a1 : Int), ∀ (r : (Ow Int)), zkn q a0 a1 = some r → (orc T N).deep F.zkn [(Ow.enc 1 (V.int .u8)) a0, (V.int .i64) a1] = some [(Ow.enc 1 (V.int .u8)) r] := by
 intro q N hM a0 a1 r h
 rcases q with _ | q
 ·cases h
 obtain ⟨M, rfl⟩ : ∃ M, N = M + 8 := ⟨N - 8, by omega⟩
 generalize hR : some [(Ow.enc 1 (V.int .u8)) r] = R
 rw [zhs, zbe4, y5, zhq]
 rw [zkn] at h
 replace h := br h; rcases h with ⟨h1, h⟩ | ⟨h1, h⟩
 ·cases h; subst hR; simp only [zbue, simprocAttr, *]
 ·replace h := br h; rcases h with ⟨h2, h⟩ | ⟨h2, h⟩
  ·cases h; subst hR; simp only [zbue, simprocAttr, *]
  ·replace h := ob h; obtain ⟨r1, h3, h⟩ := h
   replace h3 := zbud q (M + 7) (by omega) _ _ _ h3
   try simp only [kf, simprocAttr] at h3
   cases h; subst hR; simp only [zbue, simprocAttr, *]
def zbug := And.intro @kk <| And.intro @ke <| And.intro @kn <| And.intro @zbnz <| @zbn1
theorem zbuh : ∀ (q N : Nat), 8 * q ≤ N → ∀ (a0 : zjh), ∀ (r : Int), zko q a0 = some r → (orc T N).deep F.zko [zjh.enc a0] = some [(V.int .i64) r] := by
 intro q N hM a0 r h
 rcases q with _ | q
 ·cases h
 obtain ⟨M, rfl⟩ : ∃ M, N = M + 8 := ⟨N - 8, by omega⟩
 generalize hR : some [(V.int .i64) r] = R
 rw [zhs, zbgp, y5, zhq]
 rw [zko] at h
 replace h := bb h; rcases h with ⟨h1', h1, h⟩ | ⟨h1', h1, h⟩
 ·cases h; subst hR; simp only [zbug, simprocAttr, *]
 ·cases h; subst hR; simp only [zbug, simprocAttr, *]
def zbui := And.intro @kk <| And.intro @ke <| And.intro @kn <| And.intro @zbn2 <| @zbn4
theorem zbuj : ∀ (q N : Nat), 8 * q ≤ N → ∀ (a0 r : Int), zkp q a0 = some r → (orc T N).deep F.zkp [(V.int .i64) a0] = some [(V.int .u64) r] := by
 intro q N hM a0 r h
 rcases q with _ | q
 ·cases h
 obtain ⟨M, rfl⟩ : ∃ M, N = M + 8 := ⟨N - 8, by omega⟩
 generalize hR : some [(V.int .u64) r] = R
 rw [zhs, zbgq, y5, zhq]
 rw [zkp] at h
 cases h; subst hR; simp only [zbui, simprocAttr, *]
def zbuk := And.intro @kk <| And.intro @ke <| And.intro @kn <| And.intro @zblw <| And.intro @zbl0 <| And.intro @zbn3 <| @zbly
theorem zbul : ∀ (q N : Nat), 8 * q ≤ N → ∀ (a0 : (Ow Int)) (a1 : Int), ∀ (r : (Ow Int)), zkq q a0 a1 = some r → (orc T N).deep F.zkq [(Ow.enc 1 (V.int .u8)) a0, (V.int .i64) a1] = some [(Ow.enc 1 (V.int .u8)) r] := by
 intro q N hM a0 a1 r h
 rcases q with _ | q
 ·cases h
 obtain ⟨M, rfl⟩ : ∃ M, N = M + 8 := ⟨N - 8, by omega⟩
 generalize hR : some [(Ow.enc 1 (V.int .u8)) r] = R
 rw [zhs, zbf0, y5, zhq]
 rw [zkq] at h
 replace h := ob h; obtain ⟨r1, h1, h⟩ := h
 replace h1 := zbuj q (M + 7) (by omega) _ _ h1
 replace h := ob h; obtain ⟨r2, h2, h⟩ := h
 replace h2 := zbud q (M + 7) (by omega) _ _ _ h2
 try simp only [kf, simprocAttr] at h2
 cases h; subst hR; simp only [zbuk, simprocAttr, *]
def zbum (q : Nat) : Prop := ∀ (M : Nat) (hM : 8 * q ≤ M) (j : Nat) (hj : q ≤ j) (v21z : Bool) (v21l : List Int) (v22 v23 : Int) (h0z : Bool) (h0l : List Int) (h0x : Bool) (r : (Ow Int) × Int) (_ : zkr q v21z v21l v22 v23 h0z h0l h0x = some r) (R : Option (List V)) (_ : some [(Ow.enc 1 (V.int .u8)) r.1, (V.int .i64) r.2] = R) (fr : Fr) (H : Hp) (_ : canon 0 [4, 21, 22, 23] fr H = ([(4, (.vw 0 0 0 h0l.length 1)), (21, (.sl v21z (List.map (V.int .i64) v21l))), (22, (.int .i64 v22)), (23, (.int .i64 v23))], [(.row 0 h0z 1 (List.map (V.int .u8) h0l) h0x)])), fin z5o (unw T (orc T (M + 7)) (M + 7) 0 [.blk 0, .code z5j] (iter 0 [4, 21, 22, 23] (exec T (orc T (M + 7)) (M + 7) 0 z5g) j fr H)) = R
def zbun := And.intro @kk <| And.intro @ke <| And.intro @kn <| And.intro @zblt <| And.intro @zbi9 <| And.intro @zbj3 <| And.intro @zblx <| And.intro @zbn0 <| @zblv
theorem zbuo (q : Nat) (zbwp : zbum q) : zbum (q + 1) := by
 intro M hM j hj v21z v21l v22 v23 h0z h0l h0x r h R hR fr H hc
 obtain ⟨j, rfl⟩ : ∃ i, j = i + 1 := ⟨j - 1, by omega⟩
 rw [zhj, hc]; clear hc
 rw [zkr] at h
 replace h := br h; rcases h with ⟨h1, h⟩ | ⟨h1, h⟩
 ·replace h := bn h; obtain ⟨h2, h⟩ := h
  replace h := ob h; obtain ⟨e6, h3, h⟩ := h
  replace h := ob h; obtain ⟨r7, h4, h⟩ := h
  replace h4 := zbul q (M + 7) (by omega) _ _ _ h4
  try simp only [kf, simprocAttr] at h4
  replace h := zbwp M (by omega) j (by omega) _ _ _ _ _ _ _ _ h R hR
  simp only [zbun, simprocAttr, *]
 ·cases h; subst hR; simp only [zbun, simprocAttr, *]
theorem zbup : ∀ q, zbum q
 | 0 => by intro M hM j hj; intros; rename_i h _ _ _ _ _; cases h
 | q + 1 => by have i0 := zbup q; exact zbuo q i0
theorem zbuq : ∀ (q N : Nat), 8 * q ≤ N → ∀ (a0 : zjh), ∀ (r : (Ow Int) × Int), zks q a0 = some r → (orc T N).deep F.zks [zjh.enc a0] = some [(Ow.enc 1 (V.int .u8)) r.1, (V.int .i64) r.2] := by
 intro q N hM a0 r h
 rcases q with _ | q
 ·cases h
 obtain ⟨M, rfl⟩ : ∃ M, N = M + 8 := ⟨N - 8, by omega⟩
 have zbwp := (zbup q)
 generalize hR : some [(Ow.enc 1 (V.int .u8)) r.1, (V.int .i64) r.2] = R
 rw [zhs, zbfz, y5, zhq]
 rw [zks] at h
 replace h := ob h; obtain ⟨r1, h1, h⟩ := h
 replace h1 := zbsk q (M + 7) (by omega) _ _ h1
 try simp only [kf, simprocAttr] at h1
 replace h := bb h; rcases h with ⟨h2', h2, h⟩ | ⟨h2', h2, h⟩
 ·replace h := ob h; obtain ⟨r2, h3, h⟩ := h
  replace h3 := zbuf q (M + 7) (by omega) _ _ _ h3
  try simp only [kf, simprocAttr] at h3
  replace h := ob h; obtain ⟨r3, h4, h⟩ := h
  replace h4 := zbuh q (M + 7) (by omega) _ _ h4
  try simp only [kf, simprocAttr] at h4
  replace h := ob h; obtain ⟨r4, h5, h⟩ := h
  replace h5 := zbuf q (M + 7) (by omega) _ _ _ h5
  try simp only [kf, simprocAttr] at h5
  replace h := ob h; obtain ⟨r5, h6, h⟩ := h
  replace h6 := zbuf q (M + 7) (by omega) _ _ _ h6
  try simp only [kf, simprocAttr] at h6
  replace h := zbwp M (by omega) (M + 7) (by omega) _ _ _ _ _ _ _ _ h R hR
  simp only [zbun, simprocAttr, *]
 ·cases h; subst hR; simp only [zbun, simprocAttr, *]
def zbur (q : Nat) : Prop := ∀ (M : Nat) (hM : 8 * q ≤ M) (j : Nat) (hj : q ≤ j) (v24z : Bool) (v24l : List zji) (v25 v26 : Int) (h0z : Bool) (h0l : List Int) (h0x : Bool) (r : (Ow Int)) (_ : zkt q v24z v24l v25 v26 h0z h0l h0x = some r) (R : Option (List V)) (_ : some [(Ow.enc 1 (V.int .u8)) r] = R) (fr : Fr) (H : Hp) (_ : canon 0 [5, 24, 25, 26] fr H = ([(5, (.vw 0 0 0 h0l.length 1)), (24, (.sl v24z (List.map zji.enc v24l))), (25, (.int .i64 v25)), (26, (.int .i64 v26))], [(.row 0 h0z 1 (List.map (V.int .u8) h0l) h0x)])), fin zt5 (unw T (orc T (M + 7)) (M + 7) 0 [.blk 0, .code zt0] (iter 0 [5, 24, 25, 26] (exec T (orc T (M + 7)) (M + 7) 0 ztx) j fr H)) = R
def zbus := And.intro @kk <| And.intro @ke <| And.intro @kn <| And.intro @zbi5 <| And.intro @zbi9 <| And.intro @zblu <| And.intro @zblx <| @zbi7
theorem zbut (q : Nat) (zbwq : zbur q) : zbur (q + 1) := by
 intro M hM j hj v24z v24l v25 v26 h0z h0l h0x r h R hR fr H hc
 obtain ⟨j, rfl⟩ : ∃ i, j = i + 1 := ⟨j - 1, by omega⟩
 rw [zhj, hc]; clear hc
 rw [zkt] at h
 replace h := br h; rcases h with ⟨h1, h⟩ | ⟨h1, h⟩
 ·replace h := bn h; obtain ⟨h2, h⟩ := h
  replace h := ob h; obtain ⟨e4, h3, h⟩ := h
  replace h := ob h; obtain ⟨r5, h4, h⟩ := h
  replace h4 := zbuf q (M + 7) (by omega) _ _ _ h4
  try simp only [kf, simprocAttr] at h4
  replace h := ob h; obtain ⟨r6, h5, h⟩ := h
  replace h5 := zbuf q (M + 7) (by omega) _ _ _ h5
  try simp only [kf, simprocAttr] at h5
  replace h := ob h; obtain ⟨r7, h6, h⟩ := h
  replace h6 := zbul q (M + 7) (by omega) _ _ _ h6
  try simp only [kf, simprocAttr] at h6
  replace h := zbwq M (by omega) j (by omega) _ _ _ _ _ _ _ _ h R hR
  simp only [zbus, simprocAttr, *]
 ·cases h; subst hR; simp only [zbus, simprocAttr, *]
theorem zbuu : ∀ q, zbur q
 | 0 => by intro M hM j hj; intros; rename_i h _ _ _ _ _; cases h
 | q + 1 => by have i0 := zbuu q; exact zbut q i0
theorem zbuv : ∀ (q N : Nat), 8 * q ≤ N → ∀ (a0 : zjj), ∀ (r : (Ow Int)), zku q a0 = some r → (orc T N).deep F.zku [zjj.enc a0] = some [(Ow.enc 1 (V.int .u8)) r] := by
 intro q N hM a0 r h
 rcases q with _ | q
 ·cases h
 obtain ⟨M, rfl⟩ : ∃ M, N = M + 8 := ⟨N - 8, by omega⟩
 have zbwq := (zbuu q)
 generalize hR : some [(Ow.enc 1 (V.int .u8)) r] = R
 rw [zhs, zbe3, y5, zhq]
 rw [zku] at h
 replace h := ob h; obtain ⟨r1, h1, h⟩ := h
 replace h1 := zbuq q (M + 7) (by omega) _ _ h1
 try simp only [kf, simprocAttr] at h1
 replace h := ob h; obtain ⟨r2, h2, h⟩ := h
 replace h2 := zbuf q (M + 7) (by omega) _ _ _ h2
 try simp only [kf, simprocAttr] at h2
 replace h := bn h; obtain ⟨h3, h⟩ := h
 replace h := ob h; obtain ⟨r3, h4, h⟩ := h
 replace h4 := zbuf q (M + 7) (by omega) _ _ _ h4
 try simp only [kf, simprocAttr] at h4
 replace h := zbwq M (by omega) (M + 7) (by omega) _ _ _ _ _ _ _ _ h R hR
 simp only [zbus, simprocAttr, *]
def zbuw (q : Nat) : Prop := ∀ (M : Nat) (hM : 8 * q ≤ M) (j : Nat) (hj : q ≤ j) (v5 : Int) (h0_0 h1_0 : List Int) (r : (List Int)) (_ : zkv q v5 h0_0 h1_0 = some r) (R : Option (List V)) (_ : some [(arrEnc (V.int .u32)) r] = R) (fr : Fr) (H : Hp) (_ : canon 0 [0, 1, 5] fr H = ([(0, (.ptr 0 0)), (1, (.ptr 1 0)), (5, (.int .i64 v5))], [(.box (List.map (V.int .u32) h0_0)), (.box (List.map (V.int .u32) h1_0))])), fin z71 (unw T (orc T (M + 7)) (M + 7) 0 [.blk 0, .code z7x] (iter 0 [0, 1, 5] (exec T (orc T (M + 7)) (M + 7) 0 z7u) j fr H)) = R
def zbux (q : Nat) : Prop := ∀ (M : Nat) (hM : 8 * q ≤ M) (j : Nat) (hj : q ≤ j) (j1 : Nat) (hj1 : q ≤ j1) (v2 v3 v5 v10 : Int) (h0_0 h1_0 : List Int) (r : (List Int)) (_ : zkw q v2 v3 v5 v10 h0_0 h1_0 = some r) (R : Option (List V)) (_ : some [(arrEnc (V.int .u32)) r] = R) (fr : Fr) (H : Hp) (_ : canon 0 [0, 1, 2, 3, 5, 10] fr H = ([(0, (.ptr 0 0)), (1, (.ptr 1 0)), (2, (.int .i64 v2)), (3, (.int .u32 v3)), (5, (.int .i64 v5)), (10, (.int .i64 v10))], [(.box (List.map (V.int .u32) h0_0)), (.box (List.map (V.int .u32) h1_0))])), fin z71 (unw T (orc T (M + 7)) (M + 7) 0 [.blk 2, .code z7n, .blk 1, .code z7r, .rounds [0, 1, 5] z7u j1, .blk 0, .code z7x] (iter 0 [0, 1, 2, 3, 5, 10] (exec T (orc T (M + 7)) (M + 7) 0 z7k) j fr H)) = R
def zbuy := And.intro @kk <| And.intro @ke <| And.intro @kn <| And.intro @zbme <| @zbmg
theorem zbuz (q : Nat) (zbwr : zbux q) : zbuw (q + 1) := by
 intro M hM j hj v5 h0_0 h1_0 r h R hR fr H hc
 obtain ⟨j, rfl⟩ : ∃ i, j = i + 1 := ⟨j - 1, by omega⟩
 rw [zhj, hc]; clear hc
 rw [zkv] at h
 replace h := br h; rcases h with ⟨h1, h⟩ | ⟨h1, h⟩
 ·replace h := zbwr M (by omega) (M + 7) (by omega) j (by omega) _ _ _ _ _ _ _ h R hR
  simp (maxDischargeDepth := 12) only [zbuy, simprocAttr, arrEnc, *]
 ·replace h := bn h; obtain ⟨h2, h⟩ := h
  replace h := bc h; rcases h with ⟨h3, h⟩ | ⟨h3, h⟩
  ·replace h := bn h; obtain ⟨h4, h⟩ := h
   replace h := bn h; obtain ⟨h5, h⟩ := h
   cases h; subst hR; simp (maxDischargeDepth := 12) only [zbuy, simprocAttr, arrEnc, *]
  ·cases h
theorem zbu0 (q : Nat) (zbws : zbuw q) (zbwr : zbux q) : zbux (q + 1) := by
 intro M hM j hj j1 hj1 v2 v3 v5 v10 h0_0 h1_0 r h R hR fr H hc
 obtain ⟨j, rfl⟩ : ∃ i, j = i + 1 := ⟨j - 1, by omega⟩
 rw [zhj, hc]; clear hc
 rw [zkw] at h
 replace h := br h; rcases h with ⟨h1, h⟩ | ⟨h1, h⟩
 ·replace h := zbwr M (by omega) j (by omega) j1 (by omega) _ _ _ _ _ _ _ h R hR
  simp (maxDischargeDepth := 12) only [zbuy, simprocAttr, arrEnc, *]
 ·replace h := bn h; obtain ⟨h2, h⟩ := h
  replace h := bn h; obtain ⟨h3, h⟩ := h
  replace h := bn h; obtain ⟨h4, h⟩ := h
  replace h := zbws M (by omega) j1 (by omega) _ _ _ _ h R hR
  simp (maxDischargeDepth := 12) only [zbuy, simprocAttr, arrEnc, *]
theorem zbu1 : ∀ q, zbuw q ∧ zbux q
 | 0 => by refine ⟨?_, ?_⟩ <;> (intro M hM j hj; intros; rename_i h _ _ _ _ _; cases h)
 | q + 1 => by have ⟨i0, i1⟩ := zbu1 q; exact ⟨zbuz q i1, zbu0 q i0 i1⟩
theorem zbu2 : ∀ (q N : Nat), 8 * q ≤ N → ∀ (r : (List Int)), zkx q = some r → (orc T N).deep F.zkx [] = some [(arrEnc (V.int .u32)) r] := by
 intro q N hM r h
 rcases q with _ | q
 ·cases h
 obtain ⟨M, rfl⟩ : ∃ M, N = M + 8 := ⟨N - 8, by omega⟩
 have zbws := (zbu1 q).1
 generalize hR : some [(arrEnc (V.int .u32)) r] = R
 rw [zhs, zbf6, y5, zhq]
 rw [zkx] at h
 replace h := zbws M (by omega) (M + 7) (by omega) _ _ _ _ h R hR
 simp (maxDischargeDepth := 12) only [zbuy, simprocAttr, arrEnc, *]
def zbu3 (q : Nat) : Prop := ∀ (M : Nat) (hM : 8 * q ≤ M) (j : Nat) (hj : q ≤ j) (v6 : Int) (v12z : Bool) (v12l : List Int) (v13 v14 : Int) (h0_0 : List Int) (r : Int) (_ : zky q v6 v12z v12l v13 v14 h0_0 = some r) (R : Option (List V)) (_ : some [(V.int .u32) r] = R) (fr : Fr) (H : Hp) (_ : canon 0 [5, 6, 12, 13, 14] fr H = ([(5, (.ptr 0 0)), (6, (.int .u32 v6)), (12, (.sl v12z (List.map (V.int .u8) v12l))), (13, (.int .i64 v13)), (14, (.int .i64 v14))], [(.box (List.map (V.int .u32) h0_0))])), fin zve (unw T (orc T (M + 7)) (M + 7) 0 [.blk 0, .code zu9] (iter 0 [5, 6, 12, 13, 14] (exec T (orc T (M + 7)) (M + 7) 0 zu6) j fr H)) = R
def zbu4 := And.intro @kk <| And.intro @ke <| And.intro @kn <| And.intro @zbjt <| And.intro @zbmf <| @zbjv
theorem zbu5 (q : Nat) (zbwt : zbu3 q) : zbu3 (q + 1) := by
 intro M hM j hj v6 v12z v12l v13 v14 h0_0 r h R hR fr H hc
 obtain ⟨j, rfl⟩ : ∃ i, j = i + 1 := ⟨j - 1, by omega⟩
 rw [zhj, hc]; clear hc
 rw [zky] at h
 replace h := br h; rcases h with ⟨h1, h⟩ | ⟨h1, h⟩
 ·replace h := bn h; obtain ⟨h2, h⟩ := h
  replace h := ob h; obtain ⟨e2, h3, h⟩ := h
  replace h := bn h; obtain ⟨h4, h⟩ := h
  replace h := bn h; obtain ⟨h5, h⟩ := h
  replace h := ob h; obtain ⟨e3, h6, h⟩ := h
  replace h := zbwt M (by omega) j (by omega) _ _ _ _ _ _ _ h R hR
  simp only [zbu4, simprocAttr, arrEnc, *]
 ·cases h; subst hR; simp only [zbu4, simprocAttr, arrEnc, *]
theorem zbu6 : ∀ q, zbu3 q
 | 0 => by intro M hM j hj; intros; rename_i h _ _ _ _ _; cases h
 | q + 1 => by have i0 := zbu6 q; exact zbu5 q i0
theorem zbu7 : ∀ (q N : Nat), 8 * q ≤ N → ∀ (a0 : Int) (a1 : (Sl Int)), ∀ (r : Int), zkz q a0 a1 = some r → (orc T N).deep F.zkz [(V.int .u32) a0, (Sl.enc (V.int .u8)) a1] = some [(V.int .u32) r] := by
 intro q N hM a0 a1 r h
 rcases q with _ | q
 ·cases h
 obtain ⟨M, rfl⟩ : ∃ M, N = M + 8 := ⟨N - 8, by omega⟩
 have zbwt := (zbu6 q)
 generalize hR : some [(V.int .u32) r] = R
 rw [zhs, zbfb, y5, zhq]
 rw [zkz] at h
 replace h := ob h; obtain ⟨r1, h1, h⟩ := h
 replace h1 := zbu2 q (M + 7) (by omega)  _ h1
 try simp only [kf, simprocAttr] at h1
 replace h := bc h; rcases h with ⟨h2, h⟩ | ⟨h2, h⟩
 ·replace h := zbwt M (by omega) (M + 7) (by omega) _ _ _ _ _ _ _ h R hR
  simp only [zbu4, simprocAttr, arrEnc, *]
 ·cases h
def zbu8 := And.intro @kk <| And.intro @ke <| And.intro @kn <| And.intro @zbh2 <| And.intro @zbju <| @zbh4
theorem zbu9 : ∀ (q N : Nat), 8 * q ≤ N → ∀ (a0 : (Sl Int)), ∀ (r : Int), zk0 q a0 = some r → (orc T N).deep F.zk0 [(Sl.enc (V.int .u8)) a0] = some [(V.int .u32) r] := by
 intro q N hM a0 r h
 rcases q with _ | q
 ·cases h
 obtain ⟨M, rfl⟩ : ∃ M, N = M + 8 := ⟨N - 8, by omega⟩
 generalize hR : some [(V.int .u32) r] = R
 rw [zhs, zbeq, y5, zhq]
 rw [zk0] at h
 replace h := ob h; obtain ⟨r1, h1, h⟩ := h
 replace h1 := zbu7 q (M + 7) (by omega) _ _ _ h1
 try simp only [kf, simprocAttr] at h1
 cases h; subst hR; simp only [zbu8, simprocAttr, *]
def zbva (q : Nat) : Prop := ∀ (M : Nat) (hM : 8 * q ≤ M) (j : Nat) (hj : q ≤ j) (v0 v7 v8 : Int) (h0z : Bool) (h0l : List Int) (r : (Ow Int)) (_ : zk1 q v0 v7 v8 h0z h0l = some r) (R : Option (List V)) (_ : some [(Ow.enc 1 (V.int .u8)) r] = R) (fr : Fr) (H : Hp) (_ : canon 0 [0, 5, 7, 8] fr H = ([(0, (.int .u64 v0)), (5, (.vw 0 0 0 h0l.length 1)), (7, (.int .i64 v7)), (8, (.int .i64 v8))], [(.row 0 h0z 1 (List.map (V.int .u8) h0l) true)])), fin z56 (unw T (orc T (M + 7)) (M + 7) 0 [.blk 0, .code z52] (iter 0 [0, 5, 7, 8] (exec T (orc T (M + 7)) (M + 7) 0 z5z) j fr H)) = R
def zbvb := And.intro @kk <| And.intro @ke <| And.intro @kn <| And.intro @zbl5 <| @zbl7
theorem zbvc (q : Nat) (zbwu : zbva q) : zbva (q + 1) := by
 intro M hM j hj v0 v7 v8 h0z h0l r h R hR fr H hc
 obtain ⟨j, rfl⟩ : ∃ i, j = i + 1 := ⟨j - 1, by omega⟩
 rw [zhj, hc]; clear hc
 rw [zk1] at h
 replace h := br h; rcases h with ⟨h1, h⟩ | ⟨h1, h⟩
 ·replace h := bm h; obtain ⟨h2, h⟩ := h
  replace h := bn h; obtain ⟨h3, h⟩ := h
  replace h := zbwu M (by omega) j (by omega) _ _ _ _ _ _ h R hR
  simp only [zbvb, simprocAttr, *]
 ·cases h; subst hR; simp only [zbvb, simprocAttr, *]
theorem zbvd : ∀ q, zbva q
 | 0 => by intro M hM j hj; intros; rename_i h _ _ _ _ _; cases h
 | q + 1 => by have i0 := zbvd q; exact zbvc q i0
theorem zbve : ∀ (q N : Nat), 8 * q ≤ N → ∀ (a0 a1 : Int), ∀ (r : (Ow Int)), zk2 q a0 a1 = some r → (orc T N).deep F.zk2 [(V.int .u64) a0, (V.int .i64) a1] = some [(Ow.enc 1 (V.int .u8)) r] := by
 intro q N hM a0 a1 r h
 rcases q with _ | q
 ·cases h
 obtain ⟨M, rfl⟩ : ∃ M, N = M + 8 := ⟨N - 8, by omega⟩
 have zbwu := (zbvd q)
 generalize hR : some [(Ow.enc 1 (V.int .u8)) r] = R
 rw [zhs, zbf3, y5, zhq]
 rw [zk2] at h
 replace h := zbwu M (by omega) (M + 7) (by omega) _ _ _ _ _ _ h R hR
 simp only [zbvb, simprocAttr, *]
def zbvf := And.intro @kk <| And.intro @ke <| And.intro @kn <| And.intro @zbje <| And.intro @zbl6 <| @zbjg
theorem zbvg : ∀ (q N : Nat), 8 * q ≤ N → ∀ (a0 : Int), ∀ (r : (Ow Int)), zk3 q a0 = some r → (orc T N).deep F.zk3 [(V.int .u32) a0] = some [(Ow.enc 1 (V.int .u8)) r] := by
 intro q N hM a0 r h
 rcases q with _ | q
 ·cases h
 obtain ⟨M, rfl⟩ : ∃ M, N = M + 8 := ⟨N - 8, by omega⟩
 generalize hR : some [(Ow.enc 1 (V.int .u8)) r] = R
 rw [zhs, zbe6, y5, zhq]
 rw [zk3] at h
 replace h := ob h; obtain ⟨r1, h1, h⟩ := h
 replace h1 := zbve q (M + 7) (by omega) _ _ _ h1
 try simp only [kf, simprocAttr] at h1
 cases h; subst hR; simp only [zbvf, simprocAttr, *]
def zbvh := And.intro @kk <| And.intro @ke <| And.intro @kn <| And.intro @zbn5 <| And.intro @zbh3 <| And.intro @zbjf <| And.intro @zbju <| @zbn7
theorem zbvi : ∀ (q N : Nat), 8 * q ≤ N → ∀ (a0 a1 : (Sl Int)), ∀ (r : (Ow Int)), zk4 q a0 a1 = some r → (orc T N).deep F.zk4 [(Sl.enc (V.int .u8)) a0, (Sl.enc (V.int .u8)) a1] = some [(Ow.enc 1 (V.int .u8)) r] := by
 intro q N hM a0 a1 r h
 rcases q with _ | q
 ·cases h
 obtain ⟨M, rfl⟩ : ∃ M, N = M + 8 := ⟨N - 8, by omega⟩
 generalize hR : some [(Ow.enc 1 (V.int .u8)) r] = R
 rw [zhs, zbgr, y5, zhq]
 rw [zk4] at h
 replace h := ob h; obtain ⟨r1, h1, h⟩ := h
 replace h1 := zbu9 q (M + 7) (by omega) _ _ h1
 try simp only [kf, simprocAttr] at h1
 replace h := ob h; obtain ⟨r2, h2, h⟩ := h
 replace h2 := zbu7 q (M + 7) (by omega) _ _ _ h2
 try simp only [kf, simprocAttr] at h2
 replace h := ob h; obtain ⟨r3, h3, h⟩ := h
 replace h3 := zbvg q (M + 7) (by omega) _ _ h3
 try simp only [kf, simprocAttr] at h3
 cases h; subst hR; simp only [zbvh, simprocAttr, *]
def zbvj (q : Nat) : Prop := ∀ (M : Nat) (hM : 8 * q ≤ M) (j : Nat) (hj : q ≤ j) (v0z : Bool) (v0l : List (Sl Int)) (v3 : Int) (v9z : Bool) (v9l : List (Sl Int)) (v10 v11 : Int) (r : (Ow Int)) (_ : zk8 q v0z v0l v3 v9z v9l v10 v11 = some r) (R : Option (List V)) (_ : some [(Ow.enc 1 (V.int .u8)) r] = R) (fr : Fr) (H : Hp) (_ : canon 0 [0, 3, 9, 10, 11] fr H = ([(0, (.sl v0z (List.map (Sl.enc (V.int .u8)) v0l))), (3, (.int .i64 v3)), (9, (.sl v9z (List.map (Sl.enc (V.int .u8)) v9l))), (10, (.int .i64 v10)), (11, (.int .i64 v11))], [])), fin zpr (unw T (orc T (M + 7)) (M + 7) 0 [.blk 0, .code zpn] (iter 0 [0, 3, 9, 10, 11] (exec T (orc T (M + 7)) (M + 7) 0 zo6) j fr H)) = R
def zbvk (q : Nat) : Prop := ∀ (M : Nat) (hM : 8 * q ≤ M) (j : Nat) (hj : q ≤ j) (v6len : Nat) (v25z : Bool) (v25l : List (Sl Int)) (v26 v27 : Int) (h0z : Bool) (h0l : List Int) (r : (Ow Int)) (_ : zk5 q v6len v25z v25l v26 v27 h0z h0l = some r) (R : Option (List V)) (_ : some [(Ow.enc 1 (V.int .u8)) r] = R) (fr : Fr) (H : Hp) (_ : canon 0 [6, 25, 26, 27] fr H = ([(6, (.vw 0 0 0 v6len 0)), (25, (.sl v25z (List.map (Sl.enc (V.int .u8)) v25l))), (26, (.int .i64 v26)), (27, (.int .i64 v27))], [(.row 0 h0z 1 (List.map (V.int .u8) h0l) true)])), fin zpr (unw T (orc T (M + 7)) (M + 7) 0 [.blk 2, .code zpl] (iter 0 [6, 25, 26, 27] (exec T (orc T (M + 7)) (M + 7) 0 zpi) j fr H)) = R
def zbvl (q : Nat) : Prop := ∀ (M : Nat) (hM : 8 * q ≤ M) (j : Nat) (hj : q ≤ j) (v25z : Bool) (v25l : List (Sl Int)) (v26 : Int) (r : (Ow Int)) (_ : zk7 q v25z v25l v26 = some r) (R : Option (List V)) (_ : some [(Ow.enc 1 (V.int .u8)) r] = R) (fr : Fr) (H : Hp) (_ : canon 0 [6, 25, 26, 27] fr H = ([(6, (.sl true [])), (25, (.sl v25z (List.map (Sl.enc (V.int .u8)) v25l))), (26, (.int .i64 v26)), (27, (.int .i64 0))], [])), fin zpr (unw T (orc T (M + 7)) (M + 7) 0 [.blk 2, .code zpl] (iter 0 [6, 25, 26, 27] (exec T (orc T (M + 7)) (M + 7) 0 zpi) j fr H)) = R
def zbvm (q : Nat) : Prop := ∀ (M : Nat) (hM : 8 * q ≤ M) (j : Nat) (hj : q ≤ j) (v25z : Bool) (v25l : List (Sl Int)) (v26 v27 : Int) (h0z : Bool) (h0l : List Int) (r : (Ow Int)) (_ : zk6 q v25z v25l v26 v27 h0z h0l = some r) (R : Option (List V)) (_ : some [(Ow.enc 1 (V.int .u8)) r] = R) (fr : Fr) (H : Hp) (_ : canon 0 [6, 25, 26, 27] fr H = ([(6, (.vw 0 0 0 h0l.length 1)), (25, (.sl v25z (List.map (Sl.enc (V.int .u8)) v25l))), (26, (.int .i64 v26)), (27, (.int .i64 v27))], [(.row 0 h0z 1 (List.map (V.int .u8) h0l) true)])), fin zpr (unw T (orc T (M + 7)) (M + 7) 0 [.blk 2, .code zpl] (iter 0 [6, 25, 26, 27] (exec T (orc T (M + 7)) (M + 7) 0 zpi) j fr H)) = R
def zbvn := And.intro @kk <| And.intro @ke <| And.intro @kn <| And.intro @zbhw <| And.intro @zbjq <| And.intro @zbjr <| And.intro @zbjs <| @zbhy
theorem zbvo (q : Nat) (zbwv : zbvj q) (zbww : zbvk q) (zbwx : zbvl q) : zbvj (q + 1) := by
 intro M hM j hj v0z v0l v3 v9z v9l v10 v11 r h R hR fr H hc
 obtain ⟨j, rfl⟩ : ∃ i, j = i + 1 := ⟨j - 1, by omega⟩
 rw [zhj, hc]; clear hc
 rw [zk8] at h
 replace h := br h; rcases h with ⟨h1, h⟩ | ⟨h1, h⟩
 ·replace h := bn h; obtain ⟨h2, h⟩ := h
  replace h := ob h; obtain ⟨e1, h3, h⟩ := h
  replace h := bm h; obtain ⟨h4, h⟩ := h
  replace h := zbwv M (by omega) j (by omega) _ _ _ _ _ _ _ _ h R hR
  simp only [zbvn, simprocAttr, *]
 ·replace h := bm h; obtain ⟨h5, h⟩ := h
  replace h := br h; rcases h with ⟨h6, h⟩ | ⟨h6, h⟩
  ·replace h := bn h; obtain ⟨h7, h⟩ := h
   replace h := bn h; obtain ⟨h8, h⟩ := h
   replace h := bm h; obtain ⟨h9, h⟩ := h
   replace h := zbww M (by omega) (M + 7) (by omega) _ _ _ _ _ _ _ _ h R hR
   simp only [zbvn, simprocAttr, *]
  ·replace h := zbwx M (by omega) (M + 7) (by omega) _ _ _ _ h R hR
   simp only [zbvn, simprocAttr, *]
theorem zbvp (q : Nat) (zbww : zbvk q) : zbvk (q + 1) := by
 intro M hM j hj v6len v25z v25l v26 v27 h0z h0l r h R hR fr H hc
 obtain ⟨j, rfl⟩ : ∃ i, j = i + 1 := ⟨j - 1, by omega⟩
 rw [zhj, hc]; clear hc
 rw [zk5] at h
 replace h := br h; rcases h with ⟨h1, h⟩ | ⟨h1, h⟩
 ·replace h := bn h; obtain ⟨h2, h⟩ := h
  replace h := ob h; obtain ⟨e2, h3, h⟩ := h
  replace h := bn h; obtain ⟨h4, h⟩ := h
  replace h := zbww M (by omega) j (by omega) _ _ _ _ _ _ _ _ h R hR
  simp only [zbvn, simprocAttr, *]
 ·cases h; subst hR; simp only [zbvn, simprocAttr, *]
theorem zbvq (q : Nat) (zbwy : zbvm q) : zbvl (q + 1) := by
 intro M hM j hj v25z v25l v26 r h R hR fr H hc
 obtain ⟨j, rfl⟩ : ∃ i, j = i + 1 := ⟨j - 1, by omega⟩
 rw [zhj, hc]; clear hc
 rw [zk7] at h
 replace h := br h; rcases h with ⟨h1, h⟩ | ⟨h1, h⟩
 ·replace h := ob h; obtain ⟨e3, h2, h⟩ := h
  replace h := bn h; obtain ⟨h3, h⟩ := h
  replace h := zbwy M (by omega) j (by omega) _ _ _ _ _ _ _ h R hR
  simp only [zbvn, simprocAttr, *]
 ·cases h; subst hR; simp only [zbvn, simprocAttr, *]
theorem zbvr (q : Nat) (zbwy : zbvm q) : zbvm (q + 1) := by
 intro M hM j hj v25z v25l v26 v27 h0z h0l r h R hR fr H hc
 obtain ⟨j, rfl⟩ : ∃ i, j = i + 1 := ⟨j - 1, by omega⟩
 rw [zhj, hc]; clear hc
 rw [zk6] at h
 replace h := br h; rcases h with ⟨h1, h⟩ | ⟨h1, h⟩
 ·replace h := bn h; obtain ⟨h2, h⟩ := h
  replace h := ob h; obtain ⟨e4, h3, h⟩ := h
  replace h := bn h; obtain ⟨h4, h⟩ := h
  replace h := zbwy M (by omega) j (by omega) _ _ _ _ _ _ _ h R hR
  simp only [zbvn, simprocAttr, *]
 ·cases h; subst hR; simp only [zbvn, simprocAttr, *]
theorem zbvs : ∀ q, zbvj q ∧ zbvk q ∧ zbvl q ∧ zbvm q
 | 0 => by refine ⟨?_, ?_, ?_, ?_⟩ <;> (intro M hM j hj; intros; rename_i h _ _ _ _ _; cases h)
 | q + 1 => by have ⟨i0, i1, i2, i3⟩ := zbvs q; exact ⟨zbvo q i0 i1 i2, zbvp q i1, zbvq q i3, zbvr q i3⟩
theorem zbvt : ∀ (q N : Nat), 8 * q ≤ N → ∀ (a0 : (Sl (Sl Int))), ∀ (r : (Ow Int)), zk9 q a0 = some r → (orc T N).deep F.zk9 [(Sl.enc (Sl.enc (V.int .u8))) a0] = some [(Ow.enc 1 (V.int .u8)) r] := by
 intro q N hM a0 r h
 rcases q with _ | q
 ·cases h
 obtain ⟨M, rfl⟩ : ∃ M, N = M + 8 := ⟨N - 8, by omega⟩
 have zbwv := (zbvs q).1
 generalize hR : some [(Ow.enc 1 (V.int .u8)) r] = R
 rw [zhs, zbeo, y5, zhq]
 rw [zk9] at h
 replace h := zbwv M (by omega) (M + 7) (by omega) _ _ _ _ _ _ _ _ h R hR
 simp only [zbvn, simprocAttr, *]
def zbvu := And.intro @kk <| And.intro @ke <| And.intro @kn <| And.intro @zbl2 <| And.intro @zbhx <| And.intro @zbi9 <| And.intro @zbn6 <| @zbl4
theorem zbvv : ∀ (q N : Nat), 8 * q ≤ N → ∀ (a0 : (Sl Int)), ∀ (r : (Ow Int) × Int), zla q a0 = some r → (orc T N).deep F.zla [(Sl.enc (V.int .u8)) a0] = some [(Ow.enc 1 (V.int .u8)) r.1, (V.int .i64) r.2] := by
 intro q N hM a0 r h
 rcases q with _ | q
 ·cases h
 obtain ⟨M, rfl⟩ : ∃ M, N = M + 8 := ⟨N - 8, by omega⟩
 generalize hR : some [(Ow.enc 1 (V.int .u8)) r.1, (V.int .i64) r.2] = R
 rw [zhs, zbf2, y5, zhq]
 rw [zla] at h
 replace h := br h; rcases h with ⟨h1, h⟩ | ⟨h1, h⟩
 ·cases h; subst hR; simp only [zbvu, simprocAttr, *]
 ·replace h := ob h; obtain ⟨r1, h2, h⟩ := h
  replace h2 := zbuf q (M + 7) (by omega) _ _ _ h2
  try simp only [kf, simprocAttr] at h2
  replace h := ob h; obtain ⟨r2, h3, h⟩ := h
  replace h3 := zbvi q (M + 7) (by omega) _ _ _ h3
  try simp only [kf, simprocAttr] at h3
  replace h := ob h; obtain ⟨r3, h4, h⟩ := h
  replace h4 := zbvt q (M + 7) (by omega) _ _ h4
  try simp only [kf, simprocAttr] at h4
  cases h; subst hR; simp only [zbvu, simprocAttr, *]
def zbvw := And.intro @kk <| And.intro @ke <| And.intro @kn <| And.intro @zbjb <| And.intro @zbl3 <| @zbjd
theorem zbvx : ∀ (q N : Nat), 8 * q ≤ N → ∀ (a0 : (Sl Int)), ∀ (r : (Ow Int)), zlb q a0 = some r → (orc T N).deep F.zlb [(Sl.enc (V.int .u8)) a0] = some [(Ow.enc 1 (V.int .u8)) r] := by
 intro q N hM a0 r h
 rcases q with _ | q
 ·cases h
 obtain ⟨M, rfl⟩ : ∃ M, N = M + 8 := ⟨N - 8, by omega⟩
 generalize hR : some [(Ow.enc 1 (V.int .u8)) r] = R
 rw [zhs, zbe5, y5, zhq]
 rw [zlb] at h
 replace h := ob h; obtain ⟨r1, h1, h⟩ := h
 replace h1 := zbvv q (M + 7) (by omega) _ _ h1
 try simp only [kf, simprocAttr] at h1
 cases h; subst hR; simp only [zbvw, simprocAttr, *]
def zbvy (q : Nat) : Prop := ∀ (M : Nat) (hM : 8 * q ≤ M) (j : Nat) (hj : q ≤ j) (h0z : Bool) (h0l : List Int) (h0x h1z : Bool) (h1l : List Int) (h1x : Bool) (r : (Ow Int) × Int) (_ : zld q h0z h0l h0x h1z h1l h1x = some r) (R : Option (List V)) (_ : some [(Ow.enc 1 (V.int .u8)) r.1, (V.int .i64) r.2] = R) (fr : Fr) (H : Hp) (_ : canon 0 [4, 6] fr H = ([(4, (.vw 0 0 0 h0l.length 1)), (6, (.vw 1 0 0 h1l.length 1))], [(.row 0 h0z 1 (List.map (V.int .u8) h0l) h0x), (.row 0 h1z 1 (List.map (V.int .u8) h1l) h1x)])), fin zn6 (unw T (orc T (M + 7)) (M + 7) 0 [.blk 0, .code c_9_18] (iter 0 [4, 6] (exec T (orc T (M + 7)) (M + 7) 0 c_9_16) j fr H)) = R
def zbvz (q : Nat) : Prop := ∀ (M : Nat) (hM : 8 * q ≤ M) (j : Nat) (hj : q ≤ j) (v4off v4len : Nat) (h0z : Bool) (h0l : List Int) (h1z : Bool) (h1l : List Int) (h1x : Bool) (r : (Ow Int) × Int) (_ : zlc q v4off v4len h0z h0l h1z h1l h1x = some r) (R : Option (List V)) (_ : some [(Ow.enc 1 (V.int .u8)) r.1, (V.int .i64) r.2] = R) (fr : Fr) (H : Hp) (_ : canon 0 [4, 6] fr H = ([(4, (.vw 0 0 v4off v4len 1)), (6, (.vw 1 0 0 h1l.length 1))], [(.row 0 h0z 1 (List.map (V.int .u8) h0l) false), (.row 0 h1z 1 (List.map (V.int .u8) h1l) h1x)])), fin zn6 (unw T (orc T (M + 7)) (M + 7) 0 [.blk 0, .code c_9_18] (iter 0 [4, 6] (exec T (orc T (M + 7)) (M + 7) 0 c_9_16) j fr H)) = R
def zbv0 := And.intro @kk <| And.intro @ke <| And.intro @kn <| And.intro @zbhn <| And.intro @zbh3 <| And.intro @zbh9 <| And.intro @zbi6 <| And.intro @zbi9 <| And.intro @zbjc <| And.intro @zbjf <| @zbhp
theorem zbv1 (q : Nat) (zbwz : zbvz q) : zbvy (q + 1) := by
 intro M hM j hj h0z h0l h0x h1z h1l h1x r h R hR fr H hc
 obtain ⟨j, rfl⟩ : ∃ i, j = i + 1 := ⟨j - 1, by omega⟩
 rw [zhj, hc]; clear hc
 rw [zld] at h
 replace h := br h; rcases h with ⟨h1, h⟩ | ⟨h1, h⟩
 ·replace h := bn h; obtain ⟨h2, h⟩ := h
  replace h := bn h; obtain ⟨h3, h⟩ := h
  replace h := bn h; obtain ⟨h4, h⟩ := h
  replace h := ob h; obtain ⟨r9, h5, h⟩ := h
  replace h5 := zbvx q (M + 7) (by omega) _ _ h5
  try simp only [kf, simprocAttr] at h5
  replace h := bn h; obtain ⟨h6, h⟩ := h
  replace h := zbwz M (by omega) j (by omega) _ _ _ _ _ _ _ _ h R hR
  simp only [zbv0, simprocAttr, *]
 ·cases h; subst hR; simp only [zbv0, simprocAttr, *]
theorem zbv2 (q : Nat) (zbwz : zbvz q) : zbvz (q + 1) := by
 intro M hM j hj v4off v4len h0z h0l h1z h1l h1x r h R hR fr H hc
 obtain ⟨j, rfl⟩ : ∃ i, j = i + 1 := ⟨j - 1, by omega⟩
 rw [zhj, hc]; clear hc
 rw [zlc] at h
 replace h := br h; rcases h with ⟨h1, h⟩ | ⟨h1, h⟩
 ·replace h := bn h; obtain ⟨h2, h⟩ := h
  replace h := bn h; obtain ⟨h3, h⟩ := h
  replace h := bn h; obtain ⟨h4, h⟩ := h
  replace h := ob h; obtain ⟨r10, h5, h⟩ := h
  replace h5 := zbvx q (M + 7) (by omega) _ _ h5
  try simp only [kf, simprocAttr] at h5
  replace h := bn h; obtain ⟨h6, h⟩ := h
  replace h := bn h; obtain ⟨h7, h⟩ := h
  replace h := zbwz M (by omega) j (by omega) _ _ _ _ _ _ _ _ h R hR
  simp only [zbv0, simprocAttr, *]
 ·cases h; subst hR; simp only [zbv0, simprocAttr, *]
theorem zbv3 : ∀ q, zbvy q ∧ zbvz q
 | 0 => by refine ⟨?_, ?_⟩ <;> (intro M hM j hj; intros; rename_i h _ _ _ _ _; cases h)
 | q + 1 => by have ⟨i0, i1⟩ := zbv3 q; exact ⟨zbv1 q i1, zbv2 q i1⟩
theorem zbv4 : ∀ (q N : Nat), 8 * q ≤ N → ∀ (a0 : zjj), ∀ (r : (Ow Int) × Int), zle q a0 = some r → (orc T N).deep F.zle [zjj.enc a0] = some [(Ow.enc 1 (V.int .u8)) r.1, (V.int .i64) r.2] := by
 intro q N hM a0 r h
 rcases q with _ | q
 ·cases h
 obtain ⟨M, rfl⟩ : ∃ M, N = M + 8 := ⟨N - 8, by omega⟩
 have ih_snapshot_Encode_l0 := (zbv3 q).1
 generalize hR : some [(Ow.enc 1 (V.int .u8)) r.1, (V.int .i64) r.2] = R
 rw [zhs, zbel, y5, zhq]
 rw [zle] at h
 replace h := ob h; obtain ⟨r1, h1, h⟩ := h
 replace h1 := zbt8 q (M + 7) (by omega) _ _ h1
 try simp only [kf, simprocAttr] at h1
 replace h := bb h; rcases h with ⟨h2', h2, h⟩ | ⟨h2', h2, h⟩
 ·replace h := ob h; obtain ⟨r2, h3, h⟩ := h
  replace h3 := zbuv q (M + 7) (by omega) _ _ h3
  try simp only [kf, simprocAttr] at h3
  replace h := ob h; obtain ⟨r3, h4, h⟩ := h
  replace h4 := zbuf q (M + 7) (by omega) _ _ _ h4
  try simp only [kf, simprocAttr] at h4
  replace h := ob h; obtain ⟨r4, h5, h⟩ := h
  replace h5 := zbuf q (M + 7) (by omega) _ _ _ h5
  try simp only [kf, simprocAttr] at h5
  replace h := ob h; obtain ⟨r5, h6, h⟩ := h
  replace h6 := zbuf q (M + 7) (by omega) _ _ _ h6
  try simp only [kf, simprocAttr] at h6
  replace h := ob h; obtain ⟨r6, h7, h⟩ := h
  replace h7 := zbu9 q (M + 7) (by omega) _ _ h7
  try simp only [kf, simprocAttr] at h7
  replace h := ob h; obtain ⟨r7, h8, h⟩ := h
  replace h8 := zbvg q (M + 7) (by omega) _ _ h8
  try simp only [kf, simprocAttr] at h8
  replace h := bn h; obtain ⟨h9, h⟩ := h
  replace h := ob h; obtain ⟨r8, h10, h⟩ := h
  replace h10 := zbvx q (M + 7) (by omega) _ _ h10
  try simp only [kf, simprocAttr] at h10
  replace h := ih_snapshot_Encode_l0 M (by omega) (M + 7) (by omega) _ _ _ _ _ _ _ h R hR
  simp only [zbv0, simprocAttr, *]
 ·cases h; subst hR; simp only [zbv0, simprocAttr, *]
def zbv5 := And.intro @kk <| And.intro @ke <| And.intro @kn <| And.intro @zbg8 <| And.intro @zbhl <| And.intro @zbho <| @zbha
theorem zbv6 : ∀ (q N : Nat), 8 * q ≤ N → ∀ (r : Bool), zlf q = some r → (orc T N).deep F.zlf [] = some [V.bool r] := by
 intro q N hM r h
 rcases q with _ | q
 ·cases h
 obtain ⟨M, rfl⟩ : ∃ M, N = M + 8 := ⟨N - 8, by omega⟩
 generalize hR : some [V.bool r] = R
 rw [zhs, zbeg, y5, zhq]
 rw [zlf] at h
 replace h := ob h; obtain ⟨r1, h1, h⟩ := h
 replace h1 := zbtz q (M + 7) (by omega) _ _ _ h1
 try simp only [kf, simprocAttr] at h1
 replace h := ob h; obtain ⟨r2, h2, h⟩ := h
 replace h2 := zbv4 q (M + 7) (by omega) _ _ h2
 try simp only [kf, simprocAttr] at h2
 replace h := br h; rcases h with ⟨h3, h⟩ | ⟨h3, h⟩
 ·replace h := br h; rcases h with ⟨h4, h⟩ | ⟨h4, h⟩
  ·replace h := br h; rcases h with ⟨h5, h⟩ | ⟨h5, h⟩
   ·replace h := br h; rcases h with ⟨h6, h⟩ | ⟨h6, h⟩
    ·replace h := br h; rcases h with ⟨h7, h⟩ | ⟨h7, h⟩
     ·replace h := ob h; obtain ⟨e3, h8, h⟩ := h
      replace h := br h; rcases h with ⟨h9, h⟩ | ⟨h9, h⟩
      ·replace h := br h; rcases h with ⟨h10, h⟩ | ⟨h10, h⟩
       ·replace h := br h; rcases h with ⟨h11, h⟩ | ⟨h11, h⟩
        ·replace h := br h; rcases h with ⟨h12, h⟩ | ⟨h12, h⟩
         ·replace h := ob h; obtain ⟨e4, h13, h⟩ := h
          cases h; subst hR; simp only [zbv5, simprocAttr, *]
         ·cases h; subst hR; simp only [zbv5, simprocAttr, *]
        ·cases h; subst hR; simp only [zbv5, simprocAttr, *]
       ·cases h; subst hR; simp only [zbv5, simprocAttr, *]
      ·cases h; subst hR; simp only [zbv5, simprocAttr, *]
     ·cases h; subst hR; simp only [zbv5, simprocAttr, *]
    ·cases h; subst hR; simp only [zbv5, simprocAttr, *]
   ·cases h; subst hR; simp only [zbv5, simprocAttr, *]
  ·cases h; subst hR; simp only [zbv5, simprocAttr, *]
 ·cases h; subst hR; simp only [zbv5, simprocAttr, *]
def zbv7 := And.intro @kk <| And.intro @ke <| And.intro @kn <| And.intro @zbo5 <| @zbo7
theorem zbv8 : ∀ (q N : Nat), 8 * q ≤ N → ∀ (a0 : Int), ∀ (r : Bool), zlg q a0 = some r → (orc T N).deep F.zlg [(V.int .u8) a0] = some [V.bool r] := by
 intro q N hM a0 r h
 rcases q with _ | q
 ·cases h
 obtain ⟨M, rfl⟩ : ∃ M, N = M + 8 := ⟨N - 8, by omega⟩
 generalize hR : some [V.bool r] = R
 rw [zhs, zbg3, y5, zhq]
 rw [zlg] at h
 cases h; subst hR; simp only [zbv7, simprocAttr, *]
def zbv9 (q : Nat) : Prop := ∀ (M : Nat) (hM : 8 * q ≤ M) (j : Nat) (hj : q ≤ j) (v0z : Bool) (v0l : List Int) (v7 v8 r : Int) (_ : zlh q v0z v0l v7 v8 = some r) (R : Option (List V × Hp)) (_ : (some ([(.int .i64 r)], []) : Option (List V × Hp)) = R) (fr : Fr) (H : Hp) (_ : canon 0 [0, 1, 7, 8] fr H = ([(0, (.sl v0z (List.map (V.int .u8) v0l))), (1, (.fn F.zlg [])), (7, (.int .i64 v7)), (8, (.int .i64 v8))], [])), finI 0 false [.tmp 4] (unw T (orc T (M + 5)) (M + 5) 0 [.blk 0, .code zbeb] (iter 0 [0, 1, 7, 8] (exec T (orc T (M + 5)) (M + 5) 0 zbd8) j fr H)) = R
def zbwa := And.intro @kk <| And.intro @ke <| And.intro @kn <| And.intro @zbo8 <| @zbo6
theorem zbwb (q : Nat) (zbw0 : zbv9 q) : zbv9 (q + 1) := by
 intro M hM j hj v0z v0l v7 v8 r h R hR fr H hc
 obtain ⟨j, rfl⟩ : ∃ i, j = i + 1 := ⟨j - 1, by omega⟩
 rw [zhj, hc]; clear hc
 rw [zlh] at h
 replace h := br h; rcases h with ⟨h1, h⟩ | ⟨h1, h⟩
 ·replace h := bn h; obtain ⟨h2, h⟩ := h
  replace h := ob h; obtain ⟨e1, h3, h⟩ := h
  replace h := ob h; obtain ⟨r2, h4, h⟩ := h
  replace h4 := zbv8 q (M + 5) (by omega) _ _ h4
  replace h := bb h; rcases h with ⟨h5', h5, h⟩ | ⟨h5', h5, h⟩
  ·cases h; subst hR; simp only [zbwa, simprocAttr, *]
  ·replace h := zbw0 M (by omega) j (by omega) _ _ _ _ _ h R hR
   simp only [zbwa, simprocAttr, *]
 ·cases h; subst hR; simp only [zbwa, simprocAttr, *]
theorem zbwc : ∀ q, zbv9 q
 | 0 => by intro M hM j hj; intros; rename_i h _ _ _ _ _; cases h
 | q + 1 => by have i0 := zbwc q; exact zbwb q i0
theorem zbwd : ∀ (q M : Nat), 8 * q ≤ M → ∀ (v0z : Bool), ∀ (v0l : List Int), ∀ (r : Int), zli q v0z v0l = some r → (orc T (M + 6)).inl F.zns [(.sl v0z (List.map (V.int .u8) v0l)), (.fn F.zlg [])] [] = (some ([(.int .i64 r)], []) : Option (List V × Hp)) := by
 intro q M hM v0z v0l r h
 rcases q with _ | q
 ·cases h
 have zbw0 := (zbwc q)
 generalize hR : (some ([(.int .i64 r)], []) : Option (List V × Hp)) = R
 rw [zbpa (n := M + 5)]
 rw [zli] at h
 replace h := zbw0 M (by omega) (M + 5) (by omega) _ _ _ _ _ h R hR
 simp only [zbwa, simprocAttr, *]
def zbwe := And.intro @kk <| And.intro @ke <| And.intro @kn <| And.intro @zbn8 <| And.intro @zbo2 <| And.intro @zbo9 <| And.intro @zbo3 <| And.intro @zbo4 <| @zboa
theorem zbwf : ∀ (q N : Nat), 8 * q ≤ N → ∀ (a0 : (Sl Int)), ∀ (r : Bool), zlj q a0 = some r → (orc T N).deep F.zlj [(Sl.enc (V.int .u8)) a0] = some [V.bool r] := by
 intro q N hM a0 r h
 rcases q with _ | q
 ·cases h
 obtain ⟨M, rfl⟩ : ∃ M, N = M + 8 := ⟨N - 8, by omega⟩
 generalize hR : some [V.bool r] = R
 rw [zhs, zbgs, y5, zhq]
 rw [zlj] at h
 replace h := br h; rcases h with ⟨h1, h⟩ | ⟨h1, h⟩
 ·replace h := ob h; obtain ⟨r1, h2, h⟩ := h
  replace h2 := zbwd q M (by omega) _ _ _ h2
  try simp only [kf, simprocAttr] at h2
  cases h; subst hR; simp only [zbwe, simprocAttr, *]
 ·cases h; subst hR; simp only [zbwe, simprocAttr, *]
end Go.Dvm.C
