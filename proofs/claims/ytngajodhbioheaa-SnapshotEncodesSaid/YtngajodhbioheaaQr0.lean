/- The machine comes to these answers: part 1. -/
import Derived.Test.YtngajodhbioheaaQl0
set_option linter.all false
set_option maxRecDepth 100000
set_option maxHeartbeats 4000000
namespace Go.Dvm.C
open Go Go.Dvm Go.Dvm.I
def zbmd := And.intro @kk <| And.intro @ke <| And.intro @kn <| And.intro @zbhw <| @zbhy
theorem zbme : ∀ (q N : Nat), 8 * q ≤ N → ∀ (a0 r : Int), zjp q a0 = some r → (orc T N).deep F.zjp [(V.int .i64) a0] = some [(V.int .i64) r] := by
 intro q N hM a0 r h
 rcases q with _ | q
 ·cases h
 obtain ⟨M, rfl⟩ : ∃ M, N = M + 8 := ⟨N - 8, by omega⟩
 generalize hR : some [(V.int .i64) r] = R
 rw [zhs, zbdc, y5, zhq]
 rw [zjp] at h
 cases h; subst hR; simp only [zbmd, simprocAttr, *]
def zbmf := And.intro @kk <| And.intro @ke <| And.intro @kn <| And.intro @zbht <| And.intro @zbhx <| @zbhv
theorem zbmg : ∀ (q N : Nat), 8 * q ≤ N → ∀ (a0 : Int), ∀ (r : Bool), zjq q a0 = some r → (orc T N).deep F.zjq [(V.int .i64) a0] = some [V.bool r] := by
 intro q N hM a0 r h
 rcases q with _ | q
 ·cases h
 obtain ⟨M, rfl⟩ : ∃ M, N = M + 8 := ⟨N - 8, by omega⟩
 generalize hR : some [V.bool r] = R
 rw [zhs, zbdb, y5, zhq]
 rw [zjq] at h
 replace h := ob h; obtain ⟨r1, h1, h⟩ := h
 replace h1 := zbme q (M + 7) (by omega) _ _ h1
 cases h; subst hR; simp only [zbmf, simprocAttr, *]
def zbmh (q : Nat) : Prop := ∀ (M : Nat) (hM : 8 * q ≤ M) (j : Nat) (hj : q ≤ j) (v0z : Bool) (v0l : List Int) (v1 v5 v6 : Int) (r : Bool) (_ : zjr q v0z v0l v1 v5 v6 = some r) (R : Option (List V)) (_ : some [V.bool r] = R) (fr : Fr) (H : Hp) (_ : canon 0 [0, 1, 5, 6] fr H = ([(0, (.sl v0z (List.map (V.int .i64) v0l))), (1, (.int .i64 v1)), (5, (.int .i64 v5)), (6, (.int .i64 v6))], [])), fin zyg (unw T (orc T (M + 7)) (M + 7) 0 [.blk 0, .code zyc] (iter 0 [0, 1, 5, 6] (exec T (orc T (M + 7)) (M + 7) 0 zx9) j fr H)) = R
def zbmi := And.intro @kk <| And.intro @ke <| And.intro @kn <| And.intro @zbhz <| @zbh1
theorem zbmj (q : Nat) (zbqk : zbmh q) : zbmh (q + 1) := by
 intro M hM j hj v0z v0l v1 v5 v6 r h R hR fr H hc
 obtain ⟨j, rfl⟩ : ∃ i, j = i + 1 := ⟨j - 1, by omega⟩
 rw [zhj, hc]; clear hc
 rw [zjr] at h
 replace h := br h; rcases h with ⟨h1, h⟩ | ⟨h1, h⟩
 ·replace h := bn h; obtain ⟨h2, h⟩ := h
  replace h := ob h; obtain ⟨e1, h3, h⟩ := h
  replace h := br h; rcases h with ⟨h4, h⟩ | ⟨h4, h⟩
  ·cases h; subst hR; simp only [zbmi, simprocAttr, *]
  ·replace h := br h; rcases h with ⟨h5, h⟩ | ⟨h5, h⟩
   ·cases h; subst hR; simp only [zbmi, simprocAttr, *]
   ·replace h := bn h; obtain ⟨h6, h⟩ := h
    replace h := ob h; obtain ⟨e2, h7, h⟩ := h
    replace h := br h; rcases h with ⟨h8, h⟩ | ⟨h8, h⟩
    ·cases h; subst hR; simp only [zbmi, simprocAttr, *]
    ·replace h := br h; rcases h with ⟨h9, h⟩ | ⟨h9, h⟩
     ·cases h; subst hR; simp only [zbmi, simprocAttr, *]
     ·replace h := zbqk M (by omega) j (by omega) _ _ _ _ _ _ h R hR
      simp only [zbmi, simprocAttr, *]
 ·replace h := br h; rcases h with ⟨h10, h⟩ | ⟨h10, h⟩
  ·cases h; subst hR; simp only [zbmi, simprocAttr, *]
  ·cases h; subst hR; simp only [zbmi, simprocAttr, *]
theorem zbmk : ∀ q, zbmh q
 | 0 => by intro M hM j hj; intros; rename_i h _ _ _ _ _; cases h
 | q + 1 => by have i0 := zbmk q; exact zbmj q i0
theorem zbml : ∀ (q N : Nat), 8 * q ≤ N → ∀ (a0 : (Sl Int)) (a1 : Int), ∀ (r : Bool), zjs q a0 a1 = some r → (orc T N).deep F.zjs [(Sl.enc (V.int .i64)) a0, (V.int .i64) a1] = some [V.bool r] := by
 intro q N hM a0 a1 r h
 rcases q with _ | q
 ·cases h
 obtain ⟨M, rfl⟩ : ∃ M, N = M + 8 := ⟨N - 8, by omega⟩
 have zbqk := (zbmk q)
 generalize hR : some [V.bool r] = R
 rw [zhs, zbdd, y5, zhq]
 rw [zjs] at h
 replace h := zbqk M (by omega) (M + 7) (by omega) _ _ _ _ _ _ h R hR
 simp only [zbmi, simprocAttr, *]
def zbmm (q : Nat) : Prop := ∀ (M : Nat) (hM : 8 * q ≤ M) (j : Nat) (hj : q ≤ j) (v0z : Bool) (v0l : List Int) (v7 v8 h0_0 : Int) (h0_1z : Bool) (h0_1l : List Int) (h0_2 : Bool) (h0_3 r : Int) (_ : zjt q v0z v0l v7 v8 h0_0 h0_1z h0_1l h0_2 h0_3 = some r) (R : Option (List V × Hp)) (_ : (some ([(.int .i64 r)], [(.box [(.int .i64 h0_0), (.sl h0_1z (List.map (V.int .i64) h0_1l)), (.bool h0_2), (.int .i64 h0_3)])]) : Option (List V × Hp)) = R) (fr : Fr) (H : Hp) (_ : canon 1 [0, 1, 7, 8] fr H = ([(0, (.sl v0z (List.map (V.int .i64) v0l))), (1, (.fn F.zjq [])), (7, (.int .i64 v7)), (8, (.int .i64 v8))], [(.box [(.int .i64 h0_0), (.sl h0_1z (List.map (V.int .i64) h0_1l)), (.bool h0_2), (.int .i64 h0_3)])])), finI 1 false [.tmp 4] (unw T (orc T (M + 5)) (M + 5) 1 [.blk 0, .code z79] (iter 1 [0, 1, 7, 8] (exec T (orc T (M + 5)) (M + 5) 1 z76) j fr H)) = R
def zbmn := And.intro @kk <| And.intro @ke <| And.intro @kn <| And.intro @zbjn <| @zbhu
theorem zbmo (q : Nat) (zbql : zbmm q) : zbmm (q + 1) := by
 intro M hM j hj v0z v0l v7 v8 h0_0 h0_1z h0_1l h0_2 h0_3 r h R hR fr H hc
 obtain ⟨j, rfl⟩ : ∃ i, j = i + 1 := ⟨j - 1, by omega⟩
 rw [zhj, hc]; clear hc
 rw [zjt] at h
 replace h := br h; rcases h with ⟨h1, h⟩ | ⟨h1, h⟩
 ·replace h := bn h; obtain ⟨h2, h⟩ := h
  replace h := ob h; obtain ⟨e1, h3, h⟩ := h
  replace h := ob h; obtain ⟨r2, h4, h⟩ := h
  replace h4 := zbmg q (M + 5) (by omega) _ _ h4
  replace h := bb h; rcases h with ⟨h5', h5, h⟩ | ⟨h5', h5, h⟩
  ·cases h; subst hR; simp only [zbmn, simprocAttr, *]
  ·replace h := zbql M (by omega) j (by omega) _ _ _ _ _ _ _ _ _ _ h R hR
   simp only [zbmn, simprocAttr, *]
 ·cases h; subst hR; simp only [zbmn, simprocAttr, *]
theorem zbmp : ∀ q, zbmm q
 | 0 => by intro M hM j hj; intros; rename_i h _ _ _ _ _; cases h
 | q + 1 => by have i0 := zbmp q; exact zbmo q i0
theorem zbmq : ∀ (q M : Nat), 8 * q ≤ M → ∀ (v0z : Bool), ∀ (v0l : List Int), ∀ (h0_0 : Int), ∀ (h0_1z : Bool), ∀ (h0_1l : List Int), ∀ (h0_2 : Bool), ∀ (h0_3 r : Int), zju q v0z v0l h0_0 h0_1z h0_1l h0_2 h0_3 = some r → (orc T (M + 6)).inl F.zmu [(.sl v0z (List.map (V.int .i64) v0l)), (.fn F.zjq [])] [(.box [(.int .i64 h0_0), (.sl h0_1z (List.map (V.int .i64) h0_1l)), (.bool h0_2), (.int .i64 h0_3)])] = (some ([(.int .i64 r)], [(.box [(.int .i64 h0_0), (.sl h0_1z (List.map (V.int .i64) h0_1l)), (.bool h0_2), (.int .i64 h0_3)])]) : Option (List V × Hp)) := by
 intro q M hM v0z v0l h0_0 h0_1z h0_1l h0_2 h0_3 r h
 rcases q with _ | q
 ·cases h
 have zbql := (zbmp q)
 generalize hR : (some ([(.int .i64 r)], [(.box [(.int .i64 h0_0), (.sl h0_1z (List.map (V.int .i64) h0_1l)), (.bool h0_2), (.int .i64 h0_3)])]) : Option (List V × Hp)) = R
 rw [zbjp (n := M + 5)]
 rw [zju] at h
 replace h := zbql M (by omega) (M + 5) (by omega) _ _ _ _ _ _ _ _ _ _ h R hR
 simp only [zbmn, simprocAttr, *]
def zbmr := And.intro @kk <| And.intro @ke <| And.intro @kn <| And.intro @zbfe <| And.intro @zbhq <| And.intro @zbh0 <| And.intro @zbjo <| And.intro @zbhr <| And.intro @zbhs <| @zbfg
theorem zbms : ∀ (q N : Nat), 8 * q ≤ N → ∀ (a0 : zji), ∀ (r : Bool), zjv q a0 = some r → (orc T N).deep F.zjv [zji.enc a0] = some [V.bool r] := by
 intro q N hM a0 r h
 rcases q with _ | q
 ·cases h
 obtain ⟨M, rfl⟩ : ∃ M, N = M + 8 := ⟨N - 8, by omega⟩
 generalize hR : some [V.bool r] = R
 rw [zhs, zbci, y5, zhq]
 rw [zjv] at h
 replace h := br h; rcases h with ⟨h1, h⟩ | ⟨h1, h⟩
 ·cases h; subst hR; simp only [zbmr, simprocAttr, *]
 ·replace h := br h; rcases h with ⟨h2, h⟩ | ⟨h2, h⟩
  ·cases h; subst hR; simp only [zbmr, simprocAttr, *]
  ·replace h := bb h; rcases h with ⟨h3', h3, h⟩ | ⟨h3', h3, h⟩
   ·replace h := ob h; obtain ⟨r1, h4, h⟩ := h
    replace h4 := zbmq q M (by omega) _ _ _ _ _ _ _ _ h4
    try simp only [kf, simprocAttr] at h4
    replace h := br h; rcases h with ⟨h5, h⟩ | ⟨h5, h⟩
    ·replace h := br h; rcases h with ⟨h6, h⟩ | ⟨h6, h⟩
     ·cases h; subst hR; simp only [zbmr, simprocAttr, *]
     ·cases h; subst hR; simp only [zbmr, simprocAttr, *]
    ·replace h := br h; rcases h with ⟨h7, h⟩ | ⟨h7, h⟩
     ·replace h := br h; rcases h with ⟨h8, h⟩ | ⟨h8, h⟩
      ·cases h; subst hR; simp only [zbmr, simprocAttr, *]
      ·cases h; subst hR; simp only [zbmr, simprocAttr, *]
     ·replace h := br h; rcases h with ⟨h9, h⟩ | ⟨h9, h⟩
      ·replace h := br h; rcases h with ⟨h10, h⟩ | ⟨h10, h⟩
       ·cases h; subst hR; simp only [zbmr, simprocAttr, *]
       ·cases h; subst hR; simp only [zbmr, simprocAttr, *]
      ·replace h := br h; rcases h with ⟨h11, h⟩ | ⟨h11, h⟩
       ·replace h := br h; rcases h with ⟨h12, h⟩ | ⟨h12, h⟩
        ·cases h; subst hR; simp only [zbmr, simprocAttr, *]
        ·cases h; subst hR; simp only [zbmr, simprocAttr, *]
       ·replace h := br h; rcases h with ⟨h13, h⟩ | ⟨h13, h⟩
        ·replace h := ob h; obtain ⟨r2, h14, h⟩ := h
         replace h14 := zbml q (M + 7) (by omega) _ _ _ h14
         try simp only [kf, simprocAttr] at h14
         cases h; subst hR; simp only [zbmr, simprocAttr, *]
        ·replace h := br h; rcases h with ⟨h15, h⟩ | ⟨h15, h⟩
         ·replace h := ob h; obtain ⟨r3, h16, h⟩ := h
          replace h16 := zbml q (M + 7) (by omega) _ _ _ h16
          try simp only [kf, simprocAttr] at h16
          cases h; subst hR; simp only [zbmr, simprocAttr, *]
         ·cases h; subst hR; simp only [zbmr, simprocAttr, *]
   ·replace h := br h; rcases h with ⟨h17, h⟩ | ⟨h17, h⟩
    ·replace h := ob h; obtain ⟨r4, h18, h⟩ := h
     replace h18 := zbmq q M (by omega) _ _ _ _ _ _ _ _ h18
     try simp only [kf, simprocAttr] at h18
     replace h := br h; rcases h with ⟨h19, h⟩ | ⟨h19, h⟩
     ·replace h := br h; rcases h with ⟨h20, h⟩ | ⟨h20, h⟩
      ·cases h; subst hR; simp only [zbmr, simprocAttr, *]
      ·cases h; subst hR; simp only [zbmr, simprocAttr, *]
     ·replace h := br h; rcases h with ⟨h21, h⟩ | ⟨h21, h⟩
      ·replace h := br h; rcases h with ⟨h22, h⟩ | ⟨h22, h⟩
       ·cases h; subst hR; simp only [zbmr, simprocAttr, *]
       ·cases h; subst hR; simp only [zbmr, simprocAttr, *]
      ·replace h := br h; rcases h with ⟨h23, h⟩ | ⟨h23, h⟩
       ·replace h := br h; rcases h with ⟨h24, h⟩ | ⟨h24, h⟩
        ·cases h; subst hR; simp only [zbmr, simprocAttr, *]
        ·cases h; subst hR; simp only [zbmr, simprocAttr, *]
       ·replace h := br h; rcases h with ⟨h25, h⟩ | ⟨h25, h⟩
        ·replace h := br h; rcases h with ⟨h26, h⟩ | ⟨h26, h⟩
         ·cases h; subst hR; simp only [zbmr, simprocAttr, *]
         ·cases h; subst hR; simp only [zbmr, simprocAttr, *]
        ·replace h := br h; rcases h with ⟨h27, h⟩ | ⟨h27, h⟩
         ·replace h := ob h; obtain ⟨r5, h28, h⟩ := h
          replace h28 := zbml q (M + 7) (by omega) _ _ _ h28
          try simp only [kf, simprocAttr] at h28
          cases h; subst hR; simp only [zbmr, simprocAttr, *]
         ·replace h := br h; rcases h with ⟨h29, h⟩ | ⟨h29, h⟩
          ·replace h := ob h; obtain ⟨r6, h30, h⟩ := h
           replace h30 := zbml q (M + 7) (by omega) _ _ _ h30
           try simp only [kf, simprocAttr] at h30
           cases h; subst hR; simp only [zbmr, simprocAttr, *]
          ·cases h; subst hR; simp only [zbmr, simprocAttr, *]
    ·cases h; subst hR; simp only [zbmr, simprocAttr, *]
def zbmt := And.intro @kk <| And.intro @ke <| And.intro @kn <| And.intro @zbh2 <| @zbh4
theorem zbmu : ∀ (q N : Nat), 8 * q ≤ N → ∀ (a0 : zjj), ∀ (r : Bool), zjw q a0 = some r → (orc T N).deep F.zjw [zjj.enc a0] = some [V.bool r] := by
 intro q N hM a0 r h
 rcases q with _ | q
 ·cases h
 obtain ⟨M, rfl⟩ : ∃ M, N = M + 8 := ⟨N - 8, by omega⟩
 generalize hR : some [V.bool r] = R
 rw [zhs, zbde, y5, zhq]
 rw [zjw] at h
 replace h := br h; rcases h with ⟨h1, h⟩ | ⟨h1, h⟩
 ·replace h := br h; rcases h with ⟨h2, h⟩ | ⟨h2, h⟩
  ·replace h := br h; rcases h with ⟨h3, h⟩ | ⟨h3, h⟩
   ·replace h := br h; rcases h with ⟨h4, h⟩ | ⟨h4, h⟩
    ·replace h := br h; rcases h with ⟨h5, h⟩ | ⟨h5, h⟩
     ·cases h; subst hR; simp only [zbmt, simprocAttr, *]
     ·cases h; subst hR; simp only [zbmt, simprocAttr, *]
    ·cases h; subst hR; simp only [zbmt, simprocAttr, *]
   ·cases h; subst hR; simp only [zbmt, simprocAttr, *]
  ·cases h; subst hR; simp only [zbmt, simprocAttr, *]
 ·cases h; subst hR; simp only [zbmt, simprocAttr, *]
def zbmv (q : Nat) : Prop := ∀ (M : Nat) (hM : 8 * q ≤ M) (j : Nat) (hj : q ≤ j) (v0z : Bool) (v0l : List zjj) (v5z : Bool) (v5l : List zjj) (v6 v7 : Int) (r : Bool) (_ : zjx q v0z v0l v5z v5l v6 v7 = some r) (R : Option (List V)) (_ : some [V.bool r] = R) (fr : Fr) (H : Hp) (_ : canon 0 [0, 5, 6, 7] fr H = ([(0, (.sl v0z (List.map zjj.enc v0l))), (5, (.sl v5z (List.map zjj.enc v5l))), (6, (.int .i64 v6)), (7, (.int .i64 v7))], [])), fin zq1 (unw T (orc T (M + 7)) (M + 7) 0 [.blk 0, .code zqy] (iter 0 [0, 5, 6, 7] (exec T (orc T (M + 7)) (M + 7) 0 zqv) j fr H)) = R
def zbmw := And.intro @kk <| And.intro @ke <| And.intro @kn <| And.intro @zbfh <| And.intro @zbh3 <| @zbfj
theorem zbmx (q : Nat) (zbqm : zbmv q) : zbmv (q + 1) := by
 intro M hM j hj v0z v0l v5z v5l v6 v7 r h R hR fr H hc
 obtain ⟨j, rfl⟩ : ∃ i, j = i + 1 := ⟨j - 1, by omega⟩
 rw [zhj, hc]; clear hc
 rw [zjx] at h
 replace h := br h; rcases h with ⟨h1, h⟩ | ⟨h1, h⟩
 ·replace h := bn h; obtain ⟨h2, h⟩ := h
  replace h := ob h; obtain ⟨e1, h3, h⟩ := h
  replace h := ob h; obtain ⟨r2, h4, h⟩ := h
  replace h4 := zbmu q (M + 7) (by omega) _ _ h4
  try simp only [kf, simprocAttr] at h4
  replace h := bb h; rcases h with ⟨h5', h5, h⟩ | ⟨h5', h5, h⟩
  ·replace h := br h; rcases h with ⟨h6, h⟩ | ⟨h6, h⟩
   ·replace h := bn h; obtain ⟨h7, h⟩ := h
    replace h := ob h; obtain ⟨e3, h8, h⟩ := h
    replace h := br h; rcases h with ⟨h9, h⟩ | ⟨h9, h⟩
    ·cases h; subst hR; simp only [zbmw, simprocAttr, *]
    ·replace h := zbqm M (by omega) j (by omega) _ _ _ _ _ _ _ h R hR
     simp only [zbmw, simprocAttr, *]
   ·replace h := zbqm M (by omega) j (by omega) _ _ _ _ _ _ _ h R hR
    simp only [zbmw, simprocAttr, *]
  ·cases h; subst hR; simp only [zbmw, simprocAttr, *]
 ·cases h; subst hR; simp only [zbmw, simprocAttr, *]
theorem zbmy : ∀ q, zbmv q
 | 0 => by intro M hM j hj; intros; rename_i h _ _ _ _ _; cases h
 | q + 1 => by have i0 := zbmy q; exact zbmx q i0
theorem zbmz : ∀ (q N : Nat), 8 * q ≤ N → ∀ (a0 : (Sl zjj)), ∀ (r : Bool), zjy q a0 = some r → (orc T N).deep F.zjy [(Sl.enc zjj.enc) a0] = some [V.bool r] := by
 intro q N hM a0 r h
 rcases q with _ | q
 ·cases h
 obtain ⟨M, rfl⟩ : ∃ M, N = M + 8 := ⟨N - 8, by omega⟩
 have zbqm := (zbmy q)
 generalize hR : some [V.bool r] = R
 rw [zhs, zbcj, y5, zhq]
 rw [zjy] at h
 replace h := zbqm M (by omega) (M + 7) (by omega) _ _ _ _ _ _ _ h R hR
 simp only [zbmw, simprocAttr, *]
def zbm0 := And.intro @kk <| And.intro @ke <| And.intro @kn <| And.intro @zbeb <| And.intro @zbff <| And.intro @zbfi <| @zbed
theorem zbm1 : ∀ (q N : Nat), 8 * q ≤ N → ∀ (a0 : zjk), ∀ (r : Bool), zjz q a0 = some r → (orc T N).deep F.zjz [zjk.enc a0] = some [V.bool r] := by
 intro q N hM a0 r h
 rcases q with _ | q
 ·cases h
 obtain ⟨M, rfl⟩ : ∃ M, N = M + 8 := ⟨N - 8, by omega⟩
 generalize hR : some [V.bool r] = R
 rw [zhs, zbb5, y5, zhq]
 rw [zjz] at h
 replace h := br h; rcases h with ⟨h1, h⟩ | ⟨h1, h⟩
 ·replace h := br h; rcases h with ⟨h2, h⟩ | ⟨h2, h⟩
  ·replace h := ob h; obtain ⟨r1, h3, h⟩ := h
   replace h3 := zbms q (M + 7) (by omega) _ _ h3
   try simp only [kf, simprocAttr] at h3
   replace h := bb h; rcases h with ⟨h4', h4, h⟩ | ⟨h4', h4, h⟩
   ·replace h := ob h; obtain ⟨r2, h5, h⟩ := h
    replace h5 := zbmz q (M + 7) (by omega) _ _ h5
    try simp only [kf, simprocAttr] at h5
    cases h; subst hR; simp only [zbm0, simprocAttr, *]
   ·cases h; subst hR; simp only [zbm0, simprocAttr, *]
  ·cases h; subst hR; simp only [zbm0, simprocAttr, *]
 ·cases h; subst hR; simp only [zbm0, simprocAttr, *]
def zbm2 := And.intro @kk <| And.intro @ke <| And.intro @kn <| And.intro @zbfb <| @zbfd
theorem zbm3 : ∀ (q N : Nat), 8 * q ≤ N → ∀ (a0 : (Sl Int)), ∀ (r : (Ow Int)), zj0 q a0 = some r → (orc T N).deep F.zj0 [(Sl.enc (V.int .i64)) a0] = some [(Ow.enc 1 (V.int .i64)) r] := by
 intro q N hM a0 r h
 rcases q with _ | q
 ·cases h
 obtain ⟨M, rfl⟩ : ∃ M, N = M + 8 := ⟨N - 8, by omega⟩
 generalize hR : some [(Ow.enc 1 (V.int .i64)) r] = R
 rw [zhs, zbch, y5, zhq]
 rw [zj0] at h
 replace h := bb h; rcases h with ⟨h1', h1, h⟩ | ⟨h1', h1, h⟩
 ·cases h; subst hR; simp only [zbm2, simprocAttr, *]
 ·replace h := bn h; obtain ⟨h2, h⟩ := h
  cases h; subst hR; simp only [zbm2, simprocAttr, *]
def zbm4 := And.intro @kk <| And.intro @ke <| And.intro @kn <| And.intro @zbf5 <| @zbf7
theorem zbm5 : ∀ (q N : Nat), 8 * q ≤ N → ∀ (a0 : (Sl zjj)), ∀ (r : (Ow zjj)), zj1 q a0 = some r → (orc T N).deep F.zj1 [(Sl.enc zjj.enc) a0] = some [(Ow.enc 3 zjj.enc) r] := by
 intro q N hM a0 r h
 rcases q with _ | q
 ·cases h
 obtain ⟨M, rfl⟩ : ∃ M, N = M + 8 := ⟨N - 8, by omega⟩
 generalize hR : some [(Ow.enc 3 zjj.enc) r] = R
 rw [zhs, zbcr, y5, zhq]
 rw [zj1] at h
 replace h := bb h; rcases h with ⟨h1', h1, h⟩ | ⟨h1', h1, h⟩
 ·cases h; subst hR; simp only [zbm4, simprocAttr, *]
 ·replace h := bn h; obtain ⟨h2, h⟩ := h
  cases h; subst hR; simp only [zbm4, simprocAttr, *]
def zbm6 := And.intro @kk <| And.intro @ke <| And.intro @kn <| And.intro @zbgh <| @zbgj
theorem zbm7 : ∀ (q N : Nat), 8 * q ≤ N → ∀ (a0 : (Ow zjj)) (a1 : Int) (a2 : (Sl zjj)), ∀ (r : (Ow zjj)), zj2 q a0 a1 a2 = some r → (orc T N).deep F.zj2 [(Ow.enc 3 zjj.enc) a0, (V.int .i64) a1, (Sl.enc zjj.enc) a2] = some [(Ow.enc 3 zjj.enc) r] := by
 intro q N hM a0 a1 a2 r h
 rcases q with _ | q
 ·cases h
 obtain ⟨M, rfl⟩ : ∃ M, N = M + 8 := ⟨N - 8, by omega⟩
 generalize hR : some [(Ow.enc 3 zjj.enc) r] = R
 rw [zhs, zbcv, y5, zhq]
 rw [zj2] at h
 replace h := bn h; obtain ⟨h1, h⟩ := h
 replace h := bn h; obtain ⟨h2, h⟩ := h
 replace h := br h; rcases h with ⟨h3, h⟩ | ⟨h3, h⟩
 ·cases h; subst hR; simp only [zbm6, simprocAttr, *]
 ·replace h := bn h; obtain ⟨h4, h⟩ := h
  replace h := bn h; obtain ⟨h5, h⟩ := h
  cases h; subst hR; simp only [zbm6, simprocAttr, *]
def zbm8 (q : Nat) : Prop := ∀ (M : Nat) (hM : 8 * q ≤ M) (j : Nat) (hj : q ≤ j) (w1 : Nat) (v7 v8 h0_0 h0_1 h0_2 h0_3 h0_4 h0_5 h0_6 : Int) (h1z : Bool) (h1l : List zjj) (h1x : Bool) (r : Int) (_ : zj3 q v7 v8 h0_0 h0_1 h0_2 h0_3 h0_4 h0_5 h0_6 h1z h1l h1x = some r) (R : Option (List V × Hp)) (_ : (some ([(.int .i64 r)], [(.box [(.int .i64 h0_0), (.int .i64 h0_1), (.int .i64 h0_2), (.int .i64 h0_3), (.int .i64 h0_4), (.int .i64 h0_5), (.int .i64 h0_6)]), (.row w1 h1z 3 (List.map zjj.enc h1l) h1x)]) : Option (List V × Hp)) = R) (fr : Fr) (H : Hp) (_ : canon 2 [0, 1, 7, 8] fr H = ([(0, (.vw 1 w1 0 h1l.length 1)), (1, (.fn F.zmp [(.ptr 0 0)])), (7, (.int .i64 v7)), (8, (.int .i64 v8))], [(.box [(.int .i64 h0_0), (.int .i64 h0_1), (.int .i64 h0_2), (.int .i64 h0_3), (.int .i64 h0_4), (.int .i64 h0_5), (.int .i64 h0_6)]), (.row w1 h1z 3 (List.map zjj.enc h1l) h1x)])), finI 2 false [.tmp 4] (unw T (orc T (M + 5)) (M + 5) 2 [.blk 0, .code ztk] (iter 2 [0, 1, 7, 8] (exec T (orc T (M + 5)) (M + 5) 2 zth) j fr H)) = R
def zbm9 := And.intro @kk <| And.intro @ke <| And.intro @kn <| And.intro @zbf8 <| And.intro @zbgb <| And.intro @zbf9 <| @zbga
theorem zbna (q : Nat) (zbqn : zbm8 q) : zbm8 (q + 1) := by
 intro M hM j hj w1 v7 v8 h0_0 h0_1 h0_2 h0_3 h0_4 h0_5 h0_6 h1z h1l h1x r h R hR fr H hc
 obtain ⟨j, rfl⟩ : ∃ i, j = i + 1 := ⟨j - 1, by omega⟩
 rw [zhj, hc]; clear hc
 rw [zj3] at h
 replace h := br h; rcases h with ⟨h1, h⟩ | ⟨h1, h⟩
 ·replace h := bn h; obtain ⟨h2, h⟩ := h
  replace h := bn h; obtain ⟨h3, h⟩ := h
  replace h := ob h; obtain ⟨e1, h4, h⟩ := h
  replace h := br h; rcases h with ⟨h5, h⟩ | ⟨h5, h⟩
  ·cases h; subst hR; simp only [zbm9, simprocAttr, *]
  ·replace h := zbqn M (by omega) j (by omega) w1 _ _ _ _ _ _ _ _ _ _ _ _ _ h R hR
   simp only [zbm9, simprocAttr, *]
 ·cases h; subst hR; simp only [zbm9, simprocAttr, *]
theorem zbnb : ∀ q, zbm8 q
 | 0 => by intro M hM j hj; intros; rename_i h _ _ _ _ _; cases h
 | q + 1 => by have i0 := zbnb q; exact zbna q i0
theorem zbnc : ∀ (q M : Nat), 8 * q ≤ M → ∀ (w1 : Nat), ∀ (h0_0 h0_1 h0_2 h0_3 h0_4 h0_5 h0_6 : Int), ∀ (h1z : Bool), ∀ (h1l : List zjj), ∀ (h1x : Bool), ∀ (r : Int), zj4 q h0_0 h0_1 h0_2 h0_3 h0_4 h0_5 h0_6 h1z h1l h1x = some r → (orc T (M + 6)).inl F.zmq [(.vw 1 w1 0 h1l.length 1), (.fn F.zmp [(.ptr 0 0)])] [(.box [(.int .i64 h0_0), (.int .i64 h0_1), (.int .i64 h0_2), (.int .i64 h0_3), (.int .i64 h0_4), (.int .i64 h0_5), (.int .i64 h0_6)]), (.row w1 h1z 3 (List.map zjj.enc h1l) h1x)] = (some ([(.int .i64 r)], [(.box [(.int .i64 h0_0), (.int .i64 h0_1), (.int .i64 h0_2), (.int .i64 h0_3), (.int .i64 h0_4), (.int .i64 h0_5), (.int .i64 h0_6)]), (.row w1 h1z 3 (List.map zjj.enc h1l) h1x)]) : Option (List V × Hp)) := by
 intro q M hM w1 h0_0 h0_1 h0_2 h0_3 h0_4 h0_5 h0_6 h1z h1l h1x r h
 rcases q with _ | q
 ·cases h
 have zbqn := (zbnb q)
 generalize hR : (some ([(.int .i64 r)], [(.box [(.int .i64 h0_0), (.int .i64 h0_1), (.int .i64 h0_2), (.int .i64 h0_3), (.int .i64 h0_4), (.int .i64 h0_5), (.int .i64 h0_6)]), (.row w1 h1z 3 (List.map zjj.enc h1l) h1x)]) : Option (List V × Hp)) = R
 rw [zbgd (n := M + 5)]
 rw [zj4] at h
 replace h := zbqn M (by omega) (M + 5) (by omega) w1 _ _ _ _ _ _ _ _ _ _ _ _ _ h R hR
 simp only [zbm9, simprocAttr, *]
def zbnd (q : Nat) : Prop := ∀ (M : Nat) (hM : 8 * q ≤ M) (j : Nat) (hj : q ≤ j) (w1 : Nat) (v5 v6 h0_0 h0_1 h0_2 h0_3 h0_4 h0_5 h0_6 : Int) (h1z : Bool) (h1l : List zjj) (h1x : Bool) (r : Nat × (List zjj) × Bool) (_ : zj5 q v5 v6 h0_0 h0_1 h0_2 h0_3 h0_4 h0_5 h0_6 h1z h1l h1x = some r) (R : Option (List V × Hp)) (_ : (some ([(.vw 1 w1 0 r.1 0)], [(.box [(.int .i64 h0_0), (.int .i64 h0_1), (.int .i64 h0_2), (.int .i64 h0_3), (.int .i64 h0_4), (.int .i64 h0_5), (.int .i64 h0_6)]), (.row w1 h1z 3 (List.map zjj.enc r.2.1) r.2.2)]) : Option (List V × Hp)) = R) (fr : Fr) (H : Hp) (_ : canon 2 [0, 1, 5, 6] fr H = ([(0, (.vw 1 w1 0 h1l.length 1)), (1, (.fn F.zmp [(.ptr 0 0)])), (5, (.int .i64 v5)), (6, (.int .i64 v6))], [(.box [(.int .i64 h0_0), (.int .i64 h0_1), (.int .i64 h0_2), (.int .i64 h0_3), (.int .i64 h0_4), (.int .i64 h0_5), (.int .i64 h0_6)]), (.row w1 h1z 3 (List.map zjj.enc h1l) h1x)])), finI 2 true [.tmp 4] (unw T (orc T (M + 6)) (M + 6) 2 [.blk 0, .code zs4] (iter 2 [0, 1, 5, 6] (exec T (orc T (M + 6)) (M + 6) 2 zsz) j fr H)) = R
def zbne := And.intro @kk <| And.intro @ke <| And.intro @kn <| And.intro @zbf2 <| And.intro @zbf8 <| And.intro @zbgc <| And.intro @zbf9 <| @zbga
theorem zbnf (q : Nat) (zbqo : zbnd q) : zbnd (q + 1) := by
 intro M hM j hj w1 v5 v6 h0_0 h0_1 h0_2 h0_3 h0_4 h0_5 h0_6 h1z h1l h1x r h R hR fr H hc
 obtain ⟨j, rfl⟩ : ∃ i, j = i + 1 := ⟨j - 1, by omega⟩
 rw [zhj, hc]; clear hc
 rw [zj5] at h
 replace h := br h; rcases h with ⟨h1, h⟩ | ⟨h1, h⟩
 ·replace h := bn h; obtain ⟨h2, h⟩ := h
  replace h := bn h; obtain ⟨h3, h⟩ := h
  replace h := ob h; obtain ⟨e2, h4, h⟩ := h
  replace h := br h; rcases h with ⟨h5, h⟩ | ⟨h5, h⟩
  ·replace h := zbqo M (by omega) j (by omega) w1 _ _ _ _ _ _ _ _ _ _ _ _ _ h R hR
   simp only [zbne, simprocAttr, *]
  ·replace h := bn h; obtain ⟨h6, h⟩ := h
   replace h := bn h; obtain ⟨h7, h⟩ := h
   replace h := ob h; obtain ⟨e3, h8, h⟩ := h
   replace h := bb h; rcases h with ⟨h9', h9, h⟩ | ⟨h9', h9, h⟩
   ·replace h := zbqo M (by omega) j (by omega) w1 _ _ _ _ _ _ _ _ _ _ _ _ _ h R hR
    simp only [zbne, simprocAttr, *]
   ·cases h
 ·replace h := bn h; obtain ⟨h10, h⟩ := h
  replace h := bn h; obtain ⟨h11, h⟩ := h
  replace h := bb h; rcases h with ⟨h12', h12, h⟩ | ⟨h12', h12, h⟩
  ·replace h := bn h; obtain ⟨h13, h⟩ := h
   replace h := bb h; rcases h with ⟨h14', h14, h⟩ | ⟨h14', h14, h⟩
   ·cases h; subst hR; simp only [zbne, simprocAttr, *]
   ·cases h; subst hR; simp only [zbne, simprocAttr, *]
  ·cases h
theorem zbng : ∀ q, zbnd q
 | 0 => by intro M hM j hj; intros; rename_i h _ _ _ _ _; cases h
 | q + 1 => by have i0 := zbng q; exact zbnf q i0
theorem zbnh : ∀ (q M : Nat), 8 * q ≤ M → ∀ (w1 : Nat), ∀ (h0_0 h0_1 h0_2 h0_3 h0_4 h0_5 h0_6 : Int), ∀ (h1z : Bool), ∀ (h1l : List zjj), ∀ (h1x : Bool), ∀ (r : Nat × (List zjj) × Bool), zj6 q h0_0 h0_1 h0_2 h0_3 h0_4 h0_5 h0_6 h1z h1l h1x = some r → (orc T (M + 7)).inl F.zmo [(.vw 1 w1 0 h1l.length 1), (.fn F.zmp [(.ptr 0 0)])] [(.box [(.int .i64 h0_0), (.int .i64 h0_1), (.int .i64 h0_2), (.int .i64 h0_3), (.int .i64 h0_4), (.int .i64 h0_5), (.int .i64 h0_6)]), (.row w1 h1z 3 (List.map zjj.enc h1l) h1x)] = (some ([(.vw 1 w1 0 r.1 0)], [(.box [(.int .i64 h0_0), (.int .i64 h0_1), (.int .i64 h0_2), (.int .i64 h0_3), (.int .i64 h0_4), (.int .i64 h0_5), (.int .i64 h0_6)]), (.row w1 h1z 3 (List.map zjj.enc r.2.1) r.2.2)]) : Option (List V × Hp)) := by
 intro q M hM w1 h0_0 h0_1 h0_2 h0_3 h0_4 h0_5 h0_6 h1z h1l h1x r h
 rcases q with _ | q
 ·cases h
 have zbqo := (zbng q)
 generalize hR : (some ([(.vw 1 w1 0 r.1 0)], [(.box [(.int .i64 h0_0), (.int .i64 h0_1), (.int .i64 h0_2), (.int .i64 h0_3), (.int .i64 h0_4), (.int .i64 h0_5), (.int .i64 h0_6)]), (.row w1 h1z 3 (List.map zjj.enc r.2.1) r.2.2)]) : Option (List V × Hp)) = R
 rw [zbf4 (n := M + 6)]
 rw [zj6] at h
 replace h := ob h; obtain ⟨r1, h1, h⟩ := h
 replace h1 := zbnc q M (by omega) w1 _ _ _ _ _ _ _ _ _ _ _ h1
 try simp only [kf, simprocAttr] at h1
 replace h := br h; rcases h with ⟨h2, h⟩ | ⟨h2, h⟩
 ·cases h; subst hR; simp only [zbne, simprocAttr, *]
 ·replace h := zbqo M (by omega) (M + 6) (by omega) w1 _ _ _ _ _ _ _ _ _ _ _ _ _ h R hR
  simp only [zbne, simprocAttr, *]
def zbni (q : Nat) : Prop := ∀ (M : Nat) (hM : 8 * q ≤ M) (j : Nat) (hj : q ≤ j) (w1 v0len : Nat) (v7 v8 h0_0 h0_1 h0_2 h0_3 h0_4 h0_5 h0_6 : Int) (h1z : Bool) (h1l : List zjj) (h1x : Bool) (r : Int) (_ : zj7 q v0len v7 v8 h0_0 h0_1 h0_2 h0_3 h0_4 h0_5 h0_6 h1z h1l h1x = some r) (R : Option (List V × Hp)) (_ : (some ([(.int .i64 r)], [(.box [(.int .i64 h0_0), (.int .i64 h0_1), (.int .i64 h0_2), (.int .i64 h0_3), (.int .i64 h0_4), (.int .i64 h0_5), (.int .i64 h0_6)]), (.row w1 h1z 3 (List.map zjj.enc h1l) h1x)]) : Option (List V × Hp)) = R) (fr : Fr) (H : Hp) (_ : canon 2 [0, 1, 7, 8] fr H = ([(0, (.vw 1 w1 0 v0len 0)), (1, (.fn F.zmr [(.ptr 0 0)])), (7, (.int .i64 v7)), (8, (.int .i64 v8))], [(.box [(.int .i64 h0_0), (.int .i64 h0_1), (.int .i64 h0_2), (.int .i64 h0_3), (.int .i64 h0_4), (.int .i64 h0_5), (.int .i64 h0_6)]), (.row w1 h1z 3 (List.map zjj.enc h1l) h1x)])), finI 2 false [.tmp 4] (unw T (orc T (M + 6)) (M + 6) 2 [.blk 0, .code ztk] (iter 2 [0, 1, 7, 8] (exec T (orc T (M + 6)) (M + 6) 2 zth) j fr H)) = R
def zbnj := And.intro @kk <| And.intro @ke <| And.intro @kn <| And.intro @zbgb <| And.intro @zbge <| And.intro @zbgf <| @zbgg
theorem zbnk (q : Nat) (zbqp : zbni q) : zbni (q + 1) := by
 intro M hM j hj w1 v0len v7 v8 h0_0 h0_1 h0_2 h0_3 h0_4 h0_5 h0_6 h1z h1l h1x r h R hR fr H hc
 obtain ⟨j, rfl⟩ : ∃ i, j = i + 1 := ⟨j - 1, by omega⟩
 rw [zhj, hc]; clear hc
 rw [zj7] at h
 replace h := br h; rcases h with ⟨h1, h⟩ | ⟨h1, h⟩
 ·replace h := bn h; obtain ⟨h2, h⟩ := h
  replace h := bn h; obtain ⟨h3, h⟩ := h
  replace h := ob h; obtain ⟨e1, h4, h⟩ := h
  replace h := br h; rcases h with ⟨h5, h⟩ | ⟨h5, h⟩
  ·cases h; subst hR; simp only [zbnj, simprocAttr, *]
  ·replace h := zbqp M (by omega) j (by omega) w1 _ _ _ _ _ _ _ _ _ _ _ _ _ _ h R hR
   simp only [zbnj, simprocAttr, *]
 ·cases h; subst hR; simp only [zbnj, simprocAttr, *]
theorem zbnl : ∀ q, zbni q
 | 0 => by intro M hM j hj; intros; rename_i h _ _ _ _ _; cases h
 | q + 1 => by have i0 := zbnl q; exact zbnk q i0
theorem zbnm : ∀ (q M : Nat), 8 * q ≤ M → ∀ (w1 v0len : Nat), ∀ (h0_0 h0_1 h0_2 h0_3 h0_4 h0_5 h0_6 : Int), ∀ (h1z : Bool), ∀ (h1l : List zjj), ∀ (h1x : Bool), ∀ (r : Int), zj8 q v0len h0_0 h0_1 h0_2 h0_3 h0_4 h0_5 h0_6 h1z h1l h1x = some r → (orc T (M + 7)).inl F.zmq [(.vw 1 w1 0 v0len 0), (.fn F.zmr [(.ptr 0 0)])] [(.box [(.int .i64 h0_0), (.int .i64 h0_1), (.int .i64 h0_2), (.int .i64 h0_3), (.int .i64 h0_4), (.int .i64 h0_5), (.int .i64 h0_6)]), (.row w1 h1z 3 (List.map zjj.enc h1l) h1x)] = (some ([(.int .i64 r)], [(.box [(.int .i64 h0_0), (.int .i64 h0_1), (.int .i64 h0_2), (.int .i64 h0_3), (.int .i64 h0_4), (.int .i64 h0_5), (.int .i64 h0_6)]), (.row w1 h1z 3 (List.map zjj.enc h1l) h1x)]) : Option (List V × Hp)) := by
 intro q M hM w1 v0len h0_0 h0_1 h0_2 h0_3 h0_4 h0_5 h0_6 h1z h1l h1x r h
 rcases q with _ | q
 ·cases h
 have zbqp := (zbnl q)
 generalize hR : (some ([(.int .i64 r)], [(.box [(.int .i64 h0_0), (.int .i64 h0_1), (.int .i64 h0_2), (.int .i64 h0_3), (.int .i64 h0_4), (.int .i64 h0_5), (.int .i64 h0_6)]), (.row w1 h1z 3 (List.map zjj.enc h1l) h1x)]) : Option (List V × Hp)) = R
 rw [zbgd (n := M + 6)]
 rw [zj8] at h
 replace h := zbqp M (by omega) (M + 6) (by omega) w1 _ _ _ _ _ _ _ _ _ _ _ _ _ _ h R hR
 simp only [zbnj, simprocAttr, *]
def zbnn := And.intro @kk <| And.intro @ke <| And.intro @kn <| And.intro @zbeq <| And.intro @zbf3 <| And.intro @zbf6 <| And.intro @zbgc <| And.intro @zbgi <| @zbes
theorem zbno : ∀ (q N : Nat), 8 * q ≤ N → ∀ (a0 : (Sl zjj)) (a1 : zjn), ∀ (r : (Ow zjj)), zj9 q a0 a1 = some r → (orc T N).deep F.zj9 [(Sl.enc zjj.enc) a0, zjn.enc a1] = some [(Ow.enc 3 zjj.enc) r] := by
 intro q N hM a0 a1 r h
 rcases q with _ | q
 ·cases h
 obtain ⟨M, rfl⟩ : ∃ M, N = M + 8 := ⟨N - 8, by omega⟩
 generalize hR : some [(Ow.enc 3 zjj.enc) r] = R
 rw [zhs, zbca, y5, zhq]
 rw [zj9] at h
 replace h := ob h; obtain ⟨r1, h1, h⟩ := h
 replace h1 := zbm5 q (M + 7) (by omega) _ _ h1
 try simp only [kf, simprocAttr] at h1
 replace h := ob h; obtain ⟨r2, h2, h⟩ := h
 replace h2 := zbnh q M (by omega) 0 _ _ _ _ _ _ _ _ _ _ _ h2
 try simp only [kf, simprocAttr] at h2
 replace h := ob h; obtain ⟨r3, h3, h⟩ := h
 replace h3 := zbnm q M (by omega) 0 _ _ _ _ _ _ _ _ _ _ _ _ h3
 try simp only [kf, simprocAttr] at h3
 replace h := br h; rcases h with ⟨h4, h⟩ | ⟨h4, h⟩
 ·replace h := bb h; rcases h with ⟨h5', h5, h⟩ | ⟨h5', h5, h⟩
  ·replace h := ob h; obtain ⟨r4, h6, h⟩ := h
   replace h6 := zbm7 q (M + 7) (by omega) _ _ _ _ h6
   try simp only [kf, simprocAttr] at h6
   cases h; subst hR; simp only [zbnn, simprocAttr, *]
  ·cases h
 ·replace h := bb h; rcases h with ⟨h7', h7, h⟩ | ⟨h7', h7, h⟩
  ·replace h := ob h; obtain ⟨r5, h8, h⟩ := h
   replace h8 := zbm7 q (M + 7) (by omega) _ _ _ _ h8
   try simp only [kf, simprocAttr] at h8
   cases h; subst hR; simp only [zbnn, simprocAttr, *]
  ·cases h
def zbnp (q : Nat) : Prop := ∀ (M : Nat) (hM : 8 * q ≤ M) (j : Nat) (hj : q ≤ j) (v0z : Bool) (v0l : List Int) (v1z : Bool) (v1l : List Int) (v12 v13 : Int) (r : Bool) (_ : zka q v0z v0l v1z v1l v12 v13 = some r) (R : Option (List V)) (_ : some [V.bool r] = R) (fr : Fr) (H : Hp) (_ : canon 0 [0, 1, 12, 13] fr H = ([(0, (.sl v0z (List.map (V.int .i64) v0l))), (1, (.sl v1z (List.map (V.int .i64) v1l))), (12, (.int .i64 v12)), (13, (.int .i64 v13))], [])), fin zu5 (unw T (orc T (M + 7)) (M + 7) 0 [.blk 0, .code zu1] (iter 0 [0, 1, 12, 13] (exec T (orc T (M + 7)) (M + 7) 0 zuy) j fr H)) = R
def zbnq := And.intro @kk <| And.intro @ke <| And.intro @kn <| And.intro @zbgt <| @zbgv
theorem zbnr (q : Nat) (zbqq : zbnp q) : zbnp (q + 1) := by
 intro M hM j hj v0z v0l v1z v1l v12 v13 r h R hR fr H hc
 obtain ⟨j, rfl⟩ : ∃ i, j = i + 1 := ⟨j - 1, by omega⟩
 rw [zhj, hc]; clear hc
 rw [zka] at h
 replace h := br h; rcases h with ⟨h1, h⟩ | ⟨h1, h⟩
 ·replace h := bn h; obtain ⟨h2, h⟩ := h
  replace h := ob h; obtain ⟨e1, h3, h⟩ := h
  replace h := ob h; obtain ⟨e2, h4, h⟩ := h
  replace h := br h; rcases h with ⟨h5, h⟩ | ⟨h5, h⟩
  ·replace h := zbqq M (by omega) j (by omega) _ _ _ _ _ _ _ h R hR
   simp only [zbnq, simprocAttr, *]
  ·cases h; subst hR; simp only [zbnq, simprocAttr, *]
 ·cases h; subst hR; simp only [zbnq, simprocAttr, *]
theorem zbns : ∀ q, zbnp q
 | 0 => by intro M hM j hj; intros; rename_i h _ _ _ _ _; cases h
 | q + 1 => by have i0 := zbns q; exact zbnr q i0
theorem zbnt : ∀ (q N : Nat), 8 * q ≤ N → ∀ (a0 a1 : (Sl Int)), ∀ (r : Bool), zkb q a0 a1 = some r → (orc T N).deep F.zkb [(Sl.enc (V.int .i64)) a0, (Sl.enc (V.int .i64)) a1] = some [V.bool r] := by
 intro q N hM a0 a1 r h
 rcases q with _ | q
 ·cases h
 obtain ⟨M, rfl⟩ : ∃ M, N = M + 8 := ⟨N - 8, by omega⟩
 have zbqq := (zbns q)
 generalize hR : some [V.bool r] = R
 rw [zhs, zbcz, y5, zhq]
 rw [zkb] at h
 replace h := br h; rcases h with ⟨h1, h⟩ | ⟨h1, h⟩
 ·replace h := zbqq M (by omega) (M + 7) (by omega) _ _ _ _ _ _ _ h R hR
  simp only [zbnq, simprocAttr, *]
 ·cases h; subst hR; simp only [zbnq, simprocAttr, *]
def zbnu := And.intro @kk <| And.intro @ke <| And.intro @kn <| And.intro @zbe5 <| And.intro @zbgu <| @zbe7
theorem zbnv : ∀ (q N : Nat), 8 * q ≤ N → ∀ (a0 a1 : zji), ∀ (r : Bool), zkc q a0 a1 = some r → (orc T N).deep F.zkc [zji.enc a0, zji.enc a1] = some [V.bool r] := by
 intro q N hM a0 a1 r h
 rcases q with _ | q
 ·cases h
 obtain ⟨M, rfl⟩ : ∃ M, N = M + 8 := ⟨N - 8, by omega⟩
 generalize hR : some [V.bool r] = R
 rw [zhs, zbcf, y5, zhq]
 rw [zkc] at h
 replace h := br h; rcases h with ⟨h1, h⟩ | ⟨h1, h⟩
 ·replace h := bb h; rcases h with ⟨h2', h2, h⟩ | ⟨h2', h2, h⟩
  ·replace h := br h; rcases h with ⟨h3, h⟩ | ⟨h3, h⟩
   ·replace h := ob h; obtain ⟨r1, h4, h⟩ := h
    replace h4 := zbnt q (M + 7) (by omega) _ _ _ h4
    try simp only [kf, simprocAttr] at h4
    cases h; subst hR; simp only [zbnu, simprocAttr, *]
   ·cases h; subst hR; simp only [zbnu, simprocAttr, *]
  ·cases h; subst hR; simp only [zbnu, simprocAttr, *]
 ·cases h; subst hR; simp only [zbnu, simprocAttr, *]
def zbnw (q : Nat) : Prop := ∀ (M : Nat) (hM : 8 * q ≤ M) (j : Nat) (hj : q ≤ j) (v0z : Bool) (v0l : List zjj) (v1z : Bool) (v1l : List zjj) (v12 v13 : Int) (r : Bool) (_ : zkd q v0z v0l v1z v1l v12 v13 = some r) (R : Option (List V)) (_ : some [V.bool r] = R) (fr : Fr) (H : Hp) (_ : canon 0 [0, 1, 12, 13] fr H = ([(0, (.sl v0z (List.map zjj.enc v0l))), (1, (.sl v1z (List.map zjj.enc v1l))), (12, (.int .i64 v12)), (13, (.int .i64 v13))], [])), fin zr9 (unw T (orc T (M + 7)) (M + 7) 0 [.blk 0, .code zr5] (iter 0 [0, 1, 12, 13] (exec T (orc T (M + 7)) (M + 7) 0 zr2) j fr H)) = R
def zbnx := And.intro @kk <| And.intro @ke <| And.intro @kn <| And.intro @zbfq <| @zbfs
theorem zbny (q : Nat) (zbqr : zbnw q) : zbnw (q + 1) := by
 intro M hM j hj v0z v0l v1z v1l v12 v13 r h R hR fr H hc
 obtain ⟨j, rfl⟩ : ∃ i, j = i + 1 := ⟨j - 1, by omega⟩
 rw [zhj, hc]; clear hc
 rw [zkd] at h
 replace h := br h; rcases h with ⟨h1, h⟩ | ⟨h1, h⟩
 ·replace h := bn h; obtain ⟨h2, h⟩ := h
  replace h := ob h; obtain ⟨e1, h3, h⟩ := h
  replace h := ob h; obtain ⟨e2, h4, h⟩ := h
  replace h := br h; rcases h with ⟨h5, h⟩ | ⟨h5, h⟩
  ·replace h := br h; rcases h with ⟨h6, h⟩ | ⟨h6, h⟩
   ·replace h := br h; rcases h with ⟨h7, h⟩ | ⟨h7, h⟩
    ·replace h := zbqr M (by omega) j (by omega) _ _ _ _ _ _ _ h R hR
     simp only [zbnx, simprocAttr, *]
    ·cases h; subst hR; simp only [zbnx, simprocAttr, *]
   ·cases h; subst hR; simp only [zbnx, simprocAttr, *]
  ·cases h; subst hR; simp only [zbnx, simprocAttr, *]
 ·cases h; subst hR; simp only [zbnx, simprocAttr, *]
theorem zbnz : ∀ q, zbnw q
 | 0 => by intro M hM j hj; intros; rename_i h _ _ _ _ _; cases h
 | q + 1 => by have i0 := zbnz q; exact zbny q i0
theorem zbn0 : ∀ (q N : Nat), 8 * q ≤ N → ∀ (a0 a1 : (Sl zjj)), ∀ (r : Bool), zke q a0 a1 = some r → (orc T N).deep F.zke [(Sl.enc zjj.enc) a0, (Sl.enc zjj.enc) a1] = some [V.bool r] := by
 intro q N hM a0 a1 r h
 rcases q with _ | q
 ·cases h
 obtain ⟨M, rfl⟩ : ∃ M, N = M + 8 := ⟨N - 8, by omega⟩
 have zbqr := (zbnz q)
 generalize hR : some [V.bool r] = R
 rw [zhs, zbcm, y5, zhq]
 rw [zke] at h
 replace h := br h; rcases h with ⟨h1, h⟩ | ⟨h1, h⟩
 ·replace h := zbqr M (by omega) (M + 7) (by omega) _ _ _ _ _ _ _ h R hR
  simp only [zbnx, simprocAttr, *]
 ·cases h; subst hR; simp only [zbnx, simprocAttr, *]
def zbn1 := And.intro @kk <| And.intro @ke <| And.intro @kn <| And.intro @zbeh <| And.intro @zbe6 <| And.intro @zbfr <| @zbej
theorem zbn2 : ∀ (q N : Nat), 8 * q ≤ N → ∀ (a0 a1 : zjk), ∀ (r : Bool), zkf q a0 a1 = some r → (orc T N).deep F.zkf [zjk.enc a0, zjk.enc a1] = some [V.bool r] := by
 intro q N hM a0 a1 r h
 rcases q with _ | q
 ·cases h
 obtain ⟨M, rfl⟩ : ∃ M, N = M + 8 := ⟨N - 8, by omega⟩
 generalize hR : some [V.bool r] = R
 rw [zhs, zbb7, y5, zhq]
 rw [zkf] at h
 replace h := br h; rcases h with ⟨h1, h⟩ | ⟨h1, h⟩
 ·replace h := ob h; obtain ⟨r1, h2, h⟩ := h
  replace h2 := zbnv q (M + 7) (by omega) _ _ _ h2
  try simp only [kf, simprocAttr] at h2
  replace h := bb h; rcases h with ⟨h3', h3, h⟩ | ⟨h3', h3, h⟩
  ·replace h := ob h; obtain ⟨r2, h4, h⟩ := h
   replace h4 := zbn0 q (M + 7) (by omega) _ _ _ h4
   try simp only [kf, simprocAttr] at h4
   cases h; subst hR; simp only [zbn1, simprocAttr, *]
  ·cases h; subst hR; simp only [zbn1, simprocAttr, *]
 ·cases h; subst hR; simp only [zbn1, simprocAttr, *]
def zbn3 := And.intro @kk <| And.intro @ke <| And.intro @kn <| And.intro @zbe8 <| @zbfa
theorem zbn4 : ∀ (q N : Nat), 8 * q ≤ N → ∀ (a0 : zji), ∀ (r : Bool), zkg q a0 = some r → (orc T N).deep F.zkg [zji.enc a0] = some [V.bool r] := by
 intro q N hM a0 r h
 rcases q with _ | q
 ·cases h
 obtain ⟨M, rfl⟩ : ∃ M, N = M + 8 := ⟨N - 8, by omega⟩
 generalize hR : some [V.bool r] = R
 rw [zhs, zbcg, y5, zhq]
 rw [zkg] at h
 cases h; subst hR; simp only [zbn3, simprocAttr, *]
def zbn5 := And.intro @kk <| And.intro @ke <| And.intro @kn <| And.intro @zbd8 <| And.intro @zbe9 <| @zbea
theorem zbn6 : ∀ (q N : Nat), 8 * q ≤ N → ∀ (a0 : zjk), ∀ (r : Bool), zkh q a0 = some r → (orc T N).deep F.zkh [zjk.enc a0] = some [V.bool r] := by
 intro q N hM a0 r h
 rcases q with _ | q
 ·cases h
 obtain ⟨M, rfl⟩ : ∃ M, N = M + 8 := ⟨N - 8, by omega⟩
 generalize hR : some [V.bool r] = R
 rw [zhs, zbb4, y5, zhq]
 rw [zkh] at h
 replace h := ob h; obtain ⟨r1, h1, h⟩ := h
 replace h1 := zbn4 q (M + 7) (by omega) _ _ h1
 try simp only [kf, simprocAttr] at h1
 replace h := bb h; rcases h with ⟨h2', h2, h⟩ | ⟨h2', h2, h⟩
 ·cases h; subst hR; simp only [zbn5, simprocAttr, *]
 ·cases h; subst hR; simp only [zbn5, simprocAttr, *]
def zbn7 (q : Nat) : Prop := ∀ (M : Nat) (hM : 8 * q ≤ M) (j : Nat) (hj : q ≤ j) (v0z : Bool) (v0l : List Int) (v1 v5 : Int) (r : Bool) (_ : zki q v0z v0l v1 v5 = some r) (R : Option (List V)) (_ : some [V.bool r] = R) (fr : Fr) (H : Hp) (_ : canon 0 [0, 1, 5] fr H = ([(0, (.sl v0z (List.map (V.int .i64) v0l))), (1, (.int .i64 v1)), (5, (.int .i64 v5))], [])), fin z62 (unw T (orc T (M + 7)) (M + 7) 0 [.blk 0, .code z6y] (iter 0 [0, 1, 5] (exec T (orc T (M + 7)) (M + 7) 0 z6v) j fr H)) = R
def zbn8 := And.intro @kk <| And.intro @ke <| And.intro @kn <| And.intro @zbje <| @zbjg
theorem zbn9 (q : Nat) (zbqs : zbn7 q) : zbn7 (q + 1) := by
 intro M hM j hj v0z v0l v1 v5 r h R hR fr H hc
 obtain ⟨j, rfl⟩ : ∃ i, j = i + 1 := ⟨j - 1, by omega⟩
 rw [zhj, hc]; clear hc
 rw [zki] at h
 replace h := br h; rcases h with ⟨h1, h⟩ | ⟨h1, h⟩
 ·replace h := bn h; obtain ⟨h2, h⟩ := h
  replace h := ob h; obtain ⟨e1, h3, h⟩ := h
  replace h := br h; rcases h with ⟨h4, h⟩ | ⟨h4, h⟩
  ·cases h; subst hR; simp only [zbn8, simprocAttr, *]
  ·replace h := br h; rcases h with ⟨h5, h⟩ | ⟨h5, h⟩
   ·cases h; subst hR; simp only [zbn8, simprocAttr, *]
   ·replace h := br h; rcases h with ⟨h6, h⟩ | ⟨h6, h⟩
    ·replace h := bn h; obtain ⟨h7, h⟩ := h
     replace h := ob h; obtain ⟨e2, h8, h⟩ := h
     replace h := br h; rcases h with ⟨h9, h⟩ | ⟨h9, h⟩
     ·cases h; subst hR; simp only [zbn8, simprocAttr, *]
     ·replace h := bn h; obtain ⟨h10, h⟩ := h
      replace h := ob h; obtain ⟨e3, h11, h⟩ := h
      replace h := br h; rcases h with ⟨h12, h⟩ | ⟨h12, h⟩
      ·cases h; subst hR; simp only [zbn8, simprocAttr, *]
      ·replace h := br h; rcases h with ⟨h13, h⟩ | ⟨h13, h⟩
       ·cases h; subst hR; simp only [zbn8, simprocAttr, *]
       ·replace h := zbqs M (by omega) j (by omega) _ _ _ _ _ h R hR
        simp only [zbn8, simprocAttr, *]
    ·replace h := bn h; obtain ⟨h14, h⟩ := h
     replace h := ob h; obtain ⟨e4, h15, h⟩ := h
     replace h := br h; rcases h with ⟨h16, h⟩ | ⟨h16, h⟩
     ·cases h; subst hR; simp only [zbn8, simprocAttr, *]
     ·replace h := br h; rcases h with ⟨h17, h⟩ | ⟨h17, h⟩
      ·cases h; subst hR; simp only [zbn8, simprocAttr, *]
      ·replace h := zbqs M (by omega) j (by omega) _ _ _ _ _ h R hR
       simp only [zbn8, simprocAttr, *]
 ·cases h; subst hR; simp only [zbn8, simprocAttr, *]
theorem zboa : ∀ q, zbn7 q
 | 0 => by intro M hM j hj; intros; rename_i h _ _ _ _ _; cases h
 | q + 1 => by have i0 := zboa q; exact zbn9 q i0
theorem zbob : ∀ (q N : Nat), 8 * q ≤ N → ∀ (a0 : (Sl Int)) (a1 : Int), ∀ (r : Bool), zkj q a0 a1 = some r → (orc T N).deep F.zkj [(Sl.enc (V.int .i64)) a0, (V.int .i64) a1] = some [V.bool r] := by
 intro q N hM a0 a1 r h
 rcases q with _ | q
 ·cases h
 obtain ⟨M, rfl⟩ : ∃ M, N = M + 8 := ⟨N - 8, by omega⟩
 have zbqs := (zboa q)
 generalize hR : some [V.bool r] = R
 rw [zhs, zbdu, y5, zhq]
 rw [zkj] at h
 replace h := br h; rcases h with ⟨h1, h⟩ | ⟨h1, h⟩
 ·replace h := br h; rcases h with ⟨h2, h⟩ | ⟨h2, h⟩
  ·cases h; subst hR; simp only [zbn8, simprocAttr, *]
  ·replace h := zbqs M (by omega) (M + 7) (by omega) _ _ _ _ _ h R hR
   simp only [zbn8, simprocAttr, *]
 ·cases h; subst hR; simp only [zbn8, simprocAttr, *]
def zboc := And.intro @kk <| And.intro @ke <| And.intro @kn <| And.intro @zbjh <| @zbjj
theorem zbod : ∀ (q N : Nat), 8 * q ≤ N → ∀ (a0 r : Int), zkk q a0 = some r → (orc T N).deep F.zkk [(V.int .i64) a0] = some [(V.int .i64) r] := by
 intro q N hM a0 r h
 rcases q with _ | q
 ·cases h
 obtain ⟨M, rfl⟩ : ∃ M, N = M + 8 := ⟨N - 8, by omega⟩
 generalize hR : some [(V.int .i64) r] = R
 rw [zhs, zbdv, y5, zhq]
 rw [zkk] at h
 replace h := br h; rcases h with ⟨h1, h⟩ | ⟨h1, h⟩
 ·cases h; subst hR; simp only [zboc, simprocAttr, *]
 ·replace h := br h; rcases h with ⟨h2, h⟩ | ⟨h2, h⟩
  ·cases h; subst hR; simp only [zboc, simprocAttr, *]
  ·cases h; subst hR; simp only [zboc, simprocAttr, *]
def zboe (q : Nat) : Prop := ∀ (M : Nat) (hM : 8 * q ≤ M) (j : Nat) (hj : q ≤ j) (v3 h0_0 : Int) (h0_1z : Bool) (h0_1l : List Int) (h0_2 : Bool) (h0_3 : Int) (r : Bool) (_ : zkl q v3 h0_0 h0_1z h0_1l h0_2 h0_3 = some r) (R : Option (List V)) (_ : some [V.bool r] = R) (fr : Fr) (H : Hp) (_ : canon 0 [1, 3] fr H = ([(1, (.ptr 0 0)), (3, (.int .i64 v3))], [(.box [(.int .i64 h0_0), (.sl h0_1z (List.map (V.int .i64) h0_1l)), (.bool h0_2), (.int .i64 h0_3)])])), fin zw7 (unw T (orc T (M + 7)) (M + 7) 0 [.blk 0, .code zw0] (iter 0 [1, 3] (exec T (orc T (M + 7)) (M + 7) 0 zwx) j fr H)) = R
def zbof := And.intro @kk <| And.intro @ke <| And.intro @kn <| And.intro @zbhk <| And.intro @zbjf <| And.intro @zbji <| @zbhm
theorem zbog (q : Nat) (zbqt : zboe q) : zboe (q + 1) := by
 intro M hM j hj v3 h0_0 h0_1z h0_1l h0_2 h0_3 r h R hR fr H hc
 obtain ⟨j, rfl⟩ : ∃ i, j = i + 1 := ⟨j - 1, by omega⟩
 rw [zhj, hc]; clear hc
 rw [zkl] at h
 replace h := br h; rcases h with ⟨h1, h⟩ | ⟨h1, h⟩
 ·replace h := bn h; obtain ⟨h2, h⟩ := h
  replace h := ob h; obtain ⟨e5, h3, h⟩ := h
  replace h := ob h; obtain ⟨r6, h4, h⟩ := h
  replace h4 := zbod q (M + 7) (by omega) _ _ h4
  replace h := br h; rcases h with ⟨h5, h⟩ | ⟨h5, h⟩
  ·replace h := zbqt M (by omega) j (by omega) _ _ _ _ _ _ _ h R hR
   simp only [zbof, simprocAttr, *]
  ·cases h; subst hR; simp only [zbof, simprocAttr, *]
 ·cases h; subst hR; simp only [zbof, simprocAttr, *]
theorem zboh : ∀ q, zboe q
 | 0 => by intro M hM j hj; intros; rename_i h _ _ _ _ _; cases h
 | q + 1 => by have i0 := zboh q; exact zbog q i0
theorem zboi : ∀ (q N : Nat), 8 * q ≤ N → ∀ (a0 : zji), ∀ (r : Bool), zkm q a0 = some r → (orc T N).deep F.zkm [zji.enc a0] = some [V.bool r] := by
 intro q N hM a0 r h
 rcases q with _ | q
 ·cases h
 obtain ⟨M, rfl⟩ : ∃ M, N = M + 8 := ⟨N - 8, by omega⟩
 have zbqt := (zboh q)
 generalize hR : some [V.bool r] = R
 rw [zhs, zbc8, y5, zhq]
 rw [zkm] at h
 replace h := br h; rcases h with ⟨h1, h⟩ | ⟨h1, h⟩
 ·cases h; subst hR; simp only [zbof, simprocAttr, *]
 ·replace h := br h; rcases h with ⟨h2, h⟩ | ⟨h2, h⟩
  ·cases h; subst hR; simp only [zbof, simprocAttr, *]
  ·replace h := bb h; rcases h with ⟨h3', h3, h⟩ | ⟨h3', h3, h⟩
   ·replace h := br h; rcases h with ⟨h4, h⟩ | ⟨h4, h⟩
    ·cases h; subst hR; simp only [zbof, simprocAttr, *]
    ·replace h := br h; rcases h with ⟨h5, h⟩ | ⟨h5, h⟩
     ·cases h; subst hR; simp only [zbof, simprocAttr, *]
     ·replace h := br h; rcases h with ⟨h6, h⟩ | ⟨h6, h⟩
      ·replace h := ob h; obtain ⟨r1, h7, h⟩ := h
       replace h7 := zbob q (M + 7) (by omega) _ _ _ h7
       try simp only [kf, simprocAttr] at h7
       cases h; subst hR; simp only [zbof, simprocAttr, *]
      ·replace h := br h; rcases h with ⟨h8, h⟩ | ⟨h8, h⟩
       ·replace h := ob h; obtain ⟨r2, h9, h⟩ := h
        replace h9 := zbob q (M + 7) (by omega) _ _ _ h9
        try simp only [kf, simprocAttr] at h9
        cases h; subst hR; simp only [zbof, simprocAttr, *]
       ·replace h := br h; rcases h with ⟨h10, h⟩ | ⟨h10, h⟩
        ·cases h; subst hR; simp only [zbof, simprocAttr, *]
        ·replace h := br h; rcases h with ⟨h11, h⟩ | ⟨h11, h⟩
         ·replace h := zbqt M (by omega) (M + 7) (by omega) _ _ _ _ _ _ _ h R hR
          simp only [zbof, simprocAttr, *]
         ·replace h := br h; rcases h with ⟨h12, h⟩ | ⟨h12, h⟩
          ·cases h; subst hR; simp only [zbof, simprocAttr, *]
          ·replace h := zbqt M (by omega) (M + 7) (by omega) _ _ _ _ _ _ _ h R hR
           simp only [zbof, simprocAttr, *]
   ·replace h := br h; rcases h with ⟨h13, h⟩ | ⟨h13, h⟩
    ·replace h := br h; rcases h with ⟨h14, h⟩ | ⟨h14, h⟩
     ·cases h; subst hR; simp only [zbof, simprocAttr, *]
     ·replace h := br h; rcases h with ⟨h15, h⟩ | ⟨h15, h⟩
      ·cases h; subst hR; simp only [zbof, simprocAttr, *]
      ·replace h := br h; rcases h with ⟨h16, h⟩ | ⟨h16, h⟩
       ·replace h := ob h; obtain ⟨r3, h17, h⟩ := h
        replace h17 := zbob q (M + 7) (by omega) _ _ _ h17
        try simp only [kf, simprocAttr] at h17
        cases h; subst hR; simp only [zbof, simprocAttr, *]
       ·replace h := br h; rcases h with ⟨h18, h⟩ | ⟨h18, h⟩
        ·replace h := ob h; obtain ⟨r4, h19, h⟩ := h
         replace h19 := zbob q (M + 7) (by omega) _ _ _ h19
         try simp only [kf, simprocAttr] at h19
         cases h; subst hR; simp only [zbof, simprocAttr, *]
        ·replace h := br h; rcases h with ⟨h20, h⟩ | ⟨h20, h⟩
         ·cases h; subst hR; simp only [zbof, simprocAttr, *]
         ·replace h := br h; rcases h with ⟨h21, h⟩ | ⟨h21, h⟩
          ·replace h := zbqt M (by omega) (M + 7) (by omega) _ _ _ _ _ _ _ h R hR
           simp only [zbof, simprocAttr, *]
          ·replace h := br h; rcases h with ⟨h22, h⟩ | ⟨h22, h⟩
           ·cases h; subst hR; simp only [zbof, simprocAttr, *]
           ·replace h := zbqt M (by omega) (M + 7) (by omega) _ _ _ _ _ _ _ h R hR
            simp only [zbof, simprocAttr, *]
    ·cases h; subst hR; simp only [zbof, simprocAttr, *]
def zboj (q : Nat) : Prop := ∀ (M : Nat) (hM : 8 * q ≤ M) (j : Nat) (hj : q ≤ j) (v0z : Bool) (v0l : List zjj) (v3 : Int) (r : Bool) (_ : zkn q v0z v0l v3 = some r) (R : Option (List V)) (_ : some [V.bool r] = R) (fr : Fr) (H : Hp) (_ : canon 0 [0, 3] fr H = ([(0, (.sl v0z (List.map zjj.enc v0l))), (3, (.int .i64 v3))], [])), fin zp0 (unw T (orc T (M + 7)) (M + 7) 0 [.blk 0, .code zpx] (iter 0 [0, 3] (exec T (orc T (M + 7)) (M + 7) 0 zpu) j fr H)) = R
def zbok := And.intro @kk <| And.intro @ke <| And.intro @kn <| And.intro @zbe2 <| @zbe4
theorem zbol (q : Nat) (zbqu : zboj q) : zboj (q + 1) := by
 intro M hM j hj v0z v0l v3 r h R hR fr H hc
 obtain ⟨j, rfl⟩ : ∃ i, j = i + 1 := ⟨j - 1, by omega⟩
 rw [zhj, hc]; clear hc
 rw [zkn] at h
 replace h := br h; rcases h with ⟨h1, h⟩ | ⟨h1, h⟩
 ·replace h := bn h; obtain ⟨h2, h⟩ := h
  replace h := ob h; obtain ⟨e1, h3, h⟩ := h
  replace h := br h; rcases h with ⟨h4, h⟩ | ⟨h4, h⟩
  ·cases h; subst hR; simp only [zbok, simprocAttr, *]
  ·replace h := br h; rcases h with ⟨h5, h⟩ | ⟨h5, h⟩
   ·cases h; subst hR; simp only [zbok, simprocAttr, *]
   ·replace h := br h; rcases h with ⟨h6, h⟩ | ⟨h6, h⟩
    ·cases h; subst hR; simp only [zbok, simprocAttr, *]
    ·replace h := br h; rcases h with ⟨h7, h⟩ | ⟨h7, h⟩
     ·cases h; subst hR; simp only [zbok, simprocAttr, *]
     ·replace h := br h; rcases h with ⟨h8, h⟩ | ⟨h8, h⟩
      ·cases h; subst hR; simp only [zbok, simprocAttr, *]
      ·replace h := br h; rcases h with ⟨h9, h⟩ | ⟨h9, h⟩
       ·cases h; subst hR; simp only [zbok, simprocAttr, *]
       ·replace h := br h; rcases h with ⟨h10, h⟩ | ⟨h10, h⟩
        ·replace h := bn h; obtain ⟨h11, h⟩ := h
         replace h := ob h; obtain ⟨e2, h12, h⟩ := h
         replace h := br h; rcases h with ⟨h13, h⟩ | ⟨h13, h⟩
         ·cases h; subst hR; simp only [zbok, simprocAttr, *]
         ·replace h := zbqu M (by omega) j (by omega) _ _ _ _ h R hR
          simp only [zbok, simprocAttr, *]
        ·replace h := zbqu M (by omega) j (by omega) _ _ _ _ h R hR
         simp only [zbok, simprocAttr, *]
 ·cases h; subst hR; simp only [zbok, simprocAttr, *]
theorem zbom : ∀ q, zboj q
 | 0 => by intro M hM j hj; intros; rename_i h _ _ _ _ _; cases h
 | q + 1 => by have i0 := zbom q; exact zbol q i0
theorem zbon : ∀ (q N : Nat), 8 * q ≤ N → ∀ (a0 : (Sl zjj)), ∀ (r : Bool), zko q a0 = some r → (orc T N).deep F.zko [(Sl.enc zjj.enc) a0] = some [V.bool r] := by
 intro q N hM a0 r h
 rcases q with _ | q
 ·cases h
 obtain ⟨M, rfl⟩ : ∃ M, N = M + 8 := ⟨N - 8, by omega⟩
 have zbqu := (zbom q)
 generalize hR : some [V.bool r] = R
 rw [zhs, zbce, y5, zhq]
 rw [zko] at h
 replace h := zbqu M (by omega) (M + 7) (by omega) _ _ _ _ h R hR
 simp only [zbok, simprocAttr, *]
def zboo := And.intro @kk <| And.intro @ke <| And.intro @kn <| And.intro @zbez <| And.intro @zbe3 <| And.intro @zbhl <| @zbe1
theorem zbop : ∀ (q N : Nat), 8 * q ≤ N → ∀ (a0 : zjk), ∀ (r : Bool), zkp q a0 = some r → (orc T N).deep F.zkp [zjk.enc a0] = some [V.bool r] := by
 intro q N hM a0 r h
 rcases q with _ | q
 ·cases h
 obtain ⟨M, rfl⟩ : ∃ M, N = M + 8 := ⟨N - 8, by omega⟩
 generalize hR : some [V.bool r] = R
 rw [zhs, zbcd, y5, zhq]
 rw [zkp] at h
 replace h := ob h; obtain ⟨r1, h1, h⟩ := h
 replace h1 := zboi q (M + 7) (by omega) _ _ h1
 try simp only [kf, simprocAttr] at h1
 replace h := ob h; obtain ⟨r2, h2, h⟩ := h
 replace h2 := zbon q (M + 7) (by omega) _ _ h2
 try simp only [kf, simprocAttr] at h2
 replace h := bb h; rcases h with ⟨h3', h3, h⟩ | ⟨h3', h3, h⟩
 ·replace h := bb h; rcases h with ⟨h4', h4, h⟩ | ⟨h4', h4, h⟩
  ·replace h := br h; rcases h with ⟨h5, h⟩ | ⟨h5, h⟩
   ·cases h; subst hR; simp only [zboo, simprocAttr, *]
   ·cases h; subst hR; simp only [zboo, simprocAttr, *]
  ·cases h; subst hR; simp only [zboo, simprocAttr, *]
 ·cases h; subst hR; simp only [zboo, simprocAttr, *]
def zboq := And.intro @kk <| And.intro @ke <| And.intro @kn <| And.intro @zbh5 <| And.intro @zbhx <| @zbh7
theorem zbor : ∀ (q N : Nat), 8 * q ≤ N → ∀ (a0 : zjm), ∀ (r : Bool), zkq q a0 = some r → (orc T N).deep F.zkq [zjm.enc a0] = some [V.bool r] := by
 intro q N hM a0 r h
 rcases q with _ | q
 ·cases h
 obtain ⟨M, rfl⟩ : ∃ M, N = M + 8 := ⟨N - 8, by omega⟩
 generalize hR : some [V.bool r] = R
 rw [zhs, zbdf, y5, zhq]
 rw [zkq] at h
 replace h := br h; rcases h with ⟨h1, h⟩ | ⟨h1, h⟩
 ·replace h := br h; rcases h with ⟨h2, h⟩ | ⟨h2, h⟩
  ·replace h := ob h; obtain ⟨r1, h3, h⟩ := h
   replace h3 := zbme q (M + 7) (by omega) _ _ h3
   replace h := br h; rcases h with ⟨h4, h⟩ | ⟨h4, h⟩
   ·replace h := ob h; obtain ⟨r2, h5, h⟩ := h
    replace h5 := zbme q (M + 7) (by omega) _ _ h5
    cases h; subst hR; simp only [zboq, simprocAttr, *]
   ·cases h; subst hR; simp only [zboq, simprocAttr, *]
  ·cases h; subst hR; simp only [zboq, simprocAttr, *]
 ·cases h; subst hR; simp only [zboq, simprocAttr, *]
def zbos := And.intro @kk <| And.intro @ke <| And.intro @kn <| And.intro @zbfk <| And.intro @zbh6 <| @zbfm
theorem zbot : ∀ (q N : Nat), 8 * q ≤ N → ∀ (a0 : zjn), ∀ (r : Bool), zkr q a0 = some r → (orc T N).deep F.zkr [zjn.enc a0] = some [V.bool r] := by
 intro q N hM a0 r h
 rcases q with _ | q
 ·cases h
 obtain ⟨M, rfl⟩ : ∃ M, N = M + 8 := ⟨N - 8, by omega⟩
 generalize hR : some [V.bool r] = R
 rw [zhs, zbck, y5, zhq]
 rw [zkr] at h
 replace h := br h; rcases h with ⟨h1, h⟩ | ⟨h1, h⟩
 ·replace h := br h; rcases h with ⟨h2, h⟩ | ⟨h2, h⟩
  ·replace h := br h; rcases h with ⟨h3, h⟩ | ⟨h3, h⟩
   ·replace h := br h; rcases h with ⟨h4, h⟩ | ⟨h4, h⟩
    ·replace h := br h; rcases h with ⟨h5, h⟩ | ⟨h5, h⟩
     ·replace h := br h; rcases h with ⟨h6, h⟩ | ⟨h6, h⟩
      ·replace h := ob h; obtain ⟨r1, h7, h⟩ := h
       replace h7 := zbor q (M + 7) (by omega) _ _ h7
       try simp only [kf, simprocAttr] at h7
       replace h := bb h; rcases h with ⟨h8', h8, h⟩ | ⟨h8', h8, h⟩
       ·replace h := br h; rcases h with ⟨h9, h⟩ | ⟨h9, h⟩
        ·cases h; subst hR; simp only [zbos, simprocAttr, *]
        ·cases h; subst hR; simp only [zbos, simprocAttr, *]
       ·cases h; subst hR; simp only [zbos, simprocAttr, *]
      ·cases h; subst hR; simp only [zbos, simprocAttr, *]
     ·cases h; subst hR; simp only [zbos, simprocAttr, *]
    ·cases h; subst hR; simp only [zbos, simprocAttr, *]
   ·cases h; subst hR; simp only [zbos, simprocAttr, *]
  ·cases h; subst hR; simp only [zbos, simprocAttr, *]
 ·cases h; subst hR; simp only [zbos, simprocAttr, *]
def zbou := And.intro @kk <| And.intro @ke <| And.intro @kn <| And.intro @zbh8 <| And.intro @zbhx <| @zbia
theorem zbov : ∀ (q N : Nat), 8 * q ≤ N → ∀ (a0 : zji) (a1 : zjm), ∀ (r : zji × Int), zks q a0 a1 = some r → (orc T N).deep F.zks [zji.enc a0, zjm.enc a1] = some [zji.enc r.1, (V.int .i64) r.2] := by
 intro q N hM a0 a1 r h
 rcases q with _ | q
 ·cases h
 obtain ⟨M, rfl⟩ : ∃ M, N = M + 8 := ⟨N - 8, by omega⟩
 generalize hR : some [zji.enc r.1, (V.int .i64) r.2] = R
 rw [zhs, zbdg, y5, zhq]
 rw [zks] at h
 replace h := ob h; obtain ⟨e1, h1, h⟩ := h
 replace h := br h; rcases h with ⟨h2, h⟩ | ⟨h2, h⟩
 ·cases h; subst hR; simp only [zbou, simprocAttr, *]
 ·replace h := br h; rcases h with ⟨h3, h⟩ | ⟨h3, h⟩
  ·replace h := br h; rcases h with ⟨h4, h⟩ | ⟨h4, h⟩
   ·replace h := ob h; obtain ⟨r2, h5, h⟩ := h
    replace h5 := zbme q (M + 7) (by omega) _ _ h5
    replace h := ob h; obtain ⟨r3, h6, h⟩ := h
    replace h6 := zbme q (M + 7) (by omega) _ _ h6
    cases h; subst hR; simp only [zbou, simprocAttr, *]
   ·replace h := br h; rcases h with ⟨h7, h⟩ | ⟨h7, h⟩
    ·replace h := br h; rcases h with ⟨h8, h⟩ | ⟨h8, h⟩
     ·replace h := ob h; obtain ⟨r4, h9, h⟩ := h
      replace h9 := zbme q (M + 7) (by omega) _ _ h9
      cases h; subst hR; simp only [zbou, simprocAttr, *]
     ·cases h; subst hR; simp only [zbou, simprocAttr, *]
    ·cases h; subst hR; simp only [zbou, simprocAttr, *]
  ·replace h := br h; rcases h with ⟨h10, h⟩ | ⟨h10, h⟩
   ·replace h := br h; rcases h with ⟨h11, h⟩ | ⟨h11, h⟩
    ·replace h := ob h; obtain ⟨r5, h12, h⟩ := h
     replace h12 := zbme q (M + 7) (by omega) _ _ h12
     cases h; subst hR; simp only [zbou, simprocAttr, *]
    ·cases h; subst hR; simp only [zbou, simprocAttr, *]
   ·cases h; subst hR; simp only [zbou, simprocAttr, *]
def zbow := And.intro @kk <| And.intro @ke <| And.intro @kn <| And.intro @zbjq <| @zbjs
theorem zbox : ∀ (q N : Nat), 8 * q ≤ N → ∀ (a0 : (Ow Int)) (a1 a2 : Int), ∀ (r : (Ow Int)), zkt q a0 a1 a2 = some r → (orc T N).deep F.zkt [(Ow.enc 1 (V.int .i64)) a0, (V.int .i64) a1, (V.int .i64) a2] = some [(Ow.enc 1 (V.int .i64)) r] := by
 intro q N hM a0 a1 a2 r h
 rcases q with _ | q
 ·cases h
 obtain ⟨M, rfl⟩ : ∃ M, N = M + 8 := ⟨N - 8, by omega⟩
 generalize hR : some [(Ow.enc 1 (V.int .i64)) r] = R
 rw [zhs, zbdy, y5, zhq]
 rw [zkt] at h
 replace h := bn h; obtain ⟨h1, h⟩ := h
 replace h := bn h; obtain ⟨h2, h⟩ := h
 replace h := bn h; obtain ⟨h3, h⟩ := h
 replace h := br h; rcases h with ⟨h4, h⟩ | ⟨h4, h⟩
 ·cases h; subst hR; simp only [zbow, simprocAttr, *]
 ·replace h := bn h; obtain ⟨h5, h⟩ := h
  replace h := bb h; rcases h with ⟨h6', h6, h⟩ | ⟨h6', h6, h⟩
  ·replace h := bn h; obtain ⟨h7, h⟩ := h
   replace h := bn h; obtain ⟨h8, h⟩ := h
   replace h := bn h; obtain ⟨h9, h⟩ := h
   replace h := bn h; obtain ⟨h10, h⟩ := h
   replace h := bn h; obtain ⟨h11, h⟩ := h
   replace h := bm h; obtain ⟨h12, h⟩ := h
   replace h := bb h; rcases h with ⟨h13', h13, h⟩ | ⟨h13', h13, h⟩
   ·cases h; subst hR; simp only [zbow, simprocAttr, *]
   ·cases h
  ·replace h := bn h; obtain ⟨h14, h⟩ := h
   replace h := bn h; obtain ⟨h15, h⟩ := h
   replace h := bn h; obtain ⟨h16, h⟩ := h
   replace h := bb h; rcases h with ⟨h17', h17, h⟩ | ⟨h17', h17, h⟩
   ·replace h := bn h; obtain ⟨h18, h⟩ := h
    replace h := bn h; obtain ⟨h19, h⟩ := h
    cases h; subst hR; simp only [zbow, simprocAttr, *]
   ·cases h
def zboy := And.intro @kk <| And.intro @ke <| And.intro @kn <| And.intro @zbib <| And.intro @zbfc <| And.intro @zbhx <| And.intro @zbjr <| @zbid
theorem zboz : ∀ (q N : Nat), 8 * q ≤ N → ∀ (a0 : zji) (a1 : zjm), ∀ (r : zji × Int), zku q a0 a1 = some r → (orc T N).deep F.zku [zji.enc a0, zjm.enc a1] = some [zji.enc r.1, (V.int .i64) r.2] := by
 intro q N hM a0 a1 r h
 rcases q with _ | q
 ·cases h
 obtain ⟨M, rfl⟩ : ∃ M, N = M + 8 := ⟨N - 8, by omega⟩
 generalize hR : some [zji.enc r.1, (V.int .i64) r.2] = R
 rw [zhs, zbdh, y5, zhq]
 rw [zku] at h
 replace h := br h; rcases h with ⟨h1, h⟩ | ⟨h1, h⟩
 ·cases h; subst hR; simp only [zboy, simprocAttr, *]
 ·replace h := br h; rcases h with ⟨h2, h⟩ | ⟨h2, h⟩
  ·replace h := br h; rcases h with ⟨h3, h⟩ | ⟨h3, h⟩
   ·replace h := ob h; obtain ⟨r1, h4, h⟩ := h
    replace h4 := zbm3 q (M + 7) (by omega) _ _ h4
    try simp only [kf, simprocAttr] at h4
    replace h := ob h; obtain ⟨r2, h5, h⟩ := h
    replace h5 := zbme q (M + 7) (by omega) _ _ h5
    replace h := bn h; obtain ⟨h6, h⟩ := h
    cases h; subst hR; simp only [zboy, simprocAttr, *]
   ·cases h; subst hR; simp only [zboy, simprocAttr, *]
  ·replace h := br h; rcases h with ⟨h7, h⟩ | ⟨h7, h⟩
   ·replace h := br h; rcases h with ⟨h8, h⟩ | ⟨h8, h⟩
    ·cases h; subst hR; simp only [zboy, simprocAttr, *]
    ·replace h := br h; rcases h with ⟨h9, h⟩ | ⟨h9, h⟩
     ·replace h := ob h; obtain ⟨e3, h10, h⟩ := h
      replace h := ob h; obtain ⟨r4, h11, h⟩ := h
      replace h11 := zbm3 q (M + 7) (by omega) _ _ h11
      try simp only [kf, simprocAttr] at h11
      replace h := ob h; obtain ⟨r5, h12, h⟩ := h
      replace h12 := zbox q (M + 7) (by omega) _ _ _ _ h12
      try simp only [kf, simprocAttr] at h12
      cases h; subst hR; simp only [zboy, simprocAttr, *]
     ·replace h := bn h; obtain ⟨h13, h⟩ := h
      replace h := ob h; obtain ⟨e6, h14, h⟩ := h
      replace h := ob h; obtain ⟨r7, h15, h⟩ := h
      replace h15 := zbm3 q (M + 7) (by omega) _ _ h15
      try simp only [kf, simprocAttr] at h15
      replace h := ob h; obtain ⟨r8, h16, h⟩ := h
      replace h16 := zbox q (M + 7) (by omega) _ _ _ _ h16
      try simp only [kf, simprocAttr] at h16
      cases h; subst hR; simp only [zboy, simprocAttr, *]
   ·cases h; subst hR; simp only [zboy, simprocAttr, *]
def zbo0 (q : Nat) : Prop := ∀ (M : Nat) (hM : 8 * q ≤ M) (j : Nat) (hj : q ≤ j) (v0z : Bool) (v0l : List Int) (v1 v6 : Int) (r : Int × Bool) (_ : zkv q v0z v0l v1 v6 = some r) (R : Option (List V)) (_ : some [(V.int .i64) r.1, V.bool r.2] = R) (fr : Fr) (H : Hp) (_ : canon 0 [0, 1, 6] fr H = ([(0, (.sl v0z (List.map (V.int .i64) v0l))), (1, (.int .i64 v1)), (6, (.int .i64 v6))], [])), fin z9h (unw T (orc T (M + 7)) (M + 7) 0 [.blk 0, .code z9d] (iter 0 [0, 1, 6] (exec T (orc T (M + 7)) (M + 7) 0 z9b) j fr H)) = R
def zbo1 := And.intro @kk <| And.intro @ke <| And.intro @kn <| And.intro @zbjw <| @zbjy
theorem zbo2 (q : Nat) (zbqv : zbo0 q) : zbo0 (q + 1) := by
 intro M hM j hj v0z v0l v1 v6 r h R hR fr H hc
 obtain ⟨j, rfl⟩ : ∃ i, j = i + 1 := ⟨j - 1, by omega⟩
 rw [zhj, hc]; clear hc
 rw [zkv] at h
 replace h := br h; rcases h with ⟨h1, h⟩ | ⟨h1, h⟩
 ·replace h := bn h; obtain ⟨h2, h⟩ := h
  replace h := ob h; obtain ⟨e1, h3, h⟩ := h
  replace h := br h; rcases h with ⟨h4, h⟩ | ⟨h4, h⟩
  ·replace h := zbqv M (by omega) j (by omega) _ _ _ _ _ h R hR
   simp only [zbo1, simprocAttr, *]
  ·cases h; subst hR; simp only [zbo1, simprocAttr, *]
 ·cases h; subst hR; simp only [zbo1, simprocAttr, *]
theorem zbo3 : ∀ q, zbo0 q
 | 0 => by intro M hM j hj; intros; rename_i h _ _ _ _ _; cases h
 | q + 1 => by have i0 := zbo3 q; exact zbo2 q i0
theorem zbo4 : ∀ (q N : Nat), 8 * q ≤ N → ∀ (a0 : (Sl Int)) (a1 : Int), ∀ (r : Int × Bool), zkw q a0 a1 = some r → (orc T N).deep F.zkw [(Sl.enc (V.int .i64)) a0, (V.int .i64) a1] = some [(V.int .i64) r.1, V.bool r.2] := by
 intro q N hM a0 a1 r h
 rcases q with _ | q
 ·cases h
 obtain ⟨M, rfl⟩ : ∃ M, N = M + 8 := ⟨N - 8, by omega⟩
 have zbqv := (zbo3 q)
 generalize hR : some [(V.int .i64) r.1, V.bool r.2] = R
 rw [zhs, zbd0, y5, zhq]
 rw [zkw] at h
 replace h := zbqv M (by omega) (M + 7) (by omega) _ _ _ _ _ h R hR
 simp only [zbo1, simprocAttr, *]
def zbo5 := And.intro @kk <| And.intro @ke <| And.intro @kn <| And.intro @zbjt <| And.intro @zbjx <| @zbjv
theorem zbo6 : ∀ (q N : Nat), 8 * q ≤ N → ∀ (a0 : (Sl Int)) (a1 : Int), ∀ (r : Int), zkx q a0 a1 = some r → (orc T N).deep F.zkx [(Sl.enc (V.int .i64)) a0, (V.int .i64) a1] = some [(V.int .i64) r] := by
 intro q N hM a0 a1 r h
 rcases q with _ | q
 ·cases h
 obtain ⟨M, rfl⟩ : ∃ M, N = M + 8 := ⟨N - 8, by omega⟩
 generalize hR : some [(V.int .i64) r] = R
 rw [zhs, zbdz, y5, zhq]
 rw [zkx] at h
 replace h := ob h; obtain ⟨r1, h1, h⟩ := h
 replace h1 := zbo4 q (M + 7) (by omega) _ _ _ h1
 try simp only [kf, simprocAttr] at h1
 replace h := bb h; rcases h with ⟨h2', h2, h⟩ | ⟨h2', h2, h⟩
 ·replace h := bn h; obtain ⟨h3, h⟩ := h
  replace h := ob h; obtain ⟨e2, h4, h⟩ := h
  cases h; subst hR; simp only [zbo5, simprocAttr, *]
 ·cases h; subst hR; simp only [zbo5, simprocAttr, *]
def zbo7 := And.intro @kk <| And.intro @ke <| And.intro @kn <| And.intro @zbie <| And.intro @zbfc <| And.intro @zbhx <| And.intro @zbjr <| And.intro @zbju <| And.intro @zbjx <| @zbig
theorem zbo8 : ∀ (q N : Nat), 8 * q ≤ N → ∀ (a0 : zji) (a1 : zjm), ∀ (r : zji × Int), zky q a0 a1 = some r → (orc T N).deep F.zky [zji.enc a0, zjm.enc a1] = some [zji.enc r.1, (V.int .i64) r.2] := by
 intro q N hM a0 a1 r h
 rcases q with _ | q
 ·cases h
 obtain ⟨M, rfl⟩ : ∃ M, N = M + 8 := ⟨N - 8, by omega⟩
 generalize hR : some [zji.enc r.1, (V.int .i64) r.2] = R
 rw [zhs, zbdi, y5, zhq]
 rw [zky] at h
 replace h := br h; rcases h with ⟨h1, h⟩ | ⟨h1, h⟩
 ·replace h := br h; rcases h with ⟨h2, h⟩ | ⟨h2, h⟩
  ·cases h; subst hR; simp only [zbo7, simprocAttr, *]
  ·replace h := br h; rcases h with ⟨h3, h⟩ | ⟨h3, h⟩
   ·cases h; subst hR; simp only [zbo7, simprocAttr, *]
   ·replace h := ob h; obtain ⟨r1, h4, h⟩ := h
    replace h4 := zbo6 q (M + 7) (by omega) _ _ _ h4
    try simp only [kf, simprocAttr] at h4
    replace h := ob h; obtain ⟨r2, h5, h⟩ := h
    replace h5 := zbo4 q (M + 7) (by omega) _ _ _ h5
    try simp only [kf, simprocAttr] at h5
    replace h := br h; rcases h with ⟨h6, h⟩ | ⟨h6, h⟩
    ·replace h := bb h; rcases h with ⟨h7', h7, h⟩ | ⟨h7', h7, h⟩
     ·replace h := ob h; obtain ⟨r3, h8, h⟩ := h
      replace h8 := zbm3 q (M + 7) (by omega) _ _ h8
      try simp only [kf, simprocAttr] at h8
      replace h := ob h; obtain ⟨r4, h9, h⟩ := h
      replace h9 := zbox q (M + 7) (by omega) _ _ _ _ h9
      try simp only [kf, simprocAttr] at h9
      cases h; subst hR; simp only [zbo7, simprocAttr, *]
     ·replace h := bm h; obtain ⟨h10, h⟩ := h
      cases h; subst hR; simp only [zbo7, simprocAttr, *]
    ·replace h := bm h; obtain ⟨h11, h⟩ := h
     cases h; subst hR; simp only [zbo7, simprocAttr, *]
 ·replace h := br h; rcases h with ⟨h12, h⟩ | ⟨h12, h⟩
  ·replace h := br h; rcases h with ⟨h13, h⟩ | ⟨h13, h⟩
   ·cases h; subst hR; simp only [zbo7, simprocAttr, *]
   ·replace h := br h; rcases h with ⟨h14, h⟩ | ⟨h14, h⟩
    ·cases h; subst hR; simp only [zbo7, simprocAttr, *]
    ·replace h := ob h; obtain ⟨r7, h15, h⟩ := h
     replace h15 := zbo6 q (M + 7) (by omega) _ _ _ h15
     try simp only [kf, simprocAttr] at h15
     replace h := ob h; obtain ⟨r8, h16, h⟩ := h
     replace h16 := zbo4 q (M + 7) (by omega) _ _ _ h16
     try simp only [kf, simprocAttr] at h16
     replace h := bb h; rcases h with ⟨h17', h17, h⟩ | ⟨h17', h17, h⟩
     ·replace h := ob h; obtain ⟨r9, h18, h⟩ := h
      replace h18 := zbm3 q (M + 7) (by omega) _ _ h18
      try simp only [kf, simprocAttr] at h18
      replace h := ob h; obtain ⟨r10, h19, h⟩ := h
      replace h19 := zbox q (M + 7) (by omega) _ _ _ _ h19
      try simp only [kf, simprocAttr] at h19
      cases h; subst hR; simp only [zbo7, simprocAttr, *]
     ·replace h := bm h; obtain ⟨h20, h⟩ := h
      cases h; subst hR; simp only [zbo7, simprocAttr, *]
  ·replace h := br h; rcases h with ⟨h21, h⟩ | ⟨h21, h⟩
   ·replace h := br h; rcases h with ⟨h22, h⟩ | ⟨h22, h⟩
    ·cases h; subst hR; simp only [zbo7, simprocAttr, *]
    ·replace h := br h; rcases h with ⟨h23, h⟩ | ⟨h23, h⟩
     ·cases h; subst hR; simp only [zbo7, simprocAttr, *]
     ·replace h := ob h; obtain ⟨r12, h24, h⟩ := h
      replace h24 := zbo6 q (M + 7) (by omega) _ _ _ h24
      try simp only [kf, simprocAttr] at h24
      replace h := ob h; obtain ⟨r13, h25, h⟩ := h
      replace h25 := zbo4 q (M + 7) (by omega) _ _ _ h25
      try simp only [kf, simprocAttr] at h25
      cases h
   ·cases h; subst hR; simp only [zbo7, simprocAttr, *]
def zbo9 := And.intro @kk <| And.intro @ke <| And.intro @kn <| And.intro @zbjz <| And.intro @zbju <| @zbj1
theorem zbpa : ∀ (q N : Nat), 8 * q ≤ N → ∀ (a0 : zji) (a1 : zjm), ∀ (r : zji × Int), zkz q a0 a1 = some r → (orc T N).deep F.zkz [zji.enc a0, zjm.enc a1] = some [zji.enc r.1, (V.int .i64) r.2] := by
 intro q N hM a0 a1 r h
 rcases q with _ | q
 ·cases h
 obtain ⟨M, rfl⟩ : ∃ M, N = M + 8 := ⟨N - 8, by omega⟩
 generalize hR : some [zji.enc r.1, (V.int .i64) r.2] = R
 rw [zhs, zbd1, y5, zhq]
 rw [zkz] at h
 replace h := br h; rcases h with ⟨h1, h⟩ | ⟨h1, h⟩
 ·cases h; subst hR; simp only [zbo9, simprocAttr, *]
 ·replace h := br h; rcases h with ⟨h2, h⟩ | ⟨h2, h⟩
  ·cases h; subst hR; simp only [zbo9, simprocAttr, *]
  ·replace h := br h; rcases h with ⟨h3, h⟩ | ⟨h3, h⟩
   ·cases h; subst hR; simp only [zbo9, simprocAttr, *]
   ·replace h := ob h; obtain ⟨r1, h4, h⟩ := h
    replace h4 := zbo6 q (M + 7) (by omega) _ _ _ h4
    try simp only [kf, simprocAttr] at h4
    replace h := ob h; obtain ⟨r2, h5, h⟩ := h
    replace h5 := zbo6 q (M + 7) (by omega) _ _ _ h5
    try simp only [kf, simprocAttr] at h5
    replace h := br h; rcases h with ⟨h6, h⟩ | ⟨h6, h⟩
    ·cases h; subst hR; simp only [zbo9, simprocAttr, *]
    ·replace h := bn h; obtain ⟨h7, h⟩ := h
     cases h; subst hR; simp only [zbo9, simprocAttr, *]
def zbpb := And.intro @kk <| And.intro @ke <| And.intro @kn <| And.intro @zbih <| And.intro @zbhx <| And.intro @zbju <| And.intro @zbj0 <| @zbij
theorem zbpc : ∀ (q N : Nat), 8 * q ≤ N → ∀ (a0 : zji) (a1 : zjm), ∀ (r : zji × Int), zk0 q a0 a1 = some r → (orc T N).deep F.zk0 [zji.enc a0, zjm.enc a1] = some [zji.enc r.1, (V.int .i64) r.2] := by
 intro q N hM a0 a1 r h
 rcases q with _ | q
 ·cases h
 obtain ⟨M, rfl⟩ : ∃ M, N = M + 8 := ⟨N - 8, by omega⟩
 generalize hR : some [zji.enc r.1, (V.int .i64) r.2] = R
 rw [zhs, zbdj, y5, zhq]
 rw [zk0] at h
 replace h := br h; rcases h with ⟨h1, h⟩ | ⟨h1, h⟩
 ·replace h := ob h; obtain ⟨r1, h2, h⟩ := h
  replace h2 := zbpa q (M + 7) (by omega) _ _ _ h2
  try simp only [kf, simprocAttr] at h2
  cases h; subst hR; simp only [zbpb, simprocAttr, *]
 ·replace h := br h; rcases h with ⟨h3, h⟩ | ⟨h3, h⟩
  ·replace h := br h; rcases h with ⟨h4, h⟩ | ⟨h4, h⟩
   ·cases h; subst hR; simp only [zbpb, simprocAttr, *]
   ·replace h := br h; rcases h with ⟨h5, h⟩ | ⟨h5, h⟩
    ·cases h; subst hR; simp only [zbpb, simprocAttr, *]
    ·replace h := ob h; obtain ⟨r2, h6, h⟩ := h
     replace h6 := zbo6 q (M + 7) (by omega) _ _ _ h6
     try simp only [kf, simprocAttr] at h6
     cases h; subst hR; simp only [zbpb, simprocAttr, *]
  ·replace h := br h; rcases h with ⟨h7, h⟩ | ⟨h7, h⟩
   ·replace h := br h; rcases h with ⟨h8, h⟩ | ⟨h8, h⟩
    ·cases h; subst hR; simp only [zbpb, simprocAttr, *]
    ·replace h := br h; rcases h with ⟨h9, h⟩ | ⟨h9, h⟩
     ·cases h; subst hR; simp only [zbpb, simprocAttr, *]
     ·replace h := br h; rcases h with ⟨h10, h⟩ | ⟨h10, h⟩
      ·cases h; subst hR; simp only [zbpb, simprocAttr, *]
      ·replace h := ob h; obtain ⟨r3, h11, h⟩ := h
       replace h11 := zbo6 q (M + 7) (by omega) _ _ _ h11
       try simp only [kf, simprocAttr] at h11
       replace h := ob h; obtain ⟨r4, h12, h⟩ := h
       replace h12 := zbme q (M + 7) (by omega) _ _ h12
       replace h := ob h; obtain ⟨r5, h13, h⟩ := h
       replace h13 := zbme q (M + 7) (by omega) _ _ h13
       cases h
   ·cases h; subst hR; simp only [zbpb, simprocAttr, *]
def zbpd := And.intro @kk <| And.intro @ke <| And.intro @kn <| And.intro @zbfn <| And.intro @zbff <| And.intro @zbh9 <| And.intro @zbic <| And.intro @zbif <| And.intro @zbii <| @zbfp
theorem zbpe : ∀ (q N : Nat), 8 * q ≤ N → ∀ (a0 : zji) (a1 : zjm), ∀ (r : zji × Int), zk1 q a0 a1 = some r → (orc T N).deep F.zk1 [zji.enc a0, zjm.enc a1] = some [zji.enc r.1, (V.int .i64) r.2] := by
 intro q N hM a0 a1 r h
 rcases q with _ | q
 ·cases h
 obtain ⟨M, rfl⟩ : ∃ M, N = M + 8 := ⟨N - 8, by omega⟩
 generalize hR : some [zji.enc r.1, (V.int .i64) r.2] = R
 rw [zhs, zbcl, y5, zhq]
 rw [zk1] at h
 replace h := ob h; obtain ⟨r1, h1, h⟩ := h
 replace h1 := zbms q (M + 7) (by omega) _ _ h1
 try simp only [kf, simprocAttr] at h1
 replace h := bb h; rcases h with ⟨h2', h2, h⟩ | ⟨h2', h2, h⟩
 ·replace h := bb h; rcases h with ⟨h3', h3, h⟩ | ⟨h3', h3, h⟩
  ·cases h; subst hR; simp only [zbpd, simprocAttr, *]
  ·replace h := br h; rcases h with ⟨h4, h⟩ | ⟨h4, h⟩
   ·replace h := br h; rcases h with ⟨h5, h⟩ | ⟨h5, h⟩
    ·replace h := br h; rcases h with ⟨h6, h⟩ | ⟨h6, h⟩
     ·cases h; subst hR; simp only [zbpd, simprocAttr, *]
     ·cases h; subst hR; simp only [zbpd, simprocAttr, *]
    ·cases h; subst hR; simp only [zbpd, simprocAttr, *]
   ·replace h := br h; rcases h with ⟨h7, h⟩ | ⟨h7, h⟩
    ·replace h := ob h; obtain ⟨r2, h8, h⟩ := h
     replace h8 := zbov q (M + 7) (by omega) _ _ _ h8
     try simp only [kf, simprocAttr] at h8
     cases h; subst hR; simp only [zbpd, simprocAttr, *]
    ·replace h := br h; rcases h with ⟨h9, h⟩ | ⟨h9, h⟩
     ·replace h := ob h; obtain ⟨r3, h10, h⟩ := h
      replace h10 := zbov q (M + 7) (by omega) _ _ _ h10
      try simp only [kf, simprocAttr] at h10
      cases h; subst hR; simp only [zbpd, simprocAttr, *]
     ·replace h := br h; rcases h with ⟨h11, h⟩ | ⟨h11, h⟩
      ·replace h := ob h; obtain ⟨r4, h12, h⟩ := h
       replace h12 := zboz q (M + 7) (by omega) _ _ _ h12
       try simp only [kf, simprocAttr] at h12
       cases h; subst hR; simp only [zbpd, simprocAttr, *]
      ·replace h := br h; rcases h with ⟨h13, h⟩ | ⟨h13, h⟩
       ·replace h := ob h; obtain ⟨r5, h14, h⟩ := h
        replace h14 := zboz q (M + 7) (by omega) _ _ _ h14
        try simp only [kf, simprocAttr] at h14
        cases h; subst hR; simp only [zbpd, simprocAttr, *]
       ·replace h := br h; rcases h with ⟨h15, h⟩ | ⟨h15, h⟩
        ·replace h := ob h; obtain ⟨r6, h16, h⟩ := h
         replace h16 := zbo8 q (M + 7) (by omega) _ _ _ h16
         try simp only [kf, simprocAttr] at h16
         cases h; subst hR; simp only [zbpd, simprocAttr, *]
        ·replace h := ob h; obtain ⟨r7, h17, h⟩ := h
         replace h17 := zbpc q (M + 7) (by omega) _ _ _ h17
         try simp only [kf, simprocAttr] at h17
         cases h; subst hR; simp only [zbpd, simprocAttr, *]
 ·cases h; subst hR; simp only [zbpd, simprocAttr, *]
def zbpf (q : Nat) : Prop := ∀ (M : Nat) (hM : 8 * q ≤ M) (j : Nat) (hj : q ≤ j) (v8z : Bool) (v8l : List zjn) (v9 h0_0 h0_1 : Int) (h0_2z : Bool) (h0_2l : List Int) (h0_3 : Bool) (h0_4 : Int) (h0_5z : Bool) (h0_5l : List zjj) (r : zjk × Int) (_ : zk3 q v8z v8l v9 h0_0 h0_1 h0_2z h0_2l h0_3 h0_4 h0_5z h0_5l = some r) (R : Option (List V)) (_ : some [zjk.enc r.1, (V.int .i64) r.2] = R) (fr : Fr) (H : Hp) (_ : canon 0 [2, 4, 8, 9, 10] fr H = ([(2, (.ptr 0 0)), (4, (.ptr 1 0)), (8, (.sl v8z (List.map zjn.enc v8l))), (9, (.int .i64 v9)), (10, (.int .i64 0))], [(.box [(.int .i64 h0_0), (.int .i64 h0_1), (.sl h0_2z (List.map (V.int .i64) h0_2l)), (.bool h0_3), (.int .i64 h0_4), (.sl h0_5z (List.map zjj.enc h0_5l))]), (.box [(.int .i64 0), (.int .i64 0), (.sl true []), (.bool false), (.int .i64 0), (.sl true [])])])), fin znq (unw T (orc T (M + 7)) (M + 7) 0 [.blk 0, .code znn] (iter 0 [2, 4, 8, 9, 10] (exec T (orc T (M + 7)) (M + 7) 0 znk) j fr H)) = R
def zbpg (q : Nat) : Prop := ∀ (M : Nat) (hM : 8 * q ≤ M) (j : Nat) (hj : q ≤ j) (v8z : Bool) (v8l : List zjn) (v9 v10 h0_0 h0_1 : Int) (h0_2z : Bool) (h0_2l : List Int) (h0_3 : Bool) (h0_4 : Int) (h2z : Bool) (h2l : List zjj) (h2x : Bool) (r : zjk × Int) (_ : zk2 q v8z v8l v9 v10 h0_0 h0_1 h0_2z h0_2l h0_3 h0_4 h2z h2l h2x = some r) (R : Option (List V)) (_ : some [zjk.enc r.1, (V.int .i64) r.2] = R) (fr : Fr) (H : Hp) (_ : canon 0 [2, 4, 8, 9, 10] fr H = ([(2, (.ptr 0 0)), (4, (.ptr 1 0)), (8, (.sl v8z (List.map zjn.enc v8l))), (9, (.int .i64 v9)), (10, (.int .i64 v10))], [(.box [(.int .i64 h0_0), (.int .i64 h0_1), (.sl h0_2z (List.map (V.int .i64) h0_2l)), (.bool h0_3), (.int .i64 h0_4), (.vw 2 0 0 h2l.length 1)]), (.box [(.int .i64 0), (.int .i64 0), (.sl true []), (.bool false), (.int .i64 0), (.sl true [])]), (.row 0 h2z 3 (List.map zjj.enc h2l) h2x)])), fin znq (unw T (orc T (M + 7)) (M + 7) 0 [.blk 0, .code znn] (iter 0 [2, 4, 8, 9, 10] (exec T (orc T (M + 7)) (M + 7) 0 znk) j fr H)) = R
def zbph := And.intro @kk <| And.intro @ke <| And.intro @kn <| And.intro @zbee <| And.intro @zber <| And.intro @zbfl <| And.intro @zbfo <| @zbeg
theorem zbpi (q : Nat) (zbqw : zbpg q) : zbpf (q + 1) := by
 intro M hM j hj v8z v8l v9 h0_0 h0_1 h0_2z h0_2l h0_3 h0_4 h0_5z h0_5l r h R hR fr H hc
 obtain ⟨j, rfl⟩ : ∃ i, j = i + 1 := ⟨j - 1, by omega⟩
 rw [zhj, hc]; clear hc
 rw [zk3] at h
 replace h := br h; rcases h with ⟨h1, h⟩ | ⟨h1, h⟩
 ·replace h := ob h; obtain ⟨e1, h2, h⟩ := h
  replace h := br h; rcases h with ⟨h3, h⟩ | ⟨h3, h⟩
  ·replace h := ob h; obtain ⟨r2, h4, h⟩ := h
   replace h4 := zbot q (M + 7) (by omega) _ _ h4
   try simp only [kf, simprocAttr] at h4
   replace h := bb h; rcases h with ⟨h5', h5, h⟩ | ⟨h5', h5, h⟩
   ·replace h := ob h; obtain ⟨r3, h6, h⟩ := h
    replace h6 := zbpe q (M + 7) (by omega) _ _ _ h6
    try simp only [kf, simprocAttr] at h6
    replace h := ob h; obtain ⟨r4, h7, h⟩ := h
    replace h7 := zbno q (M + 7) (by omega) _ _ _ h7
    try simp only [kf, simprocAttr] at h7
    replace h := zbqw M (by omega) j (by omega) _ _ _ _ _ _ _ _ _ _ _ _ _ _ h R hR
    simp only [zbph, simprocAttr, *]
   ·cases h; subst hR; simp only [zbph, simprocAttr, *]
  ·cases h; subst hR; simp only [zbph, simprocAttr, *]
 ·cases h; subst hR; simp only [zbph, simprocAttr, *]
theorem zbpj (q : Nat) (zbqw : zbpg q) : zbpg (q + 1) := by
 intro M hM j hj v8z v8l v9 v10 h0_0 h0_1 h0_2z h0_2l h0_3 h0_4 h2z h2l h2x r h R hR fr H hc
 obtain ⟨j, rfl⟩ : ∃ i, j = i + 1 := ⟨j - 1, by omega⟩
 rw [zhj, hc]; clear hc
 rw [zk2] at h
 replace h := br h; rcases h with ⟨h1, h⟩ | ⟨h1, h⟩
 ·replace h := bn h; obtain ⟨h2, h⟩ := h
  replace h := ob h; obtain ⟨e5, h3, h⟩ := h
  replace h := br h; rcases h with ⟨h4, h⟩ | ⟨h4, h⟩
  ·replace h := ob h; obtain ⟨r6, h5, h⟩ := h
   replace h5 := zbot q (M + 7) (by omega) _ _ h5
   try simp only [kf, simprocAttr] at h5
   replace h := bb h; rcases h with ⟨h6', h6, h⟩ | ⟨h6', h6, h⟩
   ·replace h := ob h; obtain ⟨r7, h7, h⟩ := h
    replace h7 := zbpe q (M + 7) (by omega) _ _ _ h7
    try simp only [kf, simprocAttr] at h7
    replace h := ob h; obtain ⟨r8, h8, h⟩ := h
    replace h8 := zbno q (M + 7) (by omega) _ _ _ h8
    try simp only [kf, simprocAttr] at h8
    replace h := zbqw M (by omega) j (by omega) _ _ _ _ _ _ _ _ _ _ _ _ _ _ h R hR
    simp only [zbph, simprocAttr, *]
   ·cases h; subst hR; simp only [zbph, simprocAttr, *]
  ·cases h; subst hR; simp only [zbph, simprocAttr, *]
 ·cases h; subst hR; simp only [zbph, simprocAttr, *]
theorem zbpk : ∀ q, zbpf q ∧ zbpg q
 | 0 => by refine ⟨?_, ?_⟩ <;> (intro M hM j hj; intros; rename_i h _ _ _ _ _; cases h)
 | q + 1 => by have ⟨i0, i1⟩ := zbpk q; exact ⟨zbpi q i1, zbpj q i1⟩
theorem zbpl : ∀ (q N : Nat), 8 * q ≤ N → ∀ (a0 : zjk) (a1 : (Sl zjn)), ∀ (r : zjk × Int), zk4 q a0 a1 = some r → (orc T N).deep F.zk4 [zjk.enc a0, (Sl.enc zjn.enc) a1] = some [zjk.enc r.1, (V.int .i64) r.2] := by
 intro q N hM a0 a1 r h
 rcases q with _ | q
 ·cases h
 obtain ⟨M, rfl⟩ : ∃ M, N = M + 8 := ⟨N - 8, by omega⟩
 have ih_snapshot_Take_l0 := (zbpk q).1
 generalize hR : some [zjk.enc r.1, (V.int .i64) r.2] = R
 rw [zhs, zbb6, y5, zhq]
 rw [zk4] at h
 replace h := ih_snapshot_Take_l0 M (by omega) (M + 7) (by omega) _ _ _ _ _ _ _ _ _ _ _ _ h R hR
 simp only [zbph, simprocAttr, *]
def zbpm (q : Nat) : Prop := ∀ (M : Nat) (hM : 8 * q ≤ M) (j : Nat) (hj : q ≤ j) (v5 : Int) (h0_0 h1_0 : List Int) (r : (List Int)) (_ : zk5 q v5 h0_0 h1_0 = some r) (R : Option (List V)) (_ : some [(arrEnc (V.int .u32)) r] = R) (fr : Fr) (H : Hp) (_ : canon 0 [0, 1, 5] fr H = ([(0, (.ptr 0 0)), (1, (.ptr 1 0)), (5, (.int .i64 v5))], [(.box (List.map (V.int .u32) h0_0)), (.box (List.map (V.int .u32) h1_0))])), fin zbb2 (unw T (orc T (M + 7)) (M + 7) 0 [.blk 0, .code zbby] (iter 0 [0, 1, 5] (exec T (orc T (M + 7)) (M + 7) 0 zbbv) j fr H)) = R
def zbpn (q : Nat) : Prop := ∀ (M : Nat) (hM : 8 * q ≤ M) (j : Nat) (hj : q ≤ j) (j1 : Nat) (hj1 : q ≤ j1) (v2 v3 v5 v10 : Int) (h0_0 h1_0 : List Int) (r : (List Int)) (_ : zk6 q v2 v3 v5 v10 h0_0 h1_0 = some r) (R : Option (List V)) (_ : some [(arrEnc (V.int .u32)) r] = R) (fr : Fr) (H : Hp) (_ : canon 0 [0, 1, 2, 3, 5, 10] fr H = ([(0, (.ptr 0 0)), (1, (.ptr 1 0)), (2, (.int .i64 v2)), (3, (.int .u32 v3)), (5, (.int .i64 v5)), (10, (.int .i64 v10))], [(.box (List.map (V.int .u32) h0_0)), (.box (List.map (V.int .u32) h1_0))])), fin zbb2 (unw T (orc T (M + 7)) (M + 7) 0 [.blk 2, .code zbbo, .blk 1, .code zbbs, .rounds [0, 1, 5] zbbv j1, .blk 0, .code zbby] (iter 0 [0, 1, 2, 3, 5, 10] (exec T (orc T (M + 7)) (M + 7) 0 zbbl) j fr H)) = R
def zbpo := And.intro @kk <| And.intro @ke <| And.intro @kn <| And.intro @zbj8 <| @zbka
theorem zbpp (q : Nat) (zbqx : zbpn q) : zbpm (q + 1) := by
 intro M hM j hj v5 h0_0 h1_0 r h R hR fr H hc
 obtain ⟨j, rfl⟩ : ∃ i, j = i + 1 := ⟨j - 1, by omega⟩
 rw [zhj, hc]; clear hc
 rw [zk5] at h
 replace h := br h; rcases h with ⟨h1, h⟩ | ⟨h1, h⟩
 ·replace h := zbqx M (by omega) (M + 7) (by omega) j (by omega) _ _ _ _ _ _ _ h R hR
  simp (maxDischargeDepth := 12) only [zbpo, simprocAttr, arrEnc, *]
 ·replace h := bn h; obtain ⟨h2, h⟩ := h
  replace h := bc h; rcases h with ⟨h3, h⟩ | ⟨h3, h⟩
  ·replace h := bn h; obtain ⟨h4, h⟩ := h
   replace h := bn h; obtain ⟨h5, h⟩ := h
   cases h; subst hR; simp (maxDischargeDepth := 12) only [zbpo, simprocAttr, arrEnc, *]
  ·cases h
theorem zbpq (q : Nat) (zbqy : zbpm q) (zbqx : zbpn q) : zbpn (q + 1) := by
 intro M hM j hj j1 hj1 v2 v3 v5 v10 h0_0 h1_0 r h R hR fr H hc
 obtain ⟨j, rfl⟩ : ∃ i, j = i + 1 := ⟨j - 1, by omega⟩
 rw [zhj, hc]; clear hc
 rw [zk6] at h
 replace h := br h; rcases h with ⟨h1, h⟩ | ⟨h1, h⟩
 ·replace h := zbqx M (by omega) j (by omega) j1 (by omega) _ _ _ _ _ _ _ h R hR
  simp (maxDischargeDepth := 12) only [zbpo, simprocAttr, arrEnc, *]
 ·replace h := bn h; obtain ⟨h2, h⟩ := h
  replace h := bn h; obtain ⟨h3, h⟩ := h
  replace h := bn h; obtain ⟨h4, h⟩ := h
  replace h := zbqy M (by omega) j1 (by omega) _ _ _ _ h R hR
  simp (maxDischargeDepth := 12) only [zbpo, simprocAttr, arrEnc, *]
theorem zbpr : ∀ q, zbpm q ∧ zbpn q
 | 0 => by refine ⟨?_, ?_⟩ <;> (intro M hM j hj; intros; rename_i h _ _ _ _ _; cases h)
 | q + 1 => by have ⟨i0, i1⟩ := zbpr q; exact ⟨zbpp q i1, zbpq q i0 i1⟩
theorem zbps : ∀ (q N : Nat), 8 * q ≤ N → ∀ (r : (List Int)), zk7 q = some r → (orc T N).deep F.zk7 [] = some [(arrEnc (V.int .u32)) r] := by
 intro q N hM r h
 rcases q with _ | q
 ·cases h
 obtain ⟨M, rfl⟩ : ∃ M, N = M + 8 := ⟨N - 8, by omega⟩
 have zbqy := (zbpr q).1
 generalize hR : some [(arrEnc (V.int .u32)) r] = R
 rw [zhs, zbd4, y5, zhq]
 rw [zk7] at h
 replace h := zbqy M (by omega) (M + 7) (by omega) _ _ _ _ h R hR
 simp (maxDischargeDepth := 12) only [zbpo, simprocAttr, arrEnc, *]
def zbpt (q : Nat) : Prop := ∀ (M : Nat) (hM : 8 * q ≤ M) (j : Nat) (hj : q ≤ j) (v6 : Int) (v12z : Bool) (v12l : List Int) (v13 v14 : Int) (h0_0 : List Int) (r : Int) (_ : zk8 q v6 v12z v12l v13 v14 h0_0 = some r) (R : Option (List V)) (_ : some [(V.int .u32) r] = R) (fr : Fr) (H : Hp) (_ : canon 0 [5, 6, 12, 13, 14] fr H = ([(5, (.ptr 0 0)), (6, (.int .u32 v6)), (12, (.sl v12z (List.map (V.int .u8) v12l))), (13, (.int .i64 v13)), (14, (.int .i64 v14))], [(.box (List.map (V.int .u32) h0_0))])), fin z5k (unw T (orc T (M + 7)) (M + 7) 0 [.blk 0, .code z5f] (iter 0 [5, 6, 12, 13, 14] (exec T (orc T (M + 7)) (M + 7) 0 z5c) j fr H)) = R
def zbpu := And.intro @kk <| And.intro @ke <| And.intro @kn <| And.intro @zbi8 <| And.intro @zbj9 <| @zbja
theorem zbpv (q : Nat) (zbqz : zbpt q) : zbpt (q + 1) := by
 intro M hM j hj v6 v12z v12l v13 v14 h0_0 r h R hR fr H hc
 obtain ⟨j, rfl⟩ : ∃ i, j = i + 1 := ⟨j - 1, by omega⟩
 rw [zhj, hc]; clear hc
 rw [zk8] at h
 replace h := br h; rcases h with ⟨h1, h⟩ | ⟨h1, h⟩
 ·replace h := bn h; obtain ⟨h2, h⟩ := h
  replace h := ob h; obtain ⟨e2, h3, h⟩ := h
  replace h := bn h; obtain ⟨h4, h⟩ := h
  replace h := bn h; obtain ⟨h5, h⟩ := h
  replace h := ob h; obtain ⟨e3, h6, h⟩ := h
  replace h := zbqz M (by omega) j (by omega) _ _ _ _ _ _ _ h R hR
  simp only [zbpu, simprocAttr, arrEnc, *]
 ·cases h; subst hR; simp only [zbpu, simprocAttr, arrEnc, *]
theorem zbpw : ∀ q, zbpt q
 | 0 => by intro M hM j hj; intros; rename_i h _ _ _ _ _; cases h
 | q + 1 => by have i0 := zbpw q; exact zbpv q i0
theorem zbpx : ∀ (q N : Nat), 8 * q ≤ N → ∀ (a0 : Int) (a1 : (Sl Int)), ∀ (r : Int), zk9 q a0 a1 = some r → (orc T N).deep F.zk9 [(V.int .u32) a0, (Sl.enc (V.int .u8)) a1] = some [(V.int .u32) r] := by
 intro q N hM a0 a1 r h
 rcases q with _ | q
 ·cases h
 obtain ⟨M, rfl⟩ : ∃ M, N = M + 8 := ⟨N - 8, by omega⟩
 have zbqz := (zbpw q)
 generalize hR : some [(V.int .u32) r] = R
 rw [zhs, zbds, y5, zhq]
 rw [zk9] at h
 replace h := ob h; obtain ⟨r1, h1, h⟩ := h
 replace h1 := zbps q (M + 7) (by omega)  _ h1
 try simp only [kf, simprocAttr] at h1
 replace h := bc h; rcases h with ⟨h2, h⟩ | ⟨h2, h⟩
 ·replace h := zbqz M (by omega) (M + 7) (by omega) _ _ _ _ _ _ _ h R hR
  simp only [zbpu, simprocAttr, arrEnc, *]
 ·cases h
def zbpy := And.intro @kk <| And.intro @ke <| And.intro @kn <| And.intro @zbg8 <| And.intro @zbi9 <| @zbha
theorem zbpz : ∀ (q N : Nat), 8 * q ≤ N → ∀ (a0 : (Sl Int)), ∀ (r : Int), zla q a0 = some r → (orc T N).deep F.zla [(Sl.enc (V.int .u8)) a0] = some [(V.int .u32) r] := by
 intro q N hM a0 r h
 rcases q with _ | q
 ·cases h
 obtain ⟨M, rfl⟩ : ∃ M, N = M + 8 := ⟨N - 8, by omega⟩
 generalize hR : some [(V.int .u32) r] = R
 rw [zhs, zbc4, y5, zhq]
 rw [zla] at h
 replace h := ob h; obtain ⟨r1, h1, h⟩ := h
 replace h1 := zbpx q (M + 7) (by omega) _ _ _ h1
 try simp only [kf, simprocAttr] at h1
 cases h; subst hR; simp only [zbpy, simprocAttr, *]
def zbp0 (q : Nat) : Prop := ∀ (M : Nat) (hM : 8 * q ≤ M) (j : Nat) (hj : q ≤ j) (v0 v7 v8 : Int) (h0z : Bool) (h0l : List Int) (r : (Ow Int)) (_ : zlb q v0 v7 v8 h0z h0l = some r) (R : Option (List V)) (_ : some [(Ow.enc 1 (V.int .u8)) r] = R) (fr : Fr) (H : Hp) (_ : canon 0 [0, 5, 7, 8] fr H = ([(0, (.int .u64 v0)), (5, (.vw 0 0 0 h0l.length 1)), (7, (.int .i64 v7)), (8, (.int .i64 v8))], [(.row 0 h0z 1 (List.map (V.int .u8) h0l) true)])), fin z4z (unw T (orc T (M + 7)) (M + 7) 0 [.blk 0, .code z4v] (iter 0 [0, 5, 7, 8] (exec T (orc T (M + 7)) (M + 7) 0 z4s) j fr H)) = R
def zbp1 := And.intro @kk <| And.intro @ke <| And.intro @kn <| And.intro @zbi5 <| @zbi7
theorem zbp2 (q : Nat) (zbq0 : zbp0 q) : zbp0 (q + 1) := by
 intro M hM j hj v0 v7 v8 h0z h0l r h R hR fr H hc
 obtain ⟨j, rfl⟩ : ∃ i, j = i + 1 := ⟨j - 1, by omega⟩
 rw [zhj, hc]; clear hc
 rw [zlb] at h
 replace h := br h; rcases h with ⟨h1, h⟩ | ⟨h1, h⟩
 ·replace h := bm h; obtain ⟨h2, h⟩ := h
  replace h := bn h; obtain ⟨h3, h⟩ := h
  replace h := zbq0 M (by omega) j (by omega) _ _ _ _ _ _ h R hR
  simp only [zbp1, simprocAttr, *]
 ·cases h; subst hR; simp only [zbp1, simprocAttr, *]
theorem zbp3 : ∀ q, zbp0 q
 | 0 => by intro M hM j hj; intros; rename_i h _ _ _ _ _; cases h
 | q + 1 => by have i0 := zbp3 q; exact zbp2 q i0
theorem zbp4 : ∀ (q N : Nat), 8 * q ≤ N → ∀ (a0 a1 : Int), ∀ (r : (Ow Int)), zlc q a0 a1 = some r → (orc T N).deep F.zlc [(V.int .u64) a0, (V.int .i64) a1] = some [(Ow.enc 1 (V.int .u8)) r] := by
 intro q N hM a0 a1 r h
 rcases q with _ | q
 ·cases h
 obtain ⟨M, rfl⟩ : ∃ M, N = M + 8 := ⟨N - 8, by omega⟩
 have zbq0 := (zbp3 q)
 generalize hR : some [(Ow.enc 1 (V.int .u8)) r] = R
 rw [zhs, zbdr, y5, zhq]
 rw [zlc] at h
 replace h := zbq0 M (by omega) (M + 7) (by omega) _ _ _ _ _ _ h R hR
 simp only [zbp1, simprocAttr, *]
def zbp5 := And.intro @kk <| And.intro @ke <| And.intro @kn <| And.intro @zbg5 <| And.intro @zbi6 <| @zbg7
theorem zbp6 : ∀ (q N : Nat), 8 * q ≤ N → ∀ (a0 : Int), ∀ (r : (Ow Int)), zld q a0 = some r → (orc T N).deep F.zld [(V.int .u32) a0] = some [(Ow.enc 1 (V.int .u8)) r] := by
 intro q N hM a0 r h
 rcases q with _ | q
 ·cases h
 obtain ⟨M, rfl⟩ : ∃ M, N = M + 8 := ⟨N - 8, by omega⟩
 generalize hR : some [(Ow.enc 1 (V.int .u8)) r] = R
 rw [zhs, zbc3, y5, zhq]
 rw [zld] at h
 replace h := ob h; obtain ⟨r1, h1, h⟩ := h
 replace h1 := zbp4 q (M + 7) (by omega) _ _ _ h1
 try simp only [kf, simprocAttr] at h1
 cases h; subst hR; simp only [zbp5, simprocAttr, *]
def zbp7 := And.intro @kk <| And.intro @ke <| And.intro @kn <| And.intro @zbik <| And.intro @zbg6 <| And.intro @zbg9 <| And.intro @zbi9 <| @zbim
theorem zbp8 : ∀ (q N : Nat), 8 * q ≤ N → ∀ (a0 a1 : (Sl Int)), ∀ (r : (Ow Int)), zle q a0 a1 = some r → (orc T N).deep F.zle [(Sl.enc (V.int .u8)) a0, (Sl.enc (V.int .u8)) a1] = some [(Ow.enc 1 (V.int .u8)) r] := by
 intro q N hM a0 a1 r h
 rcases q with _ | q
 ·cases h
 obtain ⟨M, rfl⟩ : ∃ M, N = M + 8 := ⟨N - 8, by omega⟩
 generalize hR : some [(Ow.enc 1 (V.int .u8)) r] = R
 rw [zhs, zbdk, y5, zhq]
 rw [zle] at h
 replace h := ob h; obtain ⟨r1, h1, h⟩ := h
 replace h1 := zbpz q (M + 7) (by omega) _ _ h1
 try simp only [kf, simprocAttr] at h1
 replace h := ob h; obtain ⟨r2, h2, h⟩ := h
 replace h2 := zbpx q (M + 7) (by omega) _ _ _ h2
 try simp only [kf, simprocAttr] at h2
 replace h := ob h; obtain ⟨r3, h3, h⟩ := h
 replace h3 := zbp6 q (M + 7) (by omega) _ _ h3
 try simp only [kf, simprocAttr] at h3
 cases h; subst hR; simp only [zbp7, simprocAttr, *]
def zbp9 (q : Nat) : Prop := ∀ (M : Nat) (hM : 8 * q ≤ M) (j : Nat) (hj : q ≤ j) (w0 : Nat) (v1 : Int) (h0z : Bool) (h0l : List Int) (h0x : Bool) (r : (Ow Int)) (_ : zlf q v1 h0z h0l h0x = some r) (R : Option (List V)) (_ : some [(Ow.enc 1 (V.int .u8)) r] = R) (fr : Fr) (H : Hp) (_ : canon 1 [0, 1] fr H = ([(0, (.vw 0 w0 0 h0l.length 1)), (1, (.int .u64 v1))], [(.row w0 h0z 1 (List.map (V.int .u8) h0l) h0x)])), fin z2j (unw T (orc T (M + 7)) (M + 7) 1 [.blk 0, .code z2g] (iter 1 [0, 1] (exec T (orc T (M + 7)) (M + 7) 1 z2e) j fr H)) = R
def zbqa := And.intro @kk <| And.intro @ke <| And.intro @kn <| And.intro @zbin <| @zbip
theorem zbqb (q : Nat) (zbq1 : zbp9 q) : zbp9 (q + 1) := by
 intro M hM j hj w0 v1 h0z h0l h0x r h R hR fr H hc
 obtain ⟨j, rfl⟩ : ∃ i, j = i + 1 := ⟨j - 1, by omega⟩
 rw [zhj, hc]; clear hc
 rw [zlf] at h
 replace h := br h; rcases h with ⟨h1, h⟩ | ⟨h1, h⟩
 ·replace h := bn h; obtain ⟨h2, h⟩ := h
  replace h := zbq1 M (by omega) j (by omega) (w0 + 1) _ _ _ _ _ h R hR
  simp only [zbqa, simprocAttr, *]
 ·replace h := bn h; obtain ⟨h3, h⟩ := h
  cases h; subst hR; simp only [zbqa, simprocAttr, *]
theorem zbqc : ∀ q, zbp9 q
 | 0 => by intro M hM j hj; intros; rename_i h _ _ _ _ _; cases h
 | q + 1 => by have i0 := zbqc q; exact zbqb q i0
theorem zbqd : ∀ (q N : Nat), 8 * q ≤ N → ∀ (a0 : (Ow Int)) (a1 : Int), ∀ (r : (Ow Int)), zlg q a0 a1 = some r → (orc T N).deep F.zlg [(Ow.enc 1 (V.int .u8)) a0, (V.int .u64) a1] = some [(Ow.enc 1 (V.int .u8)) r] := by
 intro q N hM a0 a1 r h
 rcases q with _ | q
 ·cases h
 obtain ⟨M, rfl⟩ : ∃ M, N = M + 8 := ⟨N - 8, by omega⟩
 have zbq1 := (zbqc q)
 generalize hR : some [(Ow.enc 1 (V.int .u8)) r] = R
 rw [zhs, zbdl, y5, zhq]
 rw [zlg] at h
 replace h := zbq1 M (by omega) (M + 7) (by omega) 0 _ _ _ _ _ h R hR
 simp only [zbqa, simprocAttr, *]
def zbqe := And.intro @kk <| And.intro @ke <| And.intro @kn <| And.intro @zbgz <| And.intro @zbio <| @zbg1
theorem zbqf : ∀ (q N : Nat), 8 * q ≤ N → ∀ (a0 : (Ow Int)) (a1 : Int), ∀ (r : (Ow Int)), zlh q a0 a1 = some r → (orc T N).deep F.zlh [(Ow.enc 1 (V.int .u8)) a0, (V.int .i64) a1] = some [(Ow.enc 1 (V.int .u8)) r] := by
 intro q N hM a0 a1 r h
 rcases q with _ | q
 ·cases h
 obtain ⟨M, rfl⟩ : ∃ M, N = M + 8 := ⟨N - 8, by omega⟩
 generalize hR : some [(Ow.enc 1 (V.int .u8)) r] = R
 rw [zhs, zbc1, y5, zhq]
 rw [zlh] at h
 replace h := br h; rcases h with ⟨h1, h⟩ | ⟨h1, h⟩
 ·cases h; subst hR; simp only [zbqe, simprocAttr, *]
 ·replace h := br h; rcases h with ⟨h2, h⟩ | ⟨h2, h⟩
  ·cases h; subst hR; simp only [zbqe, simprocAttr, *]
  ·replace h := ob h; obtain ⟨r1, h3, h⟩ := h
   replace h3 := zbqd q (M + 7) (by omega) _ _ _ h3
   try simp only [kf, simprocAttr] at h3
   cases h; subst hR; simp only [zbqe, simprocAttr, *]
def zbqg := And.intro @kk <| And.intro @ke <| And.intro @kn <| And.intro @zbiq <| @zbis
theorem zbqh : ∀ (q N : Nat), 8 * q ≤ N → ∀ (a0 r : Int), zli q a0 = some r → (orc T N).deep F.zli [(V.int .i64) a0] = some [(V.int .u64) r] := by
 intro q N hM a0 r h
 rcases q with _ | q
 ·cases h
 obtain ⟨M, rfl⟩ : ∃ M, N = M + 8 := ⟨N - 8, by omega⟩
 generalize hR : some [(V.int .u64) r] = R
 rw [zhs, zbdm, y5, zhq]
 rw [zli] at h
 cases h; subst hR; simp only [zbqg, simprocAttr, *]
def zbqi := And.intro @kk <| And.intro @ke <| And.intro @kn <| And.intro @zbft <| And.intro @zbio <| And.intro @zbir <| @zbfv
theorem zbqj : ∀ (q N : Nat), 8 * q ≤ N → ∀ (a0 : (Ow Int)) (a1 : Int), ∀ (r : (Ow Int)), zlj q a0 a1 = some r → (orc T N).deep F.zlj [(Ow.enc 1 (V.int .u8)) a0, (V.int .i64) a1] = some [(Ow.enc 1 (V.int .u8)) r] := by
 intro q N hM a0 a1 r h
 rcases q with _ | q
 ·cases h
 obtain ⟨M, rfl⟩ : ∃ M, N = M + 8 := ⟨N - 8, by omega⟩
 generalize hR : some [(Ow.enc 1 (V.int .u8)) r] = R
 rw [zhs, zbcn, y5, zhq]
 rw [zlj] at h
 replace h := ob h; obtain ⟨r1, h1, h⟩ := h
 replace h1 := zbqh q (M + 7) (by omega) _ _ h1
 replace h := ob h; obtain ⟨r2, h2, h⟩ := h
 replace h2 := zbqd q (M + 7) (by omega) _ _ _ h2
 try simp only [kf, simprocAttr] at h2
 cases h; subst hR; simp only [zbqi, simprocAttr, *]
end Go.Dvm.C
