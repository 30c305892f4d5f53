/- The machine comes to these answers: part 1. -/
import Derived.Test.YtngajodhbioheaaQl0
set_option linter.all false
set_option maxRecDepth 100000
set_option maxHeartbeats 4000000
namespace Go.Dvm.C
open Go Go.Dvm Go.Dvm.I
def zbod := And.intro @kk <| And.intro @ke <| And.intro @kn <| And.intro @zbi0 <| @zbi2
theorem zboe : ∀ (q N : Nat), 8 * q ≤ N → ∀ (a0 r : Int), zjm q a0 = some r → (orc T N).deep F.zjm [(V.int .i64) a0] = some [(V.int .i64) r] := by
 intro q N hM a0 r h
 rcases q with _ | q
 ·cases h
 obtain ⟨M, rfl⟩ : ∃ M, N = M + 8 := ⟨N - 8, by omega⟩
 generalize hR : some [(V.int .i64) r] = R
 rw [zhs, zbe5, y4, zhq]
 rw [zjm] at h
 cases h; subst hR; simp only [zbod, simprocAttr, *]
def zbof := And.intro @kk <| And.intro @ke <| And.intro @kn <| And.intro @zbix <| And.intro @zbi1 <| @zbiz
theorem zbog : ∀ (q N : Nat), 8 * q ≤ N → ∀ (a0 : Int), ∀ (r : Bool), zjn q a0 = some r → (orc T N).deep F.zjn [(V.int .i64) a0] = some [V.bool r] := by
 intro q N hM a0 r h
 rcases q with _ | q
 ·cases h
 obtain ⟨M, rfl⟩ : ∃ M, N = M + 8 := ⟨N - 8, by omega⟩
 generalize hR : some [V.bool r] = R
 rw [zhs, zbe4, y4, zhq]
 rw [zjn] at h
 replace h := ob h; obtain ⟨r1, h1, h⟩ := h
 replace h1 := zboe q (M + 7) (by omega) _ _ h1
 cases h; subst hR; simp only [zbof, simprocAttr, *]
def zboh (q : Nat) : Prop := ∀ (M : Nat) (hM : 8 * q ≤ M) (j : Nat) (hj : q ≤ j) (v0z : Bool) (v0l : List Int) (v1 v5 v6 : Int) (r : Bool) (_ : zjo q v0z v0l v1 v5 v6 = some r) (R : Option (List V)) (_ : some [V.bool r] = R) (fr : Fr) (H : Hp) (_ : canon 0 [0, 1, 5, 6] fr H = ([(0, (.sl v0z (List.map (V.int .i64) v0l))), (1, (.int .i64 v1)), (5, (.int .i64 v5)), (6, (.int .i64 v6))], [])), fin zw8 (unw T (orc T (M + 7)) (M + 7) 0 [.blk 0, .code zw4] (iter 0 [0, 1, 5, 6] (exec T (orc T (M + 7)) (M + 7) 0 zw1) j fr H)) = R
def zboi := And.intro @kk <| And.intro @ke <| And.intro @kn <| And.intro @zbi3 <| @zbi5
theorem zboj (q : Nat) (zbsw : zboh q) : zboh (q + 1) := by
 intro M hM j hj v0z v0l v1 v5 v6 r h R hR fr H hc
 obtain ⟨j, rfl⟩ : ∃ i, j = i + 1 := ⟨j - 1, by omega⟩
 rw [zhj, hc]; clear hc
 rw [zjo] at h
 replace h := br h; rcases h with ⟨h1, h⟩ | ⟨h1, h⟩
 ·replace h := bn h; obtain ⟨h2, h⟩ := h
  replace h := ob h; obtain ⟨e1, h3, h⟩ := h
  replace h := br h; rcases h with ⟨h4, h⟩ | ⟨h4, h⟩
  ·cases h; subst hR; simp only [zboi, simprocAttr, *]
  ·replace h := br h; rcases h with ⟨h5, h⟩ | ⟨h5, h⟩
   ·cases h; subst hR; simp only [zboi, simprocAttr, *]
   ·replace h := bn h; obtain ⟨h6, h⟩ := h
    replace h := ob h; obtain ⟨e2, h7, h⟩ := h
    replace h := br h; rcases h with ⟨h8, h⟩ | ⟨h8, h⟩
    ·cases h; subst hR; simp only [zboi, simprocAttr, *]
    ·replace h := br h; rcases h with ⟨h9, h⟩ | ⟨h9, h⟩
     ·cases h; subst hR; simp only [zboi, simprocAttr, *]
     ·replace h := zbsw M (by omega) j (by omega) _ _ _ _ _ _ h R hR
      simp only [zboi, simprocAttr, *]
 ·replace h := br h; rcases h with ⟨h10, h⟩ | ⟨h10, h⟩
  ·cases h; subst hR; simp only [zboi, simprocAttr, *]
  ·cases h; subst hR; simp only [zboi, simprocAttr, *]
theorem zbok : ∀ q, zboh q
 | 0 => by intro M hM j hj; intros; rename_i h _ _ _ _ _; cases h
 | q + 1 => by have i0 := zbok q; exact zboj q i0
theorem zbol : ∀ (q N : Nat), 8 * q ≤ N → ∀ (a0 : (Sl Int)) (a1 : Int), ∀ (r : Bool), zjp q a0 a1 = some r → (orc T N).deep F.zjp [(Sl.enc (V.int .i64)) a0, (V.int .i64) a1] = some [V.bool r] := by
 intro q N hM a0 a1 r h
 rcases q with _ | q
 ·cases h
 obtain ⟨M, rfl⟩ : ∃ M, N = M + 8 := ⟨N - 8, by omega⟩
 have zbsw := (zbok q)
 generalize hR : some [V.bool r] = R
 rw [zhs, zbe6, y4, zhq]
 rw [zjp] at h
 replace h := zbsw M (by omega) (M + 7) (by omega) _ _ _ _ _ _ h R hR
 simp only [zboi, simprocAttr, *]
def zbom (q : Nat) : Prop := ∀ (M : Nat) (hM : 8 * q ≤ M) (j : Nat) (hj : q ≤ j) (v0z : Bool) (v0l : List Int) (v7 v8 h0_0 : Int) (h0_1z : Bool) (h0_1l : List Int) (h0_2 : Bool) (h0_3 r : Int) (_ : zjq q v0z v0l v7 v8 h0_0 h0_1z h0_1l h0_2 h0_3 = some r) (R : Option (List V × Hp)) (_ : (some ([(.int .i64 r)], [(.box [(.int .i64 h0_0), (.sl h0_1z (List.map (V.int .i64) h0_1l)), (.bool h0_2), (.int .i64 h0_3)])]) : Option (List V × Hp)) = R) (fr : Fr) (H : Hp) (_ : canon 1 [0, 1, 7, 8] fr H = ([(0, (.sl v0z (List.map (V.int .i64) v0l))), (1, (.fn F.zjn [])), (7, (.int .i64 v7)), (8, (.int .i64 v8))], [(.box [(.int .i64 h0_0), (.sl h0_1z (List.map (V.int .i64) h0_1l)), (.bool h0_2), (.int .i64 h0_3)])])), finI 1 false [.tmp 4] (unw T (orc T (M + 5)) (M + 5) 1 [.blk 0, .code z70] (iter 1 [0, 1, 7, 8] (exec T (orc T (M + 5)) (M + 5) 1 z7x) j fr H)) = R
def zbon := And.intro @kk <| And.intro @ke <| And.intro @kn <| And.intro @zbkx <| @zbiy
theorem zboo (q : Nat) (zbsx : zbom q) : zbom (q + 1) := by
 intro M hM j hj v0z v0l v7 v8 h0_0 h0_1z h0_1l h0_2 h0_3 r h R hR fr H hc
 obtain ⟨j, rfl⟩ : ∃ i, j = i + 1 := ⟨j - 1, by omega⟩
 rw [zhj, hc]; clear hc
 rw [zjq] at h
 replace h := br h; rcases h with ⟨h1, h⟩ | ⟨h1, h⟩
 ·replace h := bn h; obtain ⟨h2, h⟩ := h
  replace h := ob h; obtain ⟨e1, h3, h⟩ := h
  replace h := ob h; obtain ⟨r2, h4, h⟩ := h
  replace h4 := zbog q (M + 5) (by omega) _ _ h4
  replace h := bb h; rcases h with ⟨h5', h5, h⟩ | ⟨h5', h5, h⟩
  ·cases h; subst hR; simp only [zbon, simprocAttr, *]
  ·replace h := zbsx M (by omega) j (by omega) _ _ _ _ _ _ _ _ _ _ h R hR
   simp only [zbon, simprocAttr, *]
 ·cases h; subst hR; simp only [zbon, simprocAttr, *]
theorem zbop : ∀ q, zbom q
 | 0 => by intro M hM j hj; intros; rename_i h _ _ _ _ _; cases h
 | q + 1 => by have i0 := zbop q; exact zboo q i0
theorem zboq : ∀ (q M : Nat), 8 * q ≤ M → ∀ (v0z : Bool), ∀ (v0l : List Int), ∀ (h0_0 : Int), ∀ (h0_1z : Bool), ∀ (h0_1l : List Int), ∀ (h0_2 : Bool), ∀ (h0_3 r : Int), zjr q v0z v0l h0_0 h0_1z h0_1l h0_2 h0_3 = some r → (orc T (M + 6)).inl F.zmh [(.sl v0z (List.map (V.int .i64) v0l)), (.fn F.zjn [])] [(.box [(.int .i64 h0_0), (.sl h0_1z (List.map (V.int .i64) h0_1l)), (.bool h0_2), (.int .i64 h0_3)])] = (some ([(.int .i64 r)], [(.box [(.int .i64 h0_0), (.sl h0_1z (List.map (V.int .i64) h0_1l)), (.bool h0_2), (.int .i64 h0_3)])]) : Option (List V × Hp)) := by
 intro q M hM v0z v0l h0_0 h0_1z h0_1l h0_2 h0_3 r h
 rcases q with _ | q
 ·cases h
 have zbsx := (zbop q)
 generalize hR : (some ([(.int .i64 r)], [(.box [(.int .i64 h0_0), (.sl h0_1z (List.map (V.int .i64) h0_1l)), (.bool h0_2), (.int .i64 h0_3)])]) : Option (List V × Hp)) = R
 rw [zbkz (n := M + 5)]
 rw [zjr] at h
 replace h := zbsx M (by omega) (M + 5) (by omega) _ _ _ _ _ _ _ _ _ _ h R hR
 simp only [zbon, simprocAttr, *]
def zbor := And.intro @kk <| And.intro @ke <| And.intro @kn <| And.intro @zbgx <| And.intro @zbiu <| And.intro @zbi4 <| And.intro @zbky <| And.intro @zbiv <| And.intro @zbiw <| @zbgz
theorem zbos : ∀ (q N : Nat), 8 * q ≤ N → ∀ (a0 : zjf), ∀ (r : Bool), zjs q a0 = some r → (orc T N).deep F.zjs [zjf.enc a0] = some [V.bool r] := by
 intro q N hM a0 r h
 rcases q with _ | q
 ·cases h
 obtain ⟨M, rfl⟩ : ∃ M, N = M + 8 := ⟨N - 8, by omega⟩
 generalize hR : some [V.bool r] = R
 rw [zhs, zbeg, y4, zhq]
 rw [zjs] at h
 replace h := br h; rcases h with ⟨h1, h⟩ | ⟨h1, h⟩
 ·cases h; subst hR; simp only [zbor, simprocAttr, *]
 ·replace h := br h; rcases h with ⟨h2, h⟩ | ⟨h2, h⟩
  ·cases h; subst hR; simp only [zbor, simprocAttr, *]
  ·replace h := bb h; rcases h with ⟨h3', h3, h⟩ | ⟨h3', h3, h⟩
   ·replace h := ob h; obtain ⟨r1, h4, h⟩ := h
    replace h4 := zboq q M (by omega) _ _ _ _ _ _ _ _ h4
    try simp only [kf, simprocAttr] at h4
    replace h := br h; rcases h with ⟨h5, h⟩ | ⟨h5, h⟩
    ·replace h := br h; rcases h with ⟨h6, h⟩ | ⟨h6, h⟩
     ·cases h; subst hR; simp only [zbor, simprocAttr, *]
     ·cases h; subst hR; simp only [zbor, simprocAttr, *]
    ·replace h := br h; rcases h with ⟨h7, h⟩ | ⟨h7, h⟩
     ·replace h := br h; rcases h with ⟨h8, h⟩ | ⟨h8, h⟩
      ·cases h; subst hR; simp only [zbor, simprocAttr, *]
      ·cases h; subst hR; simp only [zbor, simprocAttr, *]
     ·replace h := br h; rcases h with ⟨h9, h⟩ | ⟨h9, h⟩
      ·replace h := br h; rcases h with ⟨h10, h⟩ | ⟨h10, h⟩
       ·cases h; subst hR; simp only [zbor, simprocAttr, *]
       ·cases h; subst hR; simp only [zbor, simprocAttr, *]
      ·replace h := br h; rcases h with ⟨h11, h⟩ | ⟨h11, h⟩
       ·replace h := br h; rcases h with ⟨h12, h⟩ | ⟨h12, h⟩
        ·cases h; subst hR; simp only [zbor, simprocAttr, *]
        ·cases h; subst hR; simp only [zbor, simprocAttr, *]
       ·replace h := br h; rcases h with ⟨h13, h⟩ | ⟨h13, h⟩
        ·replace h := ob h; obtain ⟨r2, h14, h⟩ := h
         replace h14 := zbol q (M + 7) (by omega) _ _ _ h14
         try simp only [kf, simprocAttr] at h14
         cases h; subst hR; simp only [zbor, simprocAttr, *]
        ·replace h := br h; rcases h with ⟨h15, h⟩ | ⟨h15, h⟩
         ·replace h := ob h; obtain ⟨r3, h16, h⟩ := h
          replace h16 := zbol q (M + 7) (by omega) _ _ _ h16
          try simp only [kf, simprocAttr] at h16
          cases h; subst hR; simp only [zbor, simprocAttr, *]
         ·cases h; subst hR; simp only [zbor, simprocAttr, *]
   ·replace h := br h; rcases h with ⟨h17, h⟩ | ⟨h17, h⟩
    ·replace h := ob h; obtain ⟨r4, h18, h⟩ := h
     replace h18 := zboq q M (by omega) _ _ _ _ _ _ _ _ h18
     try simp only [kf, simprocAttr] at h18
     replace h := br h; rcases h with ⟨h19, h⟩ | ⟨h19, h⟩
     ·replace h := br h; rcases h with ⟨h20, h⟩ | ⟨h20, h⟩
      ·cases h; subst hR; simp only [zbor, simprocAttr, *]
      ·cases h; subst hR; simp only [zbor, simprocAttr, *]
     ·replace h := br h; rcases h with ⟨h21, h⟩ | ⟨h21, h⟩
      ·replace h := br h; rcases h with ⟨h22, h⟩ | ⟨h22, h⟩
       ·cases h; subst hR; simp only [zbor, simprocAttr, *]
       ·cases h; subst hR; simp only [zbor, simprocAttr, *]
      ·replace h := br h; rcases h with ⟨h23, h⟩ | ⟨h23, h⟩
       ·replace h := br h; rcases h with ⟨h24, h⟩ | ⟨h24, h⟩
        ·cases h; subst hR; simp only [zbor, simprocAttr, *]
        ·cases h; subst hR; simp only [zbor, simprocAttr, *]
       ·replace h := br h; rcases h with ⟨h25, h⟩ | ⟨h25, h⟩
        ·replace h := br h; rcases h with ⟨h26, h⟩ | ⟨h26, h⟩
         ·cases h; subst hR; simp only [zbor, simprocAttr, *]
         ·cases h; subst hR; simp only [zbor, simprocAttr, *]
        ·replace h := br h; rcases h with ⟨h27, h⟩ | ⟨h27, h⟩
         ·replace h := ob h; obtain ⟨r5, h28, h⟩ := h
          replace h28 := zbol q (M + 7) (by omega) _ _ _ h28
          try simp only [kf, simprocAttr] at h28
          cases h; subst hR; simp only [zbor, simprocAttr, *]
         ·replace h := br h; rcases h with ⟨h29, h⟩ | ⟨h29, h⟩
          ·replace h := ob h; obtain ⟨r6, h30, h⟩ := h
           replace h30 := zbol q (M + 7) (by omega) _ _ _ h30
           try simp only [kf, simprocAttr] at h30
           cases h; subst hR; simp only [zbor, simprocAttr, *]
          ·cases h; subst hR; simp only [zbor, simprocAttr, *]
    ·cases h; subst hR; simp only [zbor, simprocAttr, *]
def zbot := And.intro @kk <| And.intro @ke <| And.intro @kn <| And.intro @zbi6 <| @zbi8
theorem zbou : ∀ (q N : Nat), 8 * q ≤ N → ∀ (a0 : zjg), ∀ (r : Bool), zjt q a0 = some r → (orc T N).deep F.zjt [zjg.enc a0] = some [V.bool r] := by
 intro q N hM a0 r h
 rcases q with _ | q
 ·cases h
 obtain ⟨M, rfl⟩ : ∃ M, N = M + 8 := ⟨N - 8, by omega⟩
 generalize hR : some [V.bool r] = R
 rw [zhs, zbe7, y4, zhq]
 rw [zjt] at h
 replace h := br h; rcases h with ⟨h1, h⟩ | ⟨h1, h⟩
 ·replace h := br h; rcases h with ⟨h2, h⟩ | ⟨h2, h⟩
  ·replace h := br h; rcases h with ⟨h3, h⟩ | ⟨h3, h⟩
   ·replace h := br h; rcases h with ⟨h4, h⟩ | ⟨h4, h⟩
    ·replace h := br h; rcases h with ⟨h5, h⟩ | ⟨h5, h⟩
     ·cases h; subst hR; simp only [zbot, simprocAttr, *]
     ·cases h; subst hR; simp only [zbot, simprocAttr, *]
    ·cases h; subst hR; simp only [zbot, simprocAttr, *]
   ·cases h; subst hR; simp only [zbot, simprocAttr, *]
  ·cases h; subst hR; simp only [zbot, simprocAttr, *]
 ·cases h; subst hR; simp only [zbot, simprocAttr, *]
def zbov (q : Nat) : Prop := ∀ (M : Nat) (hM : 8 * q ≤ M) (j : Nat) (hj : q ≤ j) (v0z : Bool) (v0l : List zjg) (v5z : Bool) (v5l : List zjg) (v6 v7 : Int) (r : Bool) (_ : zju q v0z v0l v5z v5l v6 v7 = some r) (R : Option (List V)) (_ : some [V.bool r] = R) (fr : Fr) (H : Hp) (_ : canon 0 [0, 5, 6, 7] fr H = ([(0, (.sl v0z (List.map zjg.enc v0l))), (5, (.sl v5z (List.map zjg.enc v5l))), (6, (.int .i64 v6)), (7, (.int .i64 v7))], [])), fin zp1 (unw T (orc T (M + 7)) (M + 7) 0 [.blk 0, .code zpy] (iter 0 [0, 5, 6, 7] (exec T (orc T (M + 7)) (M + 7) 0 zpv) j fr H)) = R
def zbow := And.intro @kk <| And.intro @ke <| And.intro @kn <| And.intro @zbg0 <| And.intro @zbi7 <| @zbg2
theorem zbox (q : Nat) (zbsy : zbov q) : zbov (q + 1) := by
 intro M hM j hj v0z v0l v5z v5l v6 v7 r h R hR fr H hc
 obtain ⟨j, rfl⟩ : ∃ i, j = i + 1 := ⟨j - 1, by omega⟩
 rw [zhj, hc]; clear hc
 rw [zju] at h
 replace h := br h; rcases h with ⟨h1, h⟩ | ⟨h1, h⟩
 ·replace h := bn h; obtain ⟨h2, h⟩ := h
  replace h := ob h; obtain ⟨e1, h3, h⟩ := h
  replace h := ob h; obtain ⟨r2, h4, h⟩ := h
  replace h4 := zbou q (M + 7) (by omega) _ _ h4
  try simp only [kf, simprocAttr] at h4
  replace h := bb h; rcases h with ⟨h5', h5, h⟩ | ⟨h5', h5, h⟩
  ·replace h := br h; rcases h with ⟨h6, h⟩ | ⟨h6, h⟩
   ·replace h := bn h; obtain ⟨h7, h⟩ := h
    replace h := ob h; obtain ⟨e3, h8, h⟩ := h
    replace h := br h; rcases h with ⟨h9, h⟩ | ⟨h9, h⟩
    ·cases h; subst hR; simp only [zbow, simprocAttr, *]
    ·replace h := zbsy M (by omega) j (by omega) _ _ _ _ _ _ _ h R hR
     simp only [zbow, simprocAttr, *]
   ·replace h := zbsy M (by omega) j (by omega) _ _ _ _ _ _ _ h R hR
    simp only [zbow, simprocAttr, *]
  ·cases h; subst hR; simp only [zbow, simprocAttr, *]
 ·cases h; subst hR; simp only [zbow, simprocAttr, *]
theorem zboy : ∀ q, zbov q
 | 0 => by intro M hM j hj; intros; rename_i h _ _ _ _ _; cases h
 | q + 1 => by have i0 := zboy q; exact zbox q i0
theorem zboz : ∀ (q N : Nat), 8 * q ≤ N → ∀ (a0 : (Sl zjg)), ∀ (r : Bool), zjv q a0 = some r → (orc T N).deep F.zjv [(Sl.enc zjg.enc) a0] = some [V.bool r] := by
 intro q N hM a0 r h
 rcases q with _ | q
 ·cases h
 obtain ⟨M, rfl⟩ : ∃ M, N = M + 8 := ⟨N - 8, by omega⟩
 have zbsy := (zboy q)
 generalize hR : some [V.bool r] = R
 rw [zhs, zbeh, y4, zhq]
 rw [zjv] at h
 replace h := zbsy M (by omega) (M + 7) (by omega) _ _ _ _ _ _ _ h R hR
 simp only [zbow, simprocAttr, *]
def zbo0 := And.intro @kk <| And.intro @ke <| And.intro @kn <| And.intro @zbgc <| And.intro @zbgy <| And.intro @zbg1 <| @zbge
theorem zbo1 : ∀ (q N : Nat), 8 * q ≤ N → ∀ (a0 : zjh), ∀ (r : Bool), zjw q a0 = some r → (orc T N).deep F.zjw [zjh.enc a0] = some [V.bool r] := by
 intro q N hM a0 r h
 rcases q with _ | q
 ·cases h
 obtain ⟨M, rfl⟩ : ∃ M, N = M + 8 := ⟨N - 8, by omega⟩
 generalize hR : some [V.bool r] = R
 rw [zhs, zbd9, y4, zhq]
 rw [zjw] at h
 replace h := br h; rcases h with ⟨h1, h⟩ | ⟨h1, h⟩
 ·replace h := br h; rcases h with ⟨h2, h⟩ | ⟨h2, h⟩
  ·replace h := ob h; obtain ⟨r1, h3, h⟩ := h
   replace h3 := zbos q (M + 7) (by omega) _ _ h3
   try simp only [kf, simprocAttr] at h3
   replace h := bb h; rcases h with ⟨h4', h4, h⟩ | ⟨h4', h4, h⟩
   ·replace h := ob h; obtain ⟨r2, h5, h⟩ := h
    replace h5 := zboz q (M + 7) (by omega) _ _ h5
    try simp only [kf, simprocAttr] at h5
    cases h; subst hR; simp only [zbo0, simprocAttr, *]
   ·cases h; subst hR; simp only [zbo0, simprocAttr, *]
  ·cases h; subst hR; simp only [zbo0, simprocAttr, *]
 ·cases h; subst hR; simp only [zbo0, simprocAttr, *]
def zbo2 := And.intro @kk <| And.intro @ke <| And.intro @kn <| And.intro @zbgu <| @zbgw
theorem zbo3 : ∀ (q N : Nat), 8 * q ≤ N → ∀ (a0 : (Sl Int)), ∀ (r : (Ow Int)), zjx q a0 = some r → (orc T N).deep F.zjx [(Sl.enc (V.int .i64)) a0] = some [(Ow.enc 1 (V.int .i64)) r] := by
 intro q N hM a0 r h
 rcases q with _ | q
 ·cases h
 obtain ⟨M, rfl⟩ : ∃ M, N = M + 8 := ⟨N - 8, by omega⟩
 generalize hR : some [(Ow.enc 1 (V.int .i64)) r] = R
 rw [zhs, zbef, y4, zhq]
 rw [zjx] at h
 replace h := bb h; rcases h with ⟨h1', h1, h⟩ | ⟨h1', h1, h⟩
 ·cases h; subst hR; simp only [zbo2, simprocAttr, *]
 ·replace h := bn h; obtain ⟨h2, h⟩ := h
  cases h; subst hR; simp only [zbo2, simprocAttr, *]
def zbo4 := And.intro @kk <| And.intro @ke <| And.intro @kn <| And.intro @zbhl <| @zbhn
theorem zbo5 : ∀ (q N : Nat), 8 * q ≤ N → ∀ (a0 : (Sl zjg)), ∀ (r : (Ow zjg)), zjy q a0 = some r → (orc T N).deep F.zjy [(Sl.enc zjg.enc) a0] = some [(Ow.enc 3 zjg.enc) r] := by
 intro q N hM a0 r h
 rcases q with _ | q
 ·cases h
 obtain ⟨M, rfl⟩ : ∃ M, N = M + 8 := ⟨N - 8, by omega⟩
 generalize hR : some [(Ow.enc 3 zjg.enc) r] = R
 rw [zhs, zbeo, y4, zhq]
 rw [zjy] at h
 replace h := bb h; rcases h with ⟨h1', h1, h⟩ | ⟨h1', h1, h⟩
 ·cases h; subst hR; simp only [zbo4, simprocAttr, *]
 ·replace h := bn h; obtain ⟨h2, h⟩ := h
  cases h; subst hR; simp only [zbo4, simprocAttr, *]
def zbo6 := And.intro @kk <| And.intro @ke <| And.intro @kn <| And.intro @zbhx <| @zbhz
theorem zbo7 : ∀ (q N : Nat), 8 * q ≤ N → ∀ (a0 : (Ow zjg)) (a1 : Int) (a2 : (Sl zjg)), ∀ (r : (Ow zjg)), zjz q a0 a1 a2 = some r → (orc T N).deep F.zjz [(Ow.enc 3 zjg.enc) a0, (V.int .i64) a1, (Sl.enc zjg.enc) a2] = some [(Ow.enc 3 zjg.enc) r] := by
 intro q N hM a0 a1 a2 r h
 rcases q with _ | q
 ·cases h
 obtain ⟨M, rfl⟩ : ∃ M, N = M + 8 := ⟨N - 8, by omega⟩
 generalize hR : some [(Ow.enc 3 zjg.enc) r] = R
 rw [zhs, zbes, y4, zhq]
 rw [zjz] at h
 replace h := bn h; obtain ⟨h1, h⟩ := h
 replace h := bn h; obtain ⟨h2, h⟩ := h
 replace h := br h; rcases h with ⟨h3, h⟩ | ⟨h3, h⟩
 ·cases h; subst hR; simp only [zbo6, simprocAttr, *]
 ·replace h := bn h; obtain ⟨h4, h⟩ := h
  replace h := bn h; obtain ⟨h5, h⟩ := h
  cases h; subst hR; simp only [zbo6, simprocAttr, *]
def zbo8 (q : Nat) : Prop := ∀ (M : Nat) (hM : 8 * q ≤ M) (j : Nat) (hj : q ≤ j) (w1 : Nat) (v7 v8 h0_0 h0_1 h0_2 h0_3 h0_4 h0_5 h0_6 : Int) (h1z : Bool) (h1l : List zjg) (h1x : Bool) (r : Int) (_ : zj0 q v7 v8 h0_0 h0_1 h0_2 h0_3 h0_4 h0_5 h0_6 h1z h1l h1x = some r) (R : Option (List V × Hp)) (_ : (some ([(.int .i64 r)], [(.box [(.int .i64 h0_0), (.int .i64 h0_1), (.int .i64 h0_2), (.int .i64 h0_3), (.int .i64 h0_4), (.int .i64 h0_5), (.int .i64 h0_6)]), (.row w1 h1z 3 (List.map zjg.enc h1l) h1x)]) : Option (List V × Hp)) = R) (fr : Fr) (H : Hp) (_ : canon 2 [0, 1, 7, 8] fr H = ([(0, (.vw 1 w1 0 h1l.length 1)), (1, (.fn F.zmc [(.ptr 0 0)])), (7, (.int .i64 v7)), (8, (.int .i64 v8))], [(.box [(.int .i64 h0_0), (.int .i64 h0_1), (.int .i64 h0_2), (.int .i64 h0_3), (.int .i64 h0_4), (.int .i64 h0_5), (.int .i64 h0_6)]), (.row w1 h1z 3 (List.map zjg.enc h1l) h1x)])), finI 2 false [.tmp 4] (unw T (orc T (M + 5)) (M + 5) 2 [.blk 0, .code zsc] (iter 2 [0, 1, 7, 8] (exec T (orc T (M + 5)) (M + 5) 2 zr9) j fr H)) = R
def zbo9 := And.intro @kk <| And.intro @ke <| And.intro @kn <| And.intro @zbho <| And.intro @zbhr <| And.intro @zbhp <| @zbhq
theorem zbpa (q : Nat) (zbsz : zbo8 q) : zbo8 (q + 1) := by
 intro M hM j hj w1 v7 v8 h0_0 h0_1 h0_2 h0_3 h0_4 h0_5 h0_6 h1z h1l h1x r h R hR fr H hc
 obtain ⟨j, rfl⟩ : ∃ i, j = i + 1 := ⟨j - 1, by omega⟩
 rw [zhj, hc]; clear hc
 rw [zj0] at h
 replace h := br h; rcases h with ⟨h1, h⟩ | ⟨h1, h⟩
 ·replace h := bn h; obtain ⟨h2, h⟩ := h
  replace h := bn h; obtain ⟨h3, h⟩ := h
  replace h := ob h; obtain ⟨e1, h4, h⟩ := h
  replace h := br h; rcases h with ⟨h5, h⟩ | ⟨h5, h⟩
  ·cases h; subst hR; simp only [zbo9, simprocAttr, *]
  ·replace h := zbsz M (by omega) j (by omega) w1 _ _ _ _ _ _ _ _ _ _ _ _ _ h R hR
   simp only [zbo9, simprocAttr, *]
 ·cases h; subst hR; simp only [zbo9, simprocAttr, *]
theorem zbpb : ∀ q, zbo8 q
 | 0 => by intro M hM j hj; intros; rename_i h _ _ _ _ _; cases h
 | q + 1 => by have i0 := zbpb q; exact zbpa q i0
theorem zbpc : ∀ (q M : Nat), 8 * q ≤ M → ∀ (w1 : Nat), ∀ (h0_0 h0_1 h0_2 h0_3 h0_4 h0_5 h0_6 : Int), ∀ (h1z : Bool), ∀ (h1l : List zjg), ∀ (h1x : Bool), ∀ (r : Int), zj1 q h0_0 h0_1 h0_2 h0_3 h0_4 h0_5 h0_6 h1z h1l h1x = some r → (orc T (M + 6)).inl F.zmd [(.vw 1 w1 0 h1l.length 1), (.fn F.zmc [(.ptr 0 0)])] [(.box [(.int .i64 h0_0), (.int .i64 h0_1), (.int .i64 h0_2), (.int .i64 h0_3), (.int .i64 h0_4), (.int .i64 h0_5), (.int .i64 h0_6)]), (.row w1 h1z 3 (List.map zjg.enc h1l) h1x)] = (some ([(.int .i64 r)], [(.box [(.int .i64 h0_0), (.int .i64 h0_1), (.int .i64 h0_2), (.int .i64 h0_3), (.int .i64 h0_4), (.int .i64 h0_5), (.int .i64 h0_6)]), (.row w1 h1z 3 (List.map zjg.enc h1l) h1x)]) : Option (List V × Hp)) := by
 intro q M hM w1 h0_0 h0_1 h0_2 h0_3 h0_4 h0_5 h0_6 h1z h1l h1x r h
 rcases q with _ | q
 ·cases h
 have zbsz := (zbpb q)
 generalize hR : (some ([(.int .i64 r)], [(.box [(.int .i64 h0_0), (.int .i64 h0_1), (.int .i64 h0_2), (.int .i64 h0_3), (.int .i64 h0_4), (.int .i64 h0_5), (.int .i64 h0_6)]), (.row w1 h1z 3 (List.map zjg.enc h1l) h1x)]) : Option (List V × Hp)) = R
 rw [zbht (n := M + 5)]
 rw [zj1] at h
 replace h := zbsz M (by omega) (M + 5) (by omega) w1 _ _ _ _ _ _ _ _ _ _ _ _ _ h R hR
 simp only [zbo9, simprocAttr, *]
def zbpd (q : Nat) : Prop := ∀ (M : Nat) (hM : 8 * q ≤ M) (j : Nat) (hj : q ≤ j) (w1 : Nat) (v5 v6 h0_0 h0_1 h0_2 h0_3 h0_4 h0_5 h0_6 : Int) (h1z : Bool) (h1l : List zjg) (h1x : Bool) (r : Nat × (List zjg) × Bool) (_ : zj2 q v5 v6 h0_0 h0_1 h0_2 h0_3 h0_4 h0_5 h0_6 h1z h1l h1x = some r) (R : Option (List V × Hp)) (_ : (some ([(.vw 1 w1 0 r.1 0)], [(.box [(.int .i64 h0_0), (.int .i64 h0_1), (.int .i64 h0_2), (.int .i64 h0_3), (.int .i64 h0_4), (.int .i64 h0_5), (.int .i64 h0_6)]), (.row w1 h1z 3 (List.map zjg.enc r.2.1) r.2.2)]) : Option (List V × Hp)) = R) (fr : Fr) (H : Hp) (_ : canon 2 [0, 1, 5, 6] fr H = ([(0, (.vw 1 w1 0 h1l.length 1)), (1, (.fn F.zmc [(.ptr 0 0)])), (5, (.int .i64 v5)), (6, (.int .i64 v6))], [(.box [(.int .i64 h0_0), (.int .i64 h0_1), (.int .i64 h0_2), (.int .i64 h0_3), (.int .i64 h0_4), (.int .i64 h0_5), (.int .i64 h0_6)]), (.row w1 h1z 3 (List.map zjg.enc h1l) h1x)])), finI 2 true [.tmp 4] (unw T (orc T (M + 6)) (M + 6) 2 [.blk 0, .code zrw] (iter 2 [0, 1, 5, 6] (exec T (orc T (M + 6)) (M + 6) 2 zrr) j fr H)) = R
def zbpe := And.intro @kk <| And.intro @ke <| And.intro @kn <| And.intro @zbhi <| And.intro @zbho <| And.intro @zbhs <| And.intro @zbhp <| @zbhq
theorem zbpf (q : Nat) (zbs0 : zbpd q) : zbpd (q + 1) := by
 intro M hM j hj w1 v5 v6 h0_0 h0_1 h0_2 h0_3 h0_4 h0_5 h0_6 h1z h1l h1x r h R hR fr H hc
 obtain ⟨j, rfl⟩ : ∃ i, j = i + 1 := ⟨j - 1, by omega⟩
 rw [zhj, hc]; clear hc
 rw [zj2] at h
 replace h := br h; rcases h with ⟨h1, h⟩ | ⟨h1, h⟩
 ·replace h := bn h; obtain ⟨h2, h⟩ := h
  replace h := bn h; obtain ⟨h3, h⟩ := h
  replace h := ob h; obtain ⟨e2, h4, h⟩ := h
  replace h := br h; rcases h with ⟨h5, h⟩ | ⟨h5, h⟩
  ·replace h := zbs0 M (by omega) j (by omega) w1 _ _ _ _ _ _ _ _ _ _ _ _ _ h R hR
   simp only [zbpe, simprocAttr, *]
  ·replace h := bn h; obtain ⟨h6, h⟩ := h
   replace h := bn h; obtain ⟨h7, h⟩ := h
   replace h := ob h; obtain ⟨e3, h8, h⟩ := h
   replace h := bb h; rcases h with ⟨h9', h9, h⟩ | ⟨h9', h9, h⟩
   ·replace h := zbs0 M (by omega) j (by omega) w1 _ _ _ _ _ _ _ _ _ _ _ _ _ h R hR
    simp only [zbpe, simprocAttr, *]
   ·cases h
 ·replace h := bn h; obtain ⟨h10, h⟩ := h
  replace h := bn h; obtain ⟨h11, h⟩ := h
  replace h := bb h; rcases h with ⟨h12', h12, h⟩ | ⟨h12', h12, h⟩
  ·replace h := bn h; obtain ⟨h13, h⟩ := h
   replace h := bb h; rcases h with ⟨h14', h14, h⟩ | ⟨h14', h14, h⟩
   ·cases h; subst hR; simp only [zbpe, simprocAttr, *]
   ·cases h; subst hR; simp only [zbpe, simprocAttr, *]
  ·cases h
theorem zbpg : ∀ q, zbpd q
 | 0 => by intro M hM j hj; intros; rename_i h _ _ _ _ _; cases h
 | q + 1 => by have i0 := zbpg q; exact zbpf q i0
theorem zbph : ∀ (q M : Nat), 8 * q ≤ M → ∀ (w1 : Nat), ∀ (h0_0 h0_1 h0_2 h0_3 h0_4 h0_5 h0_6 : Int), ∀ (h1z : Bool), ∀ (h1l : List zjg), ∀ (h1x : Bool), ∀ (r : Nat × (List zjg) × Bool), zj3 q h0_0 h0_1 h0_2 h0_3 h0_4 h0_5 h0_6 h1z h1l h1x = some r → (orc T (M + 7)).inl F.zmb [(.vw 1 w1 0 h1l.length 1), (.fn F.zmc [(.ptr 0 0)])] [(.box [(.int .i64 h0_0), (.int .i64 h0_1), (.int .i64 h0_2), (.int .i64 h0_3), (.int .i64 h0_4), (.int .i64 h0_5), (.int .i64 h0_6)]), (.row w1 h1z 3 (List.map zjg.enc h1l) h1x)] = (some ([(.vw 1 w1 0 r.1 0)], [(.box [(.int .i64 h0_0), (.int .i64 h0_1), (.int .i64 h0_2), (.int .i64 h0_3), (.int .i64 h0_4), (.int .i64 h0_5), (.int .i64 h0_6)]), (.row w1 h1z 3 (List.map zjg.enc r.2.1) r.2.2)]) : Option (List V × Hp)) := by
 intro q M hM w1 h0_0 h0_1 h0_2 h0_3 h0_4 h0_5 h0_6 h1z h1l h1x r h
 rcases q with _ | q
 ·cases h
 have zbs0 := (zbpg q)
 generalize hR : (some ([(.vw 1 w1 0 r.1 0)], [(.box [(.int .i64 h0_0), (.int .i64 h0_1), (.int .i64 h0_2), (.int .i64 h0_3), (.int .i64 h0_4), (.int .i64 h0_5), (.int .i64 h0_6)]), (.row w1 h1z 3 (List.map zjg.enc r.2.1) r.2.2)]) : Option (List V × Hp)) = R
 rw [zbhk (n := M + 6)]
 rw [zj3] at h
 replace h := ob h; obtain ⟨r1, h1, h⟩ := h
 replace h1 := zbpc q M (by omega) w1 _ _ _ _ _ _ _ _ _ _ _ h1
 try simp only [kf, simprocAttr] at h1
 replace h := br h; rcases h with ⟨h2, h⟩ | ⟨h2, h⟩
 ·cases h; subst hR; simp only [zbpe, simprocAttr, *]
 ·replace h := zbs0 M (by omega) (M + 6) (by omega) w1 _ _ _ _ _ _ _ _ _ _ _ _ _ h R hR
  simp only [zbpe, simprocAttr, *]
def zbpi (q : Nat) : Prop := ∀ (M : Nat) (hM : 8 * q ≤ M) (j : Nat) (hj : q ≤ j) (w1 v0len : Nat) (v7 v8 h0_0 h0_1 h0_2 h0_3 h0_4 h0_5 h0_6 : Int) (h1z : Bool) (h1l : List zjg) (h1x : Bool) (r : Int) (_ : zj4 q v0len v7 v8 h0_0 h0_1 h0_2 h0_3 h0_4 h0_5 h0_6 h1z h1l h1x = some r) (R : Option (List V × Hp)) (_ : (some ([(.int .i64 r)], [(.box [(.int .i64 h0_0), (.int .i64 h0_1), (.int .i64 h0_2), (.int .i64 h0_3), (.int .i64 h0_4), (.int .i64 h0_5), (.int .i64 h0_6)]), (.row w1 h1z 3 (List.map zjg.enc h1l) h1x)]) : Option (List V × Hp)) = R) (fr : Fr) (H : Hp) (_ : canon 2 [0, 1, 7, 8] fr H = ([(0, (.vw 1 w1 0 v0len 0)), (1, (.fn F.zme [(.ptr 0 0)])), (7, (.int .i64 v7)), (8, (.int .i64 v8))], [(.box [(.int .i64 h0_0), (.int .i64 h0_1), (.int .i64 h0_2), (.int .i64 h0_3), (.int .i64 h0_4), (.int .i64 h0_5), (.int .i64 h0_6)]), (.row w1 h1z 3 (List.map zjg.enc h1l) h1x)])), finI 2 false [.tmp 4] (unw T (orc T (M + 6)) (M + 6) 2 [.blk 0, .code zsc] (iter 2 [0, 1, 7, 8] (exec T (orc T (M + 6)) (M + 6) 2 zr9) j fr H)) = R
def zbpj := And.intro @kk <| And.intro @ke <| And.intro @kn <| And.intro @zbhr <| And.intro @zbhu <| And.intro @zbhv <| @zbhw
theorem zbpk (q : Nat) (zbs1 : zbpi q) : zbpi (q + 1) := by
 intro M hM j hj w1 v0len v7 v8 h0_0 h0_1 h0_2 h0_3 h0_4 h0_5 h0_6 h1z h1l h1x r h R hR fr H hc
 obtain ⟨j, rfl⟩ : ∃ i, j = i + 1 := ⟨j - 1, by omega⟩
 rw [zhj, hc]; clear hc
 rw [zj4] at h
 replace h := br h; rcases h with ⟨h1, h⟩ | ⟨h1, h⟩
 ·replace h := bn h; obtain ⟨h2, h⟩ := h
  replace h := bn h; obtain ⟨h3, h⟩ := h
  replace h := ob h; obtain ⟨e1, h4, h⟩ := h
  replace h := br h; rcases h with ⟨h5, h⟩ | ⟨h5, h⟩
  ·cases h; subst hR; simp only [zbpj, simprocAttr, *]
  ·replace h := zbs1 M (by omega) j (by omega) w1 _ _ _ _ _ _ _ _ _ _ _ _ _ _ h R hR
   simp only [zbpj, simprocAttr, *]
 ·cases h; subst hR; simp only [zbpj, simprocAttr, *]
theorem zbpl : ∀ q, zbpi q
 | 0 => by intro M hM j hj; intros; rename_i h _ _ _ _ _; cases h
 | q + 1 => by have i0 := zbpl q; exact zbpk q i0
theorem zbpm : ∀ (q M : Nat), 8 * q ≤ M → ∀ (w1 v0len : Nat), ∀ (h0_0 h0_1 h0_2 h0_3 h0_4 h0_5 h0_6 : Int), ∀ (h1z : Bool), ∀ (h1l : List zjg), ∀ (h1x : Bool), ∀ (r : Int), zj5 q v0len h0_0 h0_1 h0_2 h0_3 h0_4 h0_5 h0_6 h1z h1l h1x = some r → (orc T (M + 7)).inl F.zmd [(.vw 1 w1 0 v0len 0), (.fn F.zme [(.ptr 0 0)])] [(.box [(.int .i64 h0_0), (.int .i64 h0_1), (.int .i64 h0_2), (.int .i64 h0_3), (.int .i64 h0_4), (.int .i64 h0_5), (.int .i64 h0_6)]), (.row w1 h1z 3 (List.map zjg.enc h1l) h1x)] = (some ([(.int .i64 r)], [(.box [(.int .i64 h0_0), (.int .i64 h0_1), (.int .i64 h0_2), (.int .i64 h0_3), (.int .i64 h0_4), (.int .i64 h0_5), (.int .i64 h0_6)]), (.row w1 h1z 3 (List.map zjg.enc h1l) h1x)]) : Option (List V × Hp)) := by
 intro q M hM w1 v0len h0_0 h0_1 h0_2 h0_3 h0_4 h0_5 h0_6 h1z h1l h1x r h
 rcases q with _ | q
 ·cases h
 have zbs1 := (zbpl q)
 generalize hR : (some ([(.int .i64 r)], [(.box [(.int .i64 h0_0), (.int .i64 h0_1), (.int .i64 h0_2), (.int .i64 h0_3), (.int .i64 h0_4), (.int .i64 h0_5), (.int .i64 h0_6)]), (.row w1 h1z 3 (List.map zjg.enc h1l) h1x)]) : Option (List V × Hp)) = R
 rw [zbht (n := M + 6)]
 rw [zj5] at h
 replace h := zbs1 M (by omega) (M + 6) (by omega) w1 _ _ _ _ _ _ _ _ _ _ _ _ _ _ h R hR
 simp only [zbpj, simprocAttr, *]
def zbpn := And.intro @kk <| And.intro @ke <| And.intro @kn <| And.intro @zbgl <| And.intro @zbhj <| And.intro @zbhm <| And.intro @zbhs <| And.intro @zbhy <| @zbgn
theorem zbpo : ∀ (q N : Nat), 8 * q ≤ N → ∀ (a0 : (Sl zjg)) (a1 : zjk), ∀ (r : (Ow zjg)), zj6 q a0 a1 = some r → (orc T N).deep F.zj6 [(Sl.enc zjg.enc) a0, zjk.enc a1] = some [(Ow.enc 3 zjg.enc) r] := by
 intro q N hM a0 a1 r h
 rcases q with _ | q
 ·cases h
 obtain ⟨M, rfl⟩ : ∃ M, N = M + 8 := ⟨N - 8, by omega⟩
 generalize hR : some [(Ow.enc 3 zjg.enc) r] = R
 rw [zhs, zbec, y4, zhq]
 rw [zj6] at h
 replace h := ob h; obtain ⟨r1, h1, h⟩ := h
 replace h1 := zbo5 q (M + 7) (by omega) _ _ h1
 try simp only [kf, simprocAttr] at h1
 replace h := ob h; obtain ⟨r2, h2, h⟩ := h
 replace h2 := zbph q M (by omega) 0 _ _ _ _ _ _ _ _ _ _ _ h2
 try simp only [kf, simprocAttr] at h2
 replace h := ob h; obtain ⟨r3, h3, h⟩ := h
 replace h3 := zbpm q M (by omega) 0 _ _ _ _ _ _ _ _ _ _ _ _ h3
 try simp only [kf, simprocAttr] at h3
 replace h := br h; rcases h with ⟨h4, h⟩ | ⟨h4, h⟩
 ·replace h := bb h; rcases h with ⟨h5', h5, h⟩ | ⟨h5', h5, h⟩
  ·replace h := ob h; obtain ⟨r4, h6, h⟩ := h
   replace h6 := zbo7 q (M + 7) (by omega) _ _ _ _ h6
   try simp only [kf, simprocAttr] at h6
   cases h; subst hR; simp only [zbpn, simprocAttr, *]
  ·cases h
 ·replace h := bb h; rcases h with ⟨h7', h7, h⟩ | ⟨h7', h7, h⟩
  ·replace h := ob h; obtain ⟨r5, h8, h⟩ := h
   replace h8 := zbo7 q (M + 7) (by omega) _ _ _ _ h8
   try simp only [kf, simprocAttr] at h8
   cases h; subst hR; simp only [zbpn, simprocAttr, *]
  ·cases h
def zbpp := And.intro @kk <| And.intro @ke <| And.intro @kn <| And.intro @zbi9 <| And.intro @zbi1 <| @zbjb
theorem zbpq : ∀ (q N : Nat), 8 * q ≤ N → ∀ (a0 : zjj), ∀ (r : Bool), zj7 q a0 = some r → (orc T N).deep F.zj7 [zjj.enc a0] = some [V.bool r] := by
 intro q N hM a0 r h
 rcases q with _ | q
 ·cases h
 obtain ⟨M, rfl⟩ : ∃ M, N = M + 8 := ⟨N - 8, by omega⟩
 generalize hR : some [V.bool r] = R
 rw [zhs, zbe8, y4, zhq]
 rw [zj7] at h
 replace h := br h; rcases h with ⟨h1, h⟩ | ⟨h1, h⟩
 ·replace h := br h; rcases h with ⟨h2, h⟩ | ⟨h2, h⟩
  ·replace h := ob h; obtain ⟨r1, h3, h⟩ := h
   replace h3 := zboe q (M + 7) (by omega) _ _ h3
   replace h := br h; rcases h with ⟨h4, h⟩ | ⟨h4, h⟩
   ·replace h := ob h; obtain ⟨r2, h5, h⟩ := h
    replace h5 := zboe q (M + 7) (by omega) _ _ h5
    cases h; subst hR; simp only [zbpp, simprocAttr, *]
   ·cases h; subst hR; simp only [zbpp, simprocAttr, *]
  ·cases h; subst hR; simp only [zbpp, simprocAttr, *]
 ·cases h; subst hR; simp only [zbpp, simprocAttr, *]
def zbpr := And.intro @kk <| And.intro @ke <| And.intro @kn <| And.intro @zbg3 <| And.intro @zbja <| @zbg5
theorem zbps : ∀ (q N : Nat), 8 * q ≤ N → ∀ (a0 : zjk), ∀ (r : Bool), zj8 q a0 = some r → (orc T N).deep F.zj8 [zjk.enc a0] = some [V.bool r] := by
 intro q N hM a0 r h
 rcases q with _ | q
 ·cases h
 obtain ⟨M, rfl⟩ : ∃ M, N = M + 8 := ⟨N - 8, by omega⟩
 generalize hR : some [V.bool r] = R
 rw [zhs, zbei, y4, zhq]
 rw [zj8] at h
 replace h := br h; rcases h with ⟨h1, h⟩ | ⟨h1, h⟩
 ·replace h := br h; rcases h with ⟨h2, h⟩ | ⟨h2, h⟩
  ·replace h := br h; rcases h with ⟨h3, h⟩ | ⟨h3, h⟩
   ·replace h := br h; rcases h with ⟨h4, h⟩ | ⟨h4, h⟩
    ·replace h := br h; rcases h with ⟨h5, h⟩ | ⟨h5, h⟩
     ·replace h := br h; rcases h with ⟨h6, h⟩ | ⟨h6, h⟩
      ·replace h := ob h; obtain ⟨r1, h7, h⟩ := h
       replace h7 := zbpq q (M + 7) (by omega) _ _ h7
       try simp only [kf, simprocAttr] at h7
       replace h := bb h; rcases h with ⟨h8', h8, h⟩ | ⟨h8', h8, h⟩
       ·replace h := br h; rcases h with ⟨h9, h⟩ | ⟨h9, h⟩
        ·cases h; subst hR; simp only [zbpr, simprocAttr, *]
        ·cases h; subst hR; simp only [zbpr, simprocAttr, *]
       ·cases h; subst hR; simp only [zbpr, simprocAttr, *]
      ·cases h; subst hR; simp only [zbpr, simprocAttr, *]
     ·cases h; subst hR; simp only [zbpr, simprocAttr, *]
    ·cases h; subst hR; simp only [zbpr, simprocAttr, *]
   ·cases h; subst hR; simp only [zbpr, simprocAttr, *]
  ·cases h; subst hR; simp only [zbpr, simprocAttr, *]
 ·cases h; subst hR; simp only [zbpr, simprocAttr, *]
def zbpt := And.intro @kk <| And.intro @ke <| And.intro @kn <| And.intro @zbjc <| And.intro @zbi1 <| @zbje
theorem zbpu : ∀ (q N : Nat), 8 * q ≤ N → ∀ (a0 : zjf) (a1 : zjj), ∀ (r : zjf × Int), zj9 q a0 a1 = some r → (orc T N).deep F.zj9 [zjf.enc a0, zjj.enc a1] = some [zjf.enc r.1, (V.int .i64) r.2] := by
 intro q N hM a0 a1 r h
 rcases q with _ | q
 ·cases h
 obtain ⟨M, rfl⟩ : ∃ M, N = M + 8 := ⟨N - 8, by omega⟩
 generalize hR : some [zjf.enc r.1, (V.int .i64) r.2] = R
 rw [zhs, zbe9, y4, zhq]
 rw [zj9] at h
 replace h := ob h; obtain ⟨e1, h1, h⟩ := h
 replace h := br h; rcases h with ⟨h2, h⟩ | ⟨h2, h⟩
 ·cases h; subst hR; simp only [zbpt, simprocAttr, *]
 ·replace h := br h; rcases h with ⟨h3, h⟩ | ⟨h3, h⟩
  ·replace h := br h; rcases h with ⟨h4, h⟩ | ⟨h4, h⟩
   ·replace h := ob h; obtain ⟨r2, h5, h⟩ := h
    replace h5 := zboe q (M + 7) (by omega) _ _ h5
    replace h := ob h; obtain ⟨r3, h6, h⟩ := h
    replace h6 := zboe q (M + 7) (by omega) _ _ h6
    cases h; subst hR; simp only [zbpt, simprocAttr, *]
   ·replace h := br h; rcases h with ⟨h7, h⟩ | ⟨h7, h⟩
    ·replace h := br h; rcases h with ⟨h8, h⟩ | ⟨h8, h⟩
     ·replace h := ob h; obtain ⟨r4, h9, h⟩ := h
      replace h9 := zboe q (M + 7) (by omega) _ _ h9
      cases h; subst hR; simp only [zbpt, simprocAttr, *]
     ·cases h; subst hR; simp only [zbpt, simprocAttr, *]
    ·cases h; subst hR; simp only [zbpt, simprocAttr, *]
  ·replace h := br h; rcases h with ⟨h10, h⟩ | ⟨h10, h⟩
   ·replace h := br h; rcases h with ⟨h11, h⟩ | ⟨h11, h⟩
    ·replace h := ob h; obtain ⟨r5, h12, h⟩ := h
     replace h12 := zboe q (M + 7) (by omega) _ _ h12
     cases h; subst hR; simp only [zbpt, simprocAttr, *]
    ·cases h; subst hR; simp only [zbpt, simprocAttr, *]
   ·cases h; subst hR; simp only [zbpt, simprocAttr, *]
def zbpv := And.intro @kk <| And.intro @ke <| And.intro @kn <| And.intro @zbk0 <| @zbk2
theorem zbpw : ∀ (q N : Nat), 8 * q ≤ N → ∀ (a0 : (Ow Int)) (a1 a2 : Int), ∀ (r : (Ow Int)), zka q a0 a1 a2 = some r → (orc T N).deep F.zka [(Ow.enc 1 (V.int .i64)) a0, (V.int .i64) a1, (V.int .i64) a2] = some [(Ow.enc 1 (V.int .i64)) r] := by
 intro q N hM a0 a1 a2 r h
 rcases q with _ | q
 ·cases h
 obtain ⟨M, rfl⟩ : ∃ M, N = M + 8 := ⟨N - 8, by omega⟩
 generalize hR : some [(Ow.enc 1 (V.int .i64)) r] = R
 rw [zhs, zbft, y4, zhq]
 rw [zka] at h
 replace h := bn h; obtain ⟨h1, h⟩ := h
 replace h := bn h; obtain ⟨h2, h⟩ := h
 replace h := bn h; obtain ⟨h3, h⟩ := h
 replace h := br h; rcases h with ⟨h4, h⟩ | ⟨h4, h⟩
 ·cases h; subst hR; simp only [zbpv, simprocAttr, *]
 ·replace h := bn h; obtain ⟨h5, h⟩ := h
  replace h := bb h; rcases h with ⟨h6', h6, h⟩ | ⟨h6', h6, h⟩
  ·replace h := bn h; obtain ⟨h7, h⟩ := h
   replace h := bn h; obtain ⟨h8, h⟩ := h
   replace h := bn h; obtain ⟨h9, h⟩ := h
   replace h := bn h; obtain ⟨h10, h⟩ := h
   replace h := bn h; obtain ⟨h11, h⟩ := h
   replace h := bm h; obtain ⟨h12, h⟩ := h
   replace h := bb h; rcases h with ⟨h13', h13, h⟩ | ⟨h13', h13, h⟩
   ·cases h; subst hR; simp only [zbpv, simprocAttr, *]
   ·cases h
  ·replace h := bn h; obtain ⟨h14, h⟩ := h
   replace h := bn h; obtain ⟨h15, h⟩ := h
   replace h := bn h; obtain ⟨h16, h⟩ := h
   replace h := bb h; rcases h with ⟨h17', h17, h⟩ | ⟨h17', h17, h⟩
   ·replace h := bn h; obtain ⟨h18, h⟩ := h
    replace h := bn h; obtain ⟨h19, h⟩ := h
    cases h; subst hR; simp only [zbpv, simprocAttr, *]
   ·cases h
def zbpx := And.intro @kk <| And.intro @ke <| And.intro @kn <| And.intro @zbjf <| And.intro @zbgv <| And.intro @zbi1 <| And.intro @zbk1 <| @zbjh
theorem zbpy : ∀ (q N : Nat), 8 * q ≤ N → ∀ (a0 : zjf) (a1 : zjj), ∀ (r : zjf × Int), zkb q a0 a1 = some r → (orc T N).deep F.zkb [zjf.enc a0, zjj.enc a1] = some [zjf.enc r.1, (V.int .i64) r.2] := by
 intro q N hM a0 a1 r h
 rcases q with _ | q
 ·cases h
 obtain ⟨M, rfl⟩ : ∃ M, N = M + 8 := ⟨N - 8, by omega⟩
 generalize hR : some [zjf.enc r.1, (V.int .i64) r.2] = R
 rw [zhs, zbfa, y4, zhq]
 rw [zkb] at h
 replace h := br h; rcases h with ⟨h1, h⟩ | ⟨h1, h⟩
 ·cases h; subst hR; simp only [zbpx, simprocAttr, *]
 ·replace h := br h; rcases h with ⟨h2, h⟩ | ⟨h2, h⟩
  ·replace h := br h; rcases h with ⟨h3, h⟩ | ⟨h3, h⟩
   ·replace h := ob h; obtain ⟨r1, h4, h⟩ := h
    replace h4 := zbo3 q (M + 7) (by omega) _ _ h4
    try simp only [kf, simprocAttr] at h4
    replace h := ob h; obtain ⟨r2, h5, h⟩ := h
    replace h5 := zboe q (M + 7) (by omega) _ _ h5
    replace h := bn h; obtain ⟨h6, h⟩ := h
    cases h; subst hR; simp only [zbpx, simprocAttr, *]
   ·cases h; subst hR; simp only [zbpx, simprocAttr, *]
  ·replace h := br h; rcases h with ⟨h7, h⟩ | ⟨h7, h⟩
   ·replace h := br h; rcases h with ⟨h8, h⟩ | ⟨h8, h⟩
    ·cases h; subst hR; simp only [zbpx, simprocAttr, *]
    ·replace h := br h; rcases h with ⟨h9, h⟩ | ⟨h9, h⟩
     ·replace h := ob h; obtain ⟨e3, h10, h⟩ := h
      replace h := ob h; obtain ⟨r4, h11, h⟩ := h
      replace h11 := zbo3 q (M + 7) (by omega) _ _ h11
      try simp only [kf, simprocAttr] at h11
      replace h := ob h; obtain ⟨r5, h12, h⟩ := h
      replace h12 := zbpw q (M + 7) (by omega) _ _ _ _ h12
      try simp only [kf, simprocAttr] at h12
      cases h; subst hR; simp only [zbpx, simprocAttr, *]
     ·replace h := bn h; obtain ⟨h13, h⟩ := h
      replace h := ob h; obtain ⟨e6, h14, h⟩ := h
      replace h := ob h; obtain ⟨r7, h15, h⟩ := h
      replace h15 := zbo3 q (M + 7) (by omega) _ _ h15
      try simp only [kf, simprocAttr] at h15
      replace h := ob h; obtain ⟨r8, h16, h⟩ := h
      replace h16 := zbpw q (M + 7) (by omega) _ _ _ _ h16
      try simp only [kf, simprocAttr] at h16
      cases h; subst hR; simp only [zbpx, simprocAttr, *]
   ·cases h; subst hR; simp only [zbpx, simprocAttr, *]
def zbpz (q : Nat) : Prop := ∀ (M : Nat) (hM : 8 * q ≤ M) (j : Nat) (hj : q ≤ j) (v0z : Bool) (v0l : List Int) (v1 v6 : Int) (r : Int × Bool) (_ : zkc q v0z v0l v1 v6 = some r) (R : Option (List V)) (_ : some [(V.int .i64) r.1, V.bool r.2] = R) (fr : Fr) (H : Hp) (_ : canon 0 [0, 1, 6] fr H = ([(0, (.sl v0z (List.map (V.int .i64) v0l))), (1, (.int .i64 v1)), (6, (.int .i64 v6))], [])), fin z88 (unw T (orc T (M + 7)) (M + 7) 0 [.blk 0, .code z84] (iter 0 [0, 1, 6] (exec T (orc T (M + 7)) (M + 7) 0 z82) j fr H)) = R
def zbp0 := And.intro @kk <| And.intro @ke <| And.intro @kn <| And.intro @zbk6 <| @zbk8
theorem zbp1 (q : Nat) (zbs2 : zbpz q) : zbpz (q + 1) := by
 intro M hM j hj v0z v0l v1 v6 r h R hR fr H hc
 obtain ⟨j, rfl⟩ : ∃ i, j = i + 1 := ⟨j - 1, by omega⟩
 rw [zhj, hc]; clear hc
 rw [zkc] at h
 replace h := br h; rcases h with ⟨h1, h⟩ | ⟨h1, h⟩
 ·replace h := bn h; obtain ⟨h2, h⟩ := h
  replace h := ob h; obtain ⟨e1, h3, h⟩ := h
  replace h := br h; rcases h with ⟨h4, h⟩ | ⟨h4, h⟩
  ·replace h := zbs2 M (by omega) j (by omega) _ _ _ _ _ h R hR
   simp only [zbp0, simprocAttr, *]
  ·cases h; subst hR; simp only [zbp0, simprocAttr, *]
 ·cases h; subst hR; simp only [zbp0, simprocAttr, *]
theorem zbp2 : ∀ q, zbpz q
 | 0 => by intro M hM j hj; intros; rename_i h _ _ _ _ _; cases h
 | q + 1 => by have i0 := zbp2 q; exact zbp1 q i0
theorem zbp3 : ∀ (q N : Nat), 8 * q ≤ N → ∀ (a0 : (Sl Int)) (a1 : Int), ∀ (r : Int × Bool), zkd q a0 a1 = some r → (orc T N).deep F.zkd [(Sl.enc (V.int .i64)) a0, (V.int .i64) a1] = some [(V.int .i64) r.1, V.bool r.2] := by
 intro q N hM a0 a1 r h
 rcases q with _ | q
 ·cases h
 obtain ⟨M, rfl⟩ : ∃ M, N = M + 8 := ⟨N - 8, by omega⟩
 have zbs2 := (zbp2 q)
 generalize hR : some [(V.int .i64) r.1, V.bool r.2] = R
 rw [zhs, zbfv, y4, zhq]
 rw [zkd] at h
 replace h := zbs2 M (by omega) (M + 7) (by omega) _ _ _ _ _ h R hR
 simp only [zbp0, simprocAttr, *]
def zbp4 := And.intro @kk <| And.intro @ke <| And.intro @kn <| And.intro @zbk3 <| And.intro @zbk7 <| @zbk5
theorem zbp5 : ∀ (q N : Nat), 8 * q ≤ N → ∀ (a0 : (Sl Int)) (a1 : Int), ∀ (r : Int), zke q a0 a1 = some r → (orc T N).deep F.zke [(Sl.enc (V.int .i64)) a0, (V.int .i64) a1] = some [(V.int .i64) r] := by
 intro q N hM a0 a1 r h
 rcases q with _ | q
 ·cases h
 obtain ⟨M, rfl⟩ : ∃ M, N = M + 8 := ⟨N - 8, by omega⟩
 generalize hR : some [(V.int .i64) r] = R
 rw [zhs, zbfu, y4, zhq]
 rw [zke] at h
 replace h := ob h; obtain ⟨r1, h1, h⟩ := h
 replace h1 := zbp3 q (M + 7) (by omega) _ _ _ h1
 try simp only [kf, simprocAttr] at h1
 replace h := bb h; rcases h with ⟨h2', h2, h⟩ | ⟨h2', h2, h⟩
 ·replace h := bn h; obtain ⟨h3, h⟩ := h
  replace h := ob h; obtain ⟨e2, h4, h⟩ := h
  cases h; subst hR; simp only [zbp4, simprocAttr, *]
 ·cases h; subst hR; simp only [zbp4, simprocAttr, *]
def zbp6 := And.intro @kk <| And.intro @ke <| And.intro @kn <| And.intro @zbji <| And.intro @zbgv <| And.intro @zbi1 <| And.intro @zbk1 <| And.intro @zbk4 <| And.intro @zbk7 <| @zbjk
theorem zbp7 : ∀ (q N : Nat), 8 * q ≤ N → ∀ (a0 : zjf) (a1 : zjj), ∀ (r : zjf × Int), zkf q a0 a1 = some r → (orc T N).deep F.zkf [zjf.enc a0, zjj.enc a1] = some [zjf.enc r.1, (V.int .i64) r.2] := by
 intro q N hM a0 a1 r h
 rcases q with _ | q
 ·cases h
 obtain ⟨M, rfl⟩ : ∃ M, N = M + 8 := ⟨N - 8, by omega⟩
 generalize hR : some [zjf.enc r.1, (V.int .i64) r.2] = R
 rw [zhs, zbfb, y4, zhq]
 rw [zkf] at h
 replace h := br h; rcases h with ⟨h1, h⟩ | ⟨h1, h⟩
 ·replace h := br h; rcases h with ⟨h2, h⟩ | ⟨h2, h⟩
  ·cases h; subst hR; simp only [zbp6, simprocAttr, *]
  ·replace h := br h; rcases h with ⟨h3, h⟩ | ⟨h3, h⟩
   ·cases h; subst hR; simp only [zbp6, simprocAttr, *]
   ·replace h := ob h; obtain ⟨r1, h4, h⟩ := h
    replace h4 := zbp5 q (M + 7) (by omega) _ _ _ h4
    try simp only [kf, simprocAttr] at h4
    replace h := ob h; obtain ⟨r2, h5, h⟩ := h
    replace h5 := zbp3 q (M + 7) (by omega) _ _ _ h5
    try simp only [kf, simprocAttr] at h5
    replace h := br h; rcases h with ⟨h6, h⟩ | ⟨h6, h⟩
    ·replace h := bb h; rcases h with ⟨h7', h7, h⟩ | ⟨h7', h7, h⟩
     ·replace h := ob h; obtain ⟨r3, h8, h⟩ := h
      replace h8 := zbo3 q (M + 7) (by omega) _ _ h8
      try simp only [kf, simprocAttr] at h8
      replace h := ob h; obtain ⟨r4, h9, h⟩ := h
      replace h9 := zbpw q (M + 7) (by omega) _ _ _ _ h9
      try simp only [kf, simprocAttr] at h9
      cases h; subst hR; simp only [zbp6, simprocAttr, *]
     ·replace h := bm h; obtain ⟨h10, h⟩ := h
      cases h; subst hR; simp only [zbp6, simprocAttr, *]
    ·replace h := bm h; obtain ⟨h11, h⟩ := h
     cases h; subst hR; simp only [zbp6, simprocAttr, *]
 ·replace h := br h; rcases h with ⟨h12, h⟩ | ⟨h12, h⟩
  ·replace h := br h; rcases h with ⟨h13, h⟩ | ⟨h13, h⟩
   ·cases h; subst hR; simp only [zbp6, simprocAttr, *]
   ·replace h := br h; rcases h with ⟨h14, h⟩ | ⟨h14, h⟩
    ·cases h; subst hR; simp only [zbp6, simprocAttr, *]
    ·replace h := ob h; obtain ⟨r7, h15, h⟩ := h
     replace h15 := zbp5 q (M + 7) (by omega) _ _ _ h15
     try simp only [kf, simprocAttr] at h15
     replace h := ob h; obtain ⟨r8, h16, h⟩ := h
     replace h16 := zbp3 q (M + 7) (by omega) _ _ _ h16
     try simp only [kf, simprocAttr] at h16
     replace h := bb h; rcases h with ⟨h17', h17, h⟩ | ⟨h17', h17, h⟩
     ·replace h := ob h; obtain ⟨r9, h18, h⟩ := h
      replace h18 := zbo3 q (M + 7) (by omega) _ _ h18
      try simp only [kf, simprocAttr] at h18
      replace h := ob h; obtain ⟨r10, h19, h⟩ := h
      replace h19 := zbpw q (M + 7) (by omega) _ _ _ _ h19
      try simp only [kf, simprocAttr] at h19
      cases h; subst hR; simp only [zbp6, simprocAttr, *]
     ·replace h := bm h; obtain ⟨h20, h⟩ := h
      cases h; subst hR; simp only [zbp6, simprocAttr, *]
  ·replace h := br h; rcases h with ⟨h21, h⟩ | ⟨h21, h⟩
   ·replace h := br h; rcases h with ⟨h22, h⟩ | ⟨h22, h⟩
    ·cases h; subst hR; simp only [zbp6, simprocAttr, *]
    ·replace h := br h; rcases h with ⟨h23, h⟩ | ⟨h23, h⟩
     ·cases h; subst hR; simp only [zbp6, simprocAttr, *]
     ·replace h := ob h; obtain ⟨r12, h24, h⟩ := h
      replace h24 := zbp5 q (M + 7) (by omega) _ _ _ h24
      try simp only [kf, simprocAttr] at h24
      replace h := ob h; obtain ⟨r13, h25, h⟩ := h
      replace h25 := zbp3 q (M + 7) (by omega) _ _ _ h25
      try simp only [kf, simprocAttr] at h25
      cases h
   ·cases h; subst hR; simp only [zbp6, simprocAttr, *]
def zbp8 := And.intro @kk <| And.intro @ke <| And.intro @kn <| And.intro @zbk9 <| And.intro @zbk4 <| @zblb
theorem zbp9 : ∀ (q N : Nat), 8 * q ≤ N → ∀ (a0 : zjf) (a1 : zjj), ∀ (r : zjf × Int), zkg q a0 a1 = some r → (orc T N).deep F.zkg [zjf.enc a0, zjj.enc a1] = some [zjf.enc r.1, (V.int .i64) r.2] := by
 intro q N hM a0 a1 r h
 rcases q with _ | q
 ·cases h
 obtain ⟨M, rfl⟩ : ∃ M, N = M + 8 := ⟨N - 8, by omega⟩
 generalize hR : some [zjf.enc r.1, (V.int .i64) r.2] = R
 rw [zhs, zbfw, y4, zhq]
 rw [zkg] at h
 replace h := br h; rcases h with ⟨h1, h⟩ | ⟨h1, h⟩
 ·cases h; subst hR; simp only [zbp8, simprocAttr, *]
 ·replace h := br h; rcases h with ⟨h2, h⟩ | ⟨h2, h⟩
  ·cases h; subst hR; simp only [zbp8, simprocAttr, *]
  ·replace h := br h; rcases h with ⟨h3, h⟩ | ⟨h3, h⟩
   ·cases h; subst hR; simp only [zbp8, simprocAttr, *]
   ·replace h := ob h; obtain ⟨r1, h4, h⟩ := h
    replace h4 := zbp5 q (M + 7) (by omega) _ _ _ h4
    try simp only [kf, simprocAttr] at h4
    replace h := ob h; obtain ⟨r2, h5, h⟩ := h
    replace h5 := zbp5 q (M + 7) (by omega) _ _ _ h5
    try simp only [kf, simprocAttr] at h5
    replace h := br h; rcases h with ⟨h6, h⟩ | ⟨h6, h⟩
    ·cases h; subst hR; simp only [zbp8, simprocAttr, *]
    ·replace h := bn h; obtain ⟨h7, h⟩ := h
     cases h; subst hR; simp only [zbp8, simprocAttr, *]
def zbqa := And.intro @kk <| And.intro @ke <| And.intro @kn <| And.intro @zbjl <| And.intro @zbi1 <| And.intro @zbk4 <| And.intro @zbla <| @zbjn
theorem zbqb : ∀ (q N : Nat), 8 * q ≤ N → ∀ (a0 : zjf) (a1 : zjj), ∀ (r : zjf × Int), zkh q a0 a1 = some r → (orc T N).deep F.zkh [zjf.enc a0, zjj.enc a1] = some [zjf.enc r.1, (V.int .i64) r.2] := by
 intro q N hM a0 a1 r h
 rcases q with _ | q
 ·cases h
 obtain ⟨M, rfl⟩ : ∃ M, N = M + 8 := ⟨N - 8, by omega⟩
 generalize hR : some [zjf.enc r.1, (V.int .i64) r.2] = R
 rw [zhs, zbfc, y4, zhq]
 rw [zkh] at h
 replace h := br h; rcases h with ⟨h1, h⟩ | ⟨h1, h⟩
 ·replace h := ob h; obtain ⟨r1, h2, h⟩ := h
  replace h2 := zbp9 q (M + 7) (by omega) _ _ _ h2
  try simp only [kf, simprocAttr] at h2
  cases h; subst hR; simp only [zbqa, simprocAttr, *]
 ·replace h := br h; rcases h with ⟨h3, h⟩ | ⟨h3, h⟩
  ·replace h := br h; rcases h with ⟨h4, h⟩ | ⟨h4, h⟩
   ·cases h; subst hR; simp only [zbqa, simprocAttr, *]
   ·replace h := br h; rcases h with ⟨h5, h⟩ | ⟨h5, h⟩
    ·cases h; subst hR; simp only [zbqa, simprocAttr, *]
    ·replace h := ob h; obtain ⟨r2, h6, h⟩ := h
     replace h6 := zbp5 q (M + 7) (by omega) _ _ _ h6
     try simp only [kf, simprocAttr] at h6
     cases h; subst hR; simp only [zbqa, simprocAttr, *]
  ·replace h := br h; rcases h with ⟨h7, h⟩ | ⟨h7, h⟩
   ·replace h := br h; rcases h with ⟨h8, h⟩ | ⟨h8, h⟩
    ·cases h; subst hR; simp only [zbqa, simprocAttr, *]
    ·replace h := br h; rcases h with ⟨h9, h⟩ | ⟨h9, h⟩
     ·cases h; subst hR; simp only [zbqa, simprocAttr, *]
     ·replace h := br h; rcases h with ⟨h10, h⟩ | ⟨h10, h⟩
      ·cases h; subst hR; simp only [zbqa, simprocAttr, *]
      ·replace h := ob h; obtain ⟨r3, h11, h⟩ := h
       replace h11 := zbp5 q (M + 7) (by omega) _ _ _ h11
       try simp only [kf, simprocAttr] at h11
       replace h := ob h; obtain ⟨r4, h12, h⟩ := h
       replace h12 := zboe q (M + 7) (by omega) _ _ h12
       replace h := ob h; obtain ⟨r5, h13, h⟩ := h
       replace h13 := zboe q (M + 7) (by omega) _ _ h13
       cases h
   ·cases h; subst hR; simp only [zbqa, simprocAttr, *]
def zbqc := And.intro @kk <| And.intro @ke <| And.intro @kn <| And.intro @zbg6 <| And.intro @zbgy <| And.intro @zbjd <| And.intro @zbjg <| And.intro @zbjj <| And.intro @zbjm <| @zbg8
theorem zbqd : ∀ (q N : Nat), 8 * q ≤ N → ∀ (a0 : zjf) (a1 : zjj), ∀ (r : zjf × Int), zki q a0 a1 = some r → (orc T N).deep F.zki [zjf.enc a0, zjj.enc a1] = some [zjf.enc r.1, (V.int .i64) r.2] := by
 intro q N hM a0 a1 r h
 rcases q with _ | q
 ·cases h
 obtain ⟨M, rfl⟩ : ∃ M, N = M + 8 := ⟨N - 8, by omega⟩
 generalize hR : some [zjf.enc r.1, (V.int .i64) r.2] = R
 rw [zhs, zbej, y4, zhq]
 rw [zki] at h
 replace h := ob h; obtain ⟨r1, h1, h⟩ := h
 replace h1 := zbos q (M + 7) (by omega) _ _ h1
 try simp only [kf, simprocAttr] at h1
 replace h := bb h; rcases h with ⟨h2', h2, h⟩ | ⟨h2', h2, h⟩
 ·replace h := bb h; rcases h with ⟨h3', h3, h⟩ | ⟨h3', h3, h⟩
  ·cases h; subst hR; simp only [zbqc, simprocAttr, *]
  ·replace h := br h; rcases h with ⟨h4, h⟩ | ⟨h4, h⟩
   ·replace h := br h; rcases h with ⟨h5, h⟩ | ⟨h5, h⟩
    ·replace h := br h; rcases h with ⟨h6, h⟩ | ⟨h6, h⟩
     ·cases h; subst hR; simp only [zbqc, simprocAttr, *]
     ·cases h; subst hR; simp only [zbqc, simprocAttr, *]
    ·cases h; subst hR; simp only [zbqc, simprocAttr, *]
   ·replace h := br h; rcases h with ⟨h7, h⟩ | ⟨h7, h⟩
    ·replace h := ob h; obtain ⟨r2, h8, h⟩ := h
     replace h8 := zbpu q (M + 7) (by omega) _ _ _ h8
     try simp only [kf, simprocAttr] at h8
     cases h; subst hR; simp only [zbqc, simprocAttr, *]
    ·replace h := br h; rcases h with ⟨h9, h⟩ | ⟨h9, h⟩
     ·replace h := ob h; obtain ⟨r3, h10, h⟩ := h
      replace h10 := zbpu q (M + 7) (by omega) _ _ _ h10
      try simp only [kf, simprocAttr] at h10
      cases h; subst hR; simp only [zbqc, simprocAttr, *]
     ·replace h := br h; rcases h with ⟨h11, h⟩ | ⟨h11, h⟩
      ·replace h := ob h; obtain ⟨r4, h12, h⟩ := h
       replace h12 := zbpy q (M + 7) (by omega) _ _ _ h12
       try simp only [kf, simprocAttr] at h12
       cases h; subst hR; simp only [zbqc, simprocAttr, *]
      ·replace h := br h; rcases h with ⟨h13, h⟩ | ⟨h13, h⟩
       ·replace h := ob h; obtain ⟨r5, h14, h⟩ := h
        replace h14 := zbpy q (M + 7) (by omega) _ _ _ h14
        try simp only [kf, simprocAttr] at h14
        cases h; subst hR; simp only [zbqc, simprocAttr, *]
       ·replace h := br h; rcases h with ⟨h15, h⟩ | ⟨h15, h⟩
        ·replace h := ob h; obtain ⟨r6, h16, h⟩ := h
         replace h16 := zbp7 q (M + 7) (by omega) _ _ _ h16
         try simp only [kf, simprocAttr] at h16
         cases h; subst hR; simp only [zbqc, simprocAttr, *]
        ·replace h := ob h; obtain ⟨r7, h17, h⟩ := h
         replace h17 := zbqb q (M + 7) (by omega) _ _ _ h17
         try simp only [kf, simprocAttr] at h17
         cases h; subst hR; simp only [zbqc, simprocAttr, *]
 ·cases h; subst hR; simp only [zbqc, simprocAttr, *]
def zbqe (q : Nat) : Prop := ∀ (M : Nat) (hM : 8 * q ≤ M) (j : Nat) (hj : q ≤ j) (v8z : Bool) (v8l : List zjk) (v9 h0_0 h0_1 : Int) (h0_2z : Bool) (h0_2l : List Int) (h0_3 : Bool) (h0_4 : Int) (h0_5z : Bool) (h0_5l : List zjg) (r : zjh × Int) (_ : zkk q v8z v8l v9 h0_0 h0_1 h0_2z h0_2l h0_3 h0_4 h0_5z h0_5l = some r) (R : Option (List V)) (_ : some [zjh.enc r.1, (V.int .i64) r.2] = R) (fr : Fr) (H : Hp) (_ : canon 0 [2, 4, 8, 9, 10] fr H = ([(2, (.ptr 0 0)), (4, (.ptr 1 0)), (8, (.sl v8z (List.map zjk.enc v8l))), (9, (.int .i64 v9)), (10, (.int .i64 0))], [(.box [(.int .i64 h0_0), (.int .i64 h0_1), (.sl h0_2z (List.map (V.int .i64) h0_2l)), (.bool h0_3), (.int .i64 h0_4), (.sl h0_5z (List.map zjg.enc h0_5l))]), (.box [(.int .i64 0), (.int .i64 0), (.sl true []), (.bool false), (.int .i64 0), (.sl true [])])])), fin znh (unw T (orc T (M + 7)) (M + 7) 0 [.blk 0, .code zne] (iter 0 [2, 4, 8, 9, 10] (exec T (orc T (M + 7)) (M + 7) 0 znb) j fr H)) = R
def zbqf (q : Nat) : Prop := ∀ (M : Nat) (hM : 8 * q ≤ M) (j : Nat) (hj : q ≤ j) (v8z : Bool) (v8l : List zjk) (v9 v10 h0_0 h0_1 : Int) (h0_2z : Bool) (h0_2l : List Int) (h0_3 : Bool) (h0_4 : Int) (h2z : Bool) (h2l : List zjg) (h2x : Bool) (r : zjh × Int) (_ : zkj q v8z v8l v9 v10 h0_0 h0_1 h0_2z h0_2l h0_3 h0_4 h2z h2l h2x = some r) (R : Option (List V)) (_ : some [zjh.enc r.1, (V.int .i64) r.2] = R) (fr : Fr) (H : Hp) (_ : canon 0 [2, 4, 8, 9, 10] fr H = ([(2, (.ptr 0 0)), (4, (.ptr 1 0)), (8, (.sl v8z (List.map zjk.enc v8l))), (9, (.int .i64 v9)), (10, (.int .i64 v10))], [(.box [(.int .i64 h0_0), (.int .i64 h0_1), (.sl h0_2z (List.map (V.int .i64) h0_2l)), (.bool h0_3), (.int .i64 h0_4), (.vw 2 0 0 h2l.length 1)]), (.box [(.int .i64 0), (.int .i64 0), (.sl true []), (.bool false), (.int .i64 0), (.sl true [])]), (.row 0 h2z 3 (List.map zjg.enc h2l) h2x)])), fin znh (unw T (orc T (M + 7)) (M + 7) 0 [.blk 0, .code zne] (iter 0 [2, 4, 8, 9, 10] (exec T (orc T (M + 7)) (M + 7) 0 znb) j fr H)) = R
def zbqg := And.intro @kk <| And.intro @ke <| And.intro @kn <| And.intro @zbgf <| And.intro @zbgm <| And.intro @zbg4 <| And.intro @zbg7 <| @zbgh
theorem zbqh (q : Nat) (zbs3 : zbqf q) : zbqe (q + 1) := by
 intro M hM j hj v8z v8l v9 h0_0 h0_1 h0_2z h0_2l h0_3 h0_4 h0_5z h0_5l r h R hR fr H hc
 obtain ⟨j, rfl⟩ : ∃ i, j = i + 1 := ⟨j - 1, by omega⟩
 rw [zhj, hc]; clear hc
 rw [zkk] at h
 replace h := br h; rcases h with ⟨h1, h⟩ | ⟨h1, h⟩
 ·replace h := ob h; obtain ⟨e1, h2, h⟩ := h
  replace h := br h; rcases h with ⟨h3, h⟩ | ⟨h3, h⟩
  ·replace h := ob h; obtain ⟨r2, h4, h⟩ := h
   replace h4 := zbps q (M + 7) (by omega) _ _ h4
   try simp only [kf, simprocAttr] at h4
   replace h := bb h; rcases h with ⟨h5', h5, h⟩ | ⟨h5', h5, h⟩
   ·replace h := ob h; obtain ⟨r3, h6, h⟩ := h
    replace h6 := zbqd q (M + 7) (by omega) _ _ _ h6
    try simp only [kf, simprocAttr] at h6
    replace h := ob h; obtain ⟨r4, h7, h⟩ := h
    replace h7 := zbpo q (M + 7) (by omega) _ _ _ h7
    try simp only [kf, simprocAttr] at h7
    replace h := zbs3 M (by omega) j (by omega) _ _ _ _ _ _ _ _ _ _ _ _ _ _ h R hR
    simp only [zbqg, simprocAttr, *]
   ·cases h; subst hR; simp only [zbqg, simprocAttr, *]
  ·cases h; subst hR; simp only [zbqg, simprocAttr, *]
 ·cases h; subst hR; simp only [zbqg, simprocAttr, *]
theorem zbqi (q : Nat) (zbs3 : zbqf q) : zbqf (q + 1) := by
 intro M hM j hj v8z v8l v9 v10 h0_0 h0_1 h0_2z h0_2l h0_3 h0_4 h2z h2l h2x r h R hR fr H hc
 obtain ⟨j, rfl⟩ : ∃ i, j = i + 1 := ⟨j - 1, by omega⟩
 rw [zhj, hc]; clear hc
 rw [zkj] at h
 replace h := br h; rcases h with ⟨h1, h⟩ | ⟨h1, h⟩
 ·replace h := bn h; obtain ⟨h2, h⟩ := h
  replace h := ob h; obtain ⟨e5, h3, h⟩ := h
  replace h := br h; rcases h with ⟨h4, h⟩ | ⟨h4, h⟩
  ·replace h := ob h; obtain ⟨r6, h5, h⟩ := h
   replace h5 := zbps q (M + 7) (by omega) _ _ h5
   try simp only [kf, simprocAttr] at h5
   replace h := bb h; rcases h with ⟨h6', h6, h⟩ | ⟨h6', h6, h⟩
   ·replace h := ob h; obtain ⟨r7, h7, h⟩ := h
    replace h7 := zbqd q (M + 7) (by omega) _ _ _ h7
    try simp only [kf, simprocAttr] at h7
    replace h := ob h; obtain ⟨r8, h8, h⟩ := h
    replace h8 := zbpo q (M + 7) (by omega) _ _ _ h8
    try simp only [kf, simprocAttr] at h8
    replace h := zbs3 M (by omega) j (by omega) _ _ _ _ _ _ _ _ _ _ _ _ _ _ h R hR
    simp only [zbqg, simprocAttr, *]
   ·cases h; subst hR; simp only [zbqg, simprocAttr, *]
  ·cases h; subst hR; simp only [zbqg, simprocAttr, *]
 ·cases h; subst hR; simp only [zbqg, simprocAttr, *]
theorem zbqj : ∀ q, zbqe q ∧ zbqf q
 | 0 => by refine ⟨?_, ?_⟩ <;> (intro M hM j hj; intros; rename_i h _ _ _ _ _; cases h)
 | q + 1 => by have ⟨i0, i1⟩ := zbqj q; exact ⟨zbqh q i1, zbqi q i1⟩
theorem zbqk : ∀ (q N : Nat), 8 * q ≤ N → ∀ (a0 : zjh) (a1 : (Sl zjk)), ∀ (r : zjh × Int), zkl q a0 a1 = some r → (orc T N).deep F.zkl [zjh.enc a0, (Sl.enc zjk.enc) a1] = some [zjh.enc r.1, (V.int .i64) r.2] := by
 intro q N hM a0 a1 r h
 rcases q with _ | q
 ·cases h
 obtain ⟨M, rfl⟩ : ∃ M, N = M + 8 := ⟨N - 8, by omega⟩
 have ih_snapshot_Take_l0 := (zbqj q).1
 generalize hR : some [zjh.enc r.1, (V.int .i64) r.2] = R
 rw [zhs, zbea, y4, zhq]
 rw [zkl] at h
 replace h := ih_snapshot_Take_l0 M (by omega) (M + 7) (by omega) _ _ _ _ _ _ _ _ _ _ _ _ h R hR
 simp only [zbqg, simprocAttr, *]
def zbql := And.intro @kk <| And.intro @ke <| And.intro @kn <| And.intro @zblf <| @zblh
theorem zbqm : ∀ (q N : Nat), 8 * q ≤ N → ∀ (a0 : Int), ∀ (r : Bool), zkm q a0 = some r → (orc T N).deep F.zkm [(V.int .u8) a0] = some [V.bool r] := by
 intro q N hM a0 r h
 rcases q with _ | q
 ·cases h
 obtain ⟨M, rfl⟩ : ∃ M, N = M + 8 := ⟨N - 8, by omega⟩
 generalize hR : some [V.bool r] = R
 rw [zhs, zbfy, y4, zhq]
 rw [zkm] at h
 cases h; subst hR; simp only [zbql, simprocAttr, *]
def zbqn (q : Nat) : Prop := ∀ (M : Nat) (hM : 8 * q ≤ M) (j : Nat) (hj : q ≤ j) (v0z : Bool) (v0l : List Int) (v7 v8 r : Int) (_ : zkn q v0z v0l v7 v8 = some r) (R : Option (List V × Hp)) (_ : (some ([(.int .i64 r)], []) : Option (List V × Hp)) = R) (fr : Fr) (H : Hp) (_ : canon 0 [0, 1, 7, 8] fr H = ([(0, (.sl v0z (List.map (V.int .u8) v0l))), (1, (.fn F.zkm [])), (7, (.int .i64 v7)), (8, (.int .i64 v8))], [])), finI 0 false [.tmp 4] (unw T (orc T (M + 5)) (M + 5) 0 [.blk 0, .code zbde] (iter 0 [0, 1, 7, 8] (exec T (orc T (M + 5)) (M + 5) 0 zbdb) j fr H)) = R
def zbqo := And.intro @kk <| And.intro @ke <| And.intro @kn <| And.intro @zblx <| @zblg
theorem zbqp (q : Nat) (zbs4 : zbqn q) : zbqn (q + 1) := by
 intro M hM j hj v0z v0l v7 v8 r h R hR fr H hc
 obtain ⟨j, rfl⟩ : ∃ i, j = i + 1 := ⟨j - 1, by omega⟩
 rw [zhj, hc]; clear hc
 rw [zkn] at h
 replace h := br h; rcases h with ⟨h1, h⟩ | ⟨h1, h⟩
 ·replace h := bn h; obtain ⟨h2, h⟩ := h
  replace h := ob h; obtain ⟨e1, h3, h⟩ := h
  replace h := ob h; obtain ⟨r2, h4, h⟩ := h
  replace h4 := zbqm q (M + 5) (by omega) _ _ h4
  replace h := bb h; rcases h with ⟨h5', h5, h⟩ | ⟨h5', h5, h⟩
  ·cases h; subst hR; simp only [zbqo, simprocAttr, *]
  ·replace h := zbs4 M (by omega) j (by omega) _ _ _ _ _ h R hR
   simp only [zbqo, simprocAttr, *]
 ·cases h; subst hR; simp only [zbqo, simprocAttr, *]
theorem zbqq : ∀ q, zbqn q
 | 0 => by intro M hM j hj; intros; rename_i h _ _ _ _ _; cases h
 | q + 1 => by have i0 := zbqq q; exact zbqp q i0
theorem zbqr : ∀ (q M : Nat), 8 * q ≤ M → ∀ (v0z : Bool), ∀ (v0l : List Int), ∀ (r : Int), zko q v0z v0l = some r → (orc T (M + 6)).inl F.zml [(.sl v0z (List.map (V.int .u8) v0l)), (.fn F.zkm [])] [] = (some ([(.int .i64 r)], []) : Option (List V × Hp)) := by
 intro q M hM v0z v0l r h
 rcases q with _ | q
 ·cases h
 have zbs4 := (zbqq q)
 generalize hR : (some ([(.int .i64 r)], []) : Option (List V × Hp)) = R
 rw [zblz (n := M + 5)]
 rw [zko] at h
 replace h := zbs4 M (by omega) (M + 5) (by omega) _ _ _ _ _ h R hR
 simp only [zbqo, simprocAttr, *]
def zbqs := And.intro @kk <| And.intro @ke <| And.intro @kn <| And.intro @zbjo <| And.intro @zblc <| And.intro @zbly <| And.intro @zbld <| And.intro @zble <| @zbjq
theorem zbqt : ∀ (q N : Nat), 8 * q ≤ N → ∀ (a0 : (Sl Int)), ∀ (r : Bool), zkp q a0 = some r → (orc T N).deep F.zkp [(Sl.enc (V.int .u8)) a0] = some [V.bool r] := by
 intro q N hM a0 r h
 rcases q with _ | q
 ·cases h
 obtain ⟨M, rfl⟩ : ∃ M, N = M + 8 := ⟨N - 8, by omega⟩
 generalize hR : some [V.bool r] = R
 rw [zhs, zbfd, y4, zhq]
 rw [zkp] at h
 replace h := br h; rcases h with ⟨h1, h⟩ | ⟨h1, h⟩
 ·replace h := ob h; obtain ⟨r1, h2, h⟩ := h
  replace h2 := zbqr q M (by omega) _ _ _ h2
  try simp only [kf, simprocAttr] at h2
  cases h; subst hR; simp only [zbqs, simprocAttr, *]
 ·cases h; subst hR; simp only [zbqs, simprocAttr, *]
def zbqu (q : Nat) : Prop := ∀ (M : Nat) (hM : 8 * q ≤ M) (j : Nat) (hj : q ≤ j) (v0z : Bool) (v0l : List Int) (v4 v9 v10 : Int) (r : Int × Int) (_ : zkq q v0z v0l v4 v9 v10 = some r) (R : Option (List V)) (_ : some [(V.int .u64) r.1, (V.int .i64) r.2] = R) (fr : Fr) (H : Hp) (_ : canon 0 [0, 4, 9, 10] fr H = ([(0, (.sl v0z (List.map (V.int .u8) v0l))), (4, (.int .u64 v4)), (9, (.int .i64 v9)), (10, (.int .i64 v10))], [])), fin zba8 (unw T (orc T (M + 7)) (M + 7) 0 [.blk 0, .code zba4] (iter 0 [0, 4, 9, 10] (exec T (orc T (M + 7)) (M + 7) 0 zba1) j fr H)) = R
def zbqv := And.intro @kk <| And.intro @ke <| And.intro @kn <| And.intro @zbli <| @zblk
theorem zbqw (q : Nat) (zbs5 : zbqu q) : zbqu (q + 1) := by
 intro M hM j hj v0z v0l v4 v9 v10 r h R hR fr H hc
 obtain ⟨j, rfl⟩ : ∃ i, j = i + 1 := ⟨j - 1, by omega⟩
 rw [zhj, hc]; clear hc
 rw [zkq] at h
 replace h := br h; rcases h with ⟨h1, h⟩ | ⟨h1, h⟩
 ·replace h := bn h; obtain ⟨h2, h⟩ := h
  replace h := ob h; obtain ⟨e1, h3, h⟩ := h
  replace h := bm h; obtain ⟨h4, h⟩ := h
  replace h := br h; rcases h with ⟨h5, h⟩ | ⟨h5, h⟩
  ·replace h := br h; rcases h with ⟨h6, h⟩ | ⟨h6, h⟩
   ·cases h; subst hR; simp only [zbqv, simprocAttr, *]
   ·replace h := br h; rcases h with ⟨h7, h⟩ | ⟨h7, h⟩
    ·replace h := br h; rcases h with ⟨h8, h⟩ | ⟨h8, h⟩
     ·cases h; subst hR; simp only [zbqv, simprocAttr, *]
     ·replace h := br h; rcases h with ⟨h9, h⟩ | ⟨h9, h⟩
      ·cases h; subst hR; simp only [zbqv, simprocAttr, *]
      ·replace h := zbs5 M (by omega) j (by omega) _ _ _ _ _ _ h R hR
       simp only [zbqv, simprocAttr, *]
    ·replace h := br h; rcases h with ⟨h10, h⟩ | ⟨h10, h⟩
     ·cases h; subst hR; simp only [zbqv, simprocAttr, *]
     ·replace h := zbs5 M (by omega) j (by omega) _ _ _ _ _ _ h R hR
      simp only [zbqv, simprocAttr, *]
  ·replace h := br h; rcases h with ⟨h11, h⟩ | ⟨h11, h⟩
   ·replace h := br h; rcases h with ⟨h12, h⟩ | ⟨h12, h⟩
    ·cases h; subst hR; simp only [zbqv, simprocAttr, *]
    ·replace h := br h; rcases h with ⟨h13, h⟩ | ⟨h13, h⟩
     ·cases h; subst hR; simp only [zbqv, simprocAttr, *]
     ·replace h := zbs5 M (by omega) j (by omega) _ _ _ _ _ _ h R hR
      simp only [zbqv, simprocAttr, *]
   ·replace h := br h; rcases h with ⟨h14, h⟩ | ⟨h14, h⟩
    ·cases h; subst hR; simp only [zbqv, simprocAttr, *]
    ·replace h := zbs5 M (by omega) j (by omega) _ _ _ _ _ _ h R hR
     simp only [zbqv, simprocAttr, *]
 ·cases h; subst hR; simp only [zbqv, simprocAttr, *]
theorem zbqx : ∀ q, zbqu q
 | 0 => by intro M hM j hj; intros; rename_i h _ _ _ _ _; cases h
 | q + 1 => by have i0 := zbqx q; exact zbqw q i0
theorem zbqy : ∀ (q N : Nat), 8 * q ≤ N → ∀ (a0 : (Sl Int)), ∀ (r : Int × Int), zkr q a0 = some r → (orc T N).deep F.zkr [(Sl.enc (V.int .u8)) a0] = some [(V.int .u64) r.1, (V.int .i64) r.2] := by
 intro q N hM a0 r h
 rcases q with _ | q
 ·cases h
 obtain ⟨M, rfl⟩ : ∃ M, N = M + 8 := ⟨N - 8, by omega⟩
 have zbs5 := (zbqx q)
 generalize hR : some [(V.int .u64) r.1, (V.int .i64) r.2] = R
 rw [zhs, zbfz, y4, zhq]
 rw [zkr] at h
 replace h := zbs5 M (by omega) (M + 7) (by omega) _ _ _ _ _ _ h R hR
 simp only [zbqv, simprocAttr, *]
def zbqz := And.intro @kk <| And.intro @ke <| And.intro @kn <| And.intro @zbjr <| And.intro @zblj <| @zbjt
theorem zbq0 : ∀ (q N : Nat), 8 * q ≤ N → ∀ (a0 : (Sl Int)), ∀ (r : Int × Int), zks q a0 = some r → (orc T N).deep F.zks [(Sl.enc (V.int .u8)) a0] = some [(V.int .i64) r.1, (V.int .i64) r.2] := by
 intro q N hM a0 r h
 rcases q with _ | q
 ·cases h
 obtain ⟨M, rfl⟩ : ∃ M, N = M + 8 := ⟨N - 8, by omega⟩
 generalize hR : some [(V.int .i64) r.1, (V.int .i64) r.2] = R
 rw [zhs, zbfe, y4, zhq]
 rw [zks] at h
 replace h := ob h; obtain ⟨r1, h1, h⟩ := h
 replace h1 := zbqy q (M + 7) (by omega) _ _ h1
 try simp only [kf, simprocAttr] at h1
 replace h := br h; rcases h with ⟨h2, h⟩ | ⟨h2, h⟩
 ·cases h; subst hR; simp only [zbqz, simprocAttr, *]
 ·cases h; subst hR; simp only [zbqz, simprocAttr, *]
def zbq1 (q : Nat) : Prop := ∀ (M : Nat) (hM : 8 * q ≤ M) (j : Nat) (hj : q ≤ j) (v5 : Int) (h0_0 h1_0 : List Int) (r : (List Int)) (_ : zkt q v5 h0_0 h1_0 = some r) (R : Option (List V)) (_ : some [(arrEnc (V.int .u32)) r] = R) (fr : Fr) (H : Hp) (_ : canon 0 [0, 1, 5] fr H = ([(0, (.ptr 0 0)), (1, (.ptr 1 0)), (5, (.int .i64 v5))], [(.box (List.map (V.int .u32) h0_0)), (.box (List.map (V.int .u32) h1_0))])), fin zbcp (unw T (orc T (M + 7)) (M + 7) 0 [.blk 0, .code zbcl] (iter 0 [0, 1, 5] (exec T (orc T (M + 7)) (M + 7) 0 zbci) j fr H)) = R
def zbq2 (q : Nat) : Prop := ∀ (M : Nat) (hM : 8 * q ≤ M) (j : Nat) (hj : q ≤ j) (j1 : Nat) (hj1 : q ≤ j1) (v2 v3 v5 v10 : Int) (h0_0 h1_0 : List Int) (r : (List Int)) (_ : zku q v2 v3 v5 v10 h0_0 h1_0 = some r) (R : Option (List V)) (_ : some [(arrEnc (V.int .u32)) r] = R) (fr : Fr) (H : Hp) (_ : canon 0 [0, 1, 2, 3, 5, 10] fr H = ([(0, (.ptr 0 0)), (1, (.ptr 1 0)), (2, (.int .i64 v2)), (3, (.int .u32 v3)), (5, (.int .i64 v5)), (10, (.int .i64 v10))], [(.box (List.map (V.int .u32) h0_0)), (.box (List.map (V.int .u32) h1_0))])), fin zbcp (unw T (orc T (M + 7)) (M + 7) 0 [.blk 2, .code zbcb, .blk 1, .code zbcf, .rounds [0, 1, 5] zbci j1, .blk 0, .code zbcl] (iter 0 [0, 1, 2, 3, 5, 10] (exec T (orc T (M + 7)) (M + 7) 0 zbb8) j fr H)) = R
def zbq3 := And.intro @kk <| And.intro @ke <| And.intro @kn <| And.intro @zblr <| @zblt
theorem zbq4 (q : Nat) (zbs6 : zbq2 q) : zbq1 (q + 1) := by
 intro M hM j hj v5 h0_0 h1_0 r h R hR fr H hc
 obtain ⟨j, rfl⟩ : ∃ i, j = i + 1 := ⟨j - 1, by omega⟩
 rw [zhj, hc]; clear hc
 rw [zkt] at h
 replace h := br h; rcases h with ⟨h1, h⟩ | ⟨h1, h⟩
 ·replace h := zbs6 M (by omega) (M + 7) (by omega) j (by omega) _ _ _ _ _ _ _ h R hR
  simp (maxDischargeDepth := 12) only [zbq3, simprocAttr, arrEnc, *]
 ·replace h := bn h; obtain ⟨h2, h⟩ := h
  replace h := bc h; rcases h with ⟨h3, h⟩ | ⟨h3, h⟩
  ·replace h := bn h; obtain ⟨h4, h⟩ := h
   replace h := bn h; obtain ⟨h5, h⟩ := h
   cases h; subst hR; simp (maxDischargeDepth := 12) only [zbq3, simprocAttr, arrEnc, *]
  ·cases h
theorem zbq5 (q : Nat) (zbs7 : zbq1 q) (zbs6 : zbq2 q) : zbq2 (q + 1) := by
 intro M hM j hj j1 hj1 v2 v3 v5 v10 h0_0 h1_0 r h R hR fr H hc
 obtain ⟨j, rfl⟩ : ∃ i, j = i + 1 := ⟨j - 1, by omega⟩
 rw [zhj, hc]; clear hc
 rw [zku] at h
 replace h := br h; rcases h with ⟨h1, h⟩ | ⟨h1, h⟩
 ·replace h := zbs6 M (by omega) j (by omega) j1 (by omega) _ _ _ _ _ _ _ h R hR
  simp (maxDischargeDepth := 12) only [zbq3, simprocAttr, arrEnc, *]
 ·replace h := bn h; obtain ⟨h2, h⟩ := h
  replace h := bn h; obtain ⟨h3, h⟩ := h
  replace h := bn h; obtain ⟨h4, h⟩ := h
  replace h := zbs7 M (by omega) j1 (by omega) _ _ _ _ h R hR
  simp (maxDischargeDepth := 12) only [zbq3, simprocAttr, arrEnc, *]
theorem zbq6 : ∀ q, zbq1 q ∧ zbq2 q
 | 0 => by refine ⟨?_, ?_⟩ <;> (intro M hM j hj; intros; rename_i h _ _ _ _ _; cases h)
 | q + 1 => by have ⟨i0, i1⟩ := zbq6 q; exact ⟨zbq4 q i1, zbq5 q i0 i1⟩
theorem zbq7 : ∀ (q N : Nat), 8 * q ≤ N → ∀ (r : (List Int)), zkv q = some r → (orc T N).deep F.zkv [] = some [(arrEnc (V.int .u32)) r] := by
 intro q N hM r h
 rcases q with _ | q
 ·cases h
 obtain ⟨M, rfl⟩ : ∃ M, N = M + 8 := ⟨N - 8, by omega⟩
 have zbs7 := (zbq6 q).1
 generalize hR : some [(arrEnc (V.int .u32)) r] = R
 rw [zhs, zbf2, y4, zhq]
 rw [zkv] at h
 replace h := zbs7 M (by omega) (M + 7) (by omega) _ _ _ _ h R hR
 simp (maxDischargeDepth := 12) only [zbq3, simprocAttr, arrEnc, *]
def zbq8 (q : Nat) : Prop := ∀ (M : Nat) (hM : 8 * q ≤ M) (j : Nat) (hj : q ≤ j) (v6 : Int) (v12z : Bool) (v12l : List Int) (v13 v14 : Int) (h0_0 : List Int) (r : Int) (_ : zkw q v6 v12z v12l v13 v14 h0_0 = some r) (R : Option (List V)) (_ : some [(V.int .u32) r] = R) (fr : Fr) (H : Hp) (_ : canon 0 [5, 6, 12, 13, 14] fr H = ([(5, (.ptr 0 0)), (6, (.int .u32 v6)), (12, (.sl v12z (List.map (V.int .u8) v12l))), (13, (.int .i64 v13)), (14, (.int .i64 v14))], [(.box (List.map (V.int .u32) h0_0))])), fin z4j (unw T (orc T (M + 7)) (M + 7) 0 [.blk 0, .code z4e] (iter 0 [5, 6, 12, 13, 14] (exec T (orc T (M + 7)) (M + 7) 0 z4b) j fr H)) = R
def zbq9 := And.intro @kk <| And.intro @ke <| And.intro @kn <| And.intro @zbkf <| And.intro @zbls <| @zbkh
theorem zbra (q : Nat) (zbs8 : zbq8 q) : zbq8 (q + 1) := by
 intro M hM j hj v6 v12z v12l v13 v14 h0_0 r h R hR fr H hc
 obtain ⟨j, rfl⟩ : ∃ i, j = i + 1 := ⟨j - 1, by omega⟩
 rw [zhj, hc]; clear hc
 rw [zkw] at h
 replace h := br h; rcases h with ⟨h1, h⟩ | ⟨h1, h⟩
 ·replace h := bn h; obtain ⟨h2, h⟩ := h
  replace h := ob h; obtain ⟨e2, h3, h⟩ := h
  replace h := bn h; obtain ⟨h4, h⟩ := h
  replace h := bn h; obtain ⟨h5, h⟩ := h
  replace h := ob h; obtain ⟨e3, h6, h⟩ := h
  replace h := zbs8 M (by omega) j (by omega) _ _ _ _ _ _ _ h R hR
  simp only [zbq9, simprocAttr, arrEnc, *]
 ·cases h; subst hR; simp only [zbq9, simprocAttr, arrEnc, *]
theorem zbrb : ∀ q, zbq8 q
 | 0 => by intro M hM j hj; intros; rename_i h _ _ _ _ _; cases h
 | q + 1 => by have i0 := zbrb q; exact zbra q i0
theorem zbrc : ∀ (q N : Nat), 8 * q ≤ N → ∀ (a0 : Int) (a1 : (Sl Int)), ∀ (r : Int), zkx q a0 a1 = some r → (orc T N).deep F.zkx [(V.int .u32) a0, (Sl.enc (V.int .u8)) a1] = some [(V.int .u32) r] := by
 intro q N hM a0 a1 r h
 rcases q with _ | q
 ·cases h
 obtain ⟨M, rfl⟩ : ∃ M, N = M + 8 := ⟨N - 8, by omega⟩
 have zbs8 := (zbrb q)
 generalize hR : some [(V.int .u32) r] = R
 rw [zhs, zbfm, y4, zhq]
 rw [zkx] at h
 replace h := ob h; obtain ⟨r1, h1, h⟩ := h
 replace h1 := zbq7 q (M + 7) (by omega)  _ h1
 try simp only [kf, simprocAttr] at h1
 replace h := bc h; rcases h with ⟨h2, h⟩ | ⟨h2, h⟩
 ·replace h := zbs8 M (by omega) (M + 7) (by omega) _ _ _ _ _ _ _ h R hR
  simp only [zbq9, simprocAttr, arrEnc, *]
 ·cases h
def zbrd := And.intro @kk <| And.intro @ke <| And.intro @kn <| And.intro @zbic <| And.intro @zbkg <| @zbie
theorem zbre : ∀ (q N : Nat), 8 * q ≤ N → ∀ (a0 : (Sl Int)), ∀ (r : Int), zky q a0 = some r → (orc T N).deep F.zky [(Sl.enc (V.int .u8)) a0] = some [(V.int .u32) r] := by
 intro q N hM a0 r h
 rcases q with _ | q
 ·cases h
 obtain ⟨M, rfl⟩ : ∃ M, N = M + 8 := ⟨N - 8, by omega⟩
 generalize hR : some [(V.int .u32) r] = R
 rw [zhs, zbex, y4, zhq]
 rw [zky] at h
 replace h := ob h; obtain ⟨r1, h1, h⟩ := h
 replace h1 := zbrc q (M + 7) (by omega) _ _ _ h1
 try simp only [kf, simprocAttr] at h1
 cases h; subst hR; simp only [zbrd, simprocAttr, *]
def zbrf (q : Nat) : Prop := ∀ (M : Nat) (hM : 8 * q ≤ M) (j : Nat) (hj : q ≤ j) (v0 v7 v8 : Int) (h0z : Bool) (h0l : List Int) (r : (Ow Int)) (_ : zkz q v0 v7 v8 h0z h0l = some r) (R : Option (List V)) (_ : some [(Ow.enc 1 (V.int .u8)) r] = R) (fr : Fr) (H : Hp) (_ : canon 0 [0, 5, 7, 8] fr H = ([(0, (.int .u64 v0)), (5, (.vw 0 0 0 h0l.length 1)), (7, (.int .i64 v7)), (8, (.int .i64 v8))], [(.row 0 h0z 1 (List.map (V.int .u8) h0l) true)])), fin z3y (unw T (orc T (M + 7)) (M + 7) 0 [.blk 0, .code z3u] (iter 0 [0, 5, 7, 8] (exec T (orc T (M + 7)) (M + 7) 0 z3r) j fr H)) = R
def zbrg := And.intro @kk <| And.intro @ke <| And.intro @kn <| And.intro @zbkc <| @zbke
theorem zbrh (q : Nat) (zbs9 : zbrf q) : zbrf (q + 1) := by
 intro M hM j hj v0 v7 v8 h0z h0l r h R hR fr H hc
 obtain ⟨j, rfl⟩ : ∃ i, j = i + 1 := ⟨j - 1, by omega⟩
 rw [zhj, hc]; clear hc
 rw [zkz] at h
 replace h := br h; rcases h with ⟨h1, h⟩ | ⟨h1, h⟩
 ·replace h := bm h; obtain ⟨h2, h⟩ := h
  replace h := bn h; obtain ⟨h3, h⟩ := h
  replace h := zbs9 M (by omega) j (by omega) _ _ _ _ _ _ h R hR
  simp only [zbrg, simprocAttr, *]
 ·cases h; subst hR; simp only [zbrg, simprocAttr, *]
theorem zbri : ∀ q, zbrf q
 | 0 => by intro M hM j hj; intros; rename_i h _ _ _ _ _; cases h
 | q + 1 => by have i0 := zbri q; exact zbrh q i0
theorem zbrj : ∀ (q N : Nat), 8 * q ≤ N → ∀ (a0 a1 : Int), ∀ (r : (Ow Int)), zk0 q a0 a1 = some r → (orc T N).deep F.zk0 [(V.int .u64) a0, (V.int .i64) a1] = some [(Ow.enc 1 (V.int .u8)) r] := by
 intro q N hM a0 a1 r h
 rcases q with _ | q
 ·cases h
 obtain ⟨M, rfl⟩ : ∃ M, N = M + 8 := ⟨N - 8, by omega⟩
 have zbs9 := (zbri q)
 generalize hR : some [(Ow.enc 1 (V.int .u8)) r] = R
 rw [zhs, zbfl, y4, zhq]
 rw [zk0] at h
 replace h := zbs9 M (by omega) (M + 7) (by omega) _ _ _ _ _ _ h R hR
 simp only [zbrg, simprocAttr, *]
def zbrk := And.intro @kk <| And.intro @ke <| And.intro @kn <| And.intro @zbh9 <| And.intro @zbkd <| @zbib
theorem zbrl : ∀ (q N : Nat), 8 * q ≤ N → ∀ (a0 : Int), ∀ (r : (Ow Int)), zk1 q a0 = some r → (orc T N).deep F.zk1 [(V.int .u32) a0] = some [(Ow.enc 1 (V.int .u8)) r] := by
 intro q N hM a0 r h
 rcases q with _ | q
 ·cases h
 obtain ⟨M, rfl⟩ : ∃ M, N = M + 8 := ⟨N - 8, by omega⟩
 generalize hR : some [(Ow.enc 1 (V.int .u8)) r] = R
 rw [zhs, zbew, y4, zhq]
 rw [zk1] at h
 replace h := ob h; obtain ⟨r1, h1, h⟩ := h
 replace h1 := zbrj q (M + 7) (by omega) _ _ _ h1
 try simp only [kf, simprocAttr] at h1
 cases h; subst hR; simp only [zbrk, simprocAttr, *]
def zbrm := And.intro @kk <| And.intro @ke <| And.intro @kn <| And.intro @zbjx <| And.intro @zbia <| And.intro @zbid <| And.intro @zbkg <| @zbjz
theorem zbrn : ∀ (q N : Nat), 8 * q ≤ N → ∀ (a0 a1 : (Sl Int)), ∀ (r : (Ow Int)), zk2 q a0 a1 = some r → (orc T N).deep F.zk2 [(Sl.enc (V.int .u8)) a0, (Sl.enc (V.int .u8)) a1] = some [(Ow.enc 1 (V.int .u8)) r] := by
 intro q N hM a0 a1 r h
 rcases q with _ | q
 ·cases h
 obtain ⟨M, rfl⟩ : ∃ M, N = M + 8 := ⟨N - 8, by omega⟩
 generalize hR : some [(Ow.enc 1 (V.int .u8)) r] = R
 rw [zhs, zbfg, y4, zhq]
 rw [zk2] at h
 replace h := ob h; obtain ⟨r1, h1, h⟩ := h
 replace h1 := zbre q (M + 7) (by omega) _ _ h1
 try simp only [kf, simprocAttr] at h1
 replace h := ob h; obtain ⟨r2, h2, h⟩ := h
 replace h2 := zbrc q (M + 7) (by omega) _ _ _ h2
 try simp only [kf, simprocAttr] at h2
 replace h := ob h; obtain ⟨r3, h3, h⟩ := h
 replace h3 := zbrl q (M + 7) (by omega) _ _ h3
 try simp only [kf, simprocAttr] at h3
 cases h; subst hR; simp only [zbrm, simprocAttr, *]
def zbro (q : Nat) : Prop := ∀ (M : Nat) (hM : 8 * q ≤ M) (j : Nat) (hj : q ≤ j) (v0z : Bool) (v0l : List Int) (v1z : Bool) (v1l : List Int) (v12 v13 : Int) (r : Bool) (_ : zk3 q v0z v0l v1z v1l v12 v13 = some r) (R : Option (List V)) (_ : some [V.bool r] = R) (fr : Fr) (H : Hp) (_ : canon 0 [0, 1, 12, 13] fr H = ([(0, (.sl v0z (List.map (V.int .u8) v0l))), (1, (.sl v1z (List.map (V.int .u8) v1l))), (12, (.int .i64 v12)), (13, (.int .i64 v13))], [])), fin z1w (unw T (orc T (M + 7)) (M + 7) 0 [.blk 0, .code z1s] (iter 0 [0, 1, 12, 13] (exec T (orc T (M + 7)) (M + 7) 0 z1p) j fr H)) = R
def zbrp := And.intro @kk <| And.intro @ke <| And.intro @kn <| And.intro @zbju <| @zbjw
theorem zbrq (q : Nat) (zbta : zbro q) : zbro (q + 1) := by
 intro M hM j hj v0z v0l v1z v1l v12 v13 r h R hR fr H hc
 obtain ⟨j, rfl⟩ : ∃ i, j = i + 1 := ⟨j - 1, by omega⟩
 rw [zhj, hc]; clear hc
 rw [zk3] at h
 replace h := br h; rcases h with ⟨h1, h⟩ | ⟨h1, h⟩
 ·replace h := bn h; obtain ⟨h2, h⟩ := h
  replace h := ob h; obtain ⟨e1, h3, h⟩ := h
  replace h := ob h; obtain ⟨e2, h4, h⟩ := h
  replace h := br h; rcases h with ⟨h5, h⟩ | ⟨h5, h⟩
  ·replace h := zbta M (by omega) j (by omega) _ _ _ _ _ _ _ h R hR
   simp only [zbrp, simprocAttr, *]
  ·cases h; subst hR; simp only [zbrp, simprocAttr, *]
 ·cases h; subst hR; simp only [zbrp, simprocAttr, *]
theorem zbrr : ∀ q, zbro q
 | 0 => by intro M hM j hj; intros; rename_i h _ _ _ _ _; cases h
 | q + 1 => by have i0 := zbrr q; exact zbrq q i0
theorem zbrs : ∀ (q N : Nat), 8 * q ≤ N → ∀ (a0 a1 : (Sl Int)), ∀ (r : Bool), zk4 q a0 a1 = some r → (orc T N).deep F.zk4 [(Sl.enc (V.int .u8)) a0, (Sl.enc (V.int .u8)) a1] = some [V.bool r] := by
 intro q N hM a0 a1 r h
 rcases q with _ | q
 ·cases h
 obtain ⟨M, rfl⟩ : ∃ M, N = M + 8 := ⟨N - 8, by omega⟩
 have zbta := (zbrr q)
 generalize hR : some [V.bool r] = R
 rw [zhs, zbff, y4, zhq]
 rw [zk4] at h
 replace h := br h; rcases h with ⟨h1, h⟩ | ⟨h1, h⟩
 ·replace h := zbta M (by omega) (M + 7) (by omega) _ _ _ _ _ _ _ h R hR
  simp only [zbrp, simprocAttr, *]
 ·cases h; subst hR; simp only [zbrp, simprocAttr, *]
def zbrt := And.intro @kk <| And.intro @ke <| And.intro @kn <| And.intro @zbj0 <| @zbj2
theorem zbru : ∀ (q N : Nat), 8 * q ≤ N → ∀ (a0 : (Sl Int)), ∀ (r : (Ow Int)), zk5 q a0 = some r → (orc T N).deep F.zk5 [(Sl.enc (V.int .u8)) a0] = some [(Ow.enc 1 (V.int .u8)) r] := by
 intro q N hM a0 r h
 rcases q with _ | q
 ·cases h
 obtain ⟨M, rfl⟩ : ∃ M, N = M + 8 := ⟨N - 8, by omega⟩
 generalize hR : some [(Ow.enc 1 (V.int .u8)) r] = R
 rw [zhs, zbfh, y4, zhq]
 rw [zk5] at h
 replace h := bb h; rcases h with ⟨h1', h1, h⟩ | ⟨h1', h1, h⟩
 ·cases h; subst hR; simp only [zbrt, simprocAttr, *]
 ·replace h := bn h; obtain ⟨h2, h⟩ := h
  cases h; subst hR; simp only [zbrt, simprocAttr, *]
def zbrv := And.intro @kk <| And.intro @ke <| And.intro @kn <| And.intro @zbg9 <| And.intro @zbjp <| And.intro @zbjs <| And.intro @zbjv <| And.intro @zbjy <| And.intro @zbj1 <| @zbhb
theorem zbrw : ∀ (q N : Nat), 8 * q ≤ N → ∀ (a0 : (Sl Int)), ∀ (r : (Ow Int) × Int × Int), zk6 q a0 = some r → (orc T N).deep F.zk6 [(Sl.enc (V.int .u8)) a0] = some [(Ow.enc 1 (V.int .u8)) r.1, (V.int .i64) r.2.1, (V.int .i64) r.2.2] := by
 intro q N hM a0 r h
 rcases q with _ | q
 ·cases h
 obtain ⟨M, rfl⟩ : ∃ M, N = M + 8 := ⟨N - 8, by omega⟩
 generalize hR : some [(Ow.enc 1 (V.int .u8)) r.1, (V.int .i64) r.2.1, (V.int .i64) r.2.2] = R
 rw [zhs, zbek, y4, zhq]
 rw [zk6] at h
 replace h := ob h; obtain ⟨r1, h1, h⟩ := h
 replace h1 := zbqt q (M + 7) (by omega) _ _ h1
 try simp only [kf, simprocAttr] at h1
 replace h := bb h; rcases h with ⟨h2', h2, h⟩ | ⟨h2', h2, h⟩
 ·cases h; subst hR; simp only [zbrv, simprocAttr, *]
 ·replace h := ob h; obtain ⟨r2, h3, h⟩ := h
  replace h3 := zbq0 q (M + 7) (by omega) _ _ h3
  try simp only [kf, simprocAttr] at h3
  replace h := br h; rcases h with ⟨h4, h⟩ | ⟨h4, h⟩
  ·cases h; subst hR; simp only [zbrv, simprocAttr, *]
  ·replace h := br h; rcases h with ⟨h5, h⟩ | ⟨h5, h⟩
   ·cases h; subst hR; simp only [zbrv, simprocAttr, *]
   ·replace h := br h; rcases h with ⟨h6, h⟩ | ⟨h6, h⟩
    ·cases h; subst hR; simp only [zbrv, simprocAttr, *]
    ·replace h := bn h; obtain ⟨h7, h⟩ := h
     replace h := bn h; obtain ⟨h8, h⟩ := h
     replace h := bn h; obtain ⟨h9, h⟩ := h
     replace h := bn h; obtain ⟨h10, h⟩ := h
     replace h := bn h; obtain ⟨h11, h⟩ := h
     replace h := bn h; obtain ⟨h12, h⟩ := h
     replace h := bn h; obtain ⟨h13, h⟩ := h
     replace h := bn h; obtain ⟨h14, h⟩ := h
     replace h := bn h; obtain ⟨h15, h⟩ := h
     replace h := ob h; obtain ⟨r3, h16, h⟩ := h
     replace h16 := zbrn q (M + 7) (by omega) _ _ _ h16
     try simp only [kf, simprocAttr] at h16
     replace h := ob h; obtain ⟨r4, h17, h⟩ := h
     replace h17 := zbrs q (M + 7) (by omega) _ _ _ h17
     try simp only [kf, simprocAttr] at h17
     replace h := bb h; rcases h with ⟨h18', h18, h⟩ | ⟨h18', h18, h⟩
     ·replace h := ob h; obtain ⟨r5, h19, h⟩ := h
      replace h19 := zbru q (M + 7) (by omega) _ _ h19
      try simp only [kf, simprocAttr] at h19
      cases h; subst hR; simp only [zbrv, simprocAttr, *]
     ·cases h; subst hR; simp only [zbrv, simprocAttr, *]
def zbrx := And.intro @kk <| And.intro @ke <| And.intro @kn <| And.intro @zbl0 <| @zbl2
theorem zbry : ∀ (q N : Nat), 8 * q ≤ N → ∀ (a0 r : Int), zk7 q a0 = some r → (orc T N).deep F.zk7 [(V.int .u64) a0] = some [(V.int .i64) r] := by
 intro q N hM a0 r h
 rcases q with _ | q
 ·cases h
 obtain ⟨M, rfl⟩ : ∃ M, N = M + 8 := ⟨N - 8, by omega⟩
 generalize hR : some [(V.int .i64) r] = R
 rw [zhs, zbf5, y4, zhq]
 rw [zk7] at h
 cases h; subst hR; simp only [zbrx, simprocAttr, *]
def zbrz := And.intro @kk <| And.intro @ke <| And.intro @kn <| And.intro @zbll <| And.intro @zblj <| And.intro @zbl1 <| @zbln
theorem zbr0 : ∀ (q N : Nat), 8 * q ≤ N → ∀ (a0 : (Sl Int)), ∀ (r : Int × Int), zk8 q a0 = some r → (orc T N).deep F.zk8 [(Sl.enc (V.int .u8)) a0] = some [(V.int .i64) r.1, (V.int .i64) r.2] := by
 intro q N hM a0 r h
 rcases q with _ | q
 ·cases h
 obtain ⟨M, rfl⟩ : ∃ M, N = M + 8 := ⟨N - 8, by omega⟩
 generalize hR : some [(V.int .i64) r.1, (V.int .i64) r.2] = R
 rw [zhs, zbf0, y4, zhq]
 rw [zk8] at h
 replace h := ob h; obtain ⟨r1, h1, h⟩ := h
 replace h1 := zbqy q (M + 7) (by omega) _ _ h1
 try simp only [kf, simprocAttr] at h1
 replace h := br h; rcases h with ⟨h2, h⟩ | ⟨h2, h⟩
 ·cases h; subst hR; simp only [zbrz, simprocAttr, *]
 ·replace h := ob h; obtain ⟨r2, h3, h⟩ := h
  replace h3 := zbry q (M + 7) (by omega) _ _ h3
  cases h; subst hR; simp only [zbrz, simprocAttr, *]
def zbr1 (q : Nat) : Prop := ∀ (M : Nat) (hM : 8 * q ≤ M) (j : Nat) (hj : q ≤ j) (w0 : Nat) (v1 : Int) (h0z : Bool) (h0l : List Int) (h0x : Bool) (r : (Ow Int)) (_ : zk9 q v1 h0z h0l h0x = some r) (R : Option (List V)) (_ : some [(Ow.enc 1 (V.int .u8)) r] = R) (fr : Fr) (H : Hp) (_ : canon 1 [0, 1] fr H = ([(0, (.vw 0 w0 0 h0l.length 1)), (1, (.int .u64 v1))], [(.row w0 h0z 1 (List.map (V.int .u8) h0l) h0x)])), fin z2n (unw T (orc T (M + 7)) (M + 7) 1 [.blk 0, .code z2k] (iter 1 [0, 1] (exec T (orc T (M + 7)) (M + 7) 1 z2i) j fr H)) = R
def zbr2 := And.intro @kk <| And.intro @ke <| And.intro @kn <| And.intro @zbj3 <| @zbj5
theorem zbr3 (q : Nat) (zbtb : zbr1 q) : zbr1 (q + 1) := by
 intro M hM j hj w0 v1 h0z h0l h0x r h R hR fr H hc
 obtain ⟨j, rfl⟩ : ∃ i, j = i + 1 := ⟨j - 1, by omega⟩
 rw [zhj, hc]; clear hc
 rw [zk9] at h
 replace h := br h; rcases h with ⟨h1, h⟩ | ⟨h1, h⟩
 ·replace h := bn h; obtain ⟨h2, h⟩ := h
  replace h := zbtb M (by omega) j (by omega) (w0 + 1) _ _ _ _ _ h R hR
  simp only [zbr2, simprocAttr, *]
 ·replace h := bn h; obtain ⟨h3, h⟩ := h
  cases h; subst hR; simp only [zbr2, simprocAttr, *]
theorem zbr4 : ∀ q, zbr1 q
 | 0 => by intro M hM j hj; intros; rename_i h _ _ _ _ _; cases h
 | q + 1 => by have i0 := zbr4 q; exact zbr3 q i0
theorem zbr5 : ∀ (q N : Nat), 8 * q ≤ N → ∀ (a0 : (Ow Int)) (a1 : Int), ∀ (r : (Ow Int)), zla q a0 a1 = some r → (orc T N).deep F.zla [(Ow.enc 1 (V.int .u8)) a0, (V.int .u64) a1] = some [(Ow.enc 1 (V.int .u8)) r] := by
 intro q N hM a0 a1 r h
 rcases q with _ | q
 ·cases h
 obtain ⟨M, rfl⟩ : ∃ M, N = M + 8 := ⟨N - 8, by omega⟩
 have zbtb := (zbr4 q)
 generalize hR : some [(Ow.enc 1 (V.int .u8)) r] = R
 rw [zhs, zbfi, y4, zhq]
 rw [zla] at h
 replace h := zbtb M (by omega) (M + 7) (by omega) 0 _ _ _ _ _ h R hR
 simp only [zbr2, simprocAttr, *]
def zbr6 := And.intro @kk <| And.intro @ke <| And.intro @kn <| And.intro @zbh3 <| And.intro @zbj4 <| @zbh5
theorem zbr7 : ∀ (q N : Nat), 8 * q ≤ N → ∀ (a0 : (Ow Int)) (a1 : Int), ∀ (r : (Ow Int)), zlb q a0 a1 = some r → (orc T N).deep F.zlb [(Ow.enc 1 (V.int .u8)) a0, (V.int .i64) a1] = some [(Ow.enc 1 (V.int .u8)) r] := by
 intro q N hM a0 a1 r h
 rcases q with _ | q
 ·cases h
 obtain ⟨M, rfl⟩ : ∃ M, N = M + 8 := ⟨N - 8, by omega⟩
 generalize hR : some [(Ow.enc 1 (V.int .u8)) r] = R
 rw [zhs, zbeu, y4, zhq]
 rw [zlb] at h
 replace h := br h; rcases h with ⟨h1, h⟩ | ⟨h1, h⟩
 ·cases h; subst hR; simp only [zbr6, simprocAttr, *]
 ·replace h := br h; rcases h with ⟨h2, h⟩ | ⟨h2, h⟩
  ·cases h; subst hR; simp only [zbr6, simprocAttr, *]
  ·replace h := ob h; obtain ⟨r1, h3, h⟩ := h
   replace h3 := zbr5 q (M + 7) (by omega) _ _ _ h3
   try simp only [kf, simprocAttr] at h3
   cases h; subst hR; simp only [zbr6, simprocAttr, *]
def zbr8 := And.intro @kk <| And.intro @ke <| And.intro @kn <| And.intro @zbj6 <| @zbj8
theorem zbr9 : ∀ (q N : Nat), 8 * q ≤ N → ∀ (a0 r : Int), zlc q a0 = some r → (orc T N).deep F.zlc [(V.int .i64) a0] = some [(V.int .u64) r] := by
 intro q N hM a0 r h
 rcases q with _ | q
 ·cases h
 obtain ⟨M, rfl⟩ : ∃ M, N = M + 8 := ⟨N - 8, by omega⟩
 generalize hR : some [(V.int .u64) r] = R
 rw [zhs, zbfj, y4, zhq]
 rw [zlc] at h
 cases h; subst hR; simp only [zbr8, simprocAttr, *]
def zbsa := And.intro @kk <| And.intro @ke <| And.intro @kn <| And.intro @zbhc <| And.intro @zbj4 <| And.intro @zbj7 <| @zbhe
theorem zbsb : ∀ (q N : Nat), 8 * q ≤ N → ∀ (a0 : (Ow Int)) (a1 : Int), ∀ (r : (Ow Int)), zld q a0 a1 = some r → (orc T N).deep F.zld [(Ow.enc 1 (V.int .u8)) a0, (V.int .i64) a1] = some [(Ow.enc 1 (V.int .u8)) r] := by
 intro q N hM a0 a1 r h
 rcases q with _ | q
 ·cases h
 obtain ⟨M, rfl⟩ : ∃ M, N = M + 8 := ⟨N - 8, by omega⟩
 generalize hR : some [(Ow.enc 1 (V.int .u8)) r] = R
 rw [zhs, zbel, y4, zhq]
 rw [zld] at h
 replace h := ob h; obtain ⟨r1, h1, h⟩ := h
 replace h1 := zbr9 q (M + 7) (by omega) _ _ h1
 replace h := ob h; obtain ⟨r2, h2, h⟩ := h
 replace h2 := zbr5 q (M + 7) (by omega) _ _ _ h2
 try simp only [kf, simprocAttr] at h2
 cases h; subst hR; simp only [zbsa, simprocAttr, *]
def zbsc (q : Nat) : Prop := ∀ (M : Nat) (hM : 8 * q ≤ M) (j : Nat) (hj : q ≤ j) (v0z : Bool) (v0l : List (Sl Int)) (v3 : Int) (v9z : Bool) (v9l : List (Sl Int)) (v10 v11 : Int) (r : (Ow Int)) (_ : zlh q v0z v0l v3 v9z v9l v10 v11 = some r) (R : Option (List V)) (_ : some [(Ow.enc 1 (V.int .u8)) r] = R) (fr : Fr) (H : Hp) (_ : canon 0 [0, 3, 9, 10, 11] fr H = ([(0, (.sl v0z (List.map (Sl.enc (V.int .u8)) v0l))), (3, (.int .i64 v3)), (9, (.sl v9z (List.map (Sl.enc (V.int .u8)) v9l))), (10, (.int .i64 v10)), (11, (.int .i64 v11))], [])), fin zvc (unw T (orc T (M + 7)) (M + 7) 0 [.blk 0, .code zu8] (iter 0 [0, 3, 9, 10, 11] (exec T (orc T (M + 7)) (M + 7) 0 zur) j fr H)) = R
def zbsd (q : Nat) : Prop := ∀ (M : Nat) (hM : 8 * q ≤ M) (j : Nat) (hj : q ≤ j) (v6len : Nat) (v25z : Bool) (v25l : List (Sl Int)) (v26 v27 : Int) (h0z : Bool) (h0l : List Int) (r : (Ow Int)) (_ : zle q v6len v25z v25l v26 v27 h0z h0l = some r) (R : Option (List V)) (_ : some [(Ow.enc 1 (V.int .u8)) r] = R) (fr : Fr) (H : Hp) (_ : canon 0 [6, 25, 26, 27] fr H = ([(6, (.vw 0 0 0 v6len 0)), (25, (.sl v25z (List.map (Sl.enc (V.int .u8)) v25l))), (26, (.int .i64 v26)), (27, (.int .i64 v27))], [(.row 0 h0z 1 (List.map (V.int .u8) h0l) true)])), fin zvc (unw T (orc T (M + 7)) (M + 7) 0 [.blk 2, .code zu6] (iter 0 [6, 25, 26, 27] (exec T (orc T (M + 7)) (M + 7) 0 zu3) j fr H)) = R
def zbse (q : Nat) : Prop := ∀ (M : Nat) (hM : 8 * q ≤ M) (j : Nat) (hj : q ≤ j) (v25z : Bool) (v25l : List (Sl Int)) (v26 : Int) (r : (Ow Int)) (_ : zlg q v25z v25l v26 = some r) (R : Option (List V)) (_ : some [(Ow.enc 1 (V.int .u8)) r] = R) (fr : Fr) (H : Hp) (_ : canon 0 [6, 25, 26, 27] fr H = ([(6, (.sl true [])), (25, (.sl v25z (List.map (Sl.enc (V.int .u8)) v25l))), (26, (.int .i64 v26)), (27, (.int .i64 0))], [])), fin zvc (unw T (orc T (M + 7)) (M + 7) 0 [.blk 2, .code zu6] (iter 0 [6, 25, 26, 27] (exec T (orc T (M + 7)) (M + 7) 0 zu3) j fr H)) = R
def zbsf (q : Nat) : Prop := ∀ (M : Nat) (hM : 8 * q ≤ M) (j : Nat) (hj : q ≤ j) (v25z : Bool) (v25l : List (Sl Int)) (v26 v27 : Int) (h0z : Bool) (h0l : List Int) (r : (Ow Int)) (_ : zlf q v25z v25l v26 v27 h0z h0l = some r) (R : Option (List V)) (_ : some [(Ow.enc 1 (V.int .u8)) r] = R) (fr : Fr) (H : Hp) (_ : canon 0 [6, 25, 26, 27] fr H = ([(6, (.vw 0 0 0 h0l.length 1)), (25, (.sl v25z (List.map (Sl.enc (V.int .u8)) v25l))), (26, (.int .i64 v26)), (27, (.int .i64 v27))], [(.row 0 h0z 1 (List.map (V.int .u8) h0l) true)])), fin zvc (unw T (orc T (M + 7)) (M + 7) 0 [.blk 2, .code zu6] (iter 0 [6, 25, 26, 27] (exec T (orc T (M + 7)) (M + 7) 0 zu3) j fr H)) = R
def zbsg := And.intro @kk <| And.intro @ke <| And.intro @kn <| And.intro @zbil <| And.intro @zbko <| And.intro @zbkp <| And.intro @zbkq <| @zbin
theorem zbsh (q : Nat) (zbtc : zbsc q) (zbtd : zbsd q) (zbte : zbse q) : zbsc (q + 1) := by
 intro M hM j hj v0z v0l v3 v9z v9l v10 v11 r h R hR fr H hc
 obtain ⟨j, rfl⟩ : ∃ i, j = i + 1 := ⟨j - 1, by omega⟩
 rw [zhj, hc]; clear hc
 rw [zlh] at h
 replace h := br h; rcases h with ⟨h1, h⟩ | ⟨h1, h⟩
 ·replace h := bn h; obtain ⟨h2, h⟩ := h
  replace h := ob h; obtain ⟨e1, h3, h⟩ := h
  replace h := bm h; obtain ⟨h4, h⟩ := h
  replace h := zbtc M (by omega) j (by omega) _ _ _ _ _ _ _ _ h R hR
  simp only [zbsg, simprocAttr, *]
 ·replace h := bm h; obtain ⟨h5, h⟩ := h
  replace h := br h; rcases h with ⟨h6, h⟩ | ⟨h6, h⟩
  ·replace h := bn h; obtain ⟨h7, h⟩ := h
   replace h := bn h; obtain ⟨h8, h⟩ := h
   replace h := bm h; obtain ⟨h9, h⟩ := h
   replace h := zbtd M (by omega) (M + 7) (by omega) _ _ _ _ _ _ _ _ h R hR
   simp only [zbsg, simprocAttr, *]
  ·replace h := zbte M (by omega) (M + 7) (by omega) _ _ _ _ h R hR
   simp only [zbsg, simprocAttr, *]
theorem zbsi (q : Nat) (zbtd : zbsd q) : zbsd (q + 1) := by
 intro M hM j hj v6len v25z v25l v26 v27 h0z h0l r h R hR fr H hc
 obtain ⟨j, rfl⟩ : ∃ i, j = i + 1 := ⟨j - 1, by omega⟩
 rw [zhj, hc]; clear hc
 rw [zle] at h
 replace h := br h; rcases h with ⟨h1, h⟩ | ⟨h1, h⟩
 ·replace h := bn h; obtain ⟨h2, h⟩ := h
  replace h := ob h; obtain ⟨e2, h3, h⟩ := h
  replace h := bn h; obtain ⟨h4, h⟩ := h
  replace h := zbtd M (by omega) j (by omega) _ _ _ _ _ _ _ _ h R hR
  simp only [zbsg, simprocAttr, *]
 ·cases h; subst hR; simp only [zbsg, simprocAttr, *]
theorem zbsj (q : Nat) (zbtf : zbsf q) : zbse (q + 1) := by
 intro M hM j hj v25z v25l v26 r h R hR fr H hc
 obtain ⟨j, rfl⟩ : ∃ i, j = i + 1 := ⟨j - 1, by omega⟩
 rw [zhj, hc]; clear hc
 rw [zlg] at h
 replace h := br h; rcases h with ⟨h1, h⟩ | ⟨h1, h⟩
 ·replace h := ob h; obtain ⟨e3, h2, h⟩ := h
  replace h := bn h; obtain ⟨h3, h⟩ := h
  replace h := zbtf M (by omega) j (by omega) _ _ _ _ _ _ _ h R hR
  simp only [zbsg, simprocAttr, *]
 ·cases h; subst hR; simp only [zbsg, simprocAttr, *]
theorem zbsk (q : Nat) (zbtf : zbsf q) : zbsf (q + 1) := by
 intro M hM j hj v25z v25l v26 v27 h0z h0l r h R hR fr H hc
 obtain ⟨j, rfl⟩ : ∃ i, j = i + 1 := ⟨j - 1, by omega⟩
 rw [zhj, hc]; clear hc
 rw [zlf] at h
 replace h := br h; rcases h with ⟨h1, h⟩ | ⟨h1, h⟩
 ·replace h := bn h; obtain ⟨h2, h⟩ := h
  replace h := ob h; obtain ⟨e4, h3, h⟩ := h
  replace h := bn h; obtain ⟨h4, h⟩ := h
  replace h := zbtf M (by omega) j (by omega) _ _ _ _ _ _ _ h R hR
  simp only [zbsg, simprocAttr, *]
 ·cases h; subst hR; simp only [zbsg, simprocAttr, *]
theorem zbsl : ∀ q, zbsc q ∧ zbsd q ∧ zbse q ∧ zbsf q
 | 0 => by refine ⟨?_, ?_, ?_, ?_⟩ <;> (intro M hM j hj; intros; rename_i h _ _ _ _ _; cases h)
 | q + 1 => by have ⟨i0, i1, i2, i3⟩ := zbsl q; exact ⟨zbsh q i0 i1 i2, zbsi q i1, zbsj q i3, zbsk q i3⟩
theorem zbsm : ∀ (q N : Nat), 8 * q ≤ N → ∀ (a0 : (Sl (Sl Int))), ∀ (r : (Ow Int)), zli q a0 = some r → (orc T N).deep F.zli [(Sl.enc (Sl.enc (V.int .u8))) a0] = some [(Ow.enc 1 (V.int .u8)) r] := by
 intro q N hM a0 r h
 rcases q with _ | q
 ·cases h
 obtain ⟨M, rfl⟩ : ∃ M, N = M + 8 := ⟨N - 8, by omega⟩
 have zbtc := (zbsl q).1
 generalize hR : some [(Ow.enc 1 (V.int .u8)) r] = R
 rw [zhs, zbe0, y4, zhq]
 rw [zli] at h
 replace h := zbtc M (by omega) (M + 7) (by omega) _ _ _ _ _ _ _ _ h R hR
 simp only [zbsg, simprocAttr, *]
def zbsn := And.intro @kk <| And.intro @ke <| And.intro @kn <| And.intro @zbhf <| And.intro @zbh4 <| And.intro @zbim <| And.intro @zbjy <| @zbhh
theorem zbso : ∀ (q N : Nat), 8 * q ≤ N → ∀ (a0 : (Sl Int)), ∀ (r : (Ow Int) × Int), zlj q a0 = some r → (orc T N).deep F.zlj [(Sl.enc (V.int .u8)) a0] = some [(Ow.enc 1 (V.int .u8)) r.1, (V.int .i64) r.2] := by
 intro q N hM a0 r h
 rcases q with _ | q
 ·cases h
 obtain ⟨M, rfl⟩ : ∃ M, N = M + 8 := ⟨N - 8, by omega⟩
 generalize hR : some [(Ow.enc 1 (V.int .u8)) r.1, (V.int .i64) r.2] = R
 rw [zhs, zbem, y4, zhq]
 rw [zlj] at h
 replace h := br h; rcases h with ⟨h1, h⟩ | ⟨h1, h⟩
 ·cases h; subst hR; simp only [zbsn, simprocAttr, *]
 ·replace h := ob h; obtain ⟨r1, h2, h⟩ := h
  replace h2 := zbr7 q (M + 7) (by omega) _ _ _ h2
  try simp only [kf, simprocAttr] at h2
  replace h := ob h; obtain ⟨r2, h3, h⟩ := h
  replace h3 := zbrn q (M + 7) (by omega) _ _ _ h3
  try simp only [kf, simprocAttr] at h3
  replace h := ob h; obtain ⟨r3, h4, h⟩ := h
  replace h4 := zbsm q (M + 7) (by omega) _ _ h4
  try simp only [kf, simprocAttr] at h4
  cases h; subst hR; simp only [zbsn, simprocAttr, *]
def zbsp := And.intro @kk <| And.intro @ke <| And.intro @kn <| And.intro @zblo <| @zblq
theorem zbsq : ∀ (q N : Nat), 8 * q ≤ N → ∀ (a0 : zjf), ∀ (r : Int), zlk q a0 = some r → (orc T N).deep F.zlk [zjf.enc a0] = some [(V.int .i64) r] := by
 intro q N hM a0 r h
 rcases q with _ | q
 ·cases h
 obtain ⟨M, rfl⟩ : ∃ M, N = M + 8 := ⟨N - 8, by omega⟩
 generalize hR : some [(V.int .i64) r] = R
 rw [zhs, zbf1, y4, zhq]
 rw [zlk] at h
 replace h := bb h; rcases h with ⟨h1', h1, h⟩ | ⟨h1', h1, h⟩
 ·cases h; subst hR; simp only [zbsp, simprocAttr, *]
 ·cases h; subst hR; simp only [zbsp, simprocAttr, *]
def zbsr (q : Nat) : Prop := ∀ (M : Nat) (hM : 8 * q ≤ M) (j : Nat) (hj : q ≤ j) (v21z : Bool) (v21l : List Int) (v22 v23 : Int) (h0z : Bool) (h0l : List Int) (h0x : Bool) (r : (Ow Int) × Int) (_ : zll q v21z v21l v22 v23 h0z h0l h0x = some r) (R : Option (List V)) (_ : some [(Ow.enc 1 (V.int .u8)) r.1, (V.int .i64) r.2] = R) (fr : Fr) (H : Hp) (_ : canon 0 [4, 21, 22, 23] fr H = ([(4, (.vw 0 0 0 h0l.length 1)), (21, (.sl v21z (List.map (V.int .i64) v21l))), (22, (.int .i64 v22)), (23, (.int .i64 v23))], [(.row 0 h0z 1 (List.map (V.int .u8) h0l) h0x)])), fin z3f (unw T (orc T (M + 7)) (M + 7) 0 [.blk 0, .code z3a] (iter 0 [4, 21, 22, 23] (exec T (orc T (M + 7)) (M + 7) 0 z27) j fr H)) = R
def zbss := And.intro @kk <| And.intro @ke <| And.intro @kn <| And.intro @zbj9 <| And.intro @zbgy <| And.intro @zbhd <| And.intro @zbh4 <| And.intro @zblp <| @zbkb
theorem zbst (q : Nat) (zbtg : zbsr q) : zbsr (q + 1) := by
 intro M hM j hj v21z v21l v22 v23 h0z h0l h0x r h R hR fr H hc
 obtain ⟨j, rfl⟩ : ∃ i, j = i + 1 := ⟨j - 1, by omega⟩
 rw [zhj, hc]; clear hc
 rw [zll] at h
 replace h := br h; rcases h with ⟨h1, h⟩ | ⟨h1, h⟩
 ·replace h := bn h; obtain ⟨h2, h⟩ := h
  replace h := ob h; obtain ⟨e6, h3, h⟩ := h
  replace h := ob h; obtain ⟨r7, h4, h⟩ := h
  replace h4 := zbsb q (M + 7) (by omega) _ _ _ h4
  try simp only [kf, simprocAttr] at h4
  replace h := zbtg M (by omega) j (by omega) _ _ _ _ _ _ _ _ h R hR
  simp only [zbss, simprocAttr, *]
 ·cases h; subst hR; simp only [zbss, simprocAttr, *]
theorem zbsu : ∀ q, zbsr q
 | 0 => by intro M hM j hj; intros; rename_i h _ _ _ _ _; cases h
 | q + 1 => by have i0 := zbsu q; exact zbst q i0
theorem zbsv : ∀ (q N : Nat), 8 * q ≤ N → ∀ (a0 : zjf), ∀ (r : (Ow Int) × Int), zlm q a0 = some r → (orc T N).deep F.zlm [zjf.enc a0] = some [(Ow.enc 1 (V.int .u8)) r.1, (V.int .i64) r.2] := by
 intro q N hM a0 r h
 rcases q with _ | q
 ·cases h
 obtain ⟨M, rfl⟩ : ∃ M, N = M + 8 := ⟨N - 8, by omega⟩
 have zbtg := (zbsu q)
 generalize hR : some [(Ow.enc 1 (V.int .u8)) r.1, (V.int .i64) r.2] = R
 rw [zhs, zbfk, y4, zhq]
 rw [zlm] at h
 replace h := ob h; obtain ⟨r1, h1, h⟩ := h
 replace h1 := zbos q (M + 7) (by omega) _ _ h1
 try simp only [kf, simprocAttr] at h1
 replace h := bb h; rcases h with ⟨h2', h2, h⟩ | ⟨h2', h2, h⟩
 ·replace h := ob h; obtain ⟨r2, h3, h⟩ := h
  replace h3 := zbr7 q (M + 7) (by omega) _ _ _ h3
  try simp only [kf, simprocAttr] at h3
  replace h := ob h; obtain ⟨r3, h4, h⟩ := h
  replace h4 := zbsq q (M + 7) (by omega) _ _ h4
  try simp only [kf, simprocAttr] at h4
  replace h := ob h; obtain ⟨r4, h5, h⟩ := h
  replace h5 := zbr7 q (M + 7) (by omega) _ _ _ h5
  try simp only [kf, simprocAttr] at h5
  replace h := ob h; obtain ⟨r5, h6, h⟩ := h
  replace h6 := zbr7 q (M + 7) (by omega) _ _ _ h6
  try simp only [kf, simprocAttr] at h6
  replace h := zbtg M (by omega) (M + 7) (by omega) _ _ _ _ _ _ _ _ h R hR
  simp only [zbss, simprocAttr, *]
 ·cases h; subst hR; simp only [zbss, simprocAttr, *]
end Go.Dvm.C
