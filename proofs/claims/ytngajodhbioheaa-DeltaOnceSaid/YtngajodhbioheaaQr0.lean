/- The machine comes to these answers: part 1. -/
import Derived.Test.YtngajodhbioheaaQl0
set_option linter.all false
set_option maxRecDepth 100000
set_option maxHeartbeats 4000000
namespace Go.Dvm.C
open Go Go.Dvm Go.Dvm.I
def zbik := And.intro @kk <| And.intro @ke <| And.intro @kn <| And.intro @zbd4 <| @zbd6
theorem zbil : ∀ (q N : Nat), 8 * q ≤ N → ∀ (a0 r : Int), zjq q a0 = some r → (orc T N).deep F.zjq [(V.int .i64) a0] = some [(V.int .i64) r] := by
 intro q N hM a0 r h
 rcases q with _ | q
 ·cases h
 obtain ⟨M, rfl⟩ : ∃ M, N = M + 8 := ⟨N - 8, by omega⟩
 generalize hR : some [(V.int .i64) r] = R
 rw [zhw, z9y, y6, zhu zy3 rfl]
 rw [zjq] at h
 cases h; subst hR; simp only [zbik, simprocAttr, *]
def zbim := And.intro @kk <| And.intro @ke <| And.intro @kn <| And.intro @zbd1 <| And.intro @zbd5 <| @zbd3
theorem zbin : ∀ (q N : Nat), 8 * q ≤ N → ∀ (a0 : Int), ∀ (r : Bool), zjr q a0 = some r → (orc T N).deep F.zjr [(V.int .i64) a0] = some [V.bool r] := by
 intro q N hM a0 r h
 rcases q with _ | q
 ·cases h
 obtain ⟨M, rfl⟩ : ∃ M, N = M + 8 := ⟨N - 8, by omega⟩
 generalize hR : some [V.bool r] = R
 rw [zhw, z9x, y6, zhu zy1 rfl]
 rw [zjr] at h
 replace h := ob h; obtain ⟨r1, h1, h⟩ := h
 replace h1 := zbil q (M + 7) (by omega) _ _ h1
 cases h; subst hR; simp only [zbim, simprocAttr, *]
def zbio (q : Nat) : Prop := ∀ (M : Nat) (hM : 8 * q ≤ M) (j : Nat) (hj : q ≤ j) (v0z : Bool) (v0l : List Int) (v1 v5 v6 : Int) (r : Bool) (_ : zjs q v0z v0l v1 v5 v6 = some r) (R : Option (List V)) (_ : some [V.bool r] = R) (fr : Fr) (H : Hp) (_ : canon 0 [0, 1, 5, 6] fr H = ([(0, (.sl v0z (List.map (V.int .i64) v0l))), (1, (.int .i64 v1)), (5, (.int .i64 v5)), (6, (.int .i64 v6))], [])), fin zzf (unw T (orc T (M + 7)) (M + 7) 0 [.blk 0, .code zzb] (iter 0 [0, 1, 5, 6] (exec T (orc T (M + 7)) (M + 7) 0 zy8) j fr H)) = R
def zbip := And.intro @kk <| And.intro @ke <| And.intro @kn <| And.intro @zbd7 <| @zbd9
theorem zbiq (q : Nat) (zbm3 : zbio q) : zbio (q + 1) := by
 intro M hM j hj v0z v0l v1 v5 v6 r h R hR fr H hc
 obtain ⟨j, rfl⟩ : ∃ i, j = i + 1 := ⟨j - 1, by omega⟩
 rw [zhn, hc]; clear hc
 rw [zjs] at h
 replace h := br h; rcases h with ⟨h1, h⟩ | ⟨h1, h⟩
 ·replace h := bn h; obtain ⟨h2, h⟩ := h
  replace h := ob h; obtain ⟨e1, h3, h⟩ := h
  replace h := br h; rcases h with ⟨h4, h⟩ | ⟨h4, h⟩
  ·cases h; subst hR; simp only [zbip, simprocAttr, *]
  ·replace h := br h; rcases h with ⟨h5, h⟩ | ⟨h5, h⟩
   ·cases h; subst hR; simp only [zbip, simprocAttr, *]
   ·replace h := bn h; obtain ⟨h6, h⟩ := h
    replace h := ob h; obtain ⟨e2, h7, h⟩ := h
    replace h := br h; rcases h with ⟨h8, h⟩ | ⟨h8, h⟩
    ·cases h; subst hR; simp only [zbip, simprocAttr, *]
    ·replace h := br h; rcases h with ⟨h9, h⟩ | ⟨h9, h⟩
     ·cases h; subst hR; simp only [zbip, simprocAttr, *]
     ·replace h := zbm3 M (by omega) j (by omega) _ _ _ _ _ _ h R hR
      simp only [zbip, simprocAttr, *]
 ·replace h := br h; rcases h with ⟨h10, h⟩ | ⟨h10, h⟩
  ·cases h; subst hR; simp only [zbip, simprocAttr, *]
  ·cases h; subst hR; simp only [zbip, simprocAttr, *]
theorem zbir : ∀ q, zbio q
 | 0 => by intro M hM j hj; intros; rename_i h _ _ _ _ _; cases h
 | q + 1 => by have i0 := zbir q; exact zbiq q i0
theorem zbis : ∀ (q N : Nat), 8 * q ≤ N → ∀ (a0 : (Sl Int)) (a1 : Int), ∀ (r : Bool), zjt q a0 a1 = some r → (orc T N).deep F.zjt [(Sl.enc (V.int .i64)) a0, (V.int .i64) a1] = some [V.bool r] := by
 intro q N hM a0 a1 r h
 rcases q with _ | q
 ·cases h
 obtain ⟨M, rfl⟩ : ∃ M, N = M + 8 := ⟨N - 8, by omega⟩
 have zbm3 := (zbir q)
 generalize hR : some [V.bool r] = R
 rw [zhw, z9z, y6, zhu zzf rfl]
 rw [zjt] at h
 replace h := zbm3 M (by omega) (M + 7) (by omega) _ _ _ _ _ _ h R hR
 simp only [zbip, simprocAttr, *]
def zbit (q : Nat) : Prop := ∀ (M : Nat) (hM : 8 * q ≤ M) (j : Nat) (hj : q ≤ j) (v0z : Bool) (v0l : List Int) (v7 v8 h0_0 : Int) (h0_1z : Bool) (h0_1l : List Int) (h0_2 : Bool) (h0_3 r : Int) (_ : zju q v0z v0l v7 v8 h0_0 h0_1z h0_1l h0_2 h0_3 = some r) (R : Option (List V × Hp)) (_ : (some ([(.int .i64 r)], [(.box [(.int .i64 h0_0), (.sl h0_1z (List.map (V.int .i64) h0_1l)), (.bool h0_2), (.int .i64 h0_3)])]) : Option (List V × Hp)) = R) (fr : Fr) (H : Hp) (_ : canon 1 [0, 1, 7, 8] fr H = ([(0, (.sl v0z (List.map (V.int .i64) v0l))), (1, (.fn F.zjr [])), (7, (.int .i64 v7)), (8, (.int .i64 v8))], [(.box [(.int .i64 h0_0), (.sl h0_1z (List.map (V.int .i64) h0_1l)), (.bool h0_2), (.int .i64 h0_3)])])), finI 1 false [.tmp 4] (unw T (orc T (M + 5)) (M + 5) 1 [.blk 0, .code z43] (iter 1 [0, 1, 7, 8] (exec T (orc T (M + 5)) (M + 5) 1 z40) j fr H)) = R
def zbiu := And.intro @kk <| And.intro @ke <| And.intro @kn <| And.intro @zbfp <| @zbd2
theorem zbiv (q : Nat) (zbm4 : zbit q) : zbit (q + 1) := by
 intro M hM j hj v0z v0l v7 v8 h0_0 h0_1z h0_1l h0_2 h0_3 r h R hR fr H hc
 obtain ⟨j, rfl⟩ : ∃ i, j = i + 1 := ⟨j - 1, by omega⟩
 rw [zhn, hc]; clear hc
 rw [zju] at h
 replace h := br h; rcases h with ⟨h1, h⟩ | ⟨h1, h⟩
 ·replace h := bn h; obtain ⟨h2, h⟩ := h
  replace h := ob h; obtain ⟨e1, h3, h⟩ := h
  replace h := ob h; obtain ⟨r2, h4, h⟩ := h
  replace h4 := zbin q (M + 5) (by omega) _ _ h4
  replace h := bb h; rcases h with ⟨h5', h5, h⟩ | ⟨h5', h5, h⟩
  ·cases h; subst hR; simp only [zbiu, simprocAttr, *]
  ·replace h := zbm4 M (by omega) j (by omega) _ _ _ _ _ _ _ _ _ _ h R hR
   simp only [zbiu, simprocAttr, *]
 ·cases h; subst hR; simp only [zbiu, simprocAttr, *]
theorem zbiw : ∀ q, zbit q
 | 0 => by intro M hM j hj; intros; rename_i h _ _ _ _ _; cases h
 | q + 1 => by have i0 := zbiw q; exact zbiv q i0
theorem zbix : ∀ (q M : Nat), 8 * q ≤ M → ∀ (v0z : Bool), ∀ (v0l : List Int), ∀ (h0_0 : Int), ∀ (h0_1z : Bool), ∀ (h0_1l : List Int), ∀ (h0_2 : Bool), ∀ (h0_3 r : Int), zjv q v0z v0l h0_0 h0_1z h0_1l h0_2 h0_3 = some r → (orc T (M + 6)).inl F.znw [(.sl v0z (List.map (V.int .i64) v0l)), (.fn F.zjr [])] [(.box [(.int .i64 h0_0), (.sl h0_1z (List.map (V.int .i64) h0_1l)), (.bool h0_2), (.int .i64 h0_3)])] = (some ([(.int .i64 r)], [(.box [(.int .i64 h0_0), (.sl h0_1z (List.map (V.int .i64) h0_1l)), (.bool h0_2), (.int .i64 h0_3)])]) : Option (List V × Hp)) := by
 intro q M hM v0z v0l h0_0 h0_1z h0_1l h0_2 h0_3 r h
 rcases q with _ | q
 ·cases h
 have zbm4 := (zbiw q)
 generalize hR : (some ([(.int .i64 r)], [(.box [(.int .i64 h0_0), (.sl h0_1z (List.map (V.int .i64) h0_1l)), (.bool h0_2), (.int .i64 h0_3)])]) : Option (List V × Hp)) = R
 rw [zbfr (n := M + 5)]
 rw [zjv] at h
 replace h := zbm4 M (by omega) (M + 5) (by omega) _ _ _ _ _ _ _ _ _ _ h R hR
 simp only [zbiu, simprocAttr, *]
def zbiy := And.intro @kk <| And.intro @ke <| And.intro @kn <| And.intro @zbb4 <| And.intro @zbdy <| And.intro @zbd8 <| And.intro @zbfq <| And.intro @zbdz <| And.intro @zbd0 <| @zbb6
theorem zbiz : ∀ (q N : Nat), 8 * q ≤ N → ∀ (a0 : zjj), ∀ (r : Bool), zjw q a0 = some r → (orc T N).deep F.zjw [zjj.enc a0] = some [V.bool r] := by
 intro q N hM a0 r h
 rcases q with _ | q
 ·cases h
 obtain ⟨M, rfl⟩ : ∃ M, N = M + 8 := ⟨N - 8, by omega⟩
 generalize hR : some [V.bool r] = R
 rw [zhw, z9a, y6, zhu zsf rfl]
 rw [zjw] at h
 replace h := br h; rcases h with ⟨h1, h⟩ | ⟨h1, h⟩
 ·cases h; subst hR; simp only [zbiy, simprocAttr, *]
 ·replace h := br h; rcases h with ⟨h2, h⟩ | ⟨h2, h⟩
  ·cases h; subst hR; simp only [zbiy, simprocAttr, *]
  ·replace h := bb h; rcases h with ⟨h3', h3, h⟩ | ⟨h3', h3, h⟩
   ·replace h := ob h; obtain ⟨r1, h4, h⟩ := h
    replace h4 := zbix q M (by omega) _ _ _ _ _ _ _ _ h4
    try simp only [kf, simprocAttr] at h4
    replace h := br h; rcases h with ⟨h5, h⟩ | ⟨h5, h⟩
    ·replace h := br h; rcases h with ⟨h6, h⟩ | ⟨h6, h⟩
     ·cases h; subst hR; simp only [zbiy, simprocAttr, *]
     ·cases h; subst hR; simp only [zbiy, simprocAttr, *]
    ·replace h := br h; rcases h with ⟨h7, h⟩ | ⟨h7, h⟩
     ·replace h := br h; rcases h with ⟨h8, h⟩ | ⟨h8, h⟩
      ·cases h; subst hR; simp only [zbiy, simprocAttr, *]
      ·cases h; subst hR; simp only [zbiy, simprocAttr, *]
     ·replace h := br h; rcases h with ⟨h9, h⟩ | ⟨h9, h⟩
      ·replace h := br h; rcases h with ⟨h10, h⟩ | ⟨h10, h⟩
       ·cases h; subst hR; simp only [zbiy, simprocAttr, *]
       ·cases h; subst hR; simp only [zbiy, simprocAttr, *]
      ·replace h := br h; rcases h with ⟨h11, h⟩ | ⟨h11, h⟩
       ·replace h := br h; rcases h with ⟨h12, h⟩ | ⟨h12, h⟩
        ·cases h; subst hR; simp only [zbiy, simprocAttr, *]
        ·cases h; subst hR; simp only [zbiy, simprocAttr, *]
       ·replace h := br h; rcases h with ⟨h13, h⟩ | ⟨h13, h⟩
        ·replace h := ob h; obtain ⟨r2, h14, h⟩ := h
         replace h14 := zbis q (M + 7) (by omega) _ _ _ h14
         try simp only [kf, simprocAttr] at h14
         cases h; subst hR; simp only [zbiy, simprocAttr, *]
        ·replace h := br h; rcases h with ⟨h15, h⟩ | ⟨h15, h⟩
         ·replace h := ob h; obtain ⟨r3, h16, h⟩ := h
          replace h16 := zbis q (M + 7) (by omega) _ _ _ h16
          try simp only [kf, simprocAttr] at h16
          cases h; subst hR; simp only [zbiy, simprocAttr, *]
         ·cases h; subst hR; simp only [zbiy, simprocAttr, *]
   ·replace h := br h; rcases h with ⟨h17, h⟩ | ⟨h17, h⟩
    ·replace h := ob h; obtain ⟨r4, h18, h⟩ := h
     replace h18 := zbix q M (by omega) _ _ _ _ _ _ _ _ h18
     try simp only [kf, simprocAttr] at h18
     replace h := br h; rcases h with ⟨h19, h⟩ | ⟨h19, h⟩
     ·replace h := br h; rcases h with ⟨h20, h⟩ | ⟨h20, h⟩
      ·cases h; subst hR; simp only [zbiy, simprocAttr, *]
      ·cases h; subst hR; simp only [zbiy, simprocAttr, *]
     ·replace h := br h; rcases h with ⟨h21, h⟩ | ⟨h21, h⟩
      ·replace h := br h; rcases h with ⟨h22, h⟩ | ⟨h22, h⟩
       ·cases h; subst hR; simp only [zbiy, simprocAttr, *]
       ·cases h; subst hR; simp only [zbiy, simprocAttr, *]
      ·replace h := br h; rcases h with ⟨h23, h⟩ | ⟨h23, h⟩
       ·replace h := br h; rcases h with ⟨h24, h⟩ | ⟨h24, h⟩
        ·cases h; subst hR; simp only [zbiy, simprocAttr, *]
        ·cases h; subst hR; simp only [zbiy, simprocAttr, *]
       ·replace h := br h; rcases h with ⟨h25, h⟩ | ⟨h25, h⟩
        ·replace h := br h; rcases h with ⟨h26, h⟩ | ⟨h26, h⟩
         ·cases h; subst hR; simp only [zbiy, simprocAttr, *]
         ·cases h; subst hR; simp only [zbiy, simprocAttr, *]
        ·replace h := br h; rcases h with ⟨h27, h⟩ | ⟨h27, h⟩
         ·replace h := ob h; obtain ⟨r5, h28, h⟩ := h
          replace h28 := zbis q (M + 7) (by omega) _ _ _ h28
          try simp only [kf, simprocAttr] at h28
          cases h; subst hR; simp only [zbiy, simprocAttr, *]
         ·replace h := br h; rcases h with ⟨h29, h⟩ | ⟨h29, h⟩
          ·replace h := ob h; obtain ⟨r6, h30, h⟩ := h
           replace h30 := zbis q (M + 7) (by omega) _ _ _ h30
           try simp only [kf, simprocAttr] at h30
           cases h; subst hR; simp only [zbiy, simprocAttr, *]
          ·cases h; subst hR; simp only [zbiy, simprocAttr, *]
    ·cases h; subst hR; simp only [zbiy, simprocAttr, *]
def zbi0 := And.intro @kk <| And.intro @ke <| And.intro @kn <| And.intro @zbea <| @zbec
theorem zbi1 : ∀ (q N : Nat), 8 * q ≤ N → ∀ (a0 : zjk), ∀ (r : Bool), zjx q a0 = some r → (orc T N).deep F.zjx [zjk.enc a0] = some [V.bool r] := by
 intro q N hM a0 r h
 rcases q with _ | q
 ·cases h
 obtain ⟨M, rfl⟩ : ∃ M, N = M + 8 := ⟨N - 8, by omega⟩
 generalize hR : some [V.bool r] = R
 rw [zhw, z90, y6, zhu zzh rfl]
 rw [zjx] at h
 replace h := br h; rcases h with ⟨h1, h⟩ | ⟨h1, h⟩
 ·replace h := br h; rcases h with ⟨h2, h⟩ | ⟨h2, h⟩
  ·replace h := br h; rcases h with ⟨h3, h⟩ | ⟨h3, h⟩
   ·replace h := br h; rcases h with ⟨h4, h⟩ | ⟨h4, h⟩
    ·replace h := br h; rcases h with ⟨h5, h⟩ | ⟨h5, h⟩
     ·cases h; subst hR; simp only [zbi0, simprocAttr, *]
     ·cases h; subst hR; simp only [zbi0, simprocAttr, *]
    ·cases h; subst hR; simp only [zbi0, simprocAttr, *]
   ·cases h; subst hR; simp only [zbi0, simprocAttr, *]
  ·cases h; subst hR; simp only [zbi0, simprocAttr, *]
 ·cases h; subst hR; simp only [zbi0, simprocAttr, *]
def zbi2 (q : Nat) : Prop := ∀ (M : Nat) (hM : 8 * q ≤ M) (j : Nat) (hj : q ≤ j) (v0z : Bool) (v0l : List zjk) (v5z : Bool) (v5l : List zjk) (v6 v7 : Int) (r : Bool) (_ : zjy q v0z v0l v5z v5l v6 v7 = some r) (R : Option (List V)) (_ : some [V.bool r] = R) (fr : Fr) (H : Hp) (_ : canon 0 [0, 5, 6, 7] fr H = ([(0, (.sl v0z (List.map zjk.enc v0l))), (5, (.sl v5z (List.map zjk.enc v5l))), (6, (.int .i64 v6)), (7, (.int .i64 v7))], [])), fin zsp (unw T (orc T (M + 7)) (M + 7) 0 [.blk 0, .code zsm] (iter 0 [0, 5, 6, 7] (exec T (orc T (M + 7)) (M + 7) 0 zsj) j fr H)) = R
def zbi3 := And.intro @kk <| And.intro @ke <| And.intro @kn <| And.intro @zbb7 <| And.intro @zbeb <| @zbb9
theorem zbi4 (q : Nat) (zbm5 : zbi2 q) : zbi2 (q + 1) := by
 intro M hM j hj v0z v0l v5z v5l v6 v7 r h R hR fr H hc
 obtain ⟨j, rfl⟩ : ∃ i, j = i + 1 := ⟨j - 1, by omega⟩
 rw [zhn, hc]; clear hc
 rw [zjy] at h
 replace h := br h; rcases h with ⟨h1, h⟩ | ⟨h1, h⟩
 ·replace h := bn h; obtain ⟨h2, h⟩ := h
  replace h := ob h; obtain ⟨e1, h3, h⟩ := h
  replace h := ob h; obtain ⟨r2, h4, h⟩ := h
  replace h4 := zbi1 q (M + 7) (by omega) _ _ h4
  try simp only [kf, simprocAttr] at h4
  replace h := bb h; rcases h with ⟨h5', h5, h⟩ | ⟨h5', h5, h⟩
  ·replace h := br h; rcases h with ⟨h6, h⟩ | ⟨h6, h⟩
   ·replace h := bn h; obtain ⟨h7, h⟩ := h
    replace h := ob h; obtain ⟨e3, h8, h⟩ := h
    replace h := br h; rcases h with ⟨h9, h⟩ | ⟨h9, h⟩
    ·cases h; subst hR; simp only [zbi3, simprocAttr, *]
    ·replace h := zbm5 M (by omega) j (by omega) _ _ _ _ _ _ _ h R hR
     simp only [zbi3, simprocAttr, *]
   ·replace h := zbm5 M (by omega) j (by omega) _ _ _ _ _ _ _ h R hR
    simp only [zbi3, simprocAttr, *]
  ·cases h; subst hR; simp only [zbi3, simprocAttr, *]
 ·cases h; subst hR; simp only [zbi3, simprocAttr, *]
theorem zbi5 : ∀ q, zbi2 q
 | 0 => by intro M hM j hj; intros; rename_i h _ _ _ _ _; cases h
 | q + 1 => by have i0 := zbi5 q; exact zbi4 q i0
theorem zbi6 : ∀ (q N : Nat), 8 * q ≤ N → ∀ (a0 : (Sl zjk)), ∀ (r : Bool), zjz q a0 = some r → (orc T N).deep F.zjz [(Sl.enc zjk.enc) a0] = some [V.bool r] := by
 intro q N hM a0 r h
 rcases q with _ | q
 ·cases h
 obtain ⟨M, rfl⟩ : ∃ M, N = M + 8 := ⟨N - 8, by omega⟩
 have zbm5 := (zbi5 q)
 generalize hR : some [V.bool r] = R
 rw [zhw, z9b, y6, zhu zsp rfl]
 rw [zjz] at h
 replace h := zbm5 M (by omega) (M + 7) (by omega) _ _ _ _ _ _ _ h R hR
 simp only [zbi3, simprocAttr, *]
def zbi7 := And.intro @kk <| And.intro @ke <| And.intro @kn <| And.intro @zba1 <| And.intro @zbb5 <| And.intro @zbb8 <| @zba3
theorem zbi8 : ∀ (q N : Nat), 8 * q ≤ N → ∀ (a0 : zjl), ∀ (r : Bool), zj0 q a0 = some r → (orc T N).deep F.zj0 [zjl.enc a0] = some [V.bool r] := by
 intro q N hM a0 r h
 rcases q with _ | q
 ·cases h
 obtain ⟨M, rfl⟩ : ∃ M, N = M + 8 := ⟨N - 8, by omega⟩
 generalize hR : some [V.bool r] = R
 rw [zhw, z8x, y6, zhu zo5 rfl]
 rw [zj0] at h
 replace h := br h; rcases h with ⟨h1, h⟩ | ⟨h1, h⟩
 ·replace h := br h; rcases h with ⟨h2, h⟩ | ⟨h2, h⟩
  ·replace h := ob h; obtain ⟨r1, h3, h⟩ := h
   replace h3 := zbiz q (M + 7) (by omega) _ _ h3
   try simp only [kf, simprocAttr] at h3
   replace h := bb h; rcases h with ⟨h4', h4, h⟩ | ⟨h4', h4, h⟩
   ·replace h := ob h; obtain ⟨r2, h5, h⟩ := h
    replace h5 := zbi6 q (M + 7) (by omega) _ _ h5
    try simp only [kf, simprocAttr] at h5
    cases h; subst hR; simp only [zbi7, simprocAttr, *]
   ·cases h; subst hR; simp only [zbi7, simprocAttr, *]
  ·cases h; subst hR; simp only [zbi7, simprocAttr, *]
 ·cases h; subst hR; simp only [zbi7, simprocAttr, *]
def zbi9 (q : Nat) : Prop := ∀ (M : Nat) (hM : 8 * q ≤ M) (j : Nat) (hj : q ≤ j) (v0z : Bool) (v0l : List zjk) (v7 v8 h0_0 r : Int) (_ : zj1 q v0z v0l v7 v8 h0_0 = some r) (R : Option (List V × Hp)) (_ : (some ([(.int .i64 r)], [(.box [(.int .i64 h0_0)])]) : Option (List V × Hp)) = R) (fr : Fr) (H : Hp) (_ : canon 1 [0, 1, 7, 8] fr H = ([(0, (.sl v0z (List.map zjk.enc v0l))), (1, (.fn F.znq [(.ptr 0 0)])), (7, (.int .i64 v7)), (8, (.int .i64 v8))], [(.box [(.int .i64 h0_0)])])), finI 1 false [.tmp 4] (unw T (orc T (M + 6)) (M + 6) 1 [.blk 0, .code zwp] (iter 1 [0, 1, 7, 8] (exec T (orc T (M + 6)) (M + 6) 1 zwm) j fr H)) = R
def zbja := And.intro @kk <| And.intro @ke <| And.intro @kn <| And.intro @zbc7 <| And.intro @zbdv <| And.intro @zbdw <| @zbdx
theorem zbjb (q : Nat) (zbm6 : zbi9 q) : zbi9 (q + 1) := by
 intro M hM j hj v0z v0l v7 v8 h0_0 r h R hR fr H hc
 obtain ⟨j, rfl⟩ : ∃ i, j = i + 1 := ⟨j - 1, by omega⟩
 rw [zhn, hc]; clear hc
 rw [zj1] at h
 replace h := br h; rcases h with ⟨h1, h⟩ | ⟨h1, h⟩
 ·replace h := bn h; obtain ⟨h2, h⟩ := h
  replace h := ob h; obtain ⟨e1, h3, h⟩ := h
  replace h := br h; rcases h with ⟨h4, h⟩ | ⟨h4, h⟩
  ·cases h; subst hR; simp only [zbja, simprocAttr, *]
  ·replace h := zbm6 M (by omega) j (by omega) _ _ _ _ _ _ h R hR
   simp only [zbja, simprocAttr, *]
 ·cases h; subst hR; simp only [zbja, simprocAttr, *]
theorem zbjc : ∀ q, zbi9 q
 | 0 => by intro M hM j hj; intros; rename_i h _ _ _ _ _; cases h
 | q + 1 => by have i0 := zbjc q; exact zbjb q i0
theorem zbjd : ∀ (q M : Nat), 8 * q ≤ M → ∀ (v0z : Bool), ∀ (v0l : List zjk), ∀ (h0_0 r : Int), zj2 q v0z v0l h0_0 = some r → (orc T (M + 7)).inl F.zno [(.sl v0z (List.map zjk.enc v0l)), (.fn F.znq [(.ptr 0 0)])] [(.box [(.int .i64 h0_0)])] = (some ([(.int .i64 r)], [(.box [(.int .i64 h0_0)])]) : Option (List V × Hp)) := by
 intro q M hM v0z v0l h0_0 r h
 rcases q with _ | q
 ·cases h
 have zbm6 := (zbjc q)
 generalize hR : (some ([(.int .i64 r)], [(.box [(.int .i64 h0_0)])]) : Option (List V × Hp)) = R
 rw [zbc9 (n := M + 6)]
 rw [zj2] at h
 replace h := zbm6 M (by omega) (M + 6) (by omega) _ _ _ _ _ _ h R hR
 simp only [zbja, simprocAttr, *]
def zbje := And.intro @kk <| And.intro @ke <| And.intro @kn <| And.intro @zbbp <| And.intro @zbc8 <| @zbbr
theorem zbjf : ∀ (q N : Nat), 8 * q ≤ N → ∀ (a0 : (Sl zjk)) (a1 : Int), ∀ (r : Int), zj3 q a0 a1 = some r → (orc T N).deep F.zj3 [(Sl.enc zjk.enc) a0, (V.int .i64) a1] = some [(V.int .i64) r] := by
 intro q N hM a0 a1 r h
 rcases q with _ | q
 ·cases h
 obtain ⟨M, rfl⟩ : ∃ M, N = M + 8 := ⟨N - 8, by omega⟩
 generalize hR : some [(V.int .i64) r] = R
 rw [zhw, z85, y6, zhu zri rfl]
 rw [zj3] at h
 replace h := ob h; obtain ⟨r1, h1, h⟩ := h
 replace h1 := zbjd q M (by omega) _ _ _ _ h1
 try simp only [kf, simprocAttr] at h1
 cases h; subst hR; simp only [zbje, simprocAttr, *]
def zbjg (q : Nat) : Prop := ∀ (M : Nat) (hM : 8 * q ≤ M) (j : Nat) (hj : q ≤ j) (v0z : Bool) (v0l : List Int) (v1z : Bool) (v1l : List Int) (v5 r : Int) (_ : zj4 q v0z v0l v1z v1l v5 = some r) (R : Option (List V)) (_ : some [(V.int .i64) r] = R) (fr : Fr) (H : Hp) (_ : canon 0 [0, 1, 5] fr H = ([(0, (.sl v0z (List.map (V.int .i64) v0l))), (1, (.sl v1z (List.map (V.int .i64) v1l))), (5, (.int .i64 v5))], [])), fin zro (unw T (orc T (M + 7)) (M + 7) 0 [.blk 0, .code c_48_9] (iter 0 [0, 1, 5] (exec T (orc T (M + 7)) (M + 7) 0 c_48_7) j fr H)) = R
def zbjh := And.intro @kk <| And.intro @ke <| And.intro @kn <| And.intro @zbbv <| @zbbx
theorem zbji (q : Nat) (zbm7 : zbjg q) : zbjg (q + 1) := by
 intro M hM j hj v0z v0l v1z v1l v5 r h R hR fr H hc
 obtain ⟨j, rfl⟩ : ∃ i, j = i + 1 := ⟨j - 1, by omega⟩
 rw [zhn, hc]; clear hc
 rw [zj4] at h
 replace h := br h; rcases h with ⟨h1, h⟩ | ⟨h1, h⟩
 ·replace h := br h; rcases h with ⟨h2, h⟩ | ⟨h2, h⟩
  ·replace h := bn h; obtain ⟨h3, h⟩ := h
   replace h := ob h; obtain ⟨e1, h4, h⟩ := h
   replace h := ob h; obtain ⟨e2, h5, h⟩ := h
   replace h := br h; rcases h with ⟨h6, h⟩ | ⟨h6, h⟩
   ·replace h := zbm7 M (by omega) j (by omega) _ _ _ _ _ _ h R hR
    simp only [zbjh, simprocAttr, *]
   ·cases h; subst hR; simp only [zbjh, simprocAttr, *]
  ·cases h; subst hR; simp only [zbjh, simprocAttr, *]
 ·cases h; subst hR; simp only [zbjh, simprocAttr, *]
theorem zbjj : ∀ q, zbjg q
 | 0 => by intro M hM j hj; intros; rename_i h _ _ _ _ _; cases h
 | q + 1 => by have i0 := zbjj q; exact zbji q i0
theorem zbjk : ∀ (q N : Nat), 8 * q ≤ N → ∀ (a0 a1 : (Sl Int)), ∀ (r : Int), zj5 q a0 a1 = some r → (orc T N).deep F.zj5 [(Sl.enc (V.int .i64)) a0, (Sl.enc (V.int .i64)) a1] = some [(V.int .i64) r] := by
 intro q N hM a0 a1 r h
 rcases q with _ | q
 ·cases h
 obtain ⟨M, rfl⟩ : ∃ M, N = M + 8 := ⟨N - 8, by omega⟩
 have zbm7 := (zbjj q)
 generalize hR : some [(V.int .i64) r] = R
 rw [zhw, z87, y6, zhu zro rfl]
 rw [zj5] at h
 replace h := zbm7 M (by omega) (M + 7) (by omega) _ _ _ _ _ _ h R hR
 simp only [zbjh, simprocAttr, *]
def zbjl (q : Nat) : Prop := ∀ (M : Nat) (hM : 8 * q ≤ M) (j : Nat) (hj : q ≤ j) (v0z : Bool) (v0l : List Int) (v1z : Bool) (v1l : List Int) (v5 r : Int) (_ : zj6 q v0z v0l v1z v1l v5 = some r) (R : Option (List V)) (_ : some [(V.int .i64) r] = R) (fr : Fr) (H : Hp) (_ : canon 0 [0, 1, 5] fr H = ([(0, (.sl v0z (List.map (V.int .i64) v0l))), (1, (.sl v1z (List.map (V.int .i64) v1l))), (5, (.int .i64 v5))], [])), fin zrs (unw T (orc T (M + 7)) (M + 7) 0 [.blk 0, .code c_49_9] (iter 0 [0, 1, 5] (exec T (orc T (M + 7)) (M + 7) 0 c_49_7) j fr H)) = R
def zbjm := And.intro @kk <| And.intro @ke <| And.intro @kn <| And.intro @zbby <| @zbb0
theorem zbjn (q : Nat) (zbm8 : zbjl q) : zbjl (q + 1) := by
 intro M hM j hj v0z v0l v1z v1l v5 r h R hR fr H hc
 obtain ⟨j, rfl⟩ : ∃ i, j = i + 1 := ⟨j - 1, by omega⟩
 rw [zhn, hc]; clear hc
 rw [zj6] at h
 replace h := br h; rcases h with ⟨h1, h⟩ | ⟨h1, h⟩
 ·replace h := br h; rcases h with ⟨h2, h⟩ | ⟨h2, h⟩
  ·replace h := bn h; obtain ⟨h3, h⟩ := h
   replace h := ob h; obtain ⟨e1, h4, h⟩ := h
   replace h := bn h; obtain ⟨h5, h⟩ := h
   replace h := ob h; obtain ⟨e2, h6, h⟩ := h
   replace h := br h; rcases h with ⟨h7, h⟩ | ⟨h7, h⟩
   ·replace h := zbm8 M (by omega) j (by omega) _ _ _ _ _ _ h R hR
    simp only [zbjm, simprocAttr, *]
   ·cases h; subst hR; simp only [zbjm, simprocAttr, *]
  ·cases h; subst hR; simp only [zbjm, simprocAttr, *]
 ·cases h; subst hR; simp only [zbjm, simprocAttr, *]
theorem zbjo : ∀ q, zbjl q
 | 0 => by intro M hM j hj; intros; rename_i h _ _ _ _ _; cases h
 | q + 1 => by have i0 := zbjo q; exact zbjn q i0
theorem zbjp : ∀ (q N : Nat), 8 * q ≤ N → ∀ (a0 a1 : (Sl Int)), ∀ (r : Int), zj7 q a0 a1 = some r → (orc T N).deep F.zj7 [(Sl.enc (V.int .i64)) a0, (Sl.enc (V.int .i64)) a1] = some [(V.int .i64) r] := by
 intro q N hM a0 a1 r h
 rcases q with _ | q
 ·cases h
 obtain ⟨M, rfl⟩ : ∃ M, N = M + 8 := ⟨N - 8, by omega⟩
 have zbm8 := (zbjo q)
 generalize hR : some [(V.int .i64) r] = R
 rw [zhw, z88, y6, zhu zrs rfl]
 rw [zj7] at h
 replace h := zbm8 M (by omega) (M + 7) (by omega) _ _ _ _ _ _ h R hR
 simp only [zbjm, simprocAttr, *]
def zbjq := And.intro @kk <| And.intro @ke <| And.intro @kn <| And.intro @zbb1 <| @zbb3
theorem zbjr : ∀ (q N : Nat), 8 * q ≤ N → ∀ (a0 : (Sl Int)), ∀ (r : (Ow Int)), zj8 q a0 = some r → (orc T N).deep F.zj8 [(Sl.enc (V.int .i64)) a0] = some [(Ow.enc 1 (V.int .i64)) r] := by
 intro q N hM a0 r h
 rcases q with _ | q
 ·cases h
 obtain ⟨M, rfl⟩ : ∃ M, N = M + 8 := ⟨N - 8, by omega⟩
 generalize hR : some [(Ow.enc 1 (V.int .i64)) r] = R
 rw [zhw, z89, y6, zhu zru rfl]
 rw [zj8] at h
 replace h := bb h; rcases h with ⟨h1', h1, h⟩ | ⟨h1', h1, h⟩
 ·cases h; subst hR; simp only [zbjq, simprocAttr, *]
 ·replace h := bn h; obtain ⟨h2, h⟩ := h
  cases h; subst hR; simp only [zbjq, simprocAttr, *]
def zbjs (q : Nat) : Prop := ∀ (M : Nat) (hM : 8 * q ≤ M) (j : Nat) (hj : q ≤ j) (v0z : Bool) (v0l : List zjk) (v7 v8 h0_0 h0_1 : Int) (h0_2z : Bool) (h0_2l : List Int) (h0_3 : Bool) (h0_4 : Int) (h0_5z : Bool) (h0_5l : List zjk) (h1_0 h1_1 : Int) (h1_2z : Bool) (h1_2l : List Int) (h1_3 : Bool) (h1_4 : Int) (h1_5z : Bool) (h1_5l : List zjk) (r : Int) (_ : zj9 q v0z v0l v7 v8 h0_0 h0_1 h0_2z h0_2l h0_3 h0_4 h0_5z h0_5l h1_0 h1_1 h1_2z h1_2l h1_3 h1_4 h1_5z h1_5l = some r) (R : Option (List V × Hp)) (_ : (some ([(.int .i64 r)], [(.box [(.int .i64 h0_0), (.int .i64 h0_1), (.sl h0_2z (List.map (V.int .i64) h0_2l)), (.bool h0_3), (.int .i64 h0_4), (.sl h0_5z (List.map zjk.enc h0_5l))]), (.box [(.int .i64 h1_0), (.int .i64 h1_1), (.sl h1_2z (List.map (V.int .i64) h1_2l)), (.bool h1_3), (.int .i64 h1_4), (.sl h1_5z (List.map zjk.enc h1_5l))]), (.box [(.int .i64 0), (.int .i64 0), (.int .i64 0), (.int .i64 0), (.sl true []), (.bool false), (.int .i64 0), (.sl true [])])]) : Option (List V × Hp)) = R) (fr : Fr) (H : Hp) (_ : canon 3 [0, 1, 7, 8] fr H = ([(0, (.sl v0z (List.map zjk.enc v0l))), (1, (.fn F.znk [(.ptr 1 0)])), (7, (.int .i64 v7)), (8, (.int .i64 v8))], [(.box [(.int .i64 h0_0), (.int .i64 h0_1), (.sl h0_2z (List.map (V.int .i64) h0_2l)), (.bool h0_3), (.int .i64 h0_4), (.sl h0_5z (List.map zjk.enc h0_5l))]), (.box [(.int .i64 h1_0), (.int .i64 h1_1), (.sl h1_2z (List.map (V.int .i64) h1_2l)), (.bool h1_3), (.int .i64 h1_4), (.sl h1_5z (List.map zjk.enc h1_5l))]), (.box [(.int .i64 0), (.int .i64 0), (.int .i64 0), (.int .i64 0), (.sl true []), (.bool false), (.int .i64 0), (.sl true [])])])), finI 3 false [.tmp 4] (unw T (orc T (M + 5)) (M + 5) 3 [.blk 0, .code zwp] (iter 3 [0, 1, 7, 8] (exec T (orc T (M + 5)) (M + 5) 3 zwm) j fr H)) = R
def zbjt := And.intro @kk <| And.intro @ke <| And.intro @kn <| And.intro @zbbm <| And.intro @zbc7 <| And.intro @zbbq <| And.intro @zbbn <| @zbbo
theorem zbju (q : Nat) (zbm9 : zbjs q) : zbjs (q + 1) := by
 intro M hM j hj v0z v0l v7 v8 h0_0 h0_1 h0_2z h0_2l h0_3 h0_4 h0_5z h0_5l h1_0 h1_1 h1_2z h1_2l h1_3 h1_4 h1_5z h1_5l r h R hR fr H hc
 obtain ⟨j, rfl⟩ : ∃ i, j = i + 1 := ⟨j - 1, by omega⟩
 rw [zhn, hc]; clear hc
 rw [zj9] at h
 replace h := br h; rcases h with ⟨h1, h⟩ | ⟨h1, h⟩
 ·replace h := bn h; obtain ⟨h2, h⟩ := h
  replace h := ob h; obtain ⟨e1, h3, h⟩ := h
  replace h := ob h; obtain ⟨r2, h4, h⟩ := h
  replace h4 := zbjf q (M + 4) (by omega) _ _ _ h4
  try simp only [kf, simprocAttr] at h4
  replace h := br h; rcases h with ⟨h5, h⟩ | ⟨h5, h⟩
  ·cases h; subst hR; simp only [zbjt, simprocAttr, *]
  ·replace h := zbm9 M (by omega) j (by omega) _ _ _ _ _ _ _ _ _ _ _ _ _ _ _ _ _ _ _ _ _ h R hR
   simp only [zbjt, simprocAttr, *]
 ·cases h; subst hR; simp only [zbjt, simprocAttr, *]
theorem zbjv : ∀ q, zbjs q
 | 0 => by intro M hM j hj; intros; rename_i h _ _ _ _ _; cases h
 | q + 1 => by have i0 := zbjv q; exact zbju q i0
theorem zbjw : ∀ (q M : Nat), 8 * q ≤ M → ∀ (v0z : Bool), ∀ (v0l : List zjk), ∀ (h0_0 h0_1 : Int), ∀ (h0_2z : Bool), ∀ (h0_2l : List Int), ∀ (h0_3 : Bool), ∀ (h0_4 : Int), ∀ (h0_5z : Bool), ∀ (h0_5l : List zjk), ∀ (h1_0 h1_1 : Int), ∀ (h1_2z : Bool), ∀ (h1_2l : List Int), ∀ (h1_3 : Bool), ∀ (h1_4 : Int), ∀ (h1_5z : Bool), ∀ (h1_5l : List zjk), ∀ (r : Int), zka q v0z v0l h0_0 h0_1 h0_2z h0_2l h0_3 h0_4 h0_5z h0_5l h1_0 h1_1 h1_2z h1_2l h1_3 h1_4 h1_5z h1_5l = some r → (orc T (M + 6)).inl F.zno [(.sl v0z (List.map zjk.enc v0l)), (.fn F.znk [(.ptr 1 0)])] [(.box [(.int .i64 h0_0), (.int .i64 h0_1), (.sl h0_2z (List.map (V.int .i64) h0_2l)), (.bool h0_3), (.int .i64 h0_4), (.sl h0_5z (List.map zjk.enc h0_5l))]), (.box [(.int .i64 h1_0), (.int .i64 h1_1), (.sl h1_2z (List.map (V.int .i64) h1_2l)), (.bool h1_3), (.int .i64 h1_4), (.sl h1_5z (List.map zjk.enc h1_5l))]), (.box [(.int .i64 0), (.int .i64 0), (.int .i64 0), (.int .i64 0), (.sl true []), (.bool false), (.int .i64 0), (.sl true [])])] = (some ([(.int .i64 r)], [(.box [(.int .i64 h0_0), (.int .i64 h0_1), (.sl h0_2z (List.map (V.int .i64) h0_2l)), (.bool h0_3), (.int .i64 h0_4), (.sl h0_5z (List.map zjk.enc h0_5l))]), (.box [(.int .i64 h1_0), (.int .i64 h1_1), (.sl h1_2z (List.map (V.int .i64) h1_2l)), (.bool h1_3), (.int .i64 h1_4), (.sl h1_5z (List.map zjk.enc h1_5l))]), (.box [(.int .i64 0), (.int .i64 0), (.int .i64 0), (.int .i64 0), (.sl true []), (.bool false), (.int .i64 0), (.sl true [])])]) : Option (List V × Hp)) := by
 intro q M hM v0z v0l h0_0 h0_1 h0_2z h0_2l h0_3 h0_4 h0_5z h0_5l h1_0 h1_1 h1_2z h1_2l h1_3 h1_4 h1_5z h1_5l r h
 rcases q with _ | q
 ·cases h
 have zbm9 := (zbjv q)
 generalize hR : (some ([(.int .i64 r)], [(.box [(.int .i64 h0_0), (.int .i64 h0_1), (.sl h0_2z (List.map (V.int .i64) h0_2l)), (.bool h0_3), (.int .i64 h0_4), (.sl h0_5z (List.map zjk.enc h0_5l))]), (.box [(.int .i64 h1_0), (.int .i64 h1_1), (.sl h1_2z (List.map (V.int .i64) h1_2l)), (.bool h1_3), (.int .i64 h1_4), (.sl h1_5z (List.map zjk.enc h1_5l))]), (.box [(.int .i64 0), (.int .i64 0), (.int .i64 0), (.int .i64 0), (.sl true []), (.bool false), (.int .i64 0), (.sl true [])])]) : Option (List V × Hp)) = R
 rw [zbc9 (n := M + 5)]
 rw [zka] at h
 replace h := zbm9 M (by omega) (M + 5) (by omega) _ _ _ _ _ _ _ _ _ _ _ _ _ _ _ _ _ _ _ _ _ h R hR
 simp only [zbjt, simprocAttr, *]
def zbjx (q : Nat) : Prop := ∀ (M : Nat) (hM : 8 * q ≤ M) (j : Nat) (hj : q ≤ j) (v89z : Bool) (v89l : List zjk) (v90 v91 h0_0 h0_1 : Int) (h0_2z : Bool) (h0_2l : List Int) (h0_3 : Bool) (h0_4 : Int) (h0_5z : Bool) (h0_5l : List zjk) (h2_0 h2_1 h2_2 h2_3 : Int) (h2_5 : Bool) (h2_6 : Int) (h3z : Bool) (h3l : List Int) (h3x : Bool) (r : zjm × Int) (_ : zkc q v89z v89l v90 v91 h0_0 h0_1 h0_2z h0_2l h0_3 h0_4 h0_5z h0_5l h2_0 h2_1 h2_2 h2_3 h2_5 h2_6 h3z h3l h3x = some r) (R : Option (List V)) (_ : some [zjm.enc r.1, (V.int .i64) r.2] = R) (fr : Fr) (H : Hp) (_ : canon 0 [2, 4, 7, 89, 90, 91] fr H = ([(2, (.ptr 0 0)), (4, (.ptr 1 0)), (7, (.ptr 2 0)), (89, (.sl v89z (List.map zjk.enc v89l))), (90, (.int .i64 v90)), (91, (.int .i64 v91))], [(.box [(.int .i64 h0_0), (.int .i64 h0_1), (.sl h0_2z (List.map (V.int .i64) h0_2l)), (.bool h0_3), (.int .i64 h0_4), (.sl h0_5z (List.map zjk.enc h0_5l))]), (.box [(.int .i64 0), (.int .i64 0), (.int .i64 0), (.int .i64 0), (.sl true []), (.bool false), (.int .i64 0), (.sl true [])]), (.box [(.int .i64 h2_0), (.int .i64 h2_1), (.int .i64 h2_2), (.int .i64 h2_3), (.vw 3 0 0 h3l.length 1), (.bool h2_5), (.int .i64 h2_6), (.sl true [])]), (.row 0 h3z 1 (List.map (V.int .i64) h3l) h3x)])), fin zo3 (unw T (orc T (M + 7)) (M + 7) 0 [.blk 1, .code zos] (iter 0 [2, 4, 7, 89, 90, 91] (exec T (orc T (M + 7)) (M + 7) 0 zop) j fr H)) = R
def zbjy (q : Nat) : Prop := ∀ (M : Nat) (hM : 8 * q ≤ M) (j : Nat) (hj : q ≤ j) (v89z : Bool) (v89l : List zjk) (v90 v91 h0_0 h0_1 : Int) (h0_2z : Bool) (h0_2l : List Int) (h0_3 : Bool) (h0_4 : Int) (h0_5z : Bool) (h0_5l : List zjk) (h2_0 h2_1 h2_2 h2_3 : Int) (h2_5 : Bool) (h2_6 : Int) (h3z : Bool) (h3l : List Int) (h3x : Bool) (h4l : List zjk) (r : zjm × Int) (_ : zkb q v89z v89l v90 v91 h0_0 h0_1 h0_2z h0_2l h0_3 h0_4 h0_5z h0_5l h2_0 h2_1 h2_2 h2_3 h2_5 h2_6 h3z h3l h3x h4l = some r) (R : Option (List V)) (_ : some [zjm.enc r.1, (V.int .i64) r.2] = R) (fr : Fr) (H : Hp) (_ : canon 0 [2, 4, 7, 89, 90, 91] fr H = ([(2, (.ptr 0 0)), (4, (.ptr 1 0)), (7, (.ptr 2 0)), (89, (.sl v89z (List.map zjk.enc v89l))), (90, (.int .i64 v90)), (91, (.int .i64 v91))], [(.box [(.int .i64 h0_0), (.int .i64 h0_1), (.sl h0_2z (List.map (V.int .i64) h0_2l)), (.bool h0_3), (.int .i64 h0_4), (.sl h0_5z (List.map zjk.enc h0_5l))]), (.box [(.int .i64 0), (.int .i64 0), (.int .i64 0), (.int .i64 0), (.sl true []), (.bool false), (.int .i64 0), (.sl true [])]), (.box [(.int .i64 h2_0), (.int .i64 h2_1), (.int .i64 h2_2), (.int .i64 h2_3), (.vw 3 0 0 h3l.length 1), (.bool h2_5), (.int .i64 h2_6), (.vw 4 0 0 h4l.length 1)]), (.row 0 h3z 1 (List.map (V.int .i64) h3l) h3x), (.row 0 false 3 (List.map zjk.enc h4l) true)])), fin zo3 (unw T (orc T (M + 7)) (M + 7) 0 [.blk 1, .code zos] (iter 0 [2, 4, 7, 89, 90, 91] (exec T (orc T (M + 7)) (M + 7) 0 zop) j fr H)) = R
def zbjz := And.intro @kk <| And.intro @ke <| And.intro @kn <| And.intro @zbay <| And.intro @zbbs <| And.intro @zba2 <| And.intro @zbbq <| And.intro @zbbw <| And.intro @zbbz <| And.intro @zbb2 <| And.intro @zbc8 <| And.intro @zbbt <| And.intro @zbbu <| @zba0
theorem zbj0 (q : Nat) (zbna : zbjx q) (zbnb : zbjy q) : zbjx (q + 1) := by
 intro M hM j hj v89z v89l v90 v91 h0_0 h0_1 h0_2z h0_2l h0_3 h0_4 h0_5z h0_5l h2_0 h2_1 h2_2 h2_3 h2_5 h2_6 h3z h3l h3x r h R hR fr H hc
 obtain ⟨j, rfl⟩ : ∃ i, j = i + 1 := ⟨j - 1, by omega⟩
 rw [zhn, hc]; clear hc
 rw [zkc] at h
 replace h := br h; rcases h with ⟨h1, h⟩ | ⟨h1, h⟩
 ·replace h := bn h; obtain ⟨h2, h⟩ := h
  replace h := ob h; obtain ⟨e7, h3, h⟩ := h
  replace h := ob h; obtain ⟨r8, h4, h⟩ := h
  replace h4 := zbjf q (M + 7) (by omega) _ _ _ h4
  try simp only [kf, simprocAttr] at h4
  replace h := br h; rcases h with ⟨h5, h⟩ | ⟨h5, h⟩
  ·replace h := zbnb M (by omega) j (by omega) _ _ _ _ _ _ _ _ _ _ _ _ _ _ _ _ _ _ _ _ _ _ _ h R hR
   simp only [zbjz, simprocAttr, *]
  ·replace h := bn h; obtain ⟨h6, h⟩ := h
   replace h := ob h; obtain ⟨e9, h7, h⟩ := h
   replace h := br h; rcases h with ⟨h8, h⟩ | ⟨h8, h⟩
   ·replace h := br h; rcases h with ⟨h9, h⟩ | ⟨h9, h⟩
    ·replace h := br h; rcases h with ⟨h10, h⟩ | ⟨h10, h⟩
     ·replace h := zbna M (by omega) j (by omega) _ _ _ _ _ _ _ _ _ _ _ _ _ _ _ _ _ _ _ _ _ _ h R hR
      simp only [zbjz, simprocAttr, *]
     ·replace h := zbnb M (by omega) j (by omega) _ _ _ _ _ _ _ _ _ _ _ _ _ _ _ _ _ _ _ _ _ _ _ h R hR
      simp only [zbjz, simprocAttr, *]
    ·replace h := zbnb M (by omega) j (by omega) _ _ _ _ _ _ _ _ _ _ _ _ _ _ _ _ _ _ _ _ _ _ _ h R hR
     simp only [zbjz, simprocAttr, *]
   ·replace h := zbnb M (by omega) j (by omega) _ _ _ _ _ _ _ _ _ _ _ _ _ _ _ _ _ _ _ _ _ _ _ h R hR
    simp only [zbjz, simprocAttr, *]
 ·cases h; subst hR; simp only [zbjz, simprocAttr, *]
theorem zbj1 (q : Nat) (zbnb : zbjy q) : zbjy (q + 1) := by
 intro M hM j hj v89z v89l v90 v91 h0_0 h0_1 h0_2z h0_2l h0_3 h0_4 h0_5z h0_5l h2_0 h2_1 h2_2 h2_3 h2_5 h2_6 h3z h3l h3x h4l r h R hR fr H hc
 obtain ⟨j, rfl⟩ : ∃ i, j = i + 1 := ⟨j - 1, by omega⟩
 rw [zhn, hc]; clear hc
 rw [zkb] at h
 replace h := br h; rcases h with ⟨h1, h⟩ | ⟨h1, h⟩
 ·replace h := bn h; obtain ⟨h2, h⟩ := h
  replace h := ob h; obtain ⟨e10, h3, h⟩ := h
  replace h := ob h; obtain ⟨r11, h4, h⟩ := h
  replace h4 := zbjf q (M + 7) (by omega) _ _ _ h4
  try simp only [kf, simprocAttr] at h4
  replace h := br h; rcases h with ⟨h5, h⟩ | ⟨h5, h⟩
  ·replace h := bn h; obtain ⟨h6, h⟩ := h
   replace h := zbnb M (by omega) j (by omega) _ _ _ _ _ _ _ _ _ _ _ _ _ _ _ _ _ _ _ _ _ _ _ h R hR
   simp only [zbjz, simprocAttr, *]
  ·replace h := bn h; obtain ⟨h7, h⟩ := h
   replace h := ob h; obtain ⟨e12, h8, h⟩ := h
   replace h := br h; rcases h with ⟨h9, h⟩ | ⟨h9, h⟩
   ·replace h := br h; rcases h with ⟨h10, h⟩ | ⟨h10, h⟩
    ·replace h := br h; rcases h with ⟨h11, h⟩ | ⟨h11, h⟩
     ·replace h := zbnb M (by omega) j (by omega) _ _ _ _ _ _ _ _ _ _ _ _ _ _ _ _ _ _ _ _ _ _ _ h R hR
      simp only [zbjz, simprocAttr, *]
     ·replace h := bn h; obtain ⟨h12, h⟩ := h
      replace h := zbnb M (by omega) j (by omega) _ _ _ _ _ _ _ _ _ _ _ _ _ _ _ _ _ _ _ _ _ _ _ h R hR
      simp only [zbjz, simprocAttr, *]
    ·replace h := bn h; obtain ⟨h13, h⟩ := h
     replace h := zbnb M (by omega) j (by omega) _ _ _ _ _ _ _ _ _ _ _ _ _ _ _ _ _ _ _ _ _ _ _ h R hR
     simp only [zbjz, simprocAttr, *]
   ·replace h := bn h; obtain ⟨h14, h⟩ := h
    replace h := zbnb M (by omega) j (by omega) _ _ _ _ _ _ _ _ _ _ _ _ _ _ _ _ _ _ _ _ _ _ _ h R hR
    simp only [zbjz, simprocAttr, *]
 ·cases h; subst hR; simp only [zbjz, simprocAttr, *]
theorem zbj2 : ∀ q, zbjx q ∧ zbjy q
 | 0 => by refine ⟨?_, ?_⟩ <;> (intro M hM j hj; intros; rename_i h _ _ _ _ _; cases h)
 | q + 1 => by have ⟨i0, i1⟩ := zbj2 q; exact ⟨zbj0 q i0 i1, zbj1 q i1⟩
theorem zbj3 : ∀ (q N : Nat), 8 * q ≤ N → ∀ (a0 a1 : zjl), ∀ (r : zjm × Int), zkd q a0 a1 = some r → (orc T N).deep F.zkd [zjl.enc a0, zjl.enc a1] = some [zjm.enc r.1, (V.int .i64) r.2] := by
 intro q N hM a0 a1 r h
 rcases q with _ | q
 ·cases h
 obtain ⟨M, rfl⟩ : ∃ M, N = M + 8 := ⟨N - 8, by omega⟩
 have zbna := (zbj2 q).1
 generalize hR : some [zjm.enc r.1, (V.int .i64) r.2] = R
 rw [zhw, z8w, y6, zhu zo3 rfl]
 rw [zkd] at h
 replace h := ob h; obtain ⟨r1, h1, h⟩ := h
 replace h1 := zbi8 q (M + 7) (by omega) _ _ h1
 try simp only [kf, simprocAttr] at h1
 replace h := bb h; rcases h with ⟨h2', h2, h⟩ | ⟨h2', h2, h⟩
 ·replace h := ob h; obtain ⟨r2, h3, h⟩ := h
  replace h3 := zbi8 q (M + 7) (by omega) _ _ h3
  try simp only [kf, simprocAttr] at h3
  replace h := bb h; rcases h with ⟨h4', h4, h⟩ | ⟨h4', h4, h⟩
  ·replace h := br h; rcases h with ⟨h5, h⟩ | ⟨h5, h⟩
   ·replace h := br h; rcases h with ⟨h6, h⟩ | ⟨h6, h⟩
    ·cases h; subst hR; simp only [zbjz, simprocAttr, *]
    ·replace h := ob h; obtain ⟨r3, h7, h⟩ := h
     replace h7 := zbjw q M (by omega) _ _ _ _ _ _ _ _ _ _ _ _ _ _ _ _ _ _ _ h7
     try simp only [kf, simprocAttr] at h7
     replace h := br h; rcases h with ⟨h8, h⟩ | ⟨h8, h⟩
     ·cases h; subst hR; simp only [zbjz, simprocAttr, *]
     ·replace h := ob h; obtain ⟨r4, h9, h⟩ := h
      replace h9 := zbjk q (M + 7) (by omega) _ _ _ h9
      try simp only [kf, simprocAttr] at h9
      replace h := bn h; obtain ⟨h10, h⟩ := h
      replace h := bn h; obtain ⟨h11, h⟩ := h
      replace h := bn h; obtain ⟨h12, h⟩ := h
      replace h := ob h; obtain ⟨r5, h13, h⟩ := h
      replace h13 := zbjp q (M + 7) (by omega) _ _ _ h13
      try simp only [kf, simprocAttr] at h13
      replace h := bn h; obtain ⟨h14, h⟩ := h
      replace h := bn h; obtain ⟨h15, h⟩ := h
      replace h := ob h; obtain ⟨r6, h16, h⟩ := h
      replace h16 := zbjr q (M + 7) (by omega) _ _ h16
      try simp only [kf, simprocAttr] at h16
      replace h := zbna M (by omega) (M + 7) (by omega) _ _ _ _ _ _ _ _ _ _ _ _ _ _ _ _ _ _ _ _ _ _ h R hR
      simp only [zbjz, simprocAttr, *]
   ·cases h; subst hR; simp only [zbjz, simprocAttr, *]
  ·cases h; subst hR; simp only [zbjz, simprocAttr, *]
 ·cases h; subst hR; simp only [zbjz, simprocAttr, *]
def zbj4 (q : Nat) : Prop := ∀ (M : Nat) (hM : 8 * q ≤ M) (j : Nat) (hj : q ≤ j) (v0z : Bool) (v0l : List (Sl Int)) (v3 : Int) (v9z : Bool) (v9l : List (Sl Int)) (v10 v11 : Int) (r : (Ow Int)) (_ : zkh q v0z v0l v3 v9z v9l v10 v11 = some r) (R : Option (List V)) (_ : some [(Ow.enc 1 (V.int .i64)) r] = R) (fr : Fr) (H : Hp) (_ : canon 0 [0, 3, 9, 10, 11] fr H = ([(0, (.sl v0z (List.map (Sl.enc (V.int .i64)) v0l))), (3, (.int .i64 v3)), (9, (.sl v9z (List.map (Sl.enc (V.int .i64)) v9l))), (10, (.int .i64 v10)), (11, (.int .i64 v11))], [])), fin ztg (unw T (orc T (M + 7)) (M + 7) 0 [.blk 0, .code ztc] (iter 0 [0, 3, 9, 10, 11] (exec T (orc T (M + 7)) (M + 7) 0 zsv) j fr H)) = R
def zbj5 (q : Nat) : Prop := ∀ (M : Nat) (hM : 8 * q ≤ M) (j : Nat) (hj : q ≤ j) (v6len : Nat) (v25z : Bool) (v25l : List (Sl Int)) (v26 v27 : Int) (h0z : Bool) (h0l : List Int) (r : (Ow Int)) (_ : zke q v6len v25z v25l v26 v27 h0z h0l = some r) (R : Option (List V)) (_ : some [(Ow.enc 1 (V.int .i64)) r] = R) (fr : Fr) (H : Hp) (_ : canon 0 [6, 25, 26, 27] fr H = ([(6, (.vw 0 0 0 v6len 0)), (25, (.sl v25z (List.map (Sl.enc (V.int .i64)) v25l))), (26, (.int .i64 v26)), (27, (.int .i64 v27))], [(.row 0 h0z 1 (List.map (V.int .i64) h0l) true)])), fin ztg (unw T (orc T (M + 7)) (M + 7) 0 [.blk 2, .code zta] (iter 0 [6, 25, 26, 27] (exec T (orc T (M + 7)) (M + 7) 0 zs7) j fr H)) = R
def zbj6 (q : Nat) : Prop := ∀ (M : Nat) (hM : 8 * q ≤ M) (j : Nat) (hj : q ≤ j) (v25z : Bool) (v25l : List (Sl Int)) (v26 : Int) (r : (Ow Int)) (_ : zkg q v25z v25l v26 = some r) (R : Option (List V)) (_ : some [(Ow.enc 1 (V.int .i64)) r] = R) (fr : Fr) (H : Hp) (_ : canon 0 [6, 25, 26, 27] fr H = ([(6, (.sl true [])), (25, (.sl v25z (List.map (Sl.enc (V.int .i64)) v25l))), (26, (.int .i64 v26)), (27, (.int .i64 0))], [])), fin ztg (unw T (orc T (M + 7)) (M + 7) 0 [.blk 2, .code zta] (iter 0 [6, 25, 26, 27] (exec T (orc T (M + 7)) (M + 7) 0 zs7) j fr H)) = R
def zbj7 (q : Nat) : Prop := ∀ (M : Nat) (hM : 8 * q ≤ M) (j : Nat) (hj : q ≤ j) (v25z : Bool) (v25l : List (Sl Int)) (v26 v27 : Int) (h0z : Bool) (h0l : List Int) (r : (Ow Int)) (_ : zkf q v25z v25l v26 v27 h0z h0l = some r) (R : Option (List V)) (_ : some [(Ow.enc 1 (V.int .i64)) r] = R) (fr : Fr) (H : Hp) (_ : canon 0 [6, 25, 26, 27] fr H = ([(6, (.vw 0 0 0 h0l.length 1)), (25, (.sl v25z (List.map (Sl.enc (V.int .i64)) v25l))), (26, (.int .i64 v26)), (27, (.int .i64 v27))], [(.row 0 h0z 1 (List.map (V.int .i64) h0l) true)])), fin ztg (unw T (orc T (M + 7)) (M + 7) 0 [.blk 2, .code zta] (iter 0 [6, 25, 26, 27] (exec T (orc T (M + 7)) (M + 7) 0 zs7) j fr H)) = R
def zbj8 := And.intro @kk <| And.intro @ke <| And.intro @kn <| And.intro @zbca <| And.intro @zbed <| And.intro @zbee <| And.intro @zbef <| @zbcc
theorem zbj9 (q : Nat) (zbnc : zbj4 q) (zbnd : zbj5 q) (zbne : zbj6 q) : zbj4 (q + 1) := by
 intro M hM j hj v0z v0l v3 v9z v9l v10 v11 r h R hR fr H hc
 obtain ⟨j, rfl⟩ : ∃ i, j = i + 1 := ⟨j - 1, by omega⟩
 rw [zhn, hc]; clear hc
 rw [zkh] at h
 replace h := br h; rcases h with ⟨h1, h⟩ | ⟨h1, h⟩
 ·replace h := bn h; obtain ⟨h2, h⟩ := h
  replace h := ob h; obtain ⟨e1, h3, h⟩ := h
  replace h := bm h; obtain ⟨h4, h⟩ := h
  replace h := zbnc M (by omega) j (by omega) _ _ _ _ _ _ _ _ h R hR
  simp only [zbj8, simprocAttr, *]
 ·replace h := bm h; obtain ⟨h5, h⟩ := h
  replace h := br h; rcases h with ⟨h6, h⟩ | ⟨h6, h⟩
  ·replace h := bn h; obtain ⟨h7, h⟩ := h
   replace h := bn h; obtain ⟨h8, h⟩ := h
   replace h := bm h; obtain ⟨h9, h⟩ := h
   replace h := zbnd M (by omega) (M + 7) (by omega) _ _ _ _ _ _ _ _ h R hR
   simp only [zbj8, simprocAttr, *]
  ·replace h := zbne M (by omega) (M + 7) (by omega) _ _ _ _ h R hR
   simp only [zbj8, simprocAttr, *]
theorem zbka (q : Nat) (zbnd : zbj5 q) : zbj5 (q + 1) := by
 intro M hM j hj v6len v25z v25l v26 v27 h0z h0l r h R hR fr H hc
 obtain ⟨j, rfl⟩ : ∃ i, j = i + 1 := ⟨j - 1, by omega⟩
 rw [zhn, hc]; clear hc
 rw [zke] at h
 replace h := br h; rcases h with ⟨h1, h⟩ | ⟨h1, h⟩
 ·replace h := bn h; obtain ⟨h2, h⟩ := h
  replace h := ob h; obtain ⟨e2, h3, h⟩ := h
  replace h := bn h; obtain ⟨h4, h⟩ := h
  replace h := zbnd M (by omega) j (by omega) _ _ _ _ _ _ _ _ h R hR
  simp only [zbj8, simprocAttr, *]
 ·cases h; subst hR; simp only [zbj8, simprocAttr, *]
theorem zbkb (q : Nat) (zbnf : zbj7 q) : zbj6 (q + 1) := by
 intro M hM j hj v25z v25l v26 r h R hR fr H hc
 obtain ⟨j, rfl⟩ : ∃ i, j = i + 1 := ⟨j - 1, by omega⟩
 rw [zhn, hc]; clear hc
 rw [zkg] at h
 replace h := br h; rcases h with ⟨h1, h⟩ | ⟨h1, h⟩
 ·replace h := ob h; obtain ⟨e3, h2, h⟩ := h
  replace h := bn h; obtain ⟨h3, h⟩ := h
  replace h := zbnf M (by omega) j (by omega) _ _ _ _ _ _ _ h R hR
  simp only [zbj8, simprocAttr, *]
 ·cases h; subst hR; simp only [zbj8, simprocAttr, *]
theorem zbkc (q : Nat) (zbnf : zbj7 q) : zbj7 (q + 1) := by
 intro M hM j hj v25z v25l v26 v27 h0z h0l r h R hR fr H hc
 obtain ⟨j, rfl⟩ : ∃ i, j = i + 1 := ⟨j - 1, by omega⟩
 rw [zhn, hc]; clear hc
 rw [zkf] at h
 replace h := br h; rcases h with ⟨h1, h⟩ | ⟨h1, h⟩
 ·replace h := bn h; obtain ⟨h2, h⟩ := h
  replace h := ob h; obtain ⟨e4, h3, h⟩ := h
  replace h := bn h; obtain ⟨h4, h⟩ := h
  replace h := zbnf M (by omega) j (by omega) _ _ _ _ _ _ _ h R hR
  simp only [zbj8, simprocAttr, *]
 ·cases h; subst hR; simp only [zbj8, simprocAttr, *]
theorem zbkd : ∀ q, zbj4 q ∧ zbj5 q ∧ zbj6 q ∧ zbj7 q
 | 0 => by refine ⟨?_, ?_, ?_, ?_⟩ <;> (intro M hM j hj; intros; rename_i h _ _ _ _ _; cases h)
 | q + 1 => by have ⟨i0, i1, i2, i3⟩ := zbkd q; exact ⟨zbj9 q i0 i1 i2, zbka q i1, zbkb q i3, zbkc q i3⟩
theorem zbke : ∀ (q N : Nat), 8 * q ≤ N → ∀ (a0 : (Sl (Sl Int))), ∀ (r : (Ow Int)), zki q a0 = some r → (orc T N).deep F.zki [(Sl.enc (Sl.enc (V.int .i64))) a0] = some [(Ow.enc 1 (V.int .i64)) r] := by
 intro q N hM a0 r h
 rcases q with _ | q
 ·cases h
 obtain ⟨M, rfl⟩ : ∃ M, N = M + 8 := ⟨N - 8, by omega⟩
 have zbnc := (zbkd q).1
 generalize hR : some [(Ow.enc 1 (V.int .i64)) r] = R
 rw [zhw, z9c, y6, zhu ztg rfl]
 rw [zki] at h
 replace h := zbnc M (by omega) (M + 7) (by omega) _ _ _ _ _ _ _ _ h R hR
 simp only [zbj8, simprocAttr, *]
def zbkf := And.intro @kk <| And.intro @ke <| And.intro @kn <| And.intro @zbc1 <| @zbc3
theorem zbkg : ∀ (q N : Nat), 8 * q ≤ N → ∀ (a0 : (Sl zjk)), ∀ (r : (Ow zjk)), zkj q a0 = some r → (orc T N).deep F.zkj [(Sl.enc zjk.enc) a0] = some [(Ow.enc 3 zjk.enc) r] := by
 intro q N hM a0 r h
 rcases q with _ | q
 ·cases h
 obtain ⟨M, rfl⟩ : ∃ M, N = M + 8 := ⟨N - 8, by omega⟩
 generalize hR : some [(Ow.enc 3 zjk.enc) r] = R
 rw [zhw, z9l, y6, zhu zwg rfl]
 rw [zkj] at h
 replace h := bb h; rcases h with ⟨h1', h1, h⟩ | ⟨h1', h1, h⟩
 ·cases h; subst hR; simp only [zbkf, simprocAttr, *]
 ·replace h := bn h; obtain ⟨h2, h⟩ := h
  cases h; subst hR; simp only [zbkf, simprocAttr, *]
def zbkh := And.intro @kk <| And.intro @ke <| And.intro @kn <| And.intro @zbdd <| @zbdf
theorem zbki : ∀ (q N : Nat), 8 * q ≤ N → ∀ (a0 : (Ow zjk)) (a1 : Int) (a2 : (Ow zjk)), ∀ (r : (Ow zjk)), zkk q a0 a1 a2 = some r → (orc T N).deep F.zkk [(Ow.enc 3 zjk.enc) a0, (V.int .i64) a1, (Ow.enc 3 zjk.enc) a2] = some [(Ow.enc 3 zjk.enc) r] := by
 intro q N hM a0 a1 a2 r h
 rcases q with _ | q
 ·cases h
 obtain ⟨M, rfl⟩ : ∃ M, N = M + 8 := ⟨N - 8, by omega⟩
 generalize hR : some [(Ow.enc 3 zjk.enc) r] = R
 rw [zhw, z9p, y6, zhu zxk rfl]
 rw [zkk] at h
 replace h := bn h; obtain ⟨h1, h⟩ := h
 replace h := bn h; obtain ⟨h2, h⟩ := h
 replace h := br h; rcases h with ⟨h3, h⟩ | ⟨h3, h⟩
 ·cases h; subst hR; simp only [zbkh, simprocAttr, *]
 ·replace h := bn h; obtain ⟨h4, h⟩ := h
  replace h := bn h; obtain ⟨h5, h⟩ := h
  cases h; subst hR; simp only [zbkh, simprocAttr, *]
def zbkj (q : Nat) : Prop := ∀ (M : Nat) (hM : 8 * q ≤ M) (j : Nat) (hj : q ≤ j) (w1 : Nat) (v7 v8 h0_0 h0_1 h0_2 h0_3 h0_4 h0_5 h0_6 : Int) (h1z : Bool) (h1l : List zjk) (h1x : Bool) (r : Int) (_ : zkl q v7 v8 h0_0 h0_1 h0_2 h0_3 h0_4 h0_5 h0_6 h1z h1l h1x = some r) (R : Option (List V × Hp)) (_ : (some ([(.int .i64 r)], [(.box [(.int .i64 h0_0), (.int .i64 h0_1), (.int .i64 h0_2), (.int .i64 h0_3), (.int .i64 h0_4), (.int .i64 h0_5), (.int .i64 h0_6)]), (.row w1 h1z 3 (List.map zjk.enc h1l) h1x)]) : Option (List V × Hp)) = R) (fr : Fr) (H : Hp) (_ : canon 2 [0, 1, 7, 8] fr H = ([(0, (.vw 1 w1 0 h1l.length 1)), (1, (.fn F.znn [(.ptr 0 0)])), (7, (.int .i64 v7)), (8, (.int .i64 v8))], [(.box [(.int .i64 h0_0), (.int .i64 h0_1), (.int .i64 h0_2), (.int .i64 h0_3), (.int .i64 h0_4), (.int .i64 h0_5), (.int .i64 h0_6)]), (.row w1 h1z 3 (List.map zjk.enc h1l) h1x)])), finI 2 false [.tmp 4] (unw T (orc T (M + 5)) (M + 5) 2 [.blk 0, .code zwp] (iter 2 [0, 1, 7, 8] (exec T (orc T (M + 5)) (M + 5) 2 zwm) j fr H)) = R
def zbkk := And.intro @kk <| And.intro @ke <| And.intro @kn <| And.intro @zbc4 <| And.intro @zbc7 <| And.intro @zbc5 <| @zbc6
theorem zbkl (q : Nat) (zbng : zbkj q) : zbkj (q + 1) := by
 intro M hM j hj w1 v7 v8 h0_0 h0_1 h0_2 h0_3 h0_4 h0_5 h0_6 h1z h1l h1x r h R hR fr H hc
 obtain ⟨j, rfl⟩ : ∃ i, j = i + 1 := ⟨j - 1, by omega⟩
 rw [zhn, hc]; clear hc
 rw [zkl] at h
 replace h := br h; rcases h with ⟨h1, h⟩ | ⟨h1, h⟩
 ·replace h := bn h; obtain ⟨h2, h⟩ := h
  replace h := bn h; obtain ⟨h3, h⟩ := h
  replace h := ob h; obtain ⟨e1, h4, h⟩ := h
  replace h := br h; rcases h with ⟨h5, h⟩ | ⟨h5, h⟩
  ·cases h; subst hR; simp only [zbkk, simprocAttr, *]
  ·replace h := zbng M (by omega) j (by omega) w1 _ _ _ _ _ _ _ _ _ _ _ _ _ h R hR
   simp only [zbkk, simprocAttr, *]
 ·cases h; subst hR; simp only [zbkk, simprocAttr, *]
theorem zbkm : ∀ q, zbkj q
 | 0 => by intro M hM j hj; intros; rename_i h _ _ _ _ _; cases h
 | q + 1 => by have i0 := zbkm q; exact zbkl q i0
theorem zbkn : ∀ (q M : Nat), 8 * q ≤ M → ∀ (w1 : Nat), ∀ (h0_0 h0_1 h0_2 h0_3 h0_4 h0_5 h0_6 : Int), ∀ (h1z : Bool), ∀ (h1l : List zjk), ∀ (h1x : Bool), ∀ (r : Int), zkm q h0_0 h0_1 h0_2 h0_3 h0_4 h0_5 h0_6 h1z h1l h1x = some r → (orc T (M + 6)).inl F.zno [(.vw 1 w1 0 h1l.length 1), (.fn F.znn [(.ptr 0 0)])] [(.box [(.int .i64 h0_0), (.int .i64 h0_1), (.int .i64 h0_2), (.int .i64 h0_3), (.int .i64 h0_4), (.int .i64 h0_5), (.int .i64 h0_6)]), (.row w1 h1z 3 (List.map zjk.enc h1l) h1x)] = (some ([(.int .i64 r)], [(.box [(.int .i64 h0_0), (.int .i64 h0_1), (.int .i64 h0_2), (.int .i64 h0_3), (.int .i64 h0_4), (.int .i64 h0_5), (.int .i64 h0_6)]), (.row w1 h1z 3 (List.map zjk.enc h1l) h1x)]) : Option (List V × Hp)) := by
 intro q M hM w1 h0_0 h0_1 h0_2 h0_3 h0_4 h0_5 h0_6 h1z h1l h1x r h
 rcases q with _ | q
 ·cases h
 have zbng := (zbkm q)
 generalize hR : (some ([(.int .i64 r)], [(.box [(.int .i64 h0_0), (.int .i64 h0_1), (.int .i64 h0_2), (.int .i64 h0_3), (.int .i64 h0_4), (.int .i64 h0_5), (.int .i64 h0_6)]), (.row w1 h1z 3 (List.map zjk.enc h1l) h1x)]) : Option (List V × Hp)) = R
 rw [zbc9 (n := M + 5)]
 rw [zkm] at h
 replace h := zbng M (by omega) (M + 5) (by omega) w1 _ _ _ _ _ _ _ _ _ _ _ _ _ h R hR
 simp only [zbkk, simprocAttr, *]
def zbko (q : Nat) : Prop := ∀ (M : Nat) (hM : 8 * q ≤ M) (j : Nat) (hj : q ≤ j) (w1 : Nat) (v5 v6 h0_0 h0_1 h0_2 h0_3 h0_4 h0_5 h0_6 : Int) (h1z : Bool) (h1l : List zjk) (h1x : Bool) (r : Nat × (List zjk) × Bool) (_ : zkn q v5 v6 h0_0 h0_1 h0_2 h0_3 h0_4 h0_5 h0_6 h1z h1l h1x = some r) (R : Option (List V × Hp)) (_ : (some ([(.vw 1 w1 0 r.1 0)], [(.box [(.int .i64 h0_0), (.int .i64 h0_1), (.int .i64 h0_2), (.int .i64 h0_3), (.int .i64 h0_4), (.int .i64 h0_5), (.int .i64 h0_6)]), (.row w1 h1z 3 (List.map zjk.enc r.2.1) r.2.2)]) : Option (List V × Hp)) = R) (fr : Fr) (H : Hp) (_ : canon 2 [0, 1, 5, 6] fr H = ([(0, (.vw 1 w1 0 h1l.length 1)), (1, (.fn F.znn [(.ptr 0 0)])), (5, (.int .i64 v5)), (6, (.int .i64 v6))], [(.box [(.int .i64 h0_0), (.int .i64 h0_1), (.int .i64 h0_2), (.int .i64 h0_3), (.int .i64 h0_4), (.int .i64 h0_5), (.int .i64 h0_6)]), (.row w1 h1z 3 (List.map zjk.enc h1l) h1x)])), finI 2 true [.tmp 4] (unw T (orc T (M + 6)) (M + 6) 2 [.blk 0, .code zv9] (iter 2 [0, 1, 5, 6] (exec T (orc T (M + 6)) (M + 6) 2 zv4) j fr H)) = R
def zbkp := And.intro @kk <| And.intro @ke <| And.intro @kn <| And.intro @zbcy <| And.intro @zbc4 <| And.intro @zbc8 <| And.intro @zbc5 <| @zbc6
theorem zbkq (q : Nat) (zbnh : zbko q) : zbko (q + 1) := by
 intro M hM j hj w1 v5 v6 h0_0 h0_1 h0_2 h0_3 h0_4 h0_5 h0_6 h1z h1l h1x r h R hR fr H hc
 obtain ⟨j, rfl⟩ : ∃ i, j = i + 1 := ⟨j - 1, by omega⟩
 rw [zhn, hc]; clear hc
 rw [zkn] at h
 replace h := br h; rcases h with ⟨h1, h⟩ | ⟨h1, h⟩
 ·replace h := bn h; obtain ⟨h2, h⟩ := h
  replace h := bn h; obtain ⟨h3, h⟩ := h
  replace h := ob h; obtain ⟨e2, h4, h⟩ := h
  replace h := br h; rcases h with ⟨h5, h⟩ | ⟨h5, h⟩
  ·replace h := zbnh M (by omega) j (by omega) w1 _ _ _ _ _ _ _ _ _ _ _ _ _ h R hR
   simp only [zbkp, simprocAttr, *]
  ·replace h := bn h; obtain ⟨h6, h⟩ := h
   replace h := bn h; obtain ⟨h7, h⟩ := h
   replace h := ob h; obtain ⟨e3, h8, h⟩ := h
   replace h := bb h; rcases h with ⟨h9', h9, h⟩ | ⟨h9', h9, h⟩
   ·replace h := zbnh M (by omega) j (by omega) w1 _ _ _ _ _ _ _ _ _ _ _ _ _ h R hR
    simp only [zbkp, simprocAttr, *]
   ·cases h
 ·replace h := bn h; obtain ⟨h10, h⟩ := h
  replace h := bn h; obtain ⟨h11, h⟩ := h
  replace h := bb h; rcases h with ⟨h12', h12, h⟩ | ⟨h12', h12, h⟩
  ·replace h := bn h; obtain ⟨h13, h⟩ := h
   replace h := bb h; rcases h with ⟨h14', h14, h⟩ | ⟨h14', h14, h⟩
   ·cases h; subst hR; simp only [zbkp, simprocAttr, *]
   ·cases h; subst hR; simp only [zbkp, simprocAttr, *]
  ·cases h
theorem zbkr : ∀ q, zbko q
 | 0 => by intro M hM j hj; intros; rename_i h _ _ _ _ _; cases h
 | q + 1 => by have i0 := zbkr q; exact zbkq q i0
theorem zbks : ∀ (q M : Nat), 8 * q ≤ M → ∀ (w1 : Nat), ∀ (h0_0 h0_1 h0_2 h0_3 h0_4 h0_5 h0_6 : Int), ∀ (h1z : Bool), ∀ (h1l : List zjk), ∀ (h1x : Bool), ∀ (r : Nat × (List zjk) × Bool), zko q h0_0 h0_1 h0_2 h0_3 h0_4 h0_5 h0_6 h1z h1l h1x = some r → (orc T (M + 7)).inl F.znm [(.vw 1 w1 0 h1l.length 1), (.fn F.znn [(.ptr 0 0)])] [(.box [(.int .i64 h0_0), (.int .i64 h0_1), (.int .i64 h0_2), (.int .i64 h0_3), (.int .i64 h0_4), (.int .i64 h0_5), (.int .i64 h0_6)]), (.row w1 h1z 3 (List.map zjk.enc h1l) h1x)] = (some ([(.vw 1 w1 0 r.1 0)], [(.box [(.int .i64 h0_0), (.int .i64 h0_1), (.int .i64 h0_2), (.int .i64 h0_3), (.int .i64 h0_4), (.int .i64 h0_5), (.int .i64 h0_6)]), (.row w1 h1z 3 (List.map zjk.enc r.2.1) r.2.2)]) : Option (List V × Hp)) := by
 intro q M hM w1 h0_0 h0_1 h0_2 h0_3 h0_4 h0_5 h0_6 h1z h1l h1x r h
 rcases q with _ | q
 ·cases h
 have zbnh := (zbkr q)
 generalize hR : (some ([(.vw 1 w1 0 r.1 0)], [(.box [(.int .i64 h0_0), (.int .i64 h0_1), (.int .i64 h0_2), (.int .i64 h0_3), (.int .i64 h0_4), (.int .i64 h0_5), (.int .i64 h0_6)]), (.row w1 h1z 3 (List.map zjk.enc r.2.1) r.2.2)]) : Option (List V × Hp)) = R
 rw [zbc0 (n := M + 6)]
 rw [zko] at h
 replace h := ob h; obtain ⟨r1, h1, h⟩ := h
 replace h1 := zbkn q M (by omega) w1 _ _ _ _ _ _ _ _ _ _ _ h1
 try simp only [kf, simprocAttr] at h1
 replace h := br h; rcases h with ⟨h2, h⟩ | ⟨h2, h⟩
 ·cases h; subst hR; simp only [zbkp, simprocAttr, *]
 ·replace h := zbnh M (by omega) (M + 6) (by omega) w1 _ _ _ _ _ _ _ _ _ _ _ _ _ h R hR
  simp only [zbkp, simprocAttr, *]
def zbkt (q : Nat) : Prop := ∀ (M : Nat) (hM : 8 * q ≤ M) (j : Nat) (hj : q ≤ j) (w1 v0len : Nat) (v7 v8 h0_0 h0_1 h0_2 h0_3 h0_4 h0_5 h0_6 : Int) (h1z : Bool) (h1l : List zjk) (h1x : Bool) (r : Int) (_ : zkp q v0len v7 v8 h0_0 h0_1 h0_2 h0_3 h0_4 h0_5 h0_6 h1z h1l h1x = some r) (R : Option (List V × Hp)) (_ : (some ([(.int .i64 r)], [(.box [(.int .i64 h0_0), (.int .i64 h0_1), (.int .i64 h0_2), (.int .i64 h0_3), (.int .i64 h0_4), (.int .i64 h0_5), (.int .i64 h0_6)]), (.row w1 h1z 3 (List.map zjk.enc h1l) h1x)]) : Option (List V × Hp)) = R) (fr : Fr) (H : Hp) (_ : canon 2 [0, 1, 7, 8] fr H = ([(0, (.vw 1 w1 0 v0len 0)), (1, (.fn F.znp [(.ptr 0 0)])), (7, (.int .i64 v7)), (8, (.int .i64 v8))], [(.box [(.int .i64 h0_0), (.int .i64 h0_1), (.int .i64 h0_2), (.int .i64 h0_3), (.int .i64 h0_4), (.int .i64 h0_5), (.int .i64 h0_6)]), (.row w1 h1z 3 (List.map zjk.enc h1l) h1x)])), finI 2 false [.tmp 4] (unw T (orc T (M + 6)) (M + 6) 2 [.blk 0, .code zwp] (iter 2 [0, 1, 7, 8] (exec T (orc T (M + 6)) (M + 6) 2 zwm) j fr H)) = R
def zbku := And.intro @kk <| And.intro @ke <| And.intro @kn <| And.intro @zbc7 <| And.intro @zbda <| And.intro @zbdb <| @zbdc
theorem zbkv (q : Nat) (zbni : zbkt q) : zbkt (q + 1) := by
 intro M hM j hj w1 v0len v7 v8 h0_0 h0_1 h0_2 h0_3 h0_4 h0_5 h0_6 h1z h1l h1x r h R hR fr H hc
 obtain ⟨j, rfl⟩ : ∃ i, j = i + 1 := ⟨j - 1, by omega⟩
 rw [zhn, hc]; clear hc
 rw [zkp] at h
 replace h := br h; rcases h with ⟨h1, h⟩ | ⟨h1, h⟩
 ·replace h := bn h; obtain ⟨h2, h⟩ := h
  replace h := bn h; obtain ⟨h3, h⟩ := h
  replace h := ob h; obtain ⟨e1, h4, h⟩ := h
  replace h := br h; rcases h with ⟨h5, h⟩ | ⟨h5, h⟩
  ·cases h; subst hR; simp only [zbku, simprocAttr, *]
  ·replace h := zbni M (by omega) j (by omega) w1 _ _ _ _ _ _ _ _ _ _ _ _ _ _ h R hR
   simp only [zbku, simprocAttr, *]
 ·cases h; subst hR; simp only [zbku, simprocAttr, *]
theorem zbkw : ∀ q, zbkt q
 | 0 => by intro M hM j hj; intros; rename_i h _ _ _ _ _; cases h
 | q + 1 => by have i0 := zbkw q; exact zbkv q i0
theorem zbkx : ∀ (q M : Nat), 8 * q ≤ M → ∀ (w1 v0len : Nat), ∀ (h0_0 h0_1 h0_2 h0_3 h0_4 h0_5 h0_6 : Int), ∀ (h1z : Bool), ∀ (h1l : List zjk), ∀ (h1x : Bool), ∀ (r : Int), zkq q v0len h0_0 h0_1 h0_2 h0_3 h0_4 h0_5 h0_6 h1z h1l h1x = some r → (orc T (M + 7)).inl F.zno [(.vw 1 w1 0 v0len 0), (.fn F.znp [(.ptr 0 0)])] [(.box [(.int .i64 h0_0), (.int .i64 h0_1), (.int .i64 h0_2), (.int .i64 h0_3), (.int .i64 h0_4), (.int .i64 h0_5), (.int .i64 h0_6)]), (.row w1 h1z 3 (List.map zjk.enc h1l) h1x)] = (some ([(.int .i64 r)], [(.box [(.int .i64 h0_0), (.int .i64 h0_1), (.int .i64 h0_2), (.int .i64 h0_3), (.int .i64 h0_4), (.int .i64 h0_5), (.int .i64 h0_6)]), (.row w1 h1z 3 (List.map zjk.enc h1l) h1x)]) : Option (List V × Hp)) := by
 intro q M hM w1 v0len h0_0 h0_1 h0_2 h0_3 h0_4 h0_5 h0_6 h1z h1l h1x r h
 rcases q with _ | q
 ·cases h
 have zbni := (zbkw q)
 generalize hR : (some ([(.int .i64 r)], [(.box [(.int .i64 h0_0), (.int .i64 h0_1), (.int .i64 h0_2), (.int .i64 h0_3), (.int .i64 h0_4), (.int .i64 h0_5), (.int .i64 h0_6)]), (.row w1 h1z 3 (List.map zjk.enc h1l) h1x)]) : Option (List V × Hp)) = R
 rw [zbc9 (n := M + 6)]
 rw [zkq] at h
 replace h := zbni M (by omega) (M + 6) (by omega) w1 _ _ _ _ _ _ _ _ _ _ _ _ _ _ h R hR
 simp only [zbku, simprocAttr, *]
def zbky := And.intro @kk <| And.intro @ke <| And.intro @kn <| And.intro @zbbg <| And.intro @zbcz <| And.intro @zbc2 <| And.intro @zbc8 <| And.intro @zbde <| @zbbi
theorem zbkz : ∀ (q N : Nat), 8 * q ≤ N → ∀ (a0 : (Sl zjk)) (a1 : zjo), ∀ (r : (Ow zjk)), zkr q a0 a1 = some r → (orc T N).deep F.zkr [(Sl.enc zjk.enc) a0, zjo.enc a1] = some [(Ow.enc 3 zjk.enc) r] := by
 intro q N hM a0 a1 r h
 rcases q with _ | q
 ·cases h
 obtain ⟨M, rfl⟩ : ∃ M, N = M + 8 := ⟨N - 8, by omega⟩
 generalize hR : some [(Ow.enc 3 zjk.enc) r] = R
 rw [zhw, z82, y6, zhu zrc rfl]
 rw [zkr] at h
 replace h := ob h; obtain ⟨r1, h1, h⟩ := h
 replace h1 := zbkg q (M + 7) (by omega) _ _ h1
 try simp only [kf, simprocAttr] at h1
 replace h := ob h; obtain ⟨r2, h2, h⟩ := h
 replace h2 := zbks q M (by omega) 0 _ _ _ _ _ _ _ _ _ _ _ h2
 try simp only [kf, simprocAttr] at h2
 replace h := ob h; obtain ⟨r3, h3, h⟩ := h
 replace h3 := zbkx q M (by omega) 0 _ _ _ _ _ _ _ _ _ _ _ _ h3
 try simp only [kf, simprocAttr] at h3
 replace h := br h; rcases h with ⟨h4, h⟩ | ⟨h4, h⟩
 ·replace h := bb h; rcases h with ⟨h5', h5, h⟩ | ⟨h5', h5, h⟩
  ·replace h := ob h; obtain ⟨r4, h6, h⟩ := h
   replace h6 := zbki q (M + 7) (by omega) _ _ _ _ h6
   try simp only [kf, simprocAttr] at h6
   cases h; subst hR; simp only [zbky, simprocAttr, *]
  ·cases h
 ·replace h := bb h; rcases h with ⟨h7', h7, h⟩ | ⟨h7', h7, h⟩
  ·replace h := ob h; obtain ⟨r5, h8, h⟩ := h
   replace h8 := zbki q (M + 7) (by omega) _ _ _ _ h8
   try simp only [kf, simprocAttr] at h8
   cases h; subst hR; simp only [zbky, simprocAttr, *]
  ·cases h
def zbk0 (q : Nat) : Prop := ∀ (M : Nat) (hM : 8 * q ≤ M) (j : Nat) (hj : q ≤ j) (v89z : Bool) (v89l : List zjk) (v90 h1_0 h1_1 : Int) (h1_3 : Bool) (h1_4 : Int) (h1_5z : Bool) (h1_5l : List zjk) (h2z : Bool) (h2l : List Int) (h2x : Bool) (r : zjl × Int) (_ : zkt q v89z v89l v90 h1_0 h1_1 h1_3 h1_4 h1_5z h1_5l h2z h2l h2x = some r) (R : Option (List V)) (_ : some [zjl.enc r.1, (V.int .i64) r.2] = R) (fr : Fr) (H : Hp) (_ : canon 0 [4, 7, 89, 90, 91] fr H = ([(4, (.ptr 0 0)), (7, (.ptr 1 0)), (89, (.sl v89z (List.map zjk.enc v89l))), (90, (.int .i64 v90)), (91, (.int .i64 0))], [(.box [(.int .i64 0), (.int .i64 0), (.sl true []), (.bool false), (.int .i64 0), (.sl true [])]), (.box [(.int .i64 h1_0), (.int .i64 h1_1), (.vw 2 0 0 h2l.length 1), (.bool h1_3), (.int .i64 h1_4), (.sl h1_5z (List.map zjk.enc h1_5l))]), (.row 0 h2z 1 (List.map (V.int .i64) h2l) h2x)])), fin zpu (unw T (orc T (M + 7)) (M + 7) 0 [.blk 1, .code zpn] (iter 0 [4, 7, 89, 90, 91] (exec T (orc T (M + 7)) (M + 7) 0 zpg) j fr H)) = R
def zbk1 (q : Nat) : Prop := ∀ (M : Nat) (hM : 8 * q ≤ M) (j : Nat) (hj : q ≤ j) (v89z : Bool) (v89l : List zjk) (v90 v91 h1_0 h1_1 : Int) (h1_3 : Bool) (h1_4 : Int) (h2z : Bool) (h2l : List Int) (h2x h3z : Bool) (h3l : List zjk) (h3x : Bool) (r : zjl × Int) (_ : zks q v89z v89l v90 v91 h1_0 h1_1 h1_3 h1_4 h2z h2l h2x h3z h3l h3x = some r) (R : Option (List V)) (_ : some [zjl.enc r.1, (V.int .i64) r.2] = R) (fr : Fr) (H : Hp) (_ : canon 0 [4, 7, 89, 90, 91] fr H = ([(4, (.ptr 0 0)), (7, (.ptr 1 0)), (89, (.sl v89z (List.map zjk.enc v89l))), (90, (.int .i64 v90)), (91, (.int .i64 v91))], [(.box [(.int .i64 0), (.int .i64 0), (.sl true []), (.bool false), (.int .i64 0), (.sl true [])]), (.box [(.int .i64 h1_0), (.int .i64 h1_1), (.vw 2 0 0 h2l.length 1), (.bool h1_3), (.int .i64 h1_4), (.vw 3 0 0 h3l.length 1)]), (.row 0 h2z 1 (List.map (V.int .i64) h2l) h2x), (.row 0 h3z 3 (List.map zjk.enc h3l) h3x)])), fin zpu (unw T (orc T (M + 7)) (M + 7) 0 [.blk 1, .code zpn] (iter 0 [4, 7, 89, 90, 91] (exec T (orc T (M + 7)) (M + 7) 0 zpg) j fr H)) = R
def zbk2 := And.intro @kk <| And.intro @ke <| And.intro @kn <| And.intro @zba4 <| And.intro @zba2 <| And.intro @zbbh <| And.intro @zbcb <| @zba6
theorem zbk3 (q : Nat) (zbnj : zbk1 q) : zbk0 (q + 1) := by
 intro M hM j hj v89z v89l v90 h1_0 h1_1 h1_3 h1_4 h1_5z h1_5l h2z h2l h2x r h R hR fr H hc
 obtain ⟨j, rfl⟩ : ∃ i, j = i + 1 := ⟨j - 1, by omega⟩
 rw [zhn, hc]; clear hc
 rw [zkt] at h
 replace h := br h; rcases h with ⟨h1, h⟩ | ⟨h1, h⟩
 ·replace h := ob h; obtain ⟨e3, h2, h⟩ := h
  replace h := ob h; obtain ⟨r4, h3, h⟩ := h
  replace h3 := zbkz q (M + 7) (by omega) _ _ _ h3
  try simp only [kf, simprocAttr] at h3
  replace h := zbnj M (by omega) j (by omega) _ _ _ _ _ _ _ _ _ _ _ _ _ _ _ h R hR
  simp only [zbk2, simprocAttr, *]
 ·replace h := ob h; obtain ⟨r5, h4, h⟩ := h
  replace h4 := zbi8 q (M + 7) (by omega) _ _ h4
  try simp only [kf, simprocAttr] at h4
  replace h := bb h; rcases h with ⟨h5', h5, h⟩ | ⟨h5', h5, h⟩
  ·cases h; subst hR; simp only [zbk2, simprocAttr, *]
  ·cases h; subst hR; simp only [zbk2, simprocAttr, *]
theorem zbk4 (q : Nat) (zbnj : zbk1 q) : zbk1 (q + 1) := by
 intro M hM j hj v89z v89l v90 v91 h1_0 h1_1 h1_3 h1_4 h2z h2l h2x h3z h3l h3x r h R hR fr H hc
 obtain ⟨j, rfl⟩ : ∃ i, j = i + 1 := ⟨j - 1, by omega⟩
 rw [zhn, hc]; clear hc
 rw [zks] at h
 replace h := br h; rcases h with ⟨h1, h⟩ | ⟨h1, h⟩
 ·replace h := bn h; obtain ⟨h2, h⟩ := h
  replace h := ob h; obtain ⟨e6, h3, h⟩ := h
  replace h := ob h; obtain ⟨r7, h4, h⟩ := h
  replace h4 := zbkz q (M + 7) (by omega) _ _ _ h4
  try simp only [kf, simprocAttr] at h4
  replace h := zbnj M (by omega) j (by omega) _ _ _ _ _ _ _ _ _ _ _ _ _ _ _ h R hR
  simp only [zbk2, simprocAttr, *]
 ·replace h := ob h; obtain ⟨r8, h5, h⟩ := h
  replace h5 := zbi8 q (M + 7) (by omega) _ _ h5
  try simp only [kf, simprocAttr] at h5
  replace h := bb h; rcases h with ⟨h6', h6, h⟩ | ⟨h6', h6, h⟩
  ·cases h; subst hR; simp only [zbk2, simprocAttr, *]
  ·cases h; subst hR; simp only [zbk2, simprocAttr, *]
theorem zbk5 : ∀ q, zbk0 q ∧ zbk1 q
 | 0 => by refine ⟨?_, ?_⟩ <;> (intro M hM j hj; intros; rename_i h _ _ _ _ _; cases h)
 | q + 1 => by have ⟨i0, i1⟩ := zbk5 q; exact ⟨zbk3 q i1, zbk4 q i1⟩
theorem zbk6 : ∀ (q N : Nat), 8 * q ≤ N → ∀ (a0 : zjl) (a1 : zjm), ∀ (r : zjl × Int), zku q a0 a1 = some r → (orc T N).deep F.zku [zjl.enc a0, zjm.enc a1] = some [zjl.enc r.1, (V.int .i64) r.2] := by
 intro q N hM a0 a1 r h
 rcases q with _ | q
 ·cases h
 obtain ⟨M, rfl⟩ : ∃ M, N = M + 8 := ⟨N - 8, by omega⟩
 have ih_delta_Apply_l0 := (zbk5 q).1
 generalize hR : some [zjl.enc r.1, (V.int .i64) r.2] = R
 rw [zhw, z8y, y6, zhu zpu rfl]
 rw [zku] at h
 replace h := ob h; obtain ⟨r1, h1, h⟩ := h
 replace h1 := zbi8 q (M + 7) (by omega) _ _ h1
 try simp only [kf, simprocAttr] at h1
 replace h := bb h; rcases h with ⟨h2', h2, h⟩ | ⟨h2', h2, h⟩
 ·replace h := br h; rcases h with ⟨h3, h⟩ | ⟨h3, h⟩
  ·cases h; subst hR; simp only [zbk2, simprocAttr, *]
  ·replace h := br h; rcases h with ⟨h4, h⟩ | ⟨h4, h⟩
   ·cases h; subst hR; simp only [zbk2, simprocAttr, *]
   ·replace h := br h; rcases h with ⟨h5, h⟩ | ⟨h5, h⟩
    ·cases h; subst hR; simp only [zbk2, simprocAttr, *]
    ·replace h := br h; rcases h with ⟨h6, h⟩ | ⟨h6, h⟩
     ·cases h; subst hR; simp only [zbk2, simprocAttr, *]
     ·replace h := br h; rcases h with ⟨h7, h⟩ | ⟨h7, h⟩
      ·replace h := br h; rcases h with ⟨h8, h⟩ | ⟨h8, h⟩
       ·cases h; subst hR; simp only [zbk2, simprocAttr, *]
       ·replace h := bn h; obtain ⟨h9, h⟩ := h
        replace h := bn h; obtain ⟨h10, h⟩ := h
        replace h := bn h; obtain ⟨h11, h⟩ := h
        replace h := bn h; obtain ⟨h12, h⟩ := h
        replace h := ob h; obtain ⟨r2, h13, h⟩ := h
        replace h13 := zbke q (M + 7) (by omega) _ _ h13
        try simp only [kf, simprocAttr] at h13
        replace h := ih_delta_Apply_l0 M (by omega) (M + 7) (by omega) _ _ _ _ _ _ _ _ _ _ _ _ _ h R hR
        simp only [zbk2, simprocAttr, *]
      ·cases h; subst hR; simp only [zbk2, simprocAttr, *]
 ·cases h; subst hR; simp only [zbk2, simprocAttr, *]
def zbk7 (q : Nat) : Prop := ∀ (M : Nat) (hM : 8 * q ≤ M) (j : Nat) (hj : q ≤ j) (v0z : Bool) (v0l : List Int) (v1z : Bool) (v1l : List Int) (v12 v13 : Int) (r : Bool) (_ : zkv q v0z v0l v1z v1l v12 v13 = some r) (R : Option (List V)) (_ : some [V.bool r] = R) (fr : Fr) (H : Hp) (_ : canon 0 [0, 1, 12, 13] fr H = ([(0, (.sl v0z (List.map (V.int .i64) v0l))), (1, (.sl v1z (List.map (V.int .i64) v1l))), (12, (.int .i64 v12)), (13, (.int .i64 v13))], [])), fin zxy (unw T (orc T (M + 7)) (M + 7) 0 [.blk 0, .code zxu] (iter 0 [0, 1, 12, 13] (exec T (orc T (M + 7)) (M + 7) 0 zxr) j fr H)) = R
def zbk8 := And.intro @kk <| And.intro @ke <| And.intro @kn <| And.intro @zbdg <| @zbdi
theorem zbk9 (q : Nat) (zbnk : zbk7 q) : zbk7 (q + 1) := by
 intro M hM j hj v0z v0l v1z v1l v12 v13 r h R hR fr H hc
 obtain ⟨j, rfl⟩ : ∃ i, j = i + 1 := ⟨j - 1, by omega⟩
 rw [zhn, hc]; clear hc
 rw [zkv] at h
 replace h := br h; rcases h with ⟨h1, h⟩ | ⟨h1, h⟩
 ·replace h := bn h; obtain ⟨h2, h⟩ := h
  replace h := ob h; obtain ⟨e1, h3, h⟩ := h
  replace h := ob h; obtain ⟨e2, h4, h⟩ := h
  replace h := br h; rcases h with ⟨h5, h⟩ | ⟨h5, h⟩
  ·replace h := zbnk M (by omega) j (by omega) _ _ _ _ _ _ _ h R hR
   simp only [zbk8, simprocAttr, *]
  ·cases h; subst hR; simp only [zbk8, simprocAttr, *]
 ·cases h; subst hR; simp only [zbk8, simprocAttr, *]
theorem zbla : ∀ q, zbk7 q
 | 0 => by intro M hM j hj; intros; rename_i h _ _ _ _ _; cases h
 | q + 1 => by have i0 := zbla q; exact zbk9 q i0
theorem zblb : ∀ (q N : Nat), 8 * q ≤ N → ∀ (a0 a1 : (Sl Int)), ∀ (r : Bool), zkw q a0 a1 = some r → (orc T N).deep F.zkw [(Sl.enc (V.int .i64)) a0, (Sl.enc (V.int .i64)) a1] = some [V.bool r] := by
 intro q N hM a0 a1 r h
 rcases q with _ | q
 ·cases h
 obtain ⟨M, rfl⟩ : ∃ M, N = M + 8 := ⟨N - 8, by omega⟩
 have zbnk := (zbla q)
 generalize hR : some [V.bool r] = R
 rw [zhw, z9q, y6, zhu zxy rfl]
 rw [zkw] at h
 replace h := br h; rcases h with ⟨h1, h⟩ | ⟨h1, h⟩
 ·replace h := zbnk M (by omega) (M + 7) (by omega) _ _ _ _ _ _ _ h R hR
  simp only [zbk8, simprocAttr, *]
 ·cases h; subst hR; simp only [zbk8, simprocAttr, *]
def zblc := And.intro @kk <| And.intro @ke <| And.intro @kn <| And.intro @zbbj <| And.intro @zbdh <| @zbbl
theorem zbld : ∀ (q N : Nat), 8 * q ≤ N → ∀ (a0 a1 : zjj), ∀ (r : Bool), zkx q a0 a1 = some r → (orc T N).deep F.zkx [zjj.enc a0, zjj.enc a1] = some [V.bool r] := by
 intro q N hM a0 a1 r h
 rcases q with _ | q
 ·cases h
 obtain ⟨M, rfl⟩ : ∃ M, N = M + 8 := ⟨N - 8, by omega⟩
 generalize hR : some [V.bool r] = R
 rw [zhw, z83, y6, zhu zre rfl]
 rw [zkx] at h
 replace h := br h; rcases h with ⟨h1, h⟩ | ⟨h1, h⟩
 ·replace h := bb h; rcases h with ⟨h2', h2, h⟩ | ⟨h2', h2, h⟩
  ·replace h := br h; rcases h with ⟨h3, h⟩ | ⟨h3, h⟩
   ·replace h := ob h; obtain ⟨r1, h4, h⟩ := h
    replace h4 := zblb q (M + 7) (by omega) _ _ _ h4
    try simp only [kf, simprocAttr] at h4
    cases h; subst hR; simp only [zblc, simprocAttr, *]
   ·cases h; subst hR; simp only [zblc, simprocAttr, *]
  ·cases h; subst hR; simp only [zblc, simprocAttr, *]
 ·cases h; subst hR; simp only [zblc, simprocAttr, *]
def zble (q : Nat) : Prop := ∀ (M : Nat) (hM : 8 * q ≤ M) (j : Nat) (hj : q ≤ j) (v0z : Bool) (v0l : List zjk) (v1z : Bool) (v1l : List zjk) (v12 v13 : Int) (r : Bool) (_ : zky q v0z v0l v1z v1l v12 v13 = some r) (R : Option (List V)) (_ : some [V.bool r] = R) (fr : Fr) (H : Hp) (_ : canon 0 [0, 1, 12, 13] fr H = ([(0, (.sl v0z (List.map zjk.enc v0l))), (1, (.sl v1z (List.map zjk.enc v1l))), (12, (.int .i64 v12)), (13, (.int .i64 v13))], [])), fin ztu (unw T (orc T (M + 7)) (M + 7) 0 [.blk 0, .code ztq] (iter 0 [0, 1, 12, 13] (exec T (orc T (M + 7)) (M + 7) 0 ztn) j fr H)) = R
def zblf := And.intro @kk <| And.intro @ke <| And.intro @kn <| And.intro @zbcd <| @zbcf
theorem zblg (q : Nat) (zbnl : zble q) : zble (q + 1) := by
 intro M hM j hj v0z v0l v1z v1l v12 v13 r h R hR fr H hc
 obtain ⟨j, rfl⟩ : ∃ i, j = i + 1 := ⟨j - 1, by omega⟩
 rw [zhn, hc]; clear hc
 rw [zky] at h
 replace h := br h; rcases h with ⟨h1, h⟩ | ⟨h1, h⟩
 ·replace h := bn h; obtain ⟨h2, h⟩ := h
  replace h := ob h; obtain ⟨e1, h3, h⟩ := h
  replace h := ob h; obtain ⟨e2, h4, h⟩ := h
  replace h := br h; rcases h with ⟨h5, h⟩ | ⟨h5, h⟩
  ·replace h := br h; rcases h with ⟨h6, h⟩ | ⟨h6, h⟩
   ·replace h := br h; rcases h with ⟨h7, h⟩ | ⟨h7, h⟩
    ·replace h := zbnl M (by omega) j (by omega) _ _ _ _ _ _ _ h R hR
     simp only [zblf, simprocAttr, *]
    ·cases h; subst hR; simp only [zblf, simprocAttr, *]
   ·cases h; subst hR; simp only [zblf, simprocAttr, *]
  ·cases h; subst hR; simp only [zblf, simprocAttr, *]
 ·cases h; subst hR; simp only [zblf, simprocAttr, *]
theorem zblh : ∀ q, zble q
 | 0 => by intro M hM j hj; intros; rename_i h _ _ _ _ _; cases h
 | q + 1 => by have i0 := zblh q; exact zblg q i0
theorem zbli : ∀ (q N : Nat), 8 * q ≤ N → ∀ (a0 a1 : (Sl zjk)), ∀ (r : Bool), zkz q a0 a1 = some r → (orc T N).deep F.zkz [(Sl.enc zjk.enc) a0, (Sl.enc zjk.enc) a1] = some [V.bool r] := by
 intro q N hM a0 a1 r h
 rcases q with _ | q
 ·cases h
 obtain ⟨M, rfl⟩ : ∃ M, N = M + 8 := ⟨N - 8, by omega⟩
 have zbnl := (zblh q)
 generalize hR : some [V.bool r] = R
 rw [zhw, z9d, y6, zhu ztu rfl]
 rw [zkz] at h
 replace h := br h; rcases h with ⟨h1, h⟩ | ⟨h1, h⟩
 ·replace h := zbnl M (by omega) (M + 7) (by omega) _ _ _ _ _ _ _ h R hR
  simp only [zblf, simprocAttr, *]
 ·cases h; subst hR; simp only [zblf, simprocAttr, *]
def zblj := And.intro @kk <| And.intro @ke <| And.intro @kn <| And.intro @zba7 <| And.intro @zbbk <| And.intro @zbce <| @zba9
theorem zblk : ∀ (q N : Nat), 8 * q ≤ N → ∀ (a0 a1 : zjl), ∀ (r : Bool), zk0 q a0 a1 = some r → (orc T N).deep F.zk0 [zjl.enc a0, zjl.enc a1] = some [V.bool r] := by
 intro q N hM a0 a1 r h
 rcases q with _ | q
 ·cases h
 obtain ⟨M, rfl⟩ : ∃ M, N = M + 8 := ⟨N - 8, by omega⟩
 generalize hR : some [V.bool r] = R
 rw [zhw, z8z, y6, zhu zpw rfl]
 rw [zk0] at h
 replace h := br h; rcases h with ⟨h1, h⟩ | ⟨h1, h⟩
 ·replace h := ob h; obtain ⟨r1, h2, h⟩ := h
  replace h2 := zbld q (M + 7) (by omega) _ _ _ h2
  try simp only [kf, simprocAttr] at h2
  replace h := bb h; rcases h with ⟨h3', h3, h⟩ | ⟨h3', h3, h⟩
  ·replace h := ob h; obtain ⟨r2, h4, h⟩ := h
   replace h4 := zbli q (M + 7) (by omega) _ _ _ h4
   try simp only [kf, simprocAttr] at h4
   cases h; subst hR; simp only [zblj, simprocAttr, *]
  ·cases h; subst hR; simp only [zblj, simprocAttr, *]
 ·cases h; subst hR; simp only [zblj, simprocAttr, *]
def zbll := And.intro @kk <| And.intro @ke <| And.intro @kn <| And.intro @zbav <| And.intro @zbaz <| And.intro @zba5 <| And.intro @zba8 <| @zbax
theorem zblm : ∀ (q N : Nat), 8 * q ≤ N → ∀ (r : Bool), zk1 q = some r → (orc T N).deep F.zk1 [] = some [V.bool r] := by
 intro q N hM r h
 rcases q with _ | q
 ·cases h
 obtain ⟨M, rfl⟩ : ∃ M, N = M + 8 := ⟨N - 8, by omega⟩
 generalize hR : some [V.bool r] = R
 rw [zhw, z8v, y6, zhu zn6 rfl]
 rw [zk1] at h
 replace h := ob h; obtain ⟨r1, h1, h⟩ := h
 replace h1 := zbj3 q (M + 7) (by omega) _ _ _ h1
 try simp only [kf, simprocAttr] at h1
 replace h := ob h; obtain ⟨r2, h2, h⟩ := h
 replace h2 := zbk6 q (M + 7) (by omega) _ _ _ h2
 try simp only [kf, simprocAttr] at h2
 replace h := br h; rcases h with ⟨h3, h⟩ | ⟨h3, h⟩
 ·replace h := br h; rcases h with ⟨h4, h⟩ | ⟨h4, h⟩
  ·replace h := br h; rcases h with ⟨h5, h⟩ | ⟨h5, h⟩
   ·replace h := br h; rcases h with ⟨h6, h⟩ | ⟨h6, h⟩
    ·replace h := br h; rcases h with ⟨h7, h⟩ | ⟨h7, h⟩
     ·replace h := ob h; obtain ⟨e3, h8, h⟩ := h
      replace h := br h; rcases h with ⟨h9, h⟩ | ⟨h9, h⟩
      ·replace h := ob h; obtain ⟨r4, h10, h⟩ := h
       replace h10 := zblk q (M + 7) (by omega) _ _ _ h10
       try simp only [kf, simprocAttr] at h10
       cases h; subst hR; simp only [zbll, simprocAttr, *]
      ·cases h; subst hR; simp only [zbll, simprocAttr, *]
     ·cases h; subst hR; simp only [zbll, simprocAttr, *]
    ·cases h; subst hR; simp only [zbll, simprocAttr, *]
   ·cases h; subst hR; simp only [zbll, simprocAttr, *]
  ·cases h; subst hR; simp only [zbll, simprocAttr, *]
 ·cases h; subst hR; simp only [zbll, simprocAttr, *]
def zbln := And.intro @kk <| And.intro @ke <| And.intro @kn <| And.intro @zbfv <| @zbfx
theorem zblo : ∀ (q N : Nat), 8 * q ≤ N → ∀ (a0 : Int), ∀ (r : Bool), zk2 q a0 = some r → (orc T N).deep F.zk2 [(V.int .u8) a0] = some [V.bool r] := by
 intro q N hM a0 r h
 rcases q with _ | q
 ·cases h
 obtain ⟨M, rfl⟩ : ∃ M, N = M + 8 := ⟨N - 8, by omega⟩
 generalize hR : some [V.bool r] = R
 rw [zhw, zbaj, y6, zhu z5g rfl]
 rw [zk2] at h
 cases h; subst hR; simp only [zbln, simprocAttr, *]
def zblp (q : Nat) : Prop := ∀ (M : Nat) (hM : 8 * q ≤ M) (j : Nat) (hj : q ≤ j) (v0z : Bool) (v0l : List Int) (v7 v8 r : Int) (_ : zk3 q v0z v0l v7 v8 = some r) (R : Option (List V × Hp)) (_ : (some ([(.int .i64 r)], []) : Option (List V × Hp)) = R) (fr : Fr) (H : Hp) (_ : canon 0 [0, 1, 7, 8] fr H = ([(0, (.sl v0z (List.map (V.int .u8) v0l))), (1, (.fn F.zk2 [])), (7, (.int .i64 v7)), (8, (.int .i64 v8))], [])), finI 0 false [.tmp 4] (unw T (orc T (M + 5)) (M + 5) 0 [.blk 0, .code z8l] (iter 0 [0, 1, 7, 8] (exec T (orc T (M + 5)) (M + 5) 0 z8i) j fr H)) = R
def zblq := And.intro @kk <| And.intro @ke <| And.intro @kn <| And.intro @zbgg <| @zbfw
theorem zblr (q : Nat) (zbnm : zblp q) : zblp (q + 1) := by
 intro M hM j hj v0z v0l v7 v8 r h R hR fr H hc
 obtain ⟨j, rfl⟩ : ∃ i, j = i + 1 := ⟨j - 1, by omega⟩
 rw [zhn, hc]; clear hc
 rw [zk3] at h
 replace h := br h; rcases h with ⟨h1, h⟩ | ⟨h1, h⟩
 ·replace h := bn h; obtain ⟨h2, h⟩ := h
  replace h := ob h; obtain ⟨e1, h3, h⟩ := h
  replace h := ob h; obtain ⟨r2, h4, h⟩ := h
  replace h4 := zblo q (M + 5) (by omega) _ _ h4
  replace h := bb h; rcases h with ⟨h5', h5, h⟩ | ⟨h5', h5, h⟩
  ·cases h; subst hR; simp only [zblq, simprocAttr, *]
  ·replace h := zbnm M (by omega) j (by omega) _ _ _ _ _ h R hR
   simp only [zblq, simprocAttr, *]
 ·cases h; subst hR; simp only [zblq, simprocAttr, *]
theorem zbls : ∀ q, zblp q
 | 0 => by intro M hM j hj; intros; rename_i h _ _ _ _ _; cases h
 | q + 1 => by have i0 := zbls q; exact zblr q i0
theorem zblt : ∀ (q M : Nat), 8 * q ≤ M → ∀ (v0z : Bool), ∀ (v0l : List Int), ∀ (r : Int), zk4 q v0z v0l = some r → (orc T (M + 6)).inl F.zn0 [(.sl v0z (List.map (V.int .u8) v0l)), (.fn F.zk2 [])] [] = (some ([(.int .i64 r)], []) : Option (List V × Hp)) := by
 intro q M hM v0z v0l r h
 rcases q with _ | q
 ·cases h
 have zbnm := (zbls q)
 generalize hR : (some ([(.int .i64 r)], []) : Option (List V × Hp)) = R
 rw [zbgi (n := M + 5)]
 rw [zk4] at h
 replace h := zbnm M (by omega) (M + 5) (by omega) _ _ _ _ _ h R hR
 simp only [zblq, simprocAttr, *]
def zblu := And.intro @kk <| And.intro @ke <| And.intro @kn <| And.intro @zbeg <| And.intro @zbfs <| And.intro @zbgh <| And.intro @zbft <| And.intro @zbfu <| @zbei
theorem zblv : ∀ (q N : Nat), 8 * q ≤ N → ∀ (a0 : (Sl Int)), ∀ (r : Bool), zk5 q a0 = some r → (orc T N).deep F.zk5 [(Sl.enc (V.int .u8)) a0] = some [V.bool r] := by
 intro q N hM a0 r h
 rcases q with _ | q
 ·cases h
 obtain ⟨M, rfl⟩ : ∃ M, N = M + 8 := ⟨N - 8, by omega⟩
 generalize hR : some [V.bool r] = R
 rw [zhw, z92, y6, zhu zz0 rfl]
 rw [zk5] at h
 replace h := br h; rcases h with ⟨h1, h⟩ | ⟨h1, h⟩
 ·replace h := ob h; obtain ⟨r1, h2, h⟩ := h
  replace h2 := zblt q M (by omega) _ _ _ h2
  try simp only [kf, simprocAttr] at h2
  cases h; subst hR; simp only [zblu, simprocAttr, *]
 ·cases h; subst hR; simp only [zblu, simprocAttr, *]
def zblw (q : Nat) : Prop := ∀ (M : Nat) (hM : 8 * q ≤ M) (j : Nat) (hj : q ≤ j) (v0z : Bool) (v0l : List Int) (v4 v9 v10 : Int) (r : Int × Int) (_ : zk6 q v0z v0l v4 v9 v10 = some r) (R : Option (List V)) (_ : some [(V.int .u64) r.1, (V.int .i64) r.2] = R) (fr : Fr) (H : Hp) (_ : canon 0 [0, 4, 9, 10] fr H = ([(0, (.sl v0z (List.map (V.int .u8) v0l))), (4, (.int .u64 v4)), (9, (.int .i64 v9)), (10, (.int .i64 v10))], [])), fin z6e (unw T (orc T (M + 7)) (M + 7) 0 [.blk 0, .code z6a] (iter 0 [0, 4, 9, 10] (exec T (orc T (M + 7)) (M + 7) 0 z57) j fr H)) = R
def zblx := And.intro @kk <| And.intro @ke <| And.intro @kn <| And.intro @zbfy <| @zbf0
theorem zbly (q : Nat) (zbnn : zblw q) : zblw (q + 1) := by
 intro M hM j hj v0z v0l v4 v9 v10 r h R hR fr H hc
 obtain ⟨j, rfl⟩ : ∃ i, j = i + 1 := ⟨j - 1, by omega⟩
 rw [zhn, hc]; clear hc
 rw [zk6] at h
 replace h := br h; rcases h with ⟨h1, h⟩ | ⟨h1, h⟩
 ·replace h := bn h; obtain ⟨h2, h⟩ := h
  replace h := ob h; obtain ⟨e1, h3, h⟩ := h
  replace h := bm h; obtain ⟨h4, h⟩ := h
  replace h := br h; rcases h with ⟨h5, h⟩ | ⟨h5, h⟩
  ·replace h := br h; rcases h with ⟨h6, h⟩ | ⟨h6, h⟩
   ·cases h; subst hR; simp only [zblx, simprocAttr, *]
   ·replace h := br h; rcases h with ⟨h7, h⟩ | ⟨h7, h⟩
    ·replace h := br h; rcases h with ⟨h8, h⟩ | ⟨h8, h⟩
     ·cases h; subst hR; simp only [zblx, simprocAttr, *]
     ·replace h := br h; rcases h with ⟨h9, h⟩ | ⟨h9, h⟩
      ·cases h; subst hR; simp only [zblx, simprocAttr, *]
      ·replace h := zbnn M (by omega) j (by omega) _ _ _ _ _ _ h R hR
       simp only [zblx, simprocAttr, *]
    ·replace h := br h; rcases h with ⟨h10, h⟩ | ⟨h10, h⟩
     ·cases h; subst hR; simp only [zblx, simprocAttr, *]
     ·replace h := zbnn M (by omega) j (by omega) _ _ _ _ _ _ h R hR
      simp only [zblx, simprocAttr, *]
  ·replace h := br h; rcases h with ⟨h11, h⟩ | ⟨h11, h⟩
   ·replace h := br h; rcases h with ⟨h12, h⟩ | ⟨h12, h⟩
    ·cases h; subst hR; simp only [zblx, simprocAttr, *]
    ·replace h := br h; rcases h with ⟨h13, h⟩ | ⟨h13, h⟩
     ·cases h; subst hR; simp only [zblx, simprocAttr, *]
     ·replace h := zbnn M (by omega) j (by omega) _ _ _ _ _ _ h R hR
      simp only [zblx, simprocAttr, *]
   ·replace h := br h; rcases h with ⟨h14, h⟩ | ⟨h14, h⟩
    ·cases h; subst hR; simp only [zblx, simprocAttr, *]
    ·replace h := zbnn M (by omega) j (by omega) _ _ _ _ _ _ h R hR
     simp only [zblx, simprocAttr, *]
 ·cases h; subst hR; simp only [zblx, simprocAttr, *]
theorem zblz : ∀ q, zblw q
 | 0 => by intro M hM j hj; intros; rename_i h _ _ _ _ _; cases h
 | q + 1 => by have i0 := zblz q; exact zbly q i0
theorem zbl0 : ∀ (q N : Nat), 8 * q ≤ N → ∀ (a0 : (Sl Int)), ∀ (r : Int × Int), zk7 q a0 = some r → (orc T N).deep F.zk7 [(Sl.enc (V.int .u8)) a0] = some [(V.int .u64) r.1, (V.int .i64) r.2] := by
 intro q N hM a0 r h
 rcases q with _ | q
 ·cases h
 obtain ⟨M, rfl⟩ : ∃ M, N = M + 8 := ⟨N - 8, by omega⟩
 have zbnn := (zblz q)
 generalize hR : some [(V.int .u64) r.1, (V.int .i64) r.2] = R
 rw [zhw, zbak, y6, zhu z6e rfl]
 rw [zk7] at h
 replace h := zbnn M (by omega) (M + 7) (by omega) _ _ _ _ _ _ h R hR
 simp only [zblx, simprocAttr, *]
def zbl1 := And.intro @kk <| And.intro @ke <| And.intro @kn <| And.intro @zbej <| And.intro @zbfz <| @zbel
theorem zbl2 : ∀ (q N : Nat), 8 * q ≤ N → ∀ (a0 : (Sl Int)), ∀ (r : Int × Int), zk8 q a0 = some r → (orc T N).deep F.zk8 [(Sl.enc (V.int .u8)) a0] = some [(V.int .i64) r.1, (V.int .i64) r.2] := by
 intro q N hM a0 r h
 rcases q with _ | q
 ·cases h
 obtain ⟨M, rfl⟩ : ∃ M, N = M + 8 := ⟨N - 8, by omega⟩
 generalize hR : some [(V.int .i64) r.1, (V.int .i64) r.2] = R
 rw [zhw, z93, y6, zhu z0b rfl]
 rw [zk8] at h
 replace h := ob h; obtain ⟨r1, h1, h⟩ := h
 replace h1 := zbl0 q (M + 7) (by omega) _ _ h1
 try simp only [kf, simprocAttr] at h1
 replace h := br h; rcases h with ⟨h2, h⟩ | ⟨h2, h⟩
 ·cases h; subst hR; simp only [zbl1, simprocAttr, *]
 ·cases h; subst hR; simp only [zbl1, simprocAttr, *]
def zbl3 (q : Nat) : Prop := ∀ (M : Nat) (hM : 8 * q ≤ M) (j : Nat) (hj : q ≤ j) (v5 : Int) (h0_0 h1_0 : List Int) (r : (List Int)) (_ : zk9 q v5 h0_0 h1_0 = some r) (R : Option (List V)) (_ : some [(arrEnc (V.int .u32)) r] = R) (fr : Fr) (H : Hp) (_ : canon 0 [0, 1, 5] fr H = ([(0, (.ptr 0 0)), (1, (.ptr 1 0)), (5, (.int .i64 v5))], [(.box (List.map (V.int .u32) h0_0)), (.box (List.map (V.int .u32) h1_0))])), fin z75 (unw T (orc T (M + 7)) (M + 7) 0 [.blk 0, .code z71] (iter 0 [0, 1, 5] (exec T (orc T (M + 7)) (M + 7) 0 z7y) j fr H)) = R
def zbl4 (q : Nat) : Prop := ∀ (M : Nat) (hM : 8 * q ≤ M) (j : Nat) (hj : q ≤ j) (j1 : Nat) (hj1 : q ≤ j1) (v2 v3 v5 v10 : Int) (h0_0 h1_0 : List Int) (r : (List Int)) (_ : zla q v2 v3 v5 v10 h0_0 h1_0 = some r) (R : Option (List V)) (_ : some [(arrEnc (V.int .u32)) r] = R) (fr : Fr) (H : Hp) (_ : canon 0 [0, 1, 2, 3, 5, 10] fr H = ([(0, (.ptr 0 0)), (1, (.ptr 1 0)), (2, (.int .i64 v2)), (3, (.int .u32 v3)), (5, (.int .i64 v5)), (10, (.int .i64 v10))], [(.box (List.map (V.int .u32) h0_0)), (.box (List.map (V.int .u32) h1_0))])), fin z75 (unw T (orc T (M + 7)) (M + 7) 0 [.blk 2, .code z7r, .blk 1, .code z7v, .rounds [0, 1, 5] z7y j1, .blk 0, .code z71] (iter 0 [0, 1, 2, 3, 5, 10] (exec T (orc T (M + 7)) (M + 7) 0 z7o) j fr H)) = R
def zbl5 := And.intro @kk <| And.intro @ke <| And.intro @kn <| And.intro @zbgd <| @zbgf
theorem zbl6 (q : Nat) (zbno : zbl4 q) : zbl3 (q + 1) := by
 intro M hM j hj v5 h0_0 h1_0 r h R hR fr H hc
 obtain ⟨j, rfl⟩ : ∃ i, j = i + 1 := ⟨j - 1, by omega⟩
 rw [zhn, hc]; clear hc
 rw [zk9] at h
 replace h := br h; rcases h with ⟨h1, h⟩ | ⟨h1, h⟩
 ·replace h := zbno M (by omega) (M + 7) (by omega) j (by omega) _ _ _ _ _ _ _ h R hR
  simp (maxDischargeDepth := 12) only [zbl5, simprocAttr, arrEnc, *]
 ·replace h := bn h; obtain ⟨h2, h⟩ := h
  replace h := bc h; rcases h with ⟨h3, h⟩ | ⟨h3, h⟩
  ·replace h := bn h; obtain ⟨h4, h⟩ := h
   replace h := bn h; obtain ⟨h5, h⟩ := h
   cases h; subst hR; simp (maxDischargeDepth := 12) only [zbl5, simprocAttr, arrEnc, *]
  ·cases h
theorem zbl7 (q : Nat) (zbnp : zbl3 q) (zbno : zbl4 q) : zbl4 (q + 1) := by
 intro M hM j hj j1 hj1 v2 v3 v5 v10 h0_0 h1_0 r h R hR fr H hc
 obtain ⟨j, rfl⟩ : ∃ i, j = i + 1 := ⟨j - 1, by omega⟩
 rw [zhn, hc]; clear hc
 rw [zla] at h
 replace h := br h; rcases h with ⟨h1, h⟩ | ⟨h1, h⟩
 ·replace h := zbno M (by omega) j (by omega) j1 (by omega) _ _ _ _ _ _ _ h R hR
  simp (maxDischargeDepth := 12) only [zbl5, simprocAttr, arrEnc, *]
 ·replace h := bn h; obtain ⟨h2, h⟩ := h
  replace h := bn h; obtain ⟨h3, h⟩ := h
  replace h := bn h; obtain ⟨h4, h⟩ := h
  replace h := zbnp M (by omega) j1 (by omega) _ _ _ _ h R hR
  simp (maxDischargeDepth := 12) only [zbl5, simprocAttr, arrEnc, *]
theorem zbl8 : ∀ q, zbl3 q ∧ zbl4 q
 | 0 => by refine ⟨?_, ?_⟩ <;> (intro M hM j hj; intros; rename_i h _ _ _ _ _; cases h)
 | q + 1 => by have ⟨i0, i1⟩ := zbl8 q; exact ⟨zbl6 q i1, zbl7 q i0 i1⟩
theorem zbl9 : ∀ (q N : Nat), 8 * q ≤ N → ∀ (r : (List Int)), zlb q = some r → (orc T N).deep F.zlb [] = some [(arrEnc (V.int .u32)) r] := by
 intro q N hM r h
 rcases q with _ | q
 ·cases h
 obtain ⟨M, rfl⟩ : ∃ M, N = M + 8 := ⟨N - 8, by omega⟩
 have zbnp := (zbl8 q).1
 generalize hR : some [(arrEnc (V.int .u32)) r] = R
 rw [zhw, zbap, y6, zhu z75 rfl]
 rw [zlb] at h
 replace h := zbnp M (by omega) (M + 7) (by omega) _ _ _ _ h R hR
 simp (maxDischargeDepth := 12) only [zbl5, simprocAttr, arrEnc, *]
def zbma (q : Nat) : Prop := ∀ (M : Nat) (hM : 8 * q ≤ M) (j : Nat) (hj : q ≤ j) (v6 : Int) (v12z : Bool) (v12l : List Int) (v13 v14 : Int) (h0_0 : List Int) (r : Int) (_ : zlc q v6 v12z v12l v13 v14 h0_0 = some r) (R : Option (List V)) (_ : some [(V.int .u32) r] = R) (fr : Fr) (H : Hp) (_ : canon 0 [5, 6, 12, 13, 14] fr H = ([(5, (.ptr 0 0)), (6, (.int .u32 v6)), (12, (.sl v12z (List.map (V.int .u8) v12l))), (13, (.int .i64 v13)), (14, (.int .i64 v14))], [(.box (List.map (V.int .u32) h0_0))])), fin z39 (unw T (orc T (M + 7)) (M + 7) 0 [.blk 0, .code z34] (iter 0 [5, 6, 12, 13, 14] (exec T (orc T (M + 7)) (M + 7) 0 z31) j fr H)) = R
def zbmb := And.intro @kk <| And.intro @ke <| And.intro @kn <| And.intro @zbfj <| And.intro @zbge <| @zbfl
theorem zbmc (q : Nat) (zbnq : zbma q) : zbma (q + 1) := by
 intro M hM j hj v6 v12z v12l v13 v14 h0_0 r h R hR fr H hc
 obtain ⟨j, rfl⟩ : ∃ i, j = i + 1 := ⟨j - 1, by omega⟩
 rw [zhn, hc]; clear hc
 rw [zlc] at h
 replace h := br h; rcases h with ⟨h1, h⟩ | ⟨h1, h⟩
 ·replace h := bn h; obtain ⟨h2, h⟩ := h
  replace h := ob h; obtain ⟨e2, h3, h⟩ := h
  replace h := bn h; obtain ⟨h4, h⟩ := h
  replace h := bn h; obtain ⟨h5, h⟩ := h
  replace h := ob h; obtain ⟨e3, h6, h⟩ := h
  replace h := zbnq M (by omega) j (by omega) _ _ _ _ _ _ _ h R hR
  simp only [zbmb, simprocAttr, arrEnc, *]
 ·cases h; subst hR; simp only [zbmb, simprocAttr, arrEnc, *]
theorem zbmd : ∀ q, zbma q
 | 0 => by intro M hM j hj; intros; rename_i h _ _ _ _ _; cases h
 | q + 1 => by have i0 := zbmd q; exact zbmc q i0
theorem zbme : ∀ (q N : Nat), 8 * q ≤ N → ∀ (a0 : Int) (a1 : (Sl Int)), ∀ (r : Int), zld q a0 a1 = some r → (orc T N).deep F.zld [(V.int .u32) a0, (Sl.enc (V.int .u8)) a1] = some [(V.int .u32) r] := by
 intro q N hM a0 a1 r h
 rcases q with _ | q
 ·cases h
 obtain ⟨M, rfl⟩ : ∃ M, N = M + 8 := ⟨N - 8, by omega⟩
 have zbnq := (zbmd q)
 generalize hR : some [(V.int .u32) r] = R
 rw [zhw, zbaf, y6, zhu z39 rfl]
 rw [zld] at h
 replace h := ob h; obtain ⟨r1, h1, h⟩ := h
 replace h1 := zbl9 q (M + 7) (by omega)  _ h1
 try simp only [kf, simprocAttr] at h1
 replace h := bc h; rcases h with ⟨h2, h⟩ | ⟨h2, h⟩
 ·replace h := zbnq M (by omega) (M + 7) (by omega) _ _ _ _ _ _ _ h R hR
  simp only [zbmb, simprocAttr, arrEnc, *]
 ·cases h
def zbmf := And.intro @kk <| And.intro @ke <| And.intro @kn <| And.intro @zbdp <| And.intro @zbfk <| @zbdr
theorem zbmg : ∀ (q N : Nat), 8 * q ≤ N → ∀ (a0 : (Sl Int)), ∀ (r : Int), zle q a0 = some r → (orc T N).deep F.zle [(Sl.enc (V.int .u8)) a0] = some [(V.int .u32) r] := by
 intro q N hM a0 r h
 rcases q with _ | q
 ·cases h
 obtain ⟨M, rfl⟩ : ∃ M, N = M + 8 := ⟨N - 8, by omega⟩
 generalize hR : some [(V.int .u32) r] = R
 rw [zhw, z9t, y6, zhu zx4 rfl]
 rw [zle] at h
 replace h := ob h; obtain ⟨r1, h1, h⟩ := h
 replace h1 := zbme q (M + 7) (by omega) _ _ _ h1
 try simp only [kf, simprocAttr] at h1
 cases h; subst hR; simp only [zbmf, simprocAttr, *]
def zbmh (q : Nat) : Prop := ∀ (M : Nat) (hM : 8 * q ≤ M) (j : Nat) (hj : q ≤ j) (v0 v7 v8 : Int) (h0z : Bool) (h0l : List Int) (r : (Ow Int)) (_ : zlf q v0 v7 v8 h0z h0l = some r) (R : Option (List V)) (_ : some [(Ow.enc 1 (V.int .u8)) r] = R) (fr : Fr) (H : Hp) (_ : canon 0 [0, 5, 7, 8] fr H = ([(0, (.int .u64 v0)), (5, (.vw 0 0 0 h0l.length 1)), (7, (.int .i64 v7)), (8, (.int .i64 v8))], [(.row 0 h0z 1 (List.map (V.int .u8) h0l) true)])), fin z3o (unw T (orc T (M + 7)) (M + 7) 0 [.blk 0, .code z3k] (iter 0 [0, 5, 7, 8] (exec T (orc T (M + 7)) (M + 7) 0 z3h) j fr H)) = R
def zbmi := And.intro @kk <| And.intro @ke <| And.intro @kn <| And.intro @zbfg <| @zbfi
theorem zbmj (q : Nat) (zbnr : zbmh q) : zbmh (q + 1) := by
 intro M hM j hj v0 v7 v8 h0z h0l r h R hR fr H hc
 obtain ⟨j, rfl⟩ : ∃ i, j = i + 1 := ⟨j - 1, by omega⟩
 rw [zhn, hc]; clear hc
 rw [zlf] at h
 replace h := br h; rcases h with ⟨h1, h⟩ | ⟨h1, h⟩
 ·replace h := bm h; obtain ⟨h2, h⟩ := h
  replace h := bn h; obtain ⟨h3, h⟩ := h
  replace h := zbnr M (by omega) j (by omega) _ _ _ _ _ _ h R hR
  simp only [zbmi, simprocAttr, *]
 ·cases h; subst hR; simp only [zbmi, simprocAttr, *]
theorem zbmk : ∀ q, zbmh q
 | 0 => by intro M hM j hj; intros; rename_i h _ _ _ _ _; cases h
 | q + 1 => by have i0 := zbmk q; exact zbmj q i0
theorem zbml : ∀ (q N : Nat), 8 * q ≤ N → ∀ (a0 a1 : Int), ∀ (r : (Ow Int)), zlg q a0 a1 = some r → (orc T N).deep F.zlg [(V.int .u64) a0, (V.int .i64) a1] = some [(Ow.enc 1 (V.int .u8)) r] := by
 intro q N hM a0 a1 r h
 rcases q with _ | q
 ·cases h
 obtain ⟨M, rfl⟩ : ∃ M, N = M + 8 := ⟨N - 8, by omega⟩
 have zbnr := (zbmk q)
 generalize hR : some [(Ow.enc 1 (V.int .u8)) r] = R
 rw [zhw, zbae, y6, zhu z3o rfl]
 rw [zlg] at h
 replace h := zbnr M (by omega) (M + 7) (by omega) _ _ _ _ _ _ h R hR
 simp only [zbmi, simprocAttr, *]
def zbmm := And.intro @kk <| And.intro @ke <| And.intro @kn <| And.intro @zbdm <| And.intro @zbfh <| @zbdo
theorem zbmn : ∀ (q N : Nat), 8 * q ≤ N → ∀ (a0 : Int), ∀ (r : (Ow Int)), zlh q a0 = some r → (orc T N).deep F.zlh [(V.int .u32) a0] = some [(Ow.enc 1 (V.int .u8)) r] := by
 intro q N hM a0 r h
 rcases q with _ | q
 ·cases h
 obtain ⟨M, rfl⟩ : ∃ M, N = M + 8 := ⟨N - 8, by omega⟩
 generalize hR : some [(Ow.enc 1 (V.int .u8)) r] = R
 rw [zhw, z9s, y6, zhu zx2 rfl]
 rw [zlh] at h
 replace h := ob h; obtain ⟨r1, h1, h⟩ := h
 replace h1 := zbml q (M + 7) (by omega) _ _ _ h1
 try simp only [kf, simprocAttr] at h1
 cases h; subst hR; simp only [zbmm, simprocAttr, *]
def zbmo := And.intro @kk <| And.intro @ke <| And.intro @kn <| And.intro @zbep <| And.intro @zbdn <| And.intro @zbdq <| And.intro @zbfk <| @zber
theorem zbmp : ∀ (q N : Nat), 8 * q ≤ N → ∀ (a0 a1 : (Sl Int)), ∀ (r : (Ow Int)), zli q a0 a1 = some r → (orc T N).deep F.zli [(Sl.enc (V.int .u8)) a0, (Sl.enc (V.int .u8)) a1] = some [(Ow.enc 1 (V.int .u8)) r] := by
 intro q N hM a0 a1 r h
 rcases q with _ | q
 ·cases h
 obtain ⟨M, rfl⟩ : ∃ M, N = M + 8 := ⟨N - 8, by omega⟩
 generalize hR : some [(Ow.enc 1 (V.int .u8)) r] = R
 rw [zhw, z95, y6, zhu z03 rfl]
 rw [zli] at h
 replace h := ob h; obtain ⟨r1, h1, h⟩ := h
 replace h1 := zbmg q (M + 7) (by omega) _ _ h1
 try simp only [kf, simprocAttr] at h1
 replace h := ob h; obtain ⟨r2, h2, h⟩ := h
 replace h2 := zbme q (M + 7) (by omega) _ _ _ h2
 try simp only [kf, simprocAttr] at h2
 replace h := ob h; obtain ⟨r3, h3, h⟩ := h
 replace h3 := zbmn q (M + 7) (by omega) _ _ h3
 try simp only [kf, simprocAttr] at h3
 cases h; subst hR; simp only [zbmo, simprocAttr, *]
def zbmq (q : Nat) : Prop := ∀ (M : Nat) (hM : 8 * q ≤ M) (j : Nat) (hj : q ≤ j) (v0z : Bool) (v0l : List Int) (v1z : Bool) (v1l : List Int) (v12 v13 : Int) (r : Bool) (_ : zlj q v0z v0l v1z v1l v12 v13 = some r) (R : Option (List V)) (_ : some [V.bool r] = R) (fr : Fr) (H : Hp) (_ : canon 0 [0, 1, 12, 13] fr H = ([(0, (.sl v0z (List.map (V.int .u8) v0l))), (1, (.sl v1z (List.map (V.int .u8) v1l))), (12, (.int .i64 v12)), (13, (.int .i64 v13))], [])), fin z0y (unw T (orc T (M + 7)) (M + 7) 0 [.blk 0, .code z0u] (iter 0 [0, 1, 12, 13] (exec T (orc T (M + 7)) (M + 7) 0 z0r) j fr H)) = R
def zbmr := And.intro @kk <| And.intro @ke <| And.intro @kn <| And.intro @zbem <| @zbeo
theorem zbms (q : Nat) (zbns : zbmq q) : zbmq (q + 1) := by
 intro M hM j hj v0z v0l v1z v1l v12 v13 r h R hR fr H hc
 obtain ⟨j, rfl⟩ : ∃ i, j = i + 1 := ⟨j - 1, by omega⟩
 rw [zhn, hc]; clear hc
 rw [zlj] at h
 replace h := br h; rcases h with ⟨h1, h⟩ | ⟨h1, h⟩
 ·replace h := bn h; obtain ⟨h2, h⟩ := h
  replace h := ob h; obtain ⟨e1, h3, h⟩ := h
  replace h := ob h; obtain ⟨e2, h4, h⟩ := h
  replace h := br h; rcases h with ⟨h5, h⟩ | ⟨h5, h⟩
  ·replace h := zbns M (by omega) j (by omega) _ _ _ _ _ _ _ h R hR
   simp only [zbmr, simprocAttr, *]
  ·cases h; subst hR; simp only [zbmr, simprocAttr, *]
 ·cases h; subst hR; simp only [zbmr, simprocAttr, *]
theorem zbmt : ∀ q, zbmq q
 | 0 => by intro M hM j hj; intros; rename_i h _ _ _ _ _; cases h
 | q + 1 => by have i0 := zbmt q; exact zbms q i0
theorem zbmu : ∀ (q N : Nat), 8 * q ≤ N → ∀ (a0 a1 : (Sl Int)), ∀ (r : Bool), zlk q a0 a1 = some r → (orc T N).deep F.zlk [(Sl.enc (V.int .u8)) a0, (Sl.enc (V.int .u8)) a1] = some [V.bool r] := by
 intro q N hM a0 a1 r h
 rcases q with _ | q
 ·cases h
 obtain ⟨M, rfl⟩ : ∃ M, N = M + 8 := ⟨N - 8, by omega⟩
 have zbns := (zbmt q)
 generalize hR : some [V.bool r] = R
 rw [zhw, z94, y6, zhu z0y rfl]
 rw [zlk] at h
 replace h := br h; rcases h with ⟨h1, h⟩ | ⟨h1, h⟩
 ·replace h := zbns M (by omega) (M + 7) (by omega) _ _ _ _ _ _ _ h R hR
  simp only [zbmr, simprocAttr, *]
 ·cases h; subst hR; simp only [zbmr, simprocAttr, *]
def zbmv := And.intro @kk <| And.intro @ke <| And.intro @kn <| And.intro @zbes <| @zbeu
theorem zbmw : ∀ (q N : Nat), 8 * q ≤ N → ∀ (a0 : (Sl Int)), ∀ (r : (Ow Int)), zll q a0 = some r → (orc T N).deep F.zll [(Sl.enc (V.int .u8)) a0] = some [(Ow.enc 1 (V.int .u8)) r] := by
 intro q N hM a0 r h
 rcases q with _ | q
 ·cases h
 obtain ⟨M, rfl⟩ : ∃ M, N = M + 8 := ⟨N - 8, by omega⟩
 generalize hR : some [(Ow.enc 1 (V.int .u8)) r] = R
 rw [zhw, z96, y6, zhu z1c rfl]
 rw [zll] at h
 replace h := bb h; rcases h with ⟨h1', h1, h⟩ | ⟨h1', h1, h⟩
 ·cases h; subst hR; simp only [zbmv, simprocAttr, *]
 ·replace h := bn h; obtain ⟨h2, h⟩ := h
  cases h; subst hR; simp only [zbmv, simprocAttr, *]
def zbmx := And.intro @kk <| And.intro @ke <| And.intro @kn <| And.intro @zbcg <| And.intro @zbeh <| And.intro @zbek <| And.intro @zben <| And.intro @zbeq <| And.intro @zbet <| @zbci
theorem zbmy : ∀ (q N : Nat), 8 * q ≤ N → ∀ (a0 : (Sl Int)), ∀ (r : (Ow Int) × Int × Int), zlm q a0 = some r → (orc T N).deep F.zlm [(Sl.enc (V.int .u8)) a0] = some [(Ow.enc 1 (V.int .u8)) r.1, (V.int .i64) r.2.1, (V.int .i64) r.2.2] := by
 intro q N hM a0 r h
 rcases q with _ | q
 ·cases h
 obtain ⟨M, rfl⟩ : ∃ M, N = M + 8 := ⟨N - 8, by omega⟩
 generalize hR : some [(Ow.enc 1 (V.int .u8)) r.1, (V.int .i64) r.2.1, (V.int .i64) r.2.2] = R
 rw [zhw, z9e, y6, zhu zuc rfl]
 rw [zlm] at h
 replace h := ob h; obtain ⟨r1, h1, h⟩ := h
 replace h1 := zblv q (M + 7) (by omega) _ _ h1
 try simp only [kf, simprocAttr] at h1
 replace h := bb h; rcases h with ⟨h2', h2, h⟩ | ⟨h2', h2, h⟩
 ·cases h; subst hR; simp only [zbmx, simprocAttr, *]
 ·replace h := ob h; obtain ⟨r2, h3, h⟩ := h
  replace h3 := zbl2 q (M + 7) (by omega) _ _ h3
  try simp only [kf, simprocAttr] at h3
  replace h := br h; rcases h with ⟨h4, h⟩ | ⟨h4, h⟩
  ·cases h; subst hR; simp only [zbmx, simprocAttr, *]
  ·replace h := br h; rcases h with ⟨h5, h⟩ | ⟨h5, h⟩
   ·cases h; subst hR; simp only [zbmx, simprocAttr, *]
   ·replace h := br h; rcases h with ⟨h6, h⟩ | ⟨h6, h⟩
    ·cases h; subst hR; simp only [zbmx, simprocAttr, *]
    ·replace h := bn h; obtain ⟨h7, h⟩ := h
     replace h := bn h; obtain ⟨h8, h⟩ := h
     replace h := bn h; obtain ⟨h9, h⟩ := h
     replace h := bn h; obtain ⟨h10, h⟩ := h
     replace h := bn h; obtain ⟨h11, h⟩ := h
     replace h := bn h; obtain ⟨h12, h⟩ := h
     replace h := bn h; obtain ⟨h13, h⟩ := h
     replace h := bn h; obtain ⟨h14, h⟩ := h
     replace h := bn h; obtain ⟨h15, h⟩ := h
     replace h := ob h; obtain ⟨r3, h16, h⟩ := h
     replace h16 := zbmp q (M + 7) (by omega) _ _ _ h16
     try simp only [kf, simprocAttr] at h16
     replace h := ob h; obtain ⟨r4, h17, h⟩ := h
     replace h17 := zbmu q (M + 7) (by omega) _ _ _ h17
     try simp only [kf, simprocAttr] at h17
     replace h := bb h; rcases h with ⟨h18', h18, h⟩ | ⟨h18', h18, h⟩
     ·replace h := ob h; obtain ⟨r5, h19, h⟩ := h
      replace h19 := zbmw q (M + 7) (by omega) _ _ h19
      try simp only [kf, simprocAttr] at h19
      cases h; subst hR; simp only [zbmx, simprocAttr, *]
     ·cases h; subst hR; simp only [zbmx, simprocAttr, *]
def zbmz := And.intro @kk <| And.intro @ke <| And.intro @kn <| And.intro @zbgj <| @zbgl
theorem zbm0 : ∀ (q N : Nat), 8 * q ≤ N → ∀ (a0 r : Int), zln q a0 = some r → (orc T N).deep F.zln [(V.int .u64) a0] = some [(V.int .i64) r] := by
 intro q N hM a0 r h
 rcases q with _ | q
 ·cases h
 obtain ⟨M, rfl⟩ : ∃ M, N = M + 8 := ⟨N - 8, by omega⟩
 generalize hR : some [(V.int .i64) r] = R
 rw [zhw, zbar, y6, zhu z8t rfl]
 rw [zln] at h
 cases h; subst hR; simp only [zbmz, simprocAttr, *]
def zbm1 := And.intro @kk <| And.intro @ke <| And.intro @kn <| And.intro @zbf7 <| And.intro @zbfz <| And.intro @zbgk <| @zbf9
theorem zbm2 : ∀ (q N : Nat), 8 * q ≤ N → ∀ (a0 : (Sl Int)), ∀ (r : Int × Int), zlo q a0 = some r → (orc T N).deep F.zlo [(Sl.enc (V.int .u8)) a0] = some [(V.int .i64) r.1, (V.int .i64) r.2] := by
 intro q N hM a0 r h
 rcases q with _ | q
 ·cases h
 obtain ⟨M, rfl⟩ : ∃ M, N = M + 8 := ⟨N - 8, by omega⟩
 generalize hR : some [(V.int .i64) r.1, (V.int .i64) r.2] = R
 rw [zhw, zban, y6, zhu z63 rfl]
 rw [zlo] at h
 replace h := ob h; obtain ⟨r1, h1, h⟩ := h
 replace h1 := zbl0 q (M + 7) (by omega) _ _ h1
 try simp only [kf, simprocAttr] at h1
 replace h := br h; rcases h with ⟨h2, h⟩ | ⟨h2, h⟩
 ·cases h; subst hR; simp only [zbm1, simprocAttr, *]
 ·replace h := ob h; obtain ⟨r2, h3, h⟩ := h
  replace h3 := zbm0 q (M + 7) (by omega) _ _ h3
  cases h; subst hR; simp only [zbm1, simprocAttr, *]
end Go.Dvm.C
