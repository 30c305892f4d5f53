/- The machine comes to these answers: part 1. -/
import Derived.Test.YtngajodhbioheaaQl0
set_option linter.all false
set_option maxRecDepth 100000
set_option maxHeartbeats 4000000
namespace Go.Dvm.C
open Go Go.Dvm Go.Dvm.I
def zbpa := And.intro @kk <| And.intro @ke <| And.intro @kn <| And.intro @zbjv <| @zbjx
theorem zbpb : ∀ (q N : Nat), 8 * q ≤ N → ∀ (a0 r : Int), zjr q a0 = some r → (orc T N).deep F.zjr [(V.int .i64) a0] = some [(V.int .i64) r] := by
 intro q N hM a0 r h
 rcases q with _ | q
 ·cases h
 obtain ⟨M, rfl⟩ : ∃ M, N = M + 8 := ⟨N - 8, by omega⟩
 generalize hR : some [(V.int .i64) r] = R
 rw [zhs, zbfu, y4, zhq]
 rw [zjr] at h
 cases h; subst hR; simp only [zbpa, simprocAttr, *]
def zbpc := And.intro @kk <| And.intro @ke <| And.intro @kn <| And.intro @zbjs <| And.intro @zbjw <| @zbju
theorem zbpd : ∀ (q N : Nat), 8 * q ≤ N → ∀ (a0 : Int), ∀ (r : Bool), zjs q a0 = some r → (orc T N).deep F.zjs [(V.int .i64) a0] = some [V.bool r] := by
 intro q N hM a0 r h
 rcases q with _ | q
 ·cases h
 obtain ⟨M, rfl⟩ : ∃ M, N = M + 8 := ⟨N - 8, by omega⟩
 generalize hR : some [V.bool r] = R
 rw [zhs, zbft, y4, zhq]
 rw [zjs] at h
 replace h := ob h; obtain ⟨r1, h1, h⟩ := h
 replace h1 := zbpb q (M + 7) (by omega) _ _ h1
 cases h; subst hR; simp only [zbpc, simprocAttr, *]
def zbpe (q : Nat) : Prop := ∀ (M : Nat) (hM : 8 * q ≤ M) (j : Nat) (hj : q ≤ j) (v0z : Bool) (v0l : List Int) (v1 v5 v6 : Int) (r : Bool) (_ : zjt q v0z v0l v1 v5 v6 = some r) (R : Option (List V)) (_ : some [V.bool r] = R) (fr : Fr) (H : Hp) (_ : canon 0 [0, 1, 5, 6] fr H = ([(0, (.sl v0z (List.map (V.int .i64) v0l))), (1, (.int .i64 v1)), (5, (.int .i64 v5)), (6, (.int .i64 v6))], [])), fin zxv (unw T (orc T (M + 7)) (M + 7) 0 [.blk 0, .code zxr] (iter 0 [0, 1, 5, 6] (exec T (orc T (M + 7)) (M + 7) 0 zxo) j fr H)) = R
def zbpf := And.intro @kk <| And.intro @ke <| And.intro @kn <| And.intro @zbjy <| @zbj0
theorem zbpg (q : Nat) (zbts : zbpe q) : zbpe (q + 1) := by
 intro M hM j hj v0z v0l v1 v5 v6 r h R hR fr H hc
 obtain ⟨j, rfl⟩ : ∃ i, j = i + 1 := ⟨j - 1, by omega⟩
 rw [zhj, hc]; clear hc
 rw [zjt] at h
 replace h := br h; rcases h with ⟨h1, h⟩ | ⟨h1, h⟩
 ·replace h := bn h; obtain ⟨h2, h⟩ := h
  replace h := ob h; obtain ⟨e1, h3, h⟩ := h
  replace h := br h; rcases h with ⟨h4, h⟩ | ⟨h4, h⟩
  ·cases h; subst hR; simp only [zbpf, simprocAttr, *]
  ·replace h := br h; rcases h with ⟨h5, h⟩ | ⟨h5, h⟩
   ·cases h; subst hR; simp only [zbpf, simprocAttr, *]
   ·replace h := bn h; obtain ⟨h6, h⟩ := h
    replace h := ob h; obtain ⟨e2, h7, h⟩ := h
    replace h := br h; rcases h with ⟨h8, h⟩ | ⟨h8, h⟩
    ·cases h; subst hR; simp only [zbpf, simprocAttr, *]
    ·replace h := br h; rcases h with ⟨h9, h⟩ | ⟨h9, h⟩
     ·cases h; subst hR; simp only [zbpf, simprocAttr, *]
     ·replace h := zbts M (by omega) j (by omega) _ _ _ _ _ _ h R hR
      simp only [zbpf, simprocAttr, *]
 ·replace h := br h; rcases h with ⟨h10, h⟩ | ⟨h10, h⟩
  ·cases h; subst hR; simp only [zbpf, simprocAttr, *]
  ·cases h; subst hR; simp only [zbpf, simprocAttr, *]
theorem zbph : ∀ q, zbpe q
 | 0 => by intro M hM j hj; intros; rename_i h _ _ _ _ _; cases h
 | q + 1 => by have i0 := zbph q; exact zbpg q i0
theorem zbpi : ∀ (q N : Nat), 8 * q ≤ N → ∀ (a0 : (Sl Int)) (a1 : Int), ∀ (r : Bool), zju q a0 a1 = some r → (orc T N).deep F.zju [(Sl.enc (V.int .i64)) a0, (V.int .i64) a1] = some [V.bool r] := by
 intro q N hM a0 a1 r h
 rcases q with _ | q
 ·cases h
 obtain ⟨M, rfl⟩ : ∃ M, N = M + 8 := ⟨N - 8, by omega⟩
 have zbts := (zbph q)
 generalize hR : some [V.bool r] = R
 rw [zhs, zbfv, y4, zhq]
 rw [zju] at h
 replace h := zbts M (by omega) (M + 7) (by omega) _ _ _ _ _ _ h R hR
 simp only [zbpf, simprocAttr, *]
def zbpj (q : Nat) : Prop := ∀ (M : Nat) (hM : 8 * q ≤ M) (j : Nat) (hj : q ≤ j) (v0z : Bool) (v0l : List Int) (v7 v8 h0_0 : Int) (h0_1z : Bool) (h0_1l : List Int) (h0_2 : Bool) (h0_3 r : Int) (_ : zjv q v0z v0l v7 v8 h0_0 h0_1z h0_1l h0_2 h0_3 = some r) (R : Option (List V × Hp)) (_ : (some ([(.int .i64 r)], [(.box [(.int .i64 h0_0), (.sl h0_1z (List.map (V.int .i64) h0_1l)), (.bool h0_2), (.int .i64 h0_3)])]) : Option (List V × Hp)) = R) (fr : Fr) (H : Hp) (_ : canon 1 [0, 1, 7, 8] fr H = ([(0, (.sl v0z (List.map (V.int .i64) v0l))), (1, (.fn F.zjs [])), (7, (.int .i64 v7)), (8, (.int .i64 v8))], [(.box [(.int .i64 h0_0), (.sl h0_1z (List.map (V.int .i64) h0_1l)), (.bool h0_2), (.int .i64 h0_3)])])), finI 1 false [.tmp 4] (unw T (orc T (M + 5)) (M + 5) 1 [.blk 0, .code z8n] (iter 1 [0, 1, 7, 8] (exec T (orc T (M + 5)) (M + 5) 1 z8k) j fr H)) = R
def zbpk := And.intro @kk <| And.intro @ke <| And.intro @kn <| And.intro @zbls <| @zbjt
theorem zbpl (q : Nat) (zbtt : zbpj q) : zbpj (q + 1) := by
 intro M hM j hj v0z v0l v7 v8 h0_0 h0_1z h0_1l h0_2 h0_3 r h R hR fr H hc
 obtain ⟨j, rfl⟩ : ∃ i, j = i + 1 := ⟨j - 1, by omega⟩
 rw [zhj, hc]; clear hc
 rw [zjv] at h
 replace h := br h; rcases h with ⟨h1, h⟩ | ⟨h1, h⟩
 ·replace h := bn h; obtain ⟨h2, h⟩ := h
  replace h := ob h; obtain ⟨e1, h3, h⟩ := h
  replace h := ob h; obtain ⟨r2, h4, h⟩ := h
  replace h4 := zbpd q (M + 5) (by omega) _ _ h4
  replace h := bb h; rcases h with ⟨h5', h5, h⟩ | ⟨h5', h5, h⟩
  ·cases h; subst hR; simp only [zbpk, simprocAttr, *]
  ·replace h := zbtt M (by omega) j (by omega) _ _ _ _ _ _ _ _ _ _ h R hR
   simp only [zbpk, simprocAttr, *]
 ·cases h; subst hR; simp only [zbpk, simprocAttr, *]
theorem zbpm : ∀ q, zbpj q
 | 0 => by intro M hM j hj; intros; rename_i h _ _ _ _ _; cases h
 | q + 1 => by have i0 := zbpm q; exact zbpl q i0
theorem zbpn : ∀ (q M : Nat), 8 * q ≤ M → ∀ (v0z : Bool), ∀ (v0l : List Int), ∀ (h0_0 : Int), ∀ (h0_1z : Bool), ∀ (h0_1l : List Int), ∀ (h0_2 : Bool), ∀ (h0_3 r : Int), zjw q v0z v0l h0_0 h0_1z h0_1l h0_2 h0_3 = some r → (orc T (M + 6)).inl F.zmo [(.sl v0z (List.map (V.int .i64) v0l)), (.fn F.zjs [])] [(.box [(.int .i64 h0_0), (.sl h0_1z (List.map (V.int .i64) h0_1l)), (.bool h0_2), (.int .i64 h0_3)])] = (some ([(.int .i64 r)], [(.box [(.int .i64 h0_0), (.sl h0_1z (List.map (V.int .i64) h0_1l)), (.bool h0_2), (.int .i64 h0_3)])]) : Option (List V × Hp)) := by
 intro q M hM v0z v0l h0_0 h0_1z h0_1l h0_2 h0_3 r h
 rcases q with _ | q
 ·cases h
 have zbtt := (zbpm q)
 generalize hR : (some ([(.int .i64 r)], [(.box [(.int .i64 h0_0), (.sl h0_1z (List.map (V.int .i64) h0_1l)), (.bool h0_2), (.int .i64 h0_3)])]) : Option (List V × Hp)) = R
 rw [zblu (n := M + 5)]
 rw [zjw] at h
 replace h := zbtt M (by omega) (M + 5) (by omega) _ _ _ _ _ _ _ _ _ _ h R hR
 simp only [zbpk, simprocAttr, *]
def zbpo := And.intro @kk <| And.intro @ke <| And.intro @kn <| And.intro @zbhs <| And.intro @zbjp <| And.intro @zbjz <| And.intro @zblt <| And.intro @zbjq <| And.intro @zbjr <| @zbhu
theorem zbpp : ∀ (q N : Nat), 8 * q ≤ N → ∀ (a0 : zjk), ∀ (r : Bool), zjx q a0 = some r → (orc T N).deep F.zjx [zjk.enc a0] = some [V.bool r] := by
 intro q N hM a0 r h
 rcases q with _ | q
 ·cases h
 obtain ⟨M, rfl⟩ : ∃ M, N = M + 8 := ⟨N - 8, by omega⟩
 generalize hR : some [V.bool r] = R
 rw [zhs, zbe5, y4, zhq]
 rw [zjx] at h
 replace h := br h; rcases h with ⟨h1, h⟩ | ⟨h1, h⟩
 ·cases h; subst hR; simp only [zbpo, simprocAttr, *]
 ·replace h := br h; rcases h with ⟨h2, h⟩ | ⟨h2, h⟩
  ·cases h; subst hR; simp only [zbpo, simprocAttr, *]
  ·replace h := bb h; rcases h with ⟨h3', h3, h⟩ | ⟨h3', h3, h⟩
   ·replace h := ob h; obtain ⟨r1, h4, h⟩ := h
    replace h4 := zbpn q M (by omega) _ _ _ _ _ _ _ _ h4
    try simp only [kf, simprocAttr] at h4
    replace h := br h; rcases h with ⟨h5, h⟩ | ⟨h5, h⟩
    ·replace h := br h; rcases h with ⟨h6, h⟩ | ⟨h6, h⟩
     ·cases h; subst hR; simp only [zbpo, simprocAttr, *]
     ·cases h; subst hR; simp only [zbpo, simprocAttr, *]
    ·replace h := br h; rcases h with ⟨h7, h⟩ | ⟨h7, h⟩
     ·replace h := br h; rcases h with ⟨h8, h⟩ | ⟨h8, h⟩
      ·cases h; subst hR; simp only [zbpo, simprocAttr, *]
      ·cases h; subst hR; simp only [zbpo, simprocAttr, *]
     ·replace h := br h; rcases h with ⟨h9, h⟩ | ⟨h9, h⟩
      ·replace h := br h; rcases h with ⟨h10, h⟩ | ⟨h10, h⟩
       ·cases h; subst hR; simp only [zbpo, simprocAttr, *]
       ·cases h; subst hR; simp only [zbpo, simprocAttr, *]
      ·replace h := br h; rcases h with ⟨h11, h⟩ | ⟨h11, h⟩
       ·replace h := br h; rcases h with ⟨h12, h⟩ | ⟨h12, h⟩
        ·cases h; subst hR; simp only [zbpo, simprocAttr, *]
        ·cases h; subst hR; simp only [zbpo, simprocAttr, *]
       ·replace h := br h; rcases h with ⟨h13, h⟩ | ⟨h13, h⟩
        ·replace h := ob h; obtain ⟨r2, h14, h⟩ := h
         replace h14 := zbpi q (M + 7) (by omega) _ _ _ h14
         try simp only [kf, simprocAttr] at h14
         cases h; subst hR; simp only [zbpo, simprocAttr, *]
        ·replace h := br h; rcases h with ⟨h15, h⟩ | ⟨h15, h⟩
         ·replace h := ob h; obtain ⟨r3, h16, h⟩ := h
          replace h16 := zbpi q (M + 7) (by omega) _ _ _ h16
          try simp only [kf, simprocAttr] at h16
          cases h; subst hR; simp only [zbpo, simprocAttr, *]
         ·cases h; subst hR; simp only [zbpo, simprocAttr, *]
   ·replace h := br h; rcases h with ⟨h17, h⟩ | ⟨h17, h⟩
    ·replace h := ob h; obtain ⟨r4, h18, h⟩ := h
     replace h18 := zbpn q M (by omega) _ _ _ _ _ _ _ _ h18
     try simp only [kf, simprocAttr] at h18
     replace h := br h; rcases h with ⟨h19, h⟩ | ⟨h19, h⟩
     ·replace h := br h; rcases h with ⟨h20, h⟩ | ⟨h20, h⟩
      ·cases h; subst hR; simp only [zbpo, simprocAttr, *]
      ·cases h; subst hR; simp only [zbpo, simprocAttr, *]
     ·replace h := br h; rcases h with ⟨h21, h⟩ | ⟨h21, h⟩
      ·replace h := br h; rcases h with ⟨h22, h⟩ | ⟨h22, h⟩
       ·cases h; subst hR; simp only [zbpo, simprocAttr, *]
       ·cases h; subst hR; simp only [zbpo, simprocAttr, *]
      ·replace h := br h; rcases h with ⟨h23, h⟩ | ⟨h23, h⟩
       ·replace h := br h; rcases h with ⟨h24, h⟩ | ⟨h24, h⟩
        ·cases h; subst hR; simp only [zbpo, simprocAttr, *]
        ·cases h; subst hR; simp only [zbpo, simprocAttr, *]
       ·replace h := br h; rcases h with ⟨h25, h⟩ | ⟨h25, h⟩
        ·replace h := br h; rcases h with ⟨h26, h⟩ | ⟨h26, h⟩
         ·cases h; subst hR; simp only [zbpo, simprocAttr, *]
         ·cases h; subst hR; simp only [zbpo, simprocAttr, *]
        ·replace h := br h; rcases h with ⟨h27, h⟩ | ⟨h27, h⟩
         ·replace h := ob h; obtain ⟨r5, h28, h⟩ := h
          replace h28 := zbpi q (M + 7) (by omega) _ _ _ h28
          try simp only [kf, simprocAttr] at h28
          cases h; subst hR; simp only [zbpo, simprocAttr, *]
         ·replace h := br h; rcases h with ⟨h29, h⟩ | ⟨h29, h⟩
          ·replace h := ob h; obtain ⟨r6, h30, h⟩ := h
           replace h30 := zbpi q (M + 7) (by omega) _ _ _ h30
           try simp only [kf, simprocAttr] at h30
           cases h; subst hR; simp only [zbpo, simprocAttr, *]
          ·cases h; subst hR; simp only [zbpo, simprocAttr, *]
    ·cases h; subst hR; simp only [zbpo, simprocAttr, *]
def zbpq := And.intro @kk <| And.intro @ke <| And.intro @kn <| And.intro @zbj1 <| @zbj3
theorem zbpr : ∀ (q N : Nat), 8 * q ≤ N → ∀ (a0 : zjl), ∀ (r : Bool), zjy q a0 = some r → (orc T N).deep F.zjy [zjl.enc a0] = some [V.bool r] := by
 intro q N hM a0 r h
 rcases q with _ | q
 ·cases h
 obtain ⟨M, rfl⟩ : ∃ M, N = M + 8 := ⟨N - 8, by omega⟩
 generalize hR : some [V.bool r] = R
 rw [zhs, zbfw, y4, zhq]
 rw [zjy] at h
 replace h := br h; rcases h with ⟨h1, h⟩ | ⟨h1, h⟩
 ·replace h := br h; rcases h with ⟨h2, h⟩ | ⟨h2, h⟩
  ·replace h := br h; rcases h with ⟨h3, h⟩ | ⟨h3, h⟩
   ·replace h := br h; rcases h with ⟨h4, h⟩ | ⟨h4, h⟩
    ·replace h := br h; rcases h with ⟨h5, h⟩ | ⟨h5, h⟩
     ·cases h; subst hR; simp only [zbpq, simprocAttr, *]
     ·cases h; subst hR; simp only [zbpq, simprocAttr, *]
    ·cases h; subst hR; simp only [zbpq, simprocAttr, *]
   ·cases h; subst hR; simp only [zbpq, simprocAttr, *]
  ·cases h; subst hR; simp only [zbpq, simprocAttr, *]
 ·cases h; subst hR; simp only [zbpq, simprocAttr, *]
def zbps (q : Nat) : Prop := ∀ (M : Nat) (hM : 8 * q ≤ M) (j : Nat) (hj : q ≤ j) (v0z : Bool) (v0l : List zjl) (v5z : Bool) (v5l : List zjl) (v6 v7 : Int) (r : Bool) (_ : zjz q v0z v0l v5z v5l v6 v7 = some r) (R : Option (List V)) (_ : some [V.bool r] = R) (fr : Fr) (H : Hp) (_ : canon 0 [0, 5, 6, 7] fr H = ([(0, (.sl v0z (List.map zjl.enc v0l))), (5, (.sl v5z (List.map zjl.enc v5l))), (6, (.int .i64 v6)), (7, (.int .i64 v7))], [])), fin zqo (unw T (orc T (M + 7)) (M + 7) 0 [.blk 0, .code zql] (iter 0 [0, 5, 6, 7] (exec T (orc T (M + 7)) (M + 7) 0 zqi) j fr H)) = R
def zbpt := And.intro @kk <| And.intro @ke <| And.intro @kn <| And.intro @zbhv <| And.intro @zbj2 <| @zbhx
theorem zbpu (q : Nat) (zbtu : zbps q) : zbps (q + 1) := by
 intro M hM j hj v0z v0l v5z v5l v6 v7 r h R hR fr H hc
 obtain ⟨j, rfl⟩ : ∃ i, j = i + 1 := ⟨j - 1, by omega⟩
 rw [zhj, hc]; clear hc
 rw [zjz] at h
 replace h := br h; rcases h with ⟨h1, h⟩ | ⟨h1, h⟩
 ·replace h := bn h; obtain ⟨h2, h⟩ := h
  replace h := ob h; obtain ⟨e1, h3, h⟩ := h
  replace h := ob h; obtain ⟨r2, h4, h⟩ := h
  replace h4 := zbpr q (M + 7) (by omega) _ _ h4
  try simp only [kf, simprocAttr] at h4
  replace h := bb h; rcases h with ⟨h5', h5, h⟩ | ⟨h5', h5, h⟩
  ·replace h := br h; rcases h with ⟨h6, h⟩ | ⟨h6, h⟩
   ·replace h := bn h; obtain ⟨h7, h⟩ := h
    replace h := ob h; obtain ⟨e3, h8, h⟩ := h
    replace h := br h; rcases h with ⟨h9, h⟩ | ⟨h9, h⟩
    ·cases h; subst hR; simp only [zbpt, simprocAttr, *]
    ·replace h := zbtu M (by omega) j (by omega) _ _ _ _ _ _ _ h R hR
     simp only [zbpt, simprocAttr, *]
   ·replace h := zbtu M (by omega) j (by omega) _ _ _ _ _ _ _ h R hR
    simp only [zbpt, simprocAttr, *]
  ·cases h; subst hR; simp only [zbpt, simprocAttr, *]
 ·cases h; subst hR; simp only [zbpt, simprocAttr, *]
theorem zbpv : ∀ q, zbps q
 | 0 => by intro M hM j hj; intros; rename_i h _ _ _ _ _; cases h
 | q + 1 => by have i0 := zbpv q; exact zbpu q i0
theorem zbpw : ∀ (q N : Nat), 8 * q ≤ N → ∀ (a0 : (Sl zjl)), ∀ (r : Bool), zj0 q a0 = some r → (orc T N).deep F.zj0 [(Sl.enc zjl.enc) a0] = some [V.bool r] := by
 intro q N hM a0 r h
 rcases q with _ | q
 ·cases h
 obtain ⟨M, rfl⟩ : ∃ M, N = M + 8 := ⟨N - 8, by omega⟩
 have zbtu := (zbpv q)
 generalize hR : some [V.bool r] = R
 rw [zhs, zbe6, y4, zhq]
 rw [zj0] at h
 replace h := zbtu M (by omega) (M + 7) (by omega) _ _ _ _ _ _ _ h R hR
 simp only [zbpt, simprocAttr, *]
def zbpx := And.intro @kk <| And.intro @ke <| And.intro @kn <| And.intro @zbg4 <| And.intro @zbht <| And.intro @zbhw <| @zbg6
theorem zbpy : ∀ (q N : Nat), 8 * q ≤ N → ∀ (a0 : zjm), ∀ (r : Bool), zj1 q a0 = some r → (orc T N).deep F.zj1 [zjm.enc a0] = some [V.bool r] := by
 intro q N hM a0 r h
 rcases q with _ | q
 ·cases h
 obtain ⟨M, rfl⟩ : ∃ M, N = M + 8 := ⟨N - 8, by omega⟩
 generalize hR : some [V.bool r] = R
 rw [zhs, zbex, y4, zhq]
 rw [zj1] at h
 replace h := br h; rcases h with ⟨h1, h⟩ | ⟨h1, h⟩
 ·replace h := br h; rcases h with ⟨h2, h⟩ | ⟨h2, h⟩
  ·replace h := ob h; obtain ⟨r1, h3, h⟩ := h
   replace h3 := zbpp q (M + 7) (by omega) _ _ h3
   try simp only [kf, simprocAttr] at h3
   replace h := bb h; rcases h with ⟨h4', h4, h⟩ | ⟨h4', h4, h⟩
   ·replace h := ob h; obtain ⟨r2, h5, h⟩ := h
    replace h5 := zbpw q (M + 7) (by omega) _ _ h5
    try simp only [kf, simprocAttr] at h5
    cases h; subst hR; simp only [zbpx, simprocAttr, *]
   ·cases h; subst hR; simp only [zbpx, simprocAttr, *]
  ·cases h; subst hR; simp only [zbpx, simprocAttr, *]
 ·cases h; subst hR; simp only [zbpx, simprocAttr, *]
def zbpz := And.intro @kk <| And.intro @ke <| And.intro @kn <| And.intro @zbhp <| @zbhr
theorem zbp0 : ∀ (q N : Nat), 8 * q ≤ N → ∀ (a0 : (Sl Int)), ∀ (r : (Ow Int)), zj2 q a0 = some r → (orc T N).deep F.zj2 [(Sl.enc (V.int .i64)) a0] = some [(Ow.enc 1 (V.int .i64)) r] := by
 intro q N hM a0 r h
 rcases q with _ | q
 ·cases h
 obtain ⟨M, rfl⟩ : ∃ M, N = M + 8 := ⟨N - 8, by omega⟩
 generalize hR : some [(Ow.enc 1 (V.int .i64)) r] = R
 rw [zhs, zbe4, y4, zhq]
 rw [zj2] at h
 replace h := bb h; rcases h with ⟨h1', h1, h⟩ | ⟨h1', h1, h⟩
 ·cases h; subst hR; simp only [zbpz, simprocAttr, *]
 ·replace h := bn h; obtain ⟨h2, h⟩ := h
  cases h; subst hR; simp only [zbpz, simprocAttr, *]
def zbp1 := And.intro @kk <| And.intro @ke <| And.intro @kn <| And.intro @zbig <| @zbii
theorem zbp2 : ∀ (q N : Nat), 8 * q ≤ N → ∀ (a0 : (Sl zjl)), ∀ (r : (Ow zjl)), zj3 q a0 = some r → (orc T N).deep F.zj3 [(Sl.enc zjl.enc) a0] = some [(Ow.enc 3 zjl.enc) r] := by
 intro q N hM a0 r h
 rcases q with _ | q
 ·cases h
 obtain ⟨M, rfl⟩ : ∃ M, N = M + 8 := ⟨N - 8, by omega⟩
 generalize hR : some [(Ow.enc 3 zjl.enc) r] = R
 rw [zhs, zbfd, y4, zhq]
 rw [zj3] at h
 replace h := bb h; rcases h with ⟨h1', h1, h⟩ | ⟨h1', h1, h⟩
 ·cases h; subst hR; simp only [zbp1, simprocAttr, *]
 ·replace h := bn h; obtain ⟨h2, h⟩ := h
  cases h; subst hR; simp only [zbp1, simprocAttr, *]
def zbp3 := And.intro @kk <| And.intro @ke <| And.intro @kn <| And.intro @zbis <| @zbiu
theorem zbp4 : ∀ (q N : Nat), 8 * q ≤ N → ∀ (a0 : (Ow zjl)) (a1 : Int) (a2 : (Sl zjl)), ∀ (r : (Ow zjl)), zj4 q a0 a1 a2 = some r → (orc T N).deep F.zj4 [(Ow.enc 3 zjl.enc) a0, (V.int .i64) a1, (Sl.enc zjl.enc) a2] = some [(Ow.enc 3 zjl.enc) r] := by
 intro q N hM a0 a1 a2 r h
 rcases q with _ | q
 ·cases h
 obtain ⟨M, rfl⟩ : ∃ M, N = M + 8 := ⟨N - 8, by omega⟩
 generalize hR : some [(Ow.enc 3 zjl.enc) r] = R
 rw [zhs, zbfh, y4, zhq]
 rw [zj4] at h
 replace h := bn h; obtain ⟨h1, h⟩ := h
 replace h := bn h; obtain ⟨h2, h⟩ := h
 replace h := br h; rcases h with ⟨h3, h⟩ | ⟨h3, h⟩
 ·cases h; subst hR; simp only [zbp3, simprocAttr, *]
 ·replace h := bn h; obtain ⟨h4, h⟩ := h
  replace h := bn h; obtain ⟨h5, h⟩ := h
  cases h; subst hR; simp only [zbp3, simprocAttr, *]
def zbp5 (q : Nat) : Prop := ∀ (M : Nat) (hM : 8 * q ≤ M) (j : Nat) (hj : q ≤ j) (w1 : Nat) (v7 v8 h0_0 h0_1 h0_2 h0_3 h0_4 h0_5 h0_6 : Int) (h1z : Bool) (h1l : List zjl) (h1x : Bool) (r : Int) (_ : zj5 q v7 v8 h0_0 h0_1 h0_2 h0_3 h0_4 h0_5 h0_6 h1z h1l h1x = some r) (R : Option (List V × Hp)) (_ : (some ([(.int .i64 r)], [(.box [(.int .i64 h0_0), (.int .i64 h0_1), (.int .i64 h0_2), (.int .i64 h0_3), (.int .i64 h0_4), (.int .i64 h0_5), (.int .i64 h0_6)]), (.row w1 h1z 3 (List.map zjl.enc h1l) h1x)]) : Option (List V × Hp)) = R) (fr : Fr) (H : Hp) (_ : canon 2 [0, 1, 7, 8] fr H = ([(0, (.vw 1 w1 0 h1l.length 1)), (1, (.fn F.zmj [(.ptr 0 0)])), (7, (.int .i64 v7)), (8, (.int .i64 v8))], [(.box [(.int .i64 h0_0), (.int .i64 h0_1), (.int .i64 h0_2), (.int .i64 h0_3), (.int .i64 h0_4), (.int .i64 h0_5), (.int .i64 h0_6)]), (.row w1 h1z 3 (List.map zjl.enc h1l) h1x)])), finI 2 false [.tmp 4] (unw T (orc T (M + 5)) (M + 5) 2 [.blk 0, .code zsz] (iter 2 [0, 1, 7, 8] (exec T (orc T (M + 5)) (M + 5) 2 zsw) j fr H)) = R
def zbp6 := And.intro @kk <| And.intro @ke <| And.intro @kn <| And.intro @zbij <| And.intro @zbim <| And.intro @zbik <| @zbil
theorem zbp7 (q : Nat) (zbtv : zbp5 q) : zbp5 (q + 1) := by
 intro M hM j hj w1 v7 v8 h0_0 h0_1 h0_2 h0_3 h0_4 h0_5 h0_6 h1z h1l h1x r h R hR fr H hc
 obtain ⟨j, rfl⟩ : ∃ i, j = i + 1 := ⟨j - 1, by omega⟩
 rw [zhj, hc]; clear hc
 rw [zj5] at h
 replace h := br h; rcases h with ⟨h1, h⟩ | ⟨h1, h⟩
 ·replace h := bn h; obtain ⟨h2, h⟩ := h
  replace h := bn h; obtain ⟨h3, h⟩ := h
  replace h := ob h; obtain ⟨e1, h4, h⟩ := h
  replace h := br h; rcases h with ⟨h5, h⟩ | ⟨h5, h⟩
  ·cases h; subst hR; simp only [zbp6, simprocAttr, *]
  ·replace h := zbtv M (by omega) j (by omega) w1 _ _ _ _ _ _ _ _ _ _ _ _ _ h R hR
   simp only [zbp6, simprocAttr, *]
 ·cases h; subst hR; simp only [zbp6, simprocAttr, *]
theorem zbp8 : ∀ q, zbp5 q
 | 0 => by intro M hM j hj; intros; rename_i h _ _ _ _ _; cases h
 | q + 1 => by have i0 := zbp8 q; exact zbp7 q i0
theorem zbp9 : ∀ (q M : Nat), 8 * q ≤ M → ∀ (w1 : Nat), ∀ (h0_0 h0_1 h0_2 h0_3 h0_4 h0_5 h0_6 : Int), ∀ (h1z : Bool), ∀ (h1l : List zjl), ∀ (h1x : Bool), ∀ (r : Int), zj6 q h0_0 h0_1 h0_2 h0_3 h0_4 h0_5 h0_6 h1z h1l h1x = some r → (orc T (M + 6)).inl F.zmk [(.vw 1 w1 0 h1l.length 1), (.fn F.zmj [(.ptr 0 0)])] [(.box [(.int .i64 h0_0), (.int .i64 h0_1), (.int .i64 h0_2), (.int .i64 h0_3), (.int .i64 h0_4), (.int .i64 h0_5), (.int .i64 h0_6)]), (.row w1 h1z 3 (List.map zjl.enc h1l) h1x)] = (some ([(.int .i64 r)], [(.box [(.int .i64 h0_0), (.int .i64 h0_1), (.int .i64 h0_2), (.int .i64 h0_3), (.int .i64 h0_4), (.int .i64 h0_5), (.int .i64 h0_6)]), (.row w1 h1z 3 (List.map zjl.enc h1l) h1x)]) : Option (List V × Hp)) := by
 intro q M hM w1 h0_0 h0_1 h0_2 h0_3 h0_4 h0_5 h0_6 h1z h1l h1x r h
 rcases q with _ | q
 ·cases h
 have zbtv := (zbp8 q)
 generalize hR : (some ([(.int .i64 r)], [(.box [(.int .i64 h0_0), (.int .i64 h0_1), (.int .i64 h0_2), (.int .i64 h0_3), (.int .i64 h0_4), (.int .i64 h0_5), (.int .i64 h0_6)]), (.row w1 h1z 3 (List.map zjl.enc h1l) h1x)]) : Option (List V × Hp)) = R
 rw [zbio (n := M + 5)]
 rw [zj6] at h
 replace h := zbtv M (by omega) (M + 5) (by omega) w1 _ _ _ _ _ _ _ _ _ _ _ _ _ h R hR
 simp only [zbp6, simprocAttr, *]
def zbqa (q : Nat) : Prop := ∀ (M : Nat) (hM : 8 * q ≤ M) (j : Nat) (hj : q ≤ j) (w1 : Nat) (v5 v6 h0_0 h0_1 h0_2 h0_3 h0_4 h0_5 h0_6 : Int) (h1z : Bool) (h1l : List zjl) (h1x : Bool) (r : Nat × (List zjl) × Bool) (_ : zj7 q v5 v6 h0_0 h0_1 h0_2 h0_3 h0_4 h0_5 h0_6 h1z h1l h1x = some r) (R : Option (List V × Hp)) (_ : (some ([(.vw 1 w1 0 r.1 0)], [(.box [(.int .i64 h0_0), (.int .i64 h0_1), (.int .i64 h0_2), (.int .i64 h0_3), (.int .i64 h0_4), (.int .i64 h0_5), (.int .i64 h0_6)]), (.row w1 h1z 3 (List.map zjl.enc r.2.1) r.2.2)]) : Option (List V × Hp)) = R) (fr : Fr) (H : Hp) (_ : canon 2 [0, 1, 5, 6] fr H = ([(0, (.vw 1 w1 0 h1l.length 1)), (1, (.fn F.zmj [(.ptr 0 0)])), (5, (.int .i64 v5)), (6, (.int .i64 v6))], [(.box [(.int .i64 h0_0), (.int .i64 h0_1), (.int .i64 h0_2), (.int .i64 h0_3), (.int .i64 h0_4), (.int .i64 h0_5), (.int .i64 h0_6)]), (.row w1 h1z 3 (List.map zjl.enc h1l) h1x)])), finI 2 true [.tmp 4] (unw T (orc T (M + 6)) (M + 6) 2 [.blk 0, .code zsj] (iter 2 [0, 1, 5, 6] (exec T (orc T (M + 6)) (M + 6) 2 zse) j fr H)) = R
def zbqb := And.intro @kk <| And.intro @ke <| And.intro @kn <| And.intro @zbid <| And.intro @zbij <| And.intro @zbin <| And.intro @zbik <| @zbil
theorem zbqc (q : Nat) (zbtw : zbqa q) : zbqa (q + 1) := by
 intro M hM j hj w1 v5 v6 h0_0 h0_1 h0_2 h0_3 h0_4 h0_5 h0_6 h1z h1l h1x r h R hR fr H hc
 obtain ⟨j, rfl⟩ : ∃ i, j = i + 1 := ⟨j - 1, by omega⟩
 rw [zhj, hc]; clear hc
 rw [zj7] at h
 replace h := br h; rcases h with ⟨h1, h⟩ | ⟨h1, h⟩
 ·replace h := bn h; obtain ⟨h2, h⟩ := h
  replace h := bn h; obtain ⟨h3, h⟩ := h
  replace h := ob h; obtain ⟨e2, h4, h⟩ := h
  replace h := br h; rcases h with ⟨h5, h⟩ | ⟨h5, h⟩
  ·replace h := zbtw M (by omega) j (by omega) w1 _ _ _ _ _ _ _ _ _ _ _ _ _ h R hR
   simp only [zbqb, simprocAttr, *]
  ·replace h := bn h; obtain ⟨h6, h⟩ := h
   replace h := bn h; obtain ⟨h7, h⟩ := h
   replace h := ob h; obtain ⟨e3, h8, h⟩ := h
   replace h := bb h; rcases h with ⟨h9', h9, h⟩ | ⟨h9', h9, h⟩
   ·replace h := zbtw M (by omega) j (by omega) w1 _ _ _ _ _ _ _ _ _ _ _ _ _ h R hR
    simp only [zbqb, simprocAttr, *]
   ·cases h
 ·replace h := bn h; obtain ⟨h10, h⟩ := h
  replace h := bn h; obtain ⟨h11, h⟩ := h
  replace h := bb h; rcases h with ⟨h12', h12, h⟩ | ⟨h12', h12, h⟩
  ·replace h := bn h; obtain ⟨h13, h⟩ := h
   replace h := bb h; rcases h with ⟨h14', h14, h⟩ | ⟨h14', h14, h⟩
   ·cases h; subst hR; simp only [zbqb, simprocAttr, *]
   ·cases h; subst hR; simp only [zbqb, simprocAttr, *]
  ·cases h
theorem zbqd : ∀ q, zbqa q
 | 0 => by intro M hM j hj; intros; rename_i h _ _ _ _ _; cases h
 | q + 1 => by have i0 := zbqd q; exact zbqc q i0
theorem zbqe : ∀ (q M : Nat), 8 * q ≤ M → ∀ (w1 : Nat), ∀ (h0_0 h0_1 h0_2 h0_3 h0_4 h0_5 h0_6 : Int), ∀ (h1z : Bool), ∀ (h1l : List zjl), ∀ (h1x : Bool), ∀ (r : Nat × (List zjl) × Bool), zj8 q h0_0 h0_1 h0_2 h0_3 h0_4 h0_5 h0_6 h1z h1l h1x = some r → (orc T (M + 7)).inl F.zmi [(.vw 1 w1 0 h1l.length 1), (.fn F.zmj [(.ptr 0 0)])] [(.box [(.int .i64 h0_0), (.int .i64 h0_1), (.int .i64 h0_2), (.int .i64 h0_3), (.int .i64 h0_4), (.int .i64 h0_5), (.int .i64 h0_6)]), (.row w1 h1z 3 (List.map zjl.enc h1l) h1x)] = (some ([(.vw 1 w1 0 r.1 0)], [(.box [(.int .i64 h0_0), (.int .i64 h0_1), (.int .i64 h0_2), (.int .i64 h0_3), (.int .i64 h0_4), (.int .i64 h0_5), (.int .i64 h0_6)]), (.row w1 h1z 3 (List.map zjl.enc r.2.1) r.2.2)]) : Option (List V × Hp)) := by
 intro q M hM w1 h0_0 h0_1 h0_2 h0_3 h0_4 h0_5 h0_6 h1z h1l h1x r h
 rcases q with _ | q
 ·cases h
 have zbtw := (zbqd q)
 generalize hR : (some ([(.vw 1 w1 0 r.1 0)], [(.box [(.int .i64 h0_0), (.int .i64 h0_1), (.int .i64 h0_2), (.int .i64 h0_3), (.int .i64 h0_4), (.int .i64 h0_5), (.int .i64 h0_6)]), (.row w1 h1z 3 (List.map zjl.enc r.2.1) r.2.2)]) : Option (List V × Hp)) = R
 rw [zbif (n := M + 6)]
 rw [zj8] at h
 replace h := ob h; obtain ⟨r1, h1, h⟩ := h
 replace h1 := zbp9 q M (by omega) w1 _ _ _ _ _ _ _ _ _ _ _ h1
 try simp only [kf, simprocAttr] at h1
 replace h := br h; rcases h with ⟨h2, h⟩ | ⟨h2, h⟩
 ·cases h; subst hR; simp only [zbqb, simprocAttr, *]
 ·replace h := zbtw M (by omega) (M + 6) (by omega) w1 _ _ _ _ _ _ _ _ _ _ _ _ _ h R hR
  simp only [zbqb, simprocAttr, *]
def zbqf (q : Nat) : Prop := ∀ (M : Nat) (hM : 8 * q ≤ M) (j : Nat) (hj : q ≤ j) (w1 v0len : Nat) (v7 v8 h0_0 h0_1 h0_2 h0_3 h0_4 h0_5 h0_6 : Int) (h1z : Bool) (h1l : List zjl) (h1x : Bool) (r : Int) (_ : zj9 q v0len v7 v8 h0_0 h0_1 h0_2 h0_3 h0_4 h0_5 h0_6 h1z h1l h1x = some r) (R : Option (List V × Hp)) (_ : (some ([(.int .i64 r)], [(.box [(.int .i64 h0_0), (.int .i64 h0_1), (.int .i64 h0_2), (.int .i64 h0_3), (.int .i64 h0_4), (.int .i64 h0_5), (.int .i64 h0_6)]), (.row w1 h1z 3 (List.map zjl.enc h1l) h1x)]) : Option (List V × Hp)) = R) (fr : Fr) (H : Hp) (_ : canon 2 [0, 1, 7, 8] fr H = ([(0, (.vw 1 w1 0 v0len 0)), (1, (.fn F.zml [(.ptr 0 0)])), (7, (.int .i64 v7)), (8, (.int .i64 v8))], [(.box [(.int .i64 h0_0), (.int .i64 h0_1), (.int .i64 h0_2), (.int .i64 h0_3), (.int .i64 h0_4), (.int .i64 h0_5), (.int .i64 h0_6)]), (.row w1 h1z 3 (List.map zjl.enc h1l) h1x)])), finI 2 false [.tmp 4] (unw T (orc T (M + 6)) (M + 6) 2 [.blk 0, .code zsz] (iter 2 [0, 1, 7, 8] (exec T (orc T (M + 6)) (M + 6) 2 zsw) j fr H)) = R
def zbqg := And.intro @kk <| And.intro @ke <| And.intro @kn <| And.intro @zbim <| And.intro @zbip <| And.intro @zbiq <| @zbir
theorem zbqh (q : Nat) (zbtx : zbqf q) : zbqf (q + 1) := by
 intro M hM j hj w1 v0len v7 v8 h0_0 h0_1 h0_2 h0_3 h0_4 h0_5 h0_6 h1z h1l h1x r h R hR fr H hc
 obtain ⟨j, rfl⟩ : ∃ i, j = i + 1 := ⟨j - 1, by omega⟩
 rw [zhj, hc]; clear hc
 rw [zj9] at h
 replace h := br h; rcases h with ⟨h1, h⟩ | ⟨h1, h⟩
 ·replace h := bn h; obtain ⟨h2, h⟩ := h
  replace h := bn h; obtain ⟨h3, h⟩ := h
  replace h := ob h; obtain ⟨e1, h4, h⟩ := h
  replace h := br h; rcases h with ⟨h5, h⟩ | ⟨h5, h⟩
  ·cases h; subst hR; simp only [zbqg, simprocAttr, *]
  ·replace h := zbtx M (by omega) j (by omega) w1 _ _ _ _ _ _ _ _ _ _ _ _ _ _ h R hR
   simp only [zbqg, simprocAttr, *]
 ·cases h; subst hR; simp only [zbqg, simprocAttr, *]
theorem zbqi : ∀ q, zbqf q
 | 0 => by intro M hM j hj; intros; rename_i h _ _ _ _ _; cases h
 | q + 1 => by have i0 := zbqi q; exact zbqh q i0
theorem zbqj : ∀ (q M : Nat), 8 * q ≤ M → ∀ (w1 v0len : Nat), ∀ (h0_0 h0_1 h0_2 h0_3 h0_4 h0_5 h0_6 : Int), ∀ (h1z : Bool), ∀ (h1l : List zjl), ∀ (h1x : Bool), ∀ (r : Int), zka q v0len h0_0 h0_1 h0_2 h0_3 h0_4 h0_5 h0_6 h1z h1l h1x = some r → (orc T (M + 7)).inl F.zmk [(.vw 1 w1 0 v0len 0), (.fn F.zml [(.ptr 0 0)])] [(.box [(.int .i64 h0_0), (.int .i64 h0_1), (.int .i64 h0_2), (.int .i64 h0_3), (.int .i64 h0_4), (.int .i64 h0_5), (.int .i64 h0_6)]), (.row w1 h1z 3 (List.map zjl.enc h1l) h1x)] = (some ([(.int .i64 r)], [(.box [(.int .i64 h0_0), (.int .i64 h0_1), (.int .i64 h0_2), (.int .i64 h0_3), (.int .i64 h0_4), (.int .i64 h0_5), (.int .i64 h0_6)]), (.row w1 h1z 3 (List.map zjl.enc h1l) h1x)]) : Option (List V × Hp)) := by
 intro q M hM w1 v0len h0_0 h0_1 h0_2 h0_3 h0_4 h0_5 h0_6 h1z h1l h1x r h
 rcases q with _ | q
 ·cases h
 have zbtx := (zbqi q)
 generalize hR : (some ([(.int .i64 r)], [(.box [(.int .i64 h0_0), (.int .i64 h0_1), (.int .i64 h0_2), (.int .i64 h0_3), (.int .i64 h0_4), (.int .i64 h0_5), (.int .i64 h0_6)]), (.row w1 h1z 3 (List.map zjl.enc h1l) h1x)]) : Option (List V × Hp)) = R
 rw [zbio (n := M + 6)]
 rw [zka] at h
 replace h := zbtx M (by omega) (M + 6) (by omega) w1 _ _ _ _ _ _ _ _ _ _ _ _ _ _ h R hR
 simp only [zbqg, simprocAttr, *]
def zbqk := And.intro @kk <| And.intro @ke <| And.intro @kn <| And.intro @zbhd <| And.intro @zbie <| And.intro @zbih <| And.intro @zbin <| And.intro @zbit <| @zbhf
theorem zbql : ∀ (q N : Nat), 8 * q ≤ N → ∀ (a0 : (Sl zjl)) (a1 : zjp), ∀ (r : (Ow zjl)), zkb q a0 a1 = some r → (orc T N).deep F.zkb [(Sl.enc zjl.enc) a0, zjp.enc a1] = some [(Ow.enc 3 zjl.enc) r] := by
 intro q N hM a0 a1 r h
 rcases q with _ | q
 ·cases h
 obtain ⟨M, rfl⟩ : ∃ M, N = M + 8 := ⟨N - 8, by omega⟩
 generalize hR : some [(Ow.enc 3 zjl.enc) r] = R
 rw [zhs, zbe0, y4, zhq]
 rw [zkb] at h
 replace h := ob h; obtain ⟨r1, h1, h⟩ := h
 replace h1 := zbp2 q (M + 7) (by omega) _ _ h1
 try simp only [kf, simprocAttr] at h1
 replace h := ob h; obtain ⟨r2, h2, h⟩ := h
 replace h2 := zbqe q M (by omega) 0 _ _ _ _ _ _ _ _ _ _ _ h2
 try simp only [kf, simprocAttr] at h2
 replace h := ob h; obtain ⟨r3, h3, h⟩ := h
 replace h3 := zbqj q M (by omega) 0 _ _ _ _ _ _ _ _ _ _ _ _ h3
 try simp only [kf, simprocAttr] at h3
 replace h := br h; rcases h with ⟨h4, h⟩ | ⟨h4, h⟩
 ·replace h := bb h; rcases h with ⟨h5', h5, h⟩ | ⟨h5', h5, h⟩
  ·replace h := ob h; obtain ⟨r4, h6, h⟩ := h
   replace h6 := zbp4 q (M + 7) (by omega) _ _ _ _ h6
   try simp only [kf, simprocAttr] at h6
   cases h; subst hR; simp only [zbqk, simprocAttr, *]
  ·cases h
 ·replace h := bb h; rcases h with ⟨h7', h7, h⟩ | ⟨h7', h7, h⟩
  ·replace h := ob h; obtain ⟨r5, h8, h⟩ := h
   replace h8 := zbp4 q (M + 7) (by omega) _ _ _ _ h8
   try simp only [kf, simprocAttr] at h8
   cases h; subst hR; simp only [zbqk, simprocAttr, *]
  ·cases h
def zbqm := And.intro @kk <| And.intro @ke <| And.intro @kn <| And.intro @zbhm <| @zbho
theorem zbqn : ∀ (q N : Nat), 8 * q ≤ N → ∀ (a0 : zjk), ∀ (r : Bool), zkc q a0 = some r → (orc T N).deep F.zkc [zjk.enc a0] = some [V.bool r] := by
 intro q N hM a0 r h
 rcases q with _ | q
 ·cases h
 obtain ⟨M, rfl⟩ : ∃ M, N = M + 8 := ⟨N - 8, by omega⟩
 generalize hR : some [V.bool r] = R
 rw [zhs, zbe3, y4, zhq]
 rw [zkc] at h
 cases h; subst hR; simp only [zbqm, simprocAttr, *]
def zbqo := And.intro @kk <| And.intro @ke <| And.intro @kn <| And.intro @zbg1 <| And.intro @zbhn <| @zbg3
theorem zbqp : ∀ (q N : Nat), 8 * q ≤ N → ∀ (a0 : zjm), ∀ (r : Bool), zkd q a0 = some r → (orc T N).deep F.zkd [zjm.enc a0] = some [V.bool r] := by
 intro q N hM a0 r h
 rcases q with _ | q
 ·cases h
 obtain ⟨M, rfl⟩ : ∃ M, N = M + 8 := ⟨N - 8, by omega⟩
 generalize hR : some [V.bool r] = R
 rw [zhs, zbew, y4, zhq]
 rw [zkd] at h
 replace h := ob h; obtain ⟨r1, h1, h⟩ := h
 replace h1 := zbqn q (M + 7) (by omega) _ _ h1
 try simp only [kf, simprocAttr] at h1
 replace h := bb h; rcases h with ⟨h2', h2, h⟩ | ⟨h2', h2, h⟩
 ·cases h; subst hR; simp only [zbqo, simprocAttr, *]
 ·cases h; subst hR; simp only [zbqo, simprocAttr, *]
def zbqq := And.intro @kk <| And.intro @ke <| And.intro @kn <| And.intro @zbj4 <| And.intro @zbjw <| @zbj6
theorem zbqr : ∀ (q N : Nat), 8 * q ≤ N → ∀ (a0 : zjo), ∀ (r : Bool), zke q a0 = some r → (orc T N).deep F.zke [zjo.enc a0] = some [V.bool r] := by
 intro q N hM a0 r h
 rcases q with _ | q
 ·cases h
 obtain ⟨M, rfl⟩ : ∃ M, N = M + 8 := ⟨N - 8, by omega⟩
 generalize hR : some [V.bool r] = R
 rw [zhs, zbfx, y4, zhq]
 rw [zke] at h
 replace h := br h; rcases h with ⟨h1, h⟩ | ⟨h1, h⟩
 ·replace h := br h; rcases h with ⟨h2, h⟩ | ⟨h2, h⟩
  ·replace h := ob h; obtain ⟨r1, h3, h⟩ := h
   replace h3 := zbpb q (M + 7) (by omega) _ _ h3
   replace h := br h; rcases h with ⟨h4, h⟩ | ⟨h4, h⟩
   ·replace h := ob h; obtain ⟨r2, h5, h⟩ := h
    replace h5 := zbpb q (M + 7) (by omega) _ _ h5
    cases h; subst hR; simp only [zbqq, simprocAttr, *]
   ·cases h; subst hR; simp only [zbqq, simprocAttr, *]
  ·cases h; subst hR; simp only [zbqq, simprocAttr, *]
 ·cases h; subst hR; simp only [zbqq, simprocAttr, *]
def zbqs := And.intro @kk <| And.intro @ke <| And.intro @kn <| And.intro @zbhy <| And.intro @zbj5 <| @zbh0
theorem zbqt : ∀ (q N : Nat), 8 * q ≤ N → ∀ (a0 : zjp), ∀ (r : Bool), zkf q a0 = some r → (orc T N).deep F.zkf [zjp.enc a0] = some [V.bool r] := by
 intro q N hM a0 r h
 rcases q with _ | q
 ·cases h
 obtain ⟨M, rfl⟩ : ∃ M, N = M + 8 := ⟨N - 8, by omega⟩
 generalize hR : some [V.bool r] = R
 rw [zhs, zbe7, y4, zhq]
 rw [zkf] at h
 replace h := br h; rcases h with ⟨h1, h⟩ | ⟨h1, h⟩
 ·replace h := br h; rcases h with ⟨h2, h⟩ | ⟨h2, h⟩
  ·replace h := br h; rcases h with ⟨h3, h⟩ | ⟨h3, h⟩
   ·replace h := br h; rcases h with ⟨h4, h⟩ | ⟨h4, h⟩
    ·replace h := br h; rcases h with ⟨h5, h⟩ | ⟨h5, h⟩
     ·replace h := br h; rcases h with ⟨h6, h⟩ | ⟨h6, h⟩
      ·replace h := ob h; obtain ⟨r1, h7, h⟩ := h
       replace h7 := zbqr q (M + 7) (by omega) _ _ h7
       try simp only [kf, simprocAttr] at h7
       replace h := bb h; rcases h with ⟨h8', h8, h⟩ | ⟨h8', h8, h⟩
       ·replace h := br h; rcases h with ⟨h9, h⟩ | ⟨h9, h⟩
        ·cases h; subst hR; simp only [zbqs, simprocAttr, *]
        ·cases h; subst hR; simp only [zbqs, simprocAttr, *]
       ·cases h; subst hR; simp only [zbqs, simprocAttr, *]
      ·cases h; subst hR; simp only [zbqs, simprocAttr, *]
     ·cases h; subst hR; simp only [zbqs, simprocAttr, *]
    ·cases h; subst hR; simp only [zbqs, simprocAttr, *]
   ·cases h; subst hR; simp only [zbqs, simprocAttr, *]
  ·cases h; subst hR; simp only [zbqs, simprocAttr, *]
 ·cases h; subst hR; simp only [zbqs, simprocAttr, *]
def zbqu := And.intro @kk <| And.intro @ke <| And.intro @kn <| And.intro @zbj7 <| And.intro @zbjw <| @zbj9
theorem zbqv : ∀ (q N : Nat), 8 * q ≤ N → ∀ (a0 : zjk) (a1 : zjo), ∀ (r : zjk × Int), zkg q a0 a1 = some r → (orc T N).deep F.zkg [zjk.enc a0, zjo.enc a1] = some [zjk.enc r.1, (V.int .i64) r.2] := by
 intro q N hM a0 a1 r h
 rcases q with _ | q
 ·cases h
 obtain ⟨M, rfl⟩ : ∃ M, N = M + 8 := ⟨N - 8, by omega⟩
 generalize hR : some [zjk.enc r.1, (V.int .i64) r.2] = R
 rw [zhs, zbfy, y4, zhq]
 rw [zkg] at h
 replace h := ob h; obtain ⟨e1, h1, h⟩ := h
 replace h := br h; rcases h with ⟨h2, h⟩ | ⟨h2, h⟩
 ·cases h; subst hR; simp only [zbqu, simprocAttr, *]
 ·replace h := br h; rcases h with ⟨h3, h⟩ | ⟨h3, h⟩
  ·replace h := br h; rcases h with ⟨h4, h⟩ | ⟨h4, h⟩
   ·replace h := ob h; obtain ⟨r2, h5, h⟩ := h
    replace h5 := zbpb q (M + 7) (by omega) _ _ h5
    replace h := ob h; obtain ⟨r3, h6, h⟩ := h
    replace h6 := zbpb q (M + 7) (by omega) _ _ h6
    cases h; subst hR; simp only [zbqu, simprocAttr, *]
   ·replace h := br h; rcases h with ⟨h7, h⟩ | ⟨h7, h⟩
    ·replace h := br h; rcases h with ⟨h8, h⟩ | ⟨h8, h⟩
     ·replace h := ob h; obtain ⟨r4, h9, h⟩ := h
      replace h9 := zbpb q (M + 7) (by omega) _ _ h9
      cases h; subst hR; simp only [zbqu, simprocAttr, *]
     ·cases h; subst hR; simp only [zbqu, simprocAttr, *]
    ·cases h; subst hR; simp only [zbqu, simprocAttr, *]
  ·replace h := br h; rcases h with ⟨h10, h⟩ | ⟨h10, h⟩
   ·replace h := br h; rcases h with ⟨h11, h⟩ | ⟨h11, h⟩
    ·replace h := ob h; obtain ⟨r5, h12, h⟩ := h
     replace h12 := zbpb q (M + 7) (by omega) _ _ h12
     cases h; subst hR; simp only [zbqu, simprocAttr, *]
    ·cases h; subst hR; simp only [zbqu, simprocAttr, *]
   ·cases h; subst hR; simp only [zbqu, simprocAttr, *]
def zbqw := And.intro @kk <| And.intro @ke <| And.intro @kn <| And.intro @zblv <| @zblx
theorem zbqx : ∀ (q N : Nat), 8 * q ≤ N → ∀ (a0 : (Ow Int)) (a1 a2 : Int), ∀ (r : (Ow Int)), zkh q a0 a1 a2 = some r → (orc T N).deep F.zkh [(Ow.enc 1 (V.int .i64)) a0, (V.int .i64) a1, (V.int .i64) a2] = some [(Ow.enc 1 (V.int .i64)) r] := by
 intro q N hM a0 a1 a2 r h
 rcases q with _ | q
 ·cases h
 obtain ⟨M, rfl⟩ : ∃ M, N = M + 8 := ⟨N - 8, by omega⟩
 generalize hR : some [(Ow.enc 1 (V.int .i64)) r] = R
 rw [zhs, zbgi, y4, zhq]
 rw [zkh] at h
 replace h := bn h; obtain ⟨h1, h⟩ := h
 replace h := bn h; obtain ⟨h2, h⟩ := h
 replace h := bn h; obtain ⟨h3, h⟩ := h
 replace h := br h; rcases h with ⟨h4, h⟩ | ⟨h4, h⟩
 ·cases h; subst hR; simp only [zbqw, simprocAttr, *]
 ·replace h := bn h; obtain ⟨h5, h⟩ := h
  replace h := bb h; rcases h with ⟨h6', h6, h⟩ | ⟨h6', h6, h⟩
  ·replace h := bn h; obtain ⟨h7, h⟩ := h
   replace h := bn h; obtain ⟨h8, h⟩ := h
   replace h := bn h; obtain ⟨h9, h⟩ := h
   replace h := bn h; obtain ⟨h10, h⟩ := h
   replace h := bn h; obtain ⟨h11, h⟩ := h
   replace h := bm h; obtain ⟨h12, h⟩ := h
   replace h := bb h; rcases h with ⟨h13', h13, h⟩ | ⟨h13', h13, h⟩
   ·cases h; subst hR; simp only [zbqw, simprocAttr, *]
   ·cases h
  ·replace h := bn h; obtain ⟨h14, h⟩ := h
   replace h := bn h; obtain ⟨h15, h⟩ := h
   replace h := bn h; obtain ⟨h16, h⟩ := h
   replace h := bb h; rcases h with ⟨h17', h17, h⟩ | ⟨h17', h17, h⟩
   ·replace h := bn h; obtain ⟨h18, h⟩ := h
    replace h := bn h; obtain ⟨h19, h⟩ := h
    cases h; subst hR; simp only [zbqw, simprocAttr, *]
   ·cases h
def zbqy := And.intro @kk <| And.intro @ke <| And.intro @kn <| And.intro @zbka <| And.intro @zbhq <| And.intro @zbjw <| And.intro @zblw <| @zbkc
theorem zbqz : ∀ (q N : Nat), 8 * q ≤ N → ∀ (a0 : zjk) (a1 : zjo), ∀ (r : zjk × Int), zki q a0 a1 = some r → (orc T N).deep F.zki [zjk.enc a0, zjo.enc a1] = some [zjk.enc r.1, (V.int .i64) r.2] := by
 intro q N hM a0 a1 r h
 rcases q with _ | q
 ·cases h
 obtain ⟨M, rfl⟩ : ∃ M, N = M + 8 := ⟨N - 8, by omega⟩
 generalize hR : some [zjk.enc r.1, (V.int .i64) r.2] = R
 rw [zhs, zbfz, y4, zhq]
 rw [zki] at h
 replace h := br h; rcases h with ⟨h1, h⟩ | ⟨h1, h⟩
 ·cases h; subst hR; simp only [zbqy, simprocAttr, *]
 ·replace h := br h; rcases h with ⟨h2, h⟩ | ⟨h2, h⟩
  ·replace h := br h; rcases h with ⟨h3, h⟩ | ⟨h3, h⟩
   ·replace h := ob h; obtain ⟨r1, h4, h⟩ := h
    replace h4 := zbp0 q (M + 7) (by omega) _ _ h4
    try simp only [kf, simprocAttr] at h4
    replace h := ob h; obtain ⟨r2, h5, h⟩ := h
    replace h5 := zbpb q (M + 7) (by omega) _ _ h5
    replace h := bn h; obtain ⟨h6, h⟩ := h
    cases h; subst hR; simp only [zbqy, simprocAttr, *]
   ·cases h; subst hR; simp only [zbqy, simprocAttr, *]
  ·replace h := br h; rcases h with ⟨h7, h⟩ | ⟨h7, h⟩
   ·replace h := br h; rcases h with ⟨h8, h⟩ | ⟨h8, h⟩
    ·cases h; subst hR; simp only [zbqy, simprocAttr, *]
    ·replace h := br h; rcases h with ⟨h9, h⟩ | ⟨h9, h⟩
     ·replace h := ob h; obtain ⟨e3, h10, h⟩ := h
      replace h := ob h; obtain ⟨r4, h11, h⟩ := h
      replace h11 := zbp0 q (M + 7) (by omega) _ _ h11
      try simp only [kf, simprocAttr] at h11
      replace h := ob h; obtain ⟨r5, h12, h⟩ := h
      replace h12 := zbqx q (M + 7) (by omega) _ _ _ _ h12
      try simp only [kf, simprocAttr] at h12
      cases h; subst hR; simp only [zbqy, simprocAttr, *]
     ·replace h := bn h; obtain ⟨h13, h⟩ := h
      replace h := ob h; obtain ⟨e6, h14, h⟩ := h
      replace h := ob h; obtain ⟨r7, h15, h⟩ := h
      replace h15 := zbp0 q (M + 7) (by omega) _ _ h15
      try simp only [kf, simprocAttr] at h15
      replace h := ob h; obtain ⟨r8, h16, h⟩ := h
      replace h16 := zbqx q (M + 7) (by omega) _ _ _ _ h16
      try simp only [kf, simprocAttr] at h16
      cases h; subst hR; simp only [zbqy, simprocAttr, *]
   ·cases h; subst hR; simp only [zbqy, simprocAttr, *]
def zbq0 (q : Nat) : Prop := ∀ (M : Nat) (hM : 8 * q ≤ M) (j : Nat) (hj : q ≤ j) (v0z : Bool) (v0l : List Int) (v1 v6 : Int) (r : Int × Bool) (_ : zkj q v0z v0l v1 v6 = some r) (R : Option (List V)) (_ : some [(V.int .i64) r.1, V.bool r.2] = R) (fr : Fr) (H : Hp) (_ : canon 0 [0, 1, 6] fr H = ([(0, (.sl v0z (List.map (V.int .i64) v0l))), (1, (.int .i64 v1)), (6, (.int .i64 v6))], [])), fin z9v (unw T (orc T (M + 7)) (M + 7) 0 [.blk 0, .code z9r] (iter 0 [0, 1, 6] (exec T (orc T (M + 7)) (M + 7) 0 z9p) j fr H)) = R
def zbq1 := And.intro @kk <| And.intro @ke <| And.intro @kn <| And.intro @zbl1 <| @zbl3
theorem zbq2 (q : Nat) (zbty : zbq0 q) : zbq0 (q + 1) := by
 intro M hM j hj v0z v0l v1 v6 r h R hR fr H hc
 obtain ⟨j, rfl⟩ : ∃ i, j = i + 1 := ⟨j - 1, by omega⟩
 rw [zhj, hc]; clear hc
 rw [zkj] at h
 replace h := br h; rcases h with ⟨h1, h⟩ | ⟨h1, h⟩
 ·replace h := bn h; obtain ⟨h2, h⟩ := h
  replace h := ob h; obtain ⟨e1, h3, h⟩ := h
  replace h := br h; rcases h with ⟨h4, h⟩ | ⟨h4, h⟩
  ·replace h := zbty M (by omega) j (by omega) _ _ _ _ _ h R hR
   simp only [zbq1, simprocAttr, *]
  ·cases h; subst hR; simp only [zbq1, simprocAttr, *]
 ·cases h; subst hR; simp only [zbq1, simprocAttr, *]
theorem zbq3 : ∀ q, zbq0 q
 | 0 => by intro M hM j hj; intros; rename_i h _ _ _ _ _; cases h
 | q + 1 => by have i0 := zbq3 q; exact zbq2 q i0
theorem zbq4 : ∀ (q N : Nat), 8 * q ≤ N → ∀ (a0 : (Sl Int)) (a1 : Int), ∀ (r : Int × Bool), zkk q a0 a1 = some r → (orc T N).deep F.zkk [(Sl.enc (V.int .i64)) a0, (V.int .i64) a1] = some [(V.int .i64) r.1, V.bool r.2] := by
 intro q N hM a0 a1 r h
 rcases q with _ | q
 ·cases h
 obtain ⟨M, rfl⟩ : ∃ M, N = M + 8 := ⟨N - 8, by omega⟩
 have zbty := (zbq3 q)
 generalize hR : some [(V.int .i64) r.1, V.bool r.2] = R
 rw [zhs, zbgk, y4, zhq]
 rw [zkk] at h
 replace h := zbty M (by omega) (M + 7) (by omega) _ _ _ _ _ h R hR
 simp only [zbq1, simprocAttr, *]
def zbq5 := And.intro @kk <| And.intro @ke <| And.intro @kn <| And.intro @zbly <| And.intro @zbl2 <| @zbl0
theorem zbq6 : ∀ (q N : Nat), 8 * q ≤ N → ∀ (a0 : (Sl Int)) (a1 : Int), ∀ (r : Int), zkl q a0 a1 = some r → (orc T N).deep F.zkl [(Sl.enc (V.int .i64)) a0, (V.int .i64) a1] = some [(V.int .i64) r] := by
 intro q N hM a0 a1 r h
 rcases q with _ | q
 ·cases h
 obtain ⟨M, rfl⟩ : ∃ M, N = M + 8 := ⟨N - 8, by omega⟩
 generalize hR : some [(V.int .i64) r] = R
 rw [zhs, zbgj, y4, zhq]
 rw [zkl] at h
 replace h := ob h; obtain ⟨r1, h1, h⟩ := h
 replace h1 := zbq4 q (M + 7) (by omega) _ _ _ h1
 try simp only [kf, simprocAttr] at h1
 replace h := bb h; rcases h with ⟨h2', h2, h⟩ | ⟨h2', h2, h⟩
 ·replace h := bn h; obtain ⟨h3, h⟩ := h
  replace h := ob h; obtain ⟨e2, h4, h⟩ := h
  cases h; subst hR; simp only [zbq5, simprocAttr, *]
 ·cases h; subst hR; simp only [zbq5, simprocAttr, *]
def zbq7 := And.intro @kk <| And.intro @ke <| And.intro @kn <| And.intro @zbkd <| And.intro @zbhq <| And.intro @zbjw <| And.intro @zblw <| And.intro @zblz <| And.intro @zbl2 <| @zbkf
theorem zbq8 : ∀ (q N : Nat), 8 * q ≤ N → ∀ (a0 : zjk) (a1 : zjo), ∀ (r : zjk × Int), zkm q a0 a1 = some r → (orc T N).deep F.zkm [zjk.enc a0, zjo.enc a1] = some [zjk.enc r.1, (V.int .i64) r.2] := by
 intro q N hM a0 a1 r h
 rcases q with _ | q
 ·cases h
 obtain ⟨M, rfl⟩ : ∃ M, N = M + 8 := ⟨N - 8, by omega⟩
 generalize hR : some [zjk.enc r.1, (V.int .i64) r.2] = R
 rw [zhs, zbf0, y4, zhq]
 rw [zkm] at h
 replace h := br h; rcases h with ⟨h1, h⟩ | ⟨h1, h⟩
 ·replace h := br h; rcases h with ⟨h2, h⟩ | ⟨h2, h⟩
  ·cases h; subst hR; simp only [zbq7, simprocAttr, *]
  ·replace h := br h; rcases h with ⟨h3, h⟩ | ⟨h3, h⟩
   ·cases h; subst hR; simp only [zbq7, simprocAttr, *]
   ·replace h := ob h; obtain ⟨r1, h4, h⟩ := h
    replace h4 := zbq6 q (M + 7) (by omega) _ _ _ h4
    try simp only [kf, simprocAttr] at h4
    replace h := ob h; obtain ⟨r2, h5, h⟩ := h
    replace h5 := zbq4 q (M + 7) (by omega) _ _ _ h5
    try simp only [kf, simprocAttr] at h5
    replace h := br h; rcases h with ⟨h6, h⟩ | ⟨h6, h⟩
    ·replace h := bb h; rcases h with ⟨h7', h7, h⟩ | ⟨h7', h7, h⟩
     ·replace h := ob h; obtain ⟨r3, h8, h⟩ := h
      replace h8 := zbp0 q (M + 7) (by omega) _ _ h8
      try simp only [kf, simprocAttr] at h8
      replace h := ob h; obtain ⟨r4, h9, h⟩ := h
      replace h9 := zbqx q (M + 7) (by omega) _ _ _ _ h9
      try simp only [kf, simprocAttr] at h9
      cases h; subst hR; simp only [zbq7, simprocAttr, *]
     ·replace h := bm h; obtain ⟨h10, h⟩ := h
      cases h; subst hR; simp only [zbq7, simprocAttr, *]
    ·replace h := bm h; obtain ⟨h11, h⟩ := h
     cases h; subst hR; simp only [zbq7, simprocAttr, *]
 ·replace h := br h; rcases h with ⟨h12, h⟩ | ⟨h12, h⟩
  ·replace h := br h; rcases h with ⟨h13, h⟩ | ⟨h13, h⟩
   ·cases h; subst hR; simp only [zbq7, simprocAttr, *]
   ·replace h := br h; rcases h with ⟨h14, h⟩ | ⟨h14, h⟩
    ·cases h; subst hR; simp only [zbq7, simprocAttr, *]
    ·replace h := ob h; obtain ⟨r7, h15, h⟩ := h
     replace h15 := zbq6 q (M + 7) (by omega) _ _ _ h15
     try simp only [kf, simprocAttr] at h15
     replace h := ob h; obtain ⟨r8, h16, h⟩ := h
     replace h16 := zbq4 q (M + 7) (by omega) _ _ _ h16
     try simp only [kf, simprocAttr] at h16
     replace h := bb h; rcases h with ⟨h17', h17, h⟩ | ⟨h17', h17, h⟩
     ·replace h := ob h; obtain ⟨r9, h18, h⟩ := h
      replace h18 := zbp0 q (M + 7) (by omega) _ _ h18
      try simp only [kf, simprocAttr] at h18
      replace h := ob h; obtain ⟨r10, h19, h⟩ := h
      replace h19 := zbqx q (M + 7) (by omega) _ _ _ _ h19
      try simp only [kf, simprocAttr] at h19
      cases h; subst hR; simp only [zbq7, simprocAttr, *]
     ·replace h := bm h; obtain ⟨h20, h⟩ := h
      cases h; subst hR; simp only [zbq7, simprocAttr, *]
  ·replace h := br h; rcases h with ⟨h21, h⟩ | ⟨h21, h⟩
   ·replace h := br h; rcases h with ⟨h22, h⟩ | ⟨h22, h⟩
    ·cases h; subst hR; simp only [zbq7, simprocAttr, *]
    ·replace h := br h; rcases h with ⟨h23, h⟩ | ⟨h23, h⟩
     ·cases h; subst hR; simp only [zbq7, simprocAttr, *]
     ·replace h := ob h; obtain ⟨r12, h24, h⟩ := h
      replace h24 := zbq6 q (M + 7) (by omega) _ _ _ h24
      try simp only [kf, simprocAttr] at h24
      replace h := ob h; obtain ⟨r13, h25, h⟩ := h
      replace h25 := zbq4 q (M + 7) (by omega) _ _ _ h25
      try simp only [kf, simprocAttr] at h25
      cases h
   ·cases h; subst hR; simp only [zbq7, simprocAttr, *]
def zbq9 := And.intro @kk <| And.intro @ke <| And.intro @kn <| And.intro @zbl4 <| And.intro @zblz <| @zbl6
theorem zbra : ∀ (q N : Nat), 8 * q ≤ N → ∀ (a0 : zjk) (a1 : zjo), ∀ (r : zjk × Int), zkn q a0 a1 = some r → (orc T N).deep F.zkn [zjk.enc a0, zjo.enc a1] = some [zjk.enc r.1, (V.int .i64) r.2] := by
 intro q N hM a0 a1 r h
 rcases q with _ | q
 ·cases h
 obtain ⟨M, rfl⟩ : ∃ M, N = M + 8 := ⟨N - 8, by omega⟩
 generalize hR : some [zjk.enc r.1, (V.int .i64) r.2] = R
 rw [zhs, zbgl, y4, zhq]
 rw [zkn] at h
 replace h := br h; rcases h with ⟨h1, h⟩ | ⟨h1, h⟩
 ·cases h; subst hR; simp only [zbq9, simprocAttr, *]
 ·replace h := br h; rcases h with ⟨h2, h⟩ | ⟨h2, h⟩
  ·cases h; subst hR; simp only [zbq9, simprocAttr, *]
  ·replace h := br h; rcases h with ⟨h3, h⟩ | ⟨h3, h⟩
   ·cases h; subst hR; simp only [zbq9, simprocAttr, *]
   ·replace h := ob h; obtain ⟨r1, h4, h⟩ := h
    replace h4 := zbq6 q (M + 7) (by omega) _ _ _ h4
    try simp only [kf, simprocAttr] at h4
    replace h := ob h; obtain ⟨r2, h5, h⟩ := h
    replace h5 := zbq6 q (M + 7) (by omega) _ _ _ h5
    try simp only [kf, simprocAttr] at h5
    replace h := br h; rcases h with ⟨h6, h⟩ | ⟨h6, h⟩
    ·cases h; subst hR; simp only [zbq9, simprocAttr, *]
    ·replace h := bn h; obtain ⟨h7, h⟩ := h
     cases h; subst hR; simp only [zbq9, simprocAttr, *]
def zbrb := And.intro @kk <| And.intro @ke <| And.intro @kn <| And.intro @zbkg <| And.intro @zbjw <| And.intro @zblz <| And.intro @zbl5 <| @zbki
theorem zbrc : ∀ (q N : Nat), 8 * q ≤ N → ∀ (a0 : zjk) (a1 : zjo), ∀ (r : zjk × Int), zko q a0 a1 = some r → (orc T N).deep F.zko [zjk.enc a0, zjo.enc a1] = some [zjk.enc r.1, (V.int .i64) r.2] := by
 intro q N hM a0 a1 r h
 rcases q with _ | q
 ·cases h
 obtain ⟨M, rfl⟩ : ∃ M, N = M + 8 := ⟨N - 8, by omega⟩
 generalize hR : some [zjk.enc r.1, (V.int .i64) r.2] = R
 rw [zhs, zbf1, y4, zhq]
 rw [zko] at h
 replace h := br h; rcases h with ⟨h1, h⟩ | ⟨h1, h⟩
 ·replace h := ob h; obtain ⟨r1, h2, h⟩ := h
  replace h2 := zbra q (M + 7) (by omega) _ _ _ h2
  try simp only [kf, simprocAttr] at h2
  cases h; subst hR; simp only [zbrb, simprocAttr, *]
 ·replace h := br h; rcases h with ⟨h3, h⟩ | ⟨h3, h⟩
  ·replace h := br h; rcases h with ⟨h4, h⟩ | ⟨h4, h⟩
   ·cases h; subst hR; simp only [zbrb, simprocAttr, *]
   ·replace h := br h; rcases h with ⟨h5, h⟩ | ⟨h5, h⟩
    ·cases h; subst hR; simp only [zbrb, simprocAttr, *]
    ·replace h := ob h; obtain ⟨r2, h6, h⟩ := h
     replace h6 := zbq6 q (M + 7) (by omega) _ _ _ h6
     try simp only [kf, simprocAttr] at h6
     cases h; subst hR; simp only [zbrb, simprocAttr, *]
  ·replace h := br h; rcases h with ⟨h7, h⟩ | ⟨h7, h⟩
   ·replace h := br h; rcases h with ⟨h8, h⟩ | ⟨h8, h⟩
    ·cases h; subst hR; simp only [zbrb, simprocAttr, *]
    ·replace h := br h; rcases h with ⟨h9, h⟩ | ⟨h9, h⟩
     ·cases h; subst hR; simp only [zbrb, simprocAttr, *]
     ·replace h := br h; rcases h with ⟨h10, h⟩ | ⟨h10, h⟩
      ·cases h; subst hR; simp only [zbrb, simprocAttr, *]
      ·replace h := ob h; obtain ⟨r3, h11, h⟩ := h
       replace h11 := zbq6 q (M + 7) (by omega) _ _ _ h11
       try simp only [kf, simprocAttr] at h11
       replace h := ob h; obtain ⟨r4, h12, h⟩ := h
       replace h12 := zbpb q (M + 7) (by omega) _ _ h12
       replace h := ob h; obtain ⟨r5, h13, h⟩ := h
       replace h13 := zbpb q (M + 7) (by omega) _ _ h13
       cases h
   ·cases h; subst hR; simp only [zbrb, simprocAttr, *]
def zbrd := And.intro @kk <| And.intro @ke <| And.intro @kn <| And.intro @zbh1 <| And.intro @zbht <| And.intro @zbj8 <| And.intro @zbkb <| And.intro @zbke <| And.intro @zbkh <| @zbh3
theorem zbre : ∀ (q N : Nat), 8 * q ≤ N → ∀ (a0 : zjk) (a1 : zjo), ∀ (r : zjk × Int), zkp q a0 a1 = some r → (orc T N).deep F.zkp [zjk.enc a0, zjo.enc a1] = some [zjk.enc r.1, (V.int .i64) r.2] := by
 intro q N hM a0 a1 r h
 rcases q with _ | q
 ·cases h
 obtain ⟨M, rfl⟩ : ∃ M, N = M + 8 := ⟨N - 8, by omega⟩
 generalize hR : some [zjk.enc r.1, (V.int .i64) r.2] = R
 rw [zhs, zbe8, y4, zhq]
 rw [zkp] at h
 replace h := ob h; obtain ⟨r1, h1, h⟩ := h
 replace h1 := zbpp q (M + 7) (by omega) _ _ h1
 try simp only [kf, simprocAttr] at h1
 replace h := bb h; rcases h with ⟨h2', h2, h⟩ | ⟨h2', h2, h⟩
 ·replace h := bb h; rcases h with ⟨h3', h3, h⟩ | ⟨h3', h3, h⟩
  ·cases h; subst hR; simp only [zbrd, simprocAttr, *]
  ·replace h := br h; rcases h with ⟨h4, h⟩ | ⟨h4, h⟩
   ·replace h := br h; rcases h with ⟨h5, h⟩ | ⟨h5, h⟩
    ·replace h := br h; rcases h with ⟨h6, h⟩ | ⟨h6, h⟩
     ·cases h; subst hR; simp only [zbrd, simprocAttr, *]
     ·cases h; subst hR; simp only [zbrd, simprocAttr, *]
    ·cases h; subst hR; simp only [zbrd, simprocAttr, *]
   ·replace h := br h; rcases h with ⟨h7, h⟩ | ⟨h7, h⟩
    ·replace h := ob h; obtain ⟨r2, h8, h⟩ := h
     replace h8 := zbqv q (M + 7) (by omega) _ _ _ h8
     try simp only [kf, simprocAttr] at h8
     cases h; subst hR; simp only [zbrd, simprocAttr, *]
    ·replace h := br h; rcases h with ⟨h9, h⟩ | ⟨h9, h⟩
     ·replace h := ob h; obtain ⟨r3, h10, h⟩ := h
      replace h10 := zbqv q (M + 7) (by omega) _ _ _ h10
      try simp only [kf, simprocAttr] at h10
      cases h; subst hR; simp only [zbrd, simprocAttr, *]
     ·replace h := br h; rcases h with ⟨h11, h⟩ | ⟨h11, h⟩
      ·replace h := ob h; obtain ⟨r4, h12, h⟩ := h
       replace h12 := zbqz q (M + 7) (by omega) _ _ _ h12
       try simp only [kf, simprocAttr] at h12
       cases h; subst hR; simp only [zbrd, simprocAttr, *]
      ·replace h := br h; rcases h with ⟨h13, h⟩ | ⟨h13, h⟩
       ·replace h := ob h; obtain ⟨r5, h14, h⟩ := h
        replace h14 := zbqz q (M + 7) (by omega) _ _ _ h14
        try simp only [kf, simprocAttr] at h14
        cases h; subst hR; simp only [zbrd, simprocAttr, *]
       ·replace h := br h; rcases h with ⟨h15, h⟩ | ⟨h15, h⟩
        ·replace h := ob h; obtain ⟨r6, h16, h⟩ := h
         replace h16 := zbq8 q (M + 7) (by omega) _ _ _ h16
         try simp only [kf, simprocAttr] at h16
         cases h; subst hR; simp only [zbrd, simprocAttr, *]
        ·replace h := ob h; obtain ⟨r7, h17, h⟩ := h
         replace h17 := zbrc q (M + 7) (by omega) _ _ _ h17
         try simp only [kf, simprocAttr] at h17
         cases h; subst hR; simp only [zbrd, simprocAttr, *]
 ·cases h; subst hR; simp only [zbrd, simprocAttr, *]
def zbrf (q : Nat) : Prop := ∀ (M : Nat) (hM : 8 * q ≤ M) (j : Nat) (hj : q ≤ j) (v8z : Bool) (v8l : List zjp) (v9 h0_0 h0_1 : Int) (h0_2z : Bool) (h0_2l : List Int) (h0_3 : Bool) (h0_4 : Int) (h0_5z : Bool) (h0_5l : List zjl) (r : zjm × Int) (_ : zkr q v8z v8l v9 h0_0 h0_1 h0_2z h0_2l h0_3 h0_4 h0_5z h0_5l = some r) (R : Option (List V)) (_ : some [zjm.enc r.1, (V.int .i64) r.2] = R) (fr : Fr) (H : Hp) (_ : canon 0 [2, 4, 8, 9, 10] fr H = ([(2, (.ptr 0 0)), (4, (.ptr 1 0)), (8, (.sl v8z (List.map zjp.enc v8l))), (9, (.int .i64 v9)), (10, (.int .i64 0))], [(.box [(.int .i64 h0_0), (.int .i64 h0_1), (.sl h0_2z (List.map (V.int .i64) h0_2l)), (.bool h0_3), (.int .i64 h0_4), (.sl h0_5z (List.map zjl.enc h0_5l))]), (.box [(.int .i64 0), (.int .i64 0), (.sl true []), (.bool false), (.int .i64 0), (.sl true [])])])), fin zn2 (unw T (orc T (M + 7)) (M + 7) 0 [.blk 0, .code znz] (iter 0 [2, 4, 8, 9, 10] (exec T (orc T (M + 7)) (M + 7) 0 znw) j fr H)) = R
def zbrg (q : Nat) : Prop := ∀ (M : Nat) (hM : 8 * q ≤ M) (j : Nat) (hj : q ≤ j) (v8z : Bool) (v8l : List zjp) (v9 v10 h0_0 h0_1 : Int) (h0_2z : Bool) (h0_2l : List Int) (h0_3 : Bool) (h0_4 : Int) (h2z : Bool) (h2l : List zjl) (h2x : Bool) (r : zjm × Int) (_ : zkq q v8z v8l v9 v10 h0_0 h0_1 h0_2z h0_2l h0_3 h0_4 h2z h2l h2x = some r) (R : Option (List V)) (_ : some [zjm.enc r.1, (V.int .i64) r.2] = R) (fr : Fr) (H : Hp) (_ : canon 0 [2, 4, 8, 9, 10] fr H = ([(2, (.ptr 0 0)), (4, (.ptr 1 0)), (8, (.sl v8z (List.map zjp.enc v8l))), (9, (.int .i64 v9)), (10, (.int .i64 v10))], [(.box [(.int .i64 h0_0), (.int .i64 h0_1), (.sl h0_2z (List.map (V.int .i64) h0_2l)), (.bool h0_3), (.int .i64 h0_4), (.vw 2 0 0 h2l.length 1)]), (.box [(.int .i64 0), (.int .i64 0), (.sl true []), (.bool false), (.int .i64 0), (.sl true [])]), (.row 0 h2z 3 (List.map zjl.enc h2l) h2x)])), fin zn2 (unw T (orc T (M + 7)) (M + 7) 0 [.blk 0, .code znz] (iter 0 [2, 4, 8, 9, 10] (exec T (orc T (M + 7)) (M + 7) 0 znw) j fr H)) = R
def zbrh := And.intro @kk <| And.intro @ke <| And.intro @kn <| And.intro @zbg7 <| And.intro @zbhe <| And.intro @zbhz <| And.intro @zbh2 <| @zbg9
theorem zbri (q : Nat) (zbtz : zbrg q) : zbrf (q + 1) := by
 intro M hM j hj v8z v8l v9 h0_0 h0_1 h0_2z h0_2l h0_3 h0_4 h0_5z h0_5l r h R hR fr H hc
 obtain ⟨j, rfl⟩ : ∃ i, j = i + 1 := ⟨j - 1, by omega⟩
 rw [zhj, hc]; clear hc
 rw [zkr] at h
 replace h := br h; rcases h with ⟨h1, h⟩ | ⟨h1, h⟩
 ·replace h := ob h; obtain ⟨e1, h2, h⟩ := h
  replace h := br h; rcases h with ⟨h3, h⟩ | ⟨h3, h⟩
  ·replace h := ob h; obtain ⟨r2, h4, h⟩ := h
   replace h4 := zbqt q (M + 7) (by omega) _ _ h4
   try simp only [kf, simprocAttr] at h4
   replace h := bb h; rcases h with ⟨h5', h5, h⟩ | ⟨h5', h5, h⟩
   ·replace h := ob h; obtain ⟨r3, h6, h⟩ := h
    replace h6 := zbre q (M + 7) (by omega) _ _ _ h6
    try simp only [kf, simprocAttr] at h6
    replace h := ob h; obtain ⟨r4, h7, h⟩ := h
    replace h7 := zbql q (M + 7) (by omega) _ _ _ h7
    try simp only [kf, simprocAttr] at h7
    replace h := zbtz M (by omega) j (by omega) _ _ _ _ _ _ _ _ _ _ _ _ _ _ h R hR
    simp only [zbrh, simprocAttr, *]
   ·cases h; subst hR; simp only [zbrh, simprocAttr, *]
  ·cases h; subst hR; simp only [zbrh, simprocAttr, *]
 ·cases h; subst hR; simp only [zbrh, simprocAttr, *]
theorem zbrj (q : Nat) (zbtz : zbrg q) : zbrg (q + 1) := by
 intro M hM j hj v8z v8l v9 v10 h0_0 h0_1 h0_2z h0_2l h0_3 h0_4 h2z h2l h2x r h R hR fr H hc
 obtain ⟨j, rfl⟩ : ∃ i, j = i + 1 := ⟨j - 1, by omega⟩
 rw [zhj, hc]; clear hc
 rw [zkq] at h
 replace h := br h; rcases h with ⟨h1, h⟩ | ⟨h1, h⟩
 ·replace h := bn h; obtain ⟨h2, h⟩ := h
  replace h := ob h; obtain ⟨e5, h3, h⟩ := h
  replace h := br h; rcases h with ⟨h4, h⟩ | ⟨h4, h⟩
  ·replace h := ob h; obtain ⟨r6, h5, h⟩ := h
   replace h5 := zbqt q (M + 7) (by omega) _ _ h5
   try simp only [kf, simprocAttr] at h5
   replace h := bb h; rcases h with ⟨h6', h6, h⟩ | ⟨h6', h6, h⟩
   ·replace h := ob h; obtain ⟨r7, h7, h⟩ := h
    replace h7 := zbre q (M + 7) (by omega) _ _ _ h7
    try simp only [kf, simprocAttr] at h7
    replace h := ob h; obtain ⟨r8, h8, h⟩ := h
    replace h8 := zbql q (M + 7) (by omega) _ _ _ h8
    try simp only [kf, simprocAttr] at h8
    replace h := zbtz M (by omega) j (by omega) _ _ _ _ _ _ _ _ _ _ _ _ _ _ h R hR
    simp only [zbrh, simprocAttr, *]
   ·cases h; subst hR; simp only [zbrh, simprocAttr, *]
  ·cases h; subst hR; simp only [zbrh, simprocAttr, *]
 ·cases h; subst hR; simp only [zbrh, simprocAttr, *]
theorem zbrk : ∀ q, zbrf q ∧ zbrg q
 | 0 => by refine ⟨?_, ?_⟩ <;> (intro M hM j hj; intros; rename_i h _ _ _ _ _; cases h)
 | q + 1 => by have ⟨i0, i1⟩ := zbrk q; exact ⟨zbri q i1, zbrj q i1⟩
theorem zbrl : ∀ (q N : Nat), 8 * q ≤ N → ∀ (a0 : zjm) (a1 : (Sl zjp)), ∀ (r : zjm × Int), zks q a0 a1 = some r → (orc T N).deep F.zks [zjm.enc a0, (Sl.enc zjp.enc) a1] = some [zjm.enc r.1, (V.int .i64) r.2] := by
 intro q N hM a0 a1 r h
 rcases q with _ | q
 ·cases h
 obtain ⟨M, rfl⟩ : ∃ M, N = M + 8 := ⟨N - 8, by omega⟩
 have ih_snapshot_Take_l0 := (zbrk q).1
 generalize hR : some [zjm.enc r.1, (V.int .i64) r.2] = R
 rw [zhs, zbey, y4, zhq]
 rw [zks] at h
 replace h := ih_snapshot_Take_l0 M (by omega) (M + 7) (by omega) _ _ _ _ _ _ _ _ _ _ _ _ h R hR
 simp only [zbrh, simprocAttr, *]
def zbrm := And.intro @kk <| And.intro @ke <| And.intro @kn <| And.intro @zbma <| @zbmc
theorem zbrn : ∀ (q N : Nat), 8 * q ≤ N → ∀ (a0 : Int), ∀ (r : Bool), zkt q a0 = some r → (orc T N).deep F.zkt [(V.int .u8) a0] = some [V.bool r] := by
 intro q N hM a0 r h
 rcases q with _ | q
 ·cases h
 obtain ⟨M, rfl⟩ : ∃ M, N = M + 8 := ⟨N - 8, by omega⟩
 generalize hR : some [V.bool r] = R
 rw [zhs, zbgn, y4, zhq]
 rw [zkt] at h
 cases h; subst hR; simp only [zbrm, simprocAttr, *]
def zbro (q : Nat) : Prop := ∀ (M : Nat) (hM : 8 * q ≤ M) (j : Nat) (hj : q ≤ j) (v0z : Bool) (v0l : List Int) (v7 v8 r : Int) (_ : zku q v0z v0l v7 v8 = some r) (R : Option (List V × Hp)) (_ : (some ([(.int .i64 r)], []) : Option (List V × Hp)) = R) (fr : Fr) (H : Hp) (_ : canon 0 [0, 1, 7, 8] fr H = ([(0, (.sl v0z (List.map (V.int .u8) v0l))), (1, (.fn F.zkt [])), (7, (.int .i64 v7)), (8, (.int .i64 v8))], [])), finI 0 false [.tmp 4] (unw T (orc T (M + 5)) (M + 5) 0 [.blk 0, .code zbd1] (iter 0 [0, 1, 7, 8] (exec T (orc T (M + 5)) (M + 5) 0 zbdy) j fr H)) = R
def zbrp := And.intro @kk <| And.intro @ke <| And.intro @kn <| And.intro @zbms <| @zbmb
theorem zbrq (q : Nat) (zbt0 : zbro q) : zbro (q + 1) := by
 intro M hM j hj v0z v0l v7 v8 r h R hR fr H hc
 obtain ⟨j, rfl⟩ : ∃ i, j = i + 1 := ⟨j - 1, by omega⟩
 rw [zhj, hc]; clear hc
 rw [zku] at h
 replace h := br h; rcases h with ⟨h1, h⟩ | ⟨h1, h⟩
 ·replace h := bn h; obtain ⟨h2, h⟩ := h
  replace h := ob h; obtain ⟨e1, h3, h⟩ := h
  replace h := ob h; obtain ⟨r2, h4, h⟩ := h
  replace h4 := zbrn q (M + 5) (by omega) _ _ h4
  replace h := bb h; rcases h with ⟨h5', h5, h⟩ | ⟨h5', h5, h⟩
  ·cases h; subst hR; simp only [zbrp, simprocAttr, *]
  ·replace h := zbt0 M (by omega) j (by omega) _ _ _ _ _ h R hR
   simp only [zbrp, simprocAttr, *]
 ·cases h; subst hR; simp only [zbrp, simprocAttr, *]
theorem zbrr : ∀ q, zbro q
 | 0 => by intro M hM j hj; intros; rename_i h _ _ _ _ _; cases h
 | q + 1 => by have i0 := zbrr q; exact zbrq q i0
theorem zbrs : ∀ (q M : Nat), 8 * q ≤ M → ∀ (v0z : Bool), ∀ (v0l : List Int), ∀ (r : Int), zkv q v0z v0l = some r → (orc T (M + 6)).inl F.zms [(.sl v0z (List.map (V.int .u8) v0l)), (.fn F.zkt [])] [] = (some ([(.int .i64 r)], []) : Option (List V × Hp)) := by
 intro q M hM v0z v0l r h
 rcases q with _ | q
 ·cases h
 have zbt0 := (zbrr q)
 generalize hR : (some ([(.int .i64 r)], []) : Option (List V × Hp)) = R
 rw [zbmu (n := M + 5)]
 rw [zkv] at h
 replace h := zbt0 M (by omega) (M + 5) (by omega) _ _ _ _ _ h R hR
 simp only [zbrp, simprocAttr, *]
def zbrt := And.intro @kk <| And.intro @ke <| And.intro @kn <| And.intro @zbkj <| And.intro @zbl7 <| And.intro @zbmt <| And.intro @zbl8 <| And.intro @zbl9 <| @zbkl
theorem zbru : ∀ (q N : Nat), 8 * q ≤ N → ∀ (a0 : (Sl Int)), ∀ (r : Bool), zkw q a0 = some r → (orc T N).deep F.zkw [(Sl.enc (V.int .u8)) a0] = some [V.bool r] := by
 intro q N hM a0 r h
 rcases q with _ | q
 ·cases h
 obtain ⟨M, rfl⟩ : ∃ M, N = M + 8 := ⟨N - 8, by omega⟩
 generalize hR : some [V.bool r] = R
 rw [zhs, zbf2, y4, zhq]
 rw [zkw] at h
 replace h := br h; rcases h with ⟨h1, h⟩ | ⟨h1, h⟩
 ·replace h := ob h; obtain ⟨r1, h2, h⟩ := h
  replace h2 := zbrs q M (by omega) _ _ _ h2
  try simp only [kf, simprocAttr] at h2
  cases h; subst hR; simp only [zbrt, simprocAttr, *]
 ·cases h; subst hR; simp only [zbrt, simprocAttr, *]
def zbrv (q : Nat) : Prop := ∀ (M : Nat) (hM : 8 * q ≤ M) (j : Nat) (hj : q ≤ j) (v0z : Bool) (v0l : List Int) (v4 v9 v10 : Int) (r : Int × Int) (_ : zkx q v0z v0l v4 v9 v10 = some r) (R : Option (List V)) (_ : some [(V.int .u64) r.1, (V.int .i64) r.2] = R) (fr : Fr) (H : Hp) (_ : canon 0 [0, 4, 9, 10] fr H = ([(0, (.sl v0z (List.map (V.int .u8) v0l))), (4, (.int .u64 v4)), (9, (.int .i64 v9)), (10, (.int .i64 v10))], [])), fin zbbv (unw T (orc T (M + 7)) (M + 7) 0 [.blk 0, .code zbbr] (iter 0 [0, 4, 9, 10] (exec T (orc T (M + 7)) (M + 7) 0 zbbo) j fr H)) = R
def zbrw := And.intro @kk <| And.intro @ke <| And.intro @kn <| And.intro @zbmd <| @zbmf
theorem zbrx (q : Nat) (zbt1 : zbrv q) : zbrv (q + 1) := by
 intro M hM j hj v0z v0l v4 v9 v10 r h R hR fr H hc
 obtain ⟨j, rfl⟩ : ∃ i, j = i + 1 := ⟨j - 1, by omega⟩
 rw [zhj, hc]; clear hc
 rw [zkx] at h
 replace h := br h; rcases h with ⟨h1, h⟩ | ⟨h1, h⟩
 ·replace h := bn h; obtain ⟨h2, h⟩ := h
  replace h := ob h; obtain ⟨e1, h3, h⟩ := h
  replace h := bm h; obtain ⟨h4, h⟩ := h
  replace h := br h; rcases h with ⟨h5, h⟩ | ⟨h5, h⟩
  ·replace h := br h; rcases h with ⟨h6, h⟩ | ⟨h6, h⟩
   ·cases h; subst hR; simp only [zbrw, simprocAttr, *]
   ·replace h := br h; rcases h with ⟨h7, h⟩ | ⟨h7, h⟩
    ·replace h := br h; rcases h with ⟨h8, h⟩ | ⟨h8, h⟩
     ·cases h; subst hR; simp only [zbrw, simprocAttr, *]
     ·replace h := br h; rcases h with ⟨h9, h⟩ | ⟨h9, h⟩
      ·cases h; subst hR; simp only [zbrw, simprocAttr, *]
      ·replace h := zbt1 M (by omega) j (by omega) _ _ _ _ _ _ h R hR
       simp only [zbrw, simprocAttr, *]
    ·replace h := br h; rcases h with ⟨h10, h⟩ | ⟨h10, h⟩
     ·cases h; subst hR; simp only [zbrw, simprocAttr, *]
     ·replace h := zbt1 M (by omega) j (by omega) _ _ _ _ _ _ h R hR
      simp only [zbrw, simprocAttr, *]
  ·replace h := br h; rcases h with ⟨h11, h⟩ | ⟨h11, h⟩
   ·replace h := br h; rcases h with ⟨h12, h⟩ | ⟨h12, h⟩
    ·cases h; subst hR; simp only [zbrw, simprocAttr, *]
    ·replace h := br h; rcases h with ⟨h13, h⟩ | ⟨h13, h⟩
     ·cases h; subst hR; simp only [zbrw, simprocAttr, *]
     ·replace h := zbt1 M (by omega) j (by omega) _ _ _ _ _ _ h R hR
      simp only [zbrw, simprocAttr, *]
   ·replace h := br h; rcases h with ⟨h14, h⟩ | ⟨h14, h⟩
    ·cases h; subst hR; simp only [zbrw, simprocAttr, *]
    ·replace h := zbt1 M (by omega) j (by omega) _ _ _ _ _ _ h R hR
     simp only [zbrw, simprocAttr, *]
 ·cases h; subst hR; simp only [zbrw, simprocAttr, *]
theorem zbry : ∀ q, zbrv q
 | 0 => by intro M hM j hj; intros; rename_i h _ _ _ _ _; cases h
 | q + 1 => by have i0 := zbry q; exact zbrx q i0
theorem zbrz : ∀ (q N : Nat), 8 * q ≤ N → ∀ (a0 : (Sl Int)), ∀ (r : Int × Int), zky q a0 = some r → (orc T N).deep F.zky [(Sl.enc (V.int .u8)) a0] = some [(V.int .u64) r.1, (V.int .i64) r.2] := by
 intro q N hM a0 r h
 rcases q with _ | q
 ·cases h
 obtain ⟨M, rfl⟩ : ∃ M, N = M + 8 := ⟨N - 8, by omega⟩
 have zbt1 := (zbry q)
 generalize hR : some [(V.int .u64) r.1, (V.int .i64) r.2] = R
 rw [zhs, zbgo, y4, zhq]
 rw [zky] at h
 replace h := zbt1 M (by omega) (M + 7) (by omega) _ _ _ _ _ _ h R hR
 simp only [zbrw, simprocAttr, *]
def zbr0 := And.intro @kk <| And.intro @ke <| And.intro @kn <| And.intro @zbkm <| And.intro @zbme <| @zbko
theorem zbr1 : ∀ (q N : Nat), 8 * q ≤ N → ∀ (a0 : (Sl Int)), ∀ (r : Int × Int), zkz q a0 = some r → (orc T N).deep F.zkz [(Sl.enc (V.int .u8)) a0] = some [(V.int .i64) r.1, (V.int .i64) r.2] := by
 intro q N hM a0 r h
 rcases q with _ | q
 ·cases h
 obtain ⟨M, rfl⟩ : ∃ M, N = M + 8 := ⟨N - 8, by omega⟩
 generalize hR : some [(V.int .i64) r.1, (V.int .i64) r.2] = R
 rw [zhs, zbf3, y4, zhq]
 rw [zkz] at h
 replace h := ob h; obtain ⟨r1, h1, h⟩ := h
 replace h1 := zbrz q (M + 7) (by omega) _ _ h1
 try simp only [kf, simprocAttr] at h1
 replace h := br h; rcases h with ⟨h2, h⟩ | ⟨h2, h⟩
 ·cases h; subst hR; simp only [zbr0, simprocAttr, *]
 ·cases h; subst hR; simp only [zbr0, simprocAttr, *]
def zbr2 (q : Nat) : Prop := ∀ (M : Nat) (hM : 8 * q ≤ M) (j : Nat) (hj : q ≤ j) (v5 : Int) (h0_0 h1_0 : List Int) (r : (List Int)) (_ : zk0 q v5 h0_0 h1_0 = some r) (R : Option (List V)) (_ : some [(arrEnc (V.int .u32)) r] = R) (fr : Fr) (H : Hp) (_ : canon 0 [0, 1, 5] fr H = ([(0, (.ptr 0 0)), (1, (.ptr 1 0)), (5, (.int .i64 v5))], [(.box (List.map (V.int .u32) h0_0)), (.box (List.map (V.int .u32) h1_0))])), fin zbdc (unw T (orc T (M + 7)) (M + 7) 0 [.blk 0, .code zbc8] (iter 0 [0, 1, 5] (exec T (orc T (M + 7)) (M + 7) 0 zbc5) j fr H)) = R
def zbr3 (q : Nat) : Prop := ∀ (M : Nat) (hM : 8 * q ≤ M) (j : Nat) (hj : q ≤ j) (j1 : Nat) (hj1 : q ≤ j1) (v2 v3 v5 v10 : Int) (h0_0 h1_0 : List Int) (r : (List Int)) (_ : zk1 q v2 v3 v5 v10 h0_0 h1_0 = some r) (R : Option (List V)) (_ : some [(arrEnc (V.int .u32)) r] = R) (fr : Fr) (H : Hp) (_ : canon 0 [0, 1, 2, 3, 5, 10] fr H = ([(0, (.ptr 0 0)), (1, (.ptr 1 0)), (2, (.int .i64 v2)), (3, (.int .u32 v3)), (5, (.int .i64 v5)), (10, (.int .i64 v10))], [(.box (List.map (V.int .u32) h0_0)), (.box (List.map (V.int .u32) h1_0))])), fin zbdc (unw T (orc T (M + 7)) (M + 7) 0 [.blk 2, .code zbcy, .blk 1, .code zbc2, .rounds [0, 1, 5] zbc5 j1, .blk 0, .code zbc8] (iter 0 [0, 1, 2, 3, 5, 10] (exec T (orc T (M + 7)) (M + 7) 0 zbcv) j fr H)) = R
def zbr4 := And.intro @kk <| And.intro @ke <| And.intro @kn <| And.intro @zbmm <| @zbmo
theorem zbr5 (q : Nat) (zbt2 : zbr3 q) : zbr2 (q + 1) := by
 intro M hM j hj v5 h0_0 h1_0 r h R hR fr H hc
 obtain ⟨j, rfl⟩ : ∃ i, j = i + 1 := ⟨j - 1, by omega⟩
 rw [zhj, hc]; clear hc
 rw [zk0] at h
 replace h := br h; rcases h with ⟨h1, h⟩ | ⟨h1, h⟩
 ·replace h := zbt2 M (by omega) (M + 7) (by omega) j (by omega) _ _ _ _ _ _ _ h R hR
  simp (maxDischargeDepth := 12) only [zbr4, simprocAttr, arrEnc, *]
 ·replace h := bn h; obtain ⟨h2, h⟩ := h
  replace h := bc h; rcases h with ⟨h3, h⟩ | ⟨h3, h⟩
  ·replace h := bn h; obtain ⟨h4, h⟩ := h
   replace h := bn h; obtain ⟨h5, h⟩ := h
   cases h; subst hR; simp (maxDischargeDepth := 12) only [zbr4, simprocAttr, arrEnc, *]
  ·cases h
theorem zbr6 (q : Nat) (zbt3 : zbr2 q) (zbt2 : zbr3 q) : zbr3 (q + 1) := by
 intro M hM j hj j1 hj1 v2 v3 v5 v10 h0_0 h1_0 r h R hR fr H hc
 obtain ⟨j, rfl⟩ : ∃ i, j = i + 1 := ⟨j - 1, by omega⟩
 rw [zhj, hc]; clear hc
 rw [zk1] at h
 replace h := br h; rcases h with ⟨h1, h⟩ | ⟨h1, h⟩
 ·replace h := zbt2 M (by omega) j (by omega) j1 (by omega) _ _ _ _ _ _ _ h R hR
  simp (maxDischargeDepth := 12) only [zbr4, simprocAttr, arrEnc, *]
 ·replace h := bn h; obtain ⟨h2, h⟩ := h
  replace h := bn h; obtain ⟨h3, h⟩ := h
  replace h := bn h; obtain ⟨h4, h⟩ := h
  replace h := zbt3 M (by omega) j1 (by omega) _ _ _ _ h R hR
  simp (maxDischargeDepth := 12) only [zbr4, simprocAttr, arrEnc, *]
theorem zbr7 : ∀ q, zbr2 q ∧ zbr3 q
 | 0 => by refine ⟨?_, ?_⟩ <;> (intro M hM j hj; intros; rename_i h _ _ _ _ _; cases h)
 | q + 1 => by have ⟨i0, i1⟩ := zbr7 q; exact ⟨zbr5 q i1, zbr6 q i0 i1⟩
theorem zbr8 : ∀ (q N : Nat), 8 * q ≤ N → ∀ (r : (List Int)), zk2 q = some r → (orc T N).deep F.zk2 [] = some [(arrEnc (V.int .u32)) r] := by
 intro q N hM r h
 rcases q with _ | q
 ·cases h
 obtain ⟨M, rfl⟩ : ∃ M, N = M + 8 := ⟨N - 8, by omega⟩
 have zbt3 := (zbr7 q).1
 generalize hR : some [(arrEnc (V.int .u32)) r] = R
 rw [zhs, zbgr, y4, zhq]
 rw [zk2] at h
 replace h := zbt3 M (by omega) (M + 7) (by omega) _ _ _ _ h R hR
 simp (maxDischargeDepth := 12) only [zbr4, simprocAttr, arrEnc, *]
def zbr9 (q : Nat) : Prop := ∀ (M : Nat) (hM : 8 * q ≤ M) (j : Nat) (hj : q ≤ j) (v6 : Int) (v12z : Bool) (v12l : List Int) (v13 v14 : Int) (h0_0 : List Int) (r : Int) (_ : zk3 q v6 v12z v12l v13 v14 h0_0 = some r) (R : Option (List V)) (_ : some [(V.int .u32) r] = R) (fr : Fr) (H : Hp) (_ : canon 0 [5, 6, 12, 13, 14] fr H = ([(5, (.ptr 0 0)), (6, (.int .u32 v6)), (12, (.sl v12z (List.map (V.int .u8) v12l))), (13, (.int .i64 v13)), (14, (.int .i64 v14))], [(.box (List.map (V.int .u32) h0_0))])), fin z46 (unw T (orc T (M + 7)) (M + 7) 0 [.blk 0, .code z41] (iter 0 [5, 6, 12, 13, 14] (exec T (orc T (M + 7)) (M + 7) 0 z4y) j fr H)) = R
def zbsa := And.intro @kk <| And.intro @ke <| And.intro @kn <| And.intro @zbla <| And.intro @zbmn <| @zblc
theorem zbsb (q : Nat) (zbt4 : zbr9 q) : zbr9 (q + 1) := by
 intro M hM j hj v6 v12z v12l v13 v14 h0_0 r h R hR fr H hc
 obtain ⟨j, rfl⟩ : ∃ i, j = i + 1 := ⟨j - 1, by omega⟩
 rw [zhj, hc]; clear hc
 rw [zk3] at h
 replace h := br h; rcases h with ⟨h1, h⟩ | ⟨h1, h⟩
 ·replace h := bn h; obtain ⟨h2, h⟩ := h
  replace h := ob h; obtain ⟨e2, h3, h⟩ := h
  replace h := bn h; obtain ⟨h4, h⟩ := h
  replace h := bn h; obtain ⟨h5, h⟩ := h
  replace h := ob h; obtain ⟨e3, h6, h⟩ := h
  replace h := zbt4 M (by omega) j (by omega) _ _ _ _ _ _ _ h R hR
  simp only [zbsa, simprocAttr, arrEnc, *]
 ·cases h; subst hR; simp only [zbsa, simprocAttr, arrEnc, *]
theorem zbsc : ∀ q, zbr9 q
 | 0 => by intro M hM j hj; intros; rename_i h _ _ _ _ _; cases h
 | q + 1 => by have i0 := zbsc q; exact zbsb q i0
theorem zbsd : ∀ (q N : Nat), 8 * q ≤ N → ∀ (a0 : Int) (a1 : (Sl Int)), ∀ (r : Int), zk4 q a0 a1 = some r → (orc T N).deep F.zk4 [(V.int .u32) a0, (Sl.enc (V.int .u8)) a1] = some [(V.int .u32) r] := by
 intro q N hM a0 a1 r h
 rcases q with _ | q
 ·cases h
 obtain ⟨M, rfl⟩ : ∃ M, N = M + 8 := ⟨N - 8, by omega⟩
 have zbt4 := (zbsc q)
 generalize hR : some [(V.int .u32) r] = R
 rw [zhs, zbgb, y4, zhq]
 rw [zk4] at h
 replace h := ob h; obtain ⟨r1, h1, h⟩ := h
 replace h1 := zbr8 q (M + 7) (by omega)  _ h1
 try simp only [kf, simprocAttr] at h1
 replace h := bc h; rcases h with ⟨h2, h⟩ | ⟨h2, h⟩
 ·replace h := zbt4 M (by omega) (M + 7) (by omega) _ _ _ _ _ _ _ h R hR
  simp only [zbsa, simprocAttr, arrEnc, *]
 ·cases h
def zbse := And.intro @kk <| And.intro @ke <| And.intro @kn <| And.intro @zbi7 <| And.intro @zblb <| @zbi9
theorem zbsf : ∀ (q N : Nat), 8 * q ≤ N → ∀ (a0 : (Sl Int)), ∀ (r : Int), zk5 q a0 = some r → (orc T N).deep F.zk5 [(Sl.enc (V.int .u8)) a0] = some [(V.int .u32) r] := by
 intro q N hM a0 r h
 rcases q with _ | q
 ·cases h
 obtain ⟨M, rfl⟩ : ∃ M, N = M + 8 := ⟨N - 8, by omega⟩
 generalize hR : some [(V.int .u32) r] = R
 rw [zhs, zbfm, y4, zhq]
 rw [zk5] at h
 replace h := ob h; obtain ⟨r1, h1, h⟩ := h
 replace h1 := zbsd q (M + 7) (by omega) _ _ _ h1
 try simp only [kf, simprocAttr] at h1
 cases h; subst hR; simp only [zbse, simprocAttr, *]
def zbsg (q : Nat) : Prop := ∀ (M : Nat) (hM : 8 * q ≤ M) (j : Nat) (hj : q ≤ j) (v0 v7 v8 : Int) (h0z : Bool) (h0l : List Int) (r : (Ow Int)) (_ : zk6 q v0 v7 v8 h0z h0l = some r) (R : Option (List V)) (_ : some [(Ow.enc 1 (V.int .u8)) r] = R) (fr : Fr) (H : Hp) (_ : canon 0 [0, 5, 7, 8] fr H = ([(0, (.int .u64 v0)), (5, (.vw 0 0 0 h0l.length 1)), (7, (.int .i64 v7)), (8, (.int .i64 v8))], [(.row 0 h0z 1 (List.map (V.int .u8) h0l) true)])), fin z4l (unw T (orc T (M + 7)) (M + 7) 0 [.blk 0, .code z4h] (iter 0 [0, 5, 7, 8] (exec T (orc T (M + 7)) (M + 7) 0 z4e) j fr H)) = R
def zbsh := And.intro @kk <| And.intro @ke <| And.intro @kn <| And.intro @zbk7 <| @zbk9
theorem zbsi (q : Nat) (zbt5 : zbsg q) : zbsg (q + 1) := by
 intro M hM j hj v0 v7 v8 h0z h0l r h R hR fr H hc
 obtain ⟨j, rfl⟩ : ∃ i, j = i + 1 := ⟨j - 1, by omega⟩
 rw [zhj, hc]; clear hc
 rw [zk6] at h
 replace h := br h; rcases h with ⟨h1, h⟩ | ⟨h1, h⟩
 ·replace h := bm h; obtain ⟨h2, h⟩ := h
  replace h := bn h; obtain ⟨h3, h⟩ := h
  replace h := zbt5 M (by omega) j (by omega) _ _ _ _ _ _ h R hR
  simp only [zbsh, simprocAttr, *]
 ·cases h; subst hR; simp only [zbsh, simprocAttr, *]
theorem zbsj : ∀ q, zbsg q
 | 0 => by intro M hM j hj; intros; rename_i h _ _ _ _ _; cases h
 | q + 1 => by have i0 := zbsj q; exact zbsi q i0
theorem zbsk : ∀ (q N : Nat), 8 * q ≤ N → ∀ (a0 a1 : Int), ∀ (r : (Ow Int)), zk7 q a0 a1 = some r → (orc T N).deep F.zk7 [(V.int .u64) a0, (V.int .i64) a1] = some [(Ow.enc 1 (V.int .u8)) r] := by
 intro q N hM a0 a1 r h
 rcases q with _ | q
 ·cases h
 obtain ⟨M, rfl⟩ : ∃ M, N = M + 8 := ⟨N - 8, by omega⟩
 have zbt5 := (zbsj q)
 generalize hR : some [(Ow.enc 1 (V.int .u8)) r] = R
 rw [zhs, zbga, y4, zhq]
 rw [zk7] at h
 replace h := zbt5 M (by omega) (M + 7) (by omega) _ _ _ _ _ _ h R hR
 simp only [zbsh, simprocAttr, *]
def zbsl := And.intro @kk <| And.intro @ke <| And.intro @kn <| And.intro @zbi4 <| And.intro @zbk8 <| @zbi6
theorem zbsm : ∀ (q N : Nat), 8 * q ≤ N → ∀ (a0 : Int), ∀ (r : (Ow Int)), zk8 q a0 = some r → (orc T N).deep F.zk8 [(V.int .u32) a0] = some [(Ow.enc 1 (V.int .u8)) r] := by
 intro q N hM a0 r h
 rcases q with _ | q
 ·cases h
 obtain ⟨M, rfl⟩ : ∃ M, N = M + 8 := ⟨N - 8, by omega⟩
 generalize hR : some [(Ow.enc 1 (V.int .u8)) r] = R
 rw [zhs, zbfl, y4, zhq]
 rw [zk8] at h
 replace h := ob h; obtain ⟨r1, h1, h⟩ := h
 replace h1 := zbsk q (M + 7) (by omega) _ _ _ h1
 try simp only [kf, simprocAttr] at h1
 cases h; subst hR; simp only [zbsl, simprocAttr, *]
def zbsn := And.intro @kk <| And.intro @ke <| And.intro @kn <| And.intro @zbks <| And.intro @zbi5 <| And.intro @zbi8 <| And.intro @zblb <| @zbku
theorem zbso : ∀ (q N : Nat), 8 * q ≤ N → ∀ (a0 a1 : (Sl Int)), ∀ (r : (Ow Int)), zk9 q a0 a1 = some r → (orc T N).deep F.zk9 [(Sl.enc (V.int .u8)) a0, (Sl.enc (V.int .u8)) a1] = some [(Ow.enc 1 (V.int .u8)) r] := by
 intro q N hM a0 a1 r h
 rcases q with _ | q
 ·cases h
 obtain ⟨M, rfl⟩ : ∃ M, N = M + 8 := ⟨N - 8, by omega⟩
 generalize hR : some [(Ow.enc 1 (V.int .u8)) r] = R
 rw [zhs, zbf5, y4, zhq]
 rw [zk9] at h
 replace h := ob h; obtain ⟨r1, h1, h⟩ := h
 replace h1 := zbsf q (M + 7) (by omega) _ _ h1
 try simp only [kf, simprocAttr] at h1
 replace h := ob h; obtain ⟨r2, h2, h⟩ := h
 replace h2 := zbsd q (M + 7) (by omega) _ _ _ h2
 try simp only [kf, simprocAttr] at h2
 replace h := ob h; obtain ⟨r3, h3, h⟩ := h
 replace h3 := zbsm q (M + 7) (by omega) _ _ h3
 try simp only [kf, simprocAttr] at h3
 cases h; subst hR; simp only [zbsn, simprocAttr, *]
def zbsp (q : Nat) : Prop := ∀ (M : Nat) (hM : 8 * q ≤ M) (j : Nat) (hj : q ≤ j) (v0z : Bool) (v0l : List Int) (v1z : Bool) (v1l : List Int) (v12 v13 : Int) (r : Bool) (_ : zla q v0z v0l v1z v1l v12 v13 = some r) (R : Option (List V)) (_ : some [V.bool r] = R) (fr : Fr) (H : Hp) (_ : canon 0 [0, 1, 12, 13] fr H = ([(0, (.sl v0z (List.map (V.int .u8) v0l))), (1, (.sl v1z (List.map (V.int .u8) v1l))), (12, (.int .i64 v12)), (13, (.int .i64 v13))], [])), fin z2j (unw T (orc T (M + 7)) (M + 7) 0 [.blk 0, .code z2f] (iter 0 [0, 1, 12, 13] (exec T (orc T (M + 7)) (M + 7) 0 z2c) j fr H)) = R
def zbsq := And.intro @kk <| And.intro @ke <| And.intro @kn <| And.intro @zbkp <| @zbkr
theorem zbsr (q : Nat) (zbt6 : zbsp q) : zbsp (q + 1) := by
 intro M hM j hj v0z v0l v1z v1l v12 v13 r h R hR fr H hc
 obtain ⟨j, rfl⟩ : ∃ i, j = i + 1 := ⟨j - 1, by omega⟩
 rw [zhj, hc]; clear hc
 rw [zla] at h
 replace h := br h; rcases h with ⟨h1, h⟩ | ⟨h1, h⟩
 ·replace h := bn h; obtain ⟨h2, h⟩ := h
  replace h := ob h; obtain ⟨e1, h3, h⟩ := h
  replace h := ob h; obtain ⟨e2, h4, h⟩ := h
  replace h := br h; rcases h with ⟨h5, h⟩ | ⟨h5, h⟩
  ·replace h := zbt6 M (by omega) j (by omega) _ _ _ _ _ _ _ h R hR
   simp only [zbsq, simprocAttr, *]
  ·cases h; subst hR; simp only [zbsq, simprocAttr, *]
 ·cases h; subst hR; simp only [zbsq, simprocAttr, *]
theorem zbss : ∀ q, zbsp q
 | 0 => by intro M hM j hj; intros; rename_i h _ _ _ _ _; cases h
 | q + 1 => by have i0 := zbss q; exact zbsr q i0
theorem zbst : ∀ (q N : Nat), 8 * q ≤ N → ∀ (a0 a1 : (Sl Int)), ∀ (r : Bool), zlb q a0 a1 = some r → (orc T N).deep F.zlb [(Sl.enc (V.int .u8)) a0, (Sl.enc (V.int .u8)) a1] = some [V.bool r] := by
 intro q N hM a0 a1 r h
 rcases q with _ | q
 ·cases h
 obtain ⟨M, rfl⟩ : ∃ M, N = M + 8 := ⟨N - 8, by omega⟩
 have zbt6 := (zbss q)
 generalize hR : some [V.bool r] = R
 rw [zhs, zbf4, y4, zhq]
 rw [zlb] at h
 replace h := br h; rcases h with ⟨h1, h⟩ | ⟨h1, h⟩
 ·replace h := zbt6 M (by omega) (M + 7) (by omega) _ _ _ _ _ _ _ h R hR
  simp only [zbsq, simprocAttr, *]
 ·cases h; subst hR; simp only [zbsq, simprocAttr, *]
def zbsu := And.intro @kk <| And.intro @ke <| And.intro @kn <| And.intro @zbkv <| @zbkx
theorem zbsv : ∀ (q N : Nat), 8 * q ≤ N → ∀ (a0 : (Sl Int)), ∀ (r : (Ow Int)), zlc q a0 = some r → (orc T N).deep F.zlc [(Sl.enc (V.int .u8)) a0] = some [(Ow.enc 1 (V.int .u8)) r] := by
 intro q N hM a0 r h
 rcases q with _ | q
 ·cases h
 obtain ⟨M, rfl⟩ : ∃ M, N = M + 8 := ⟨N - 8, by omega⟩
 generalize hR : some [(Ow.enc 1 (V.int .u8)) r] = R
 rw [zhs, zbf6, y4, zhq]
 rw [zlc] at h
 replace h := bb h; rcases h with ⟨h1', h1, h⟩ | ⟨h1', h1, h⟩
 ·cases h; subst hR; simp only [zbsu, simprocAttr, *]
 ·replace h := bn h; obtain ⟨h2, h⟩ := h
  cases h; subst hR; simp only [zbsu, simprocAttr, *]
def zbsw := And.intro @kk <| And.intro @ke <| And.intro @kn <| And.intro @zbh4 <| And.intro @zbkk <| And.intro @zbkn <| And.intro @zbkq <| And.intro @zbkt <| And.intro @zbkw <| @zbh6
theorem zbsx : ∀ (q N : Nat), 8 * q ≤ N → ∀ (a0 : (Sl Int)), ∀ (r : (Ow Int) × Int × Int), zld q a0 = some r → (orc T N).deep F.zld [(Sl.enc (V.int .u8)) a0] = some [(Ow.enc 1 (V.int .u8)) r.1, (V.int .i64) r.2.1, (V.int .i64) r.2.2] := by
 intro q N hM a0 r h
 rcases q with _ | q
 ·cases h
 obtain ⟨M, rfl⟩ : ∃ M, N = M + 8 := ⟨N - 8, by omega⟩
 generalize hR : some [(Ow.enc 1 (V.int .u8)) r.1, (V.int .i64) r.2.1, (V.int .i64) r.2.2] = R
 rw [zhs, zbe9, y4, zhq]
 rw [zld] at h
 replace h := ob h; obtain ⟨r1, h1, h⟩ := h
 replace h1 := zbru q (M + 7) (by omega) _ _ h1
 try simp only [kf, simprocAttr] at h1
 replace h := bb h; rcases h with ⟨h2', h2, h⟩ | ⟨h2', h2, h⟩
 ·cases h; subst hR; simp only [zbsw, simprocAttr, *]
 ·replace h := ob h; obtain ⟨r2, h3, h⟩ := h
  replace h3 := zbr1 q (M + 7) (by omega) _ _ h3
  try simp only [kf, simprocAttr] at h3
  replace h := br h; rcases h with ⟨h4, h⟩ | ⟨h4, h⟩
  ·cases h; subst hR; simp only [zbsw, simprocAttr, *]
  ·replace h := br h; rcases h with ⟨h5, h⟩ | ⟨h5, h⟩
   ·cases h; subst hR; simp only [zbsw, simprocAttr, *]
   ·replace h := br h; rcases h with ⟨h6, h⟩ | ⟨h6, h⟩
    ·cases h; subst hR; simp only [zbsw, simprocAttr, *]
    ·replace h := bn h; obtain ⟨h7, h⟩ := h
     replace h := bn h; obtain ⟨h8, h⟩ := h
     replace h := bn h; obtain ⟨h9, h⟩ := h
     replace h := bn h; obtain ⟨h10, h⟩ := h
     replace h := bn h; obtain ⟨h11, h⟩ := h
     replace h := bn h; obtain ⟨h12, h⟩ := h
     replace h := bn h; obtain ⟨h13, h⟩ := h
     replace h := bn h; obtain ⟨h14, h⟩ := h
     replace h := bn h; obtain ⟨h15, h⟩ := h
     replace h := ob h; obtain ⟨r3, h16, h⟩ := h
     replace h16 := zbso q (M + 7) (by omega) _ _ _ h16
     try simp only [kf, simprocAttr] at h16
     replace h := ob h; obtain ⟨r4, h17, h⟩ := h
     replace h17 := zbst q (M + 7) (by omega) _ _ _ h17
     try simp only [kf, simprocAttr] at h17
     replace h := bb h; rcases h with ⟨h18', h18, h⟩ | ⟨h18', h18, h⟩
     ·replace h := ob h; obtain ⟨r5, h19, h⟩ := h
      replace h19 := zbsv q (M + 7) (by omega) _ _ h19
      try simp only [kf, simprocAttr] at h19
      cases h; subst hR; simp only [zbsw, simprocAttr, *]
     ·cases h; subst hR; simp only [zbsw, simprocAttr, *]
def zbsy := And.intro @kk <| And.intro @ke <| And.intro @kn <| And.intro @zbmv <| @zbmx
theorem zbsz : ∀ (q N : Nat), 8 * q ≤ N → ∀ (a0 r : Int), zle q a0 = some r → (orc T N).deep F.zle [(V.int .u64) a0] = some [(V.int .i64) r] := by
 intro q N hM a0 r h
 rcases q with _ | q
 ·cases h
 obtain ⟨M, rfl⟩ : ∃ M, N = M + 8 := ⟨N - 8, by omega⟩
 generalize hR : some [(V.int .i64) r] = R
 rw [zhs, zbgu, y4, zhq]
 rw [zle] at h
 cases h; subst hR; simp only [zbsy, simprocAttr, *]
def zbs0 := And.intro @kk <| And.intro @ke <| And.intro @kn <| And.intro @zbmg <| And.intro @zbme <| And.intro @zbmw <| @zbmi
theorem zbs1 : ∀ (q N : Nat), 8 * q ≤ N → ∀ (a0 : (Sl Int)), ∀ (r : Int × Int), zlf q a0 = some r → (orc T N).deep F.zlf [(Sl.enc (V.int .u8)) a0] = some [(V.int .i64) r.1, (V.int .i64) r.2] := by
 intro q N hM a0 r h
 rcases q with _ | q
 ·cases h
 obtain ⟨M, rfl⟩ : ∃ M, N = M + 8 := ⟨N - 8, by omega⟩
 generalize hR : some [(V.int .i64) r.1, (V.int .i64) r.2] = R
 rw [zhs, zbgp, y4, zhq]
 rw [zlf] at h
 replace h := ob h; obtain ⟨r1, h1, h⟩ := h
 replace h1 := zbrz q (M + 7) (by omega) _ _ h1
 try simp only [kf, simprocAttr] at h1
 replace h := br h; rcases h with ⟨h2, h⟩ | ⟨h2, h⟩
 ·cases h; subst hR; simp only [zbs0, simprocAttr, *]
 ·replace h := ob h; obtain ⟨r2, h3, h⟩ := h
  replace h3 := zbsz q (M + 7) (by omega) _ _ h3
  cases h; subst hR; simp only [zbs0, simprocAttr, *]
def zbs2 (q : Nat) : Prop := ∀ (M : Nat) (hM : 8 * q ≤ M) (j : Nat) (hj : q ≤ j) (w0 : Nat) (v1 : Int) (h0z : Bool) (h0l : List Int) (h0x : Bool) (r : (Ow Int)) (_ : zlg q v1 h0z h0l h0x = some r) (R : Option (List V)) (_ : some [(Ow.enc 1 (V.int .u8)) r] = R) (fr : Fr) (H : Hp) (_ : canon 1 [0, 1] fr H = ([(0, (.vw 0 w0 0 h0l.length 1)), (1, (.int .u64 v1))], [(.row w0 h0z 1 (List.map (V.int .u8) h0l) h0x)])), fin z3a (unw T (orc T (M + 7)) (M + 7) 1 [.blk 0, .code z27] (iter 1 [0, 1] (exec T (orc T (M + 7)) (M + 7) 1 z25) j fr H)) = R
def zbs3 := And.intro @kk <| And.intro @ke <| And.intro @kn <| And.intro @zbky <| @zbk0
theorem zbs4 (q : Nat) (zbt7 : zbs2 q) : zbs2 (q + 1) := by
 intro M hM j hj w0 v1 h0z h0l h0x r h R hR fr H hc
 obtain ⟨j, rfl⟩ : ∃ i, j = i + 1 := ⟨j - 1, by omega⟩
 rw [zhj, hc]; clear hc
 rw [zlg] at h
 replace h := br h; rcases h with ⟨h1, h⟩ | ⟨h1, h⟩
 ·replace h := bn h; obtain ⟨h2, h⟩ := h
  replace h := zbt7 M (by omega) j (by omega) (w0 + 1) _ _ _ _ _ h R hR
  simp only [zbs3, simprocAttr, *]
 ·replace h := bn h; obtain ⟨h3, h⟩ := h
  cases h; subst hR; simp only [zbs3, simprocAttr, *]
theorem zbs5 : ∀ q, zbs2 q
 | 0 => by intro M hM j hj; intros; rename_i h _ _ _ _ _; cases h
 | q + 1 => by have i0 := zbs5 q; exact zbs4 q i0
theorem zbs6 : ∀ (q N : Nat), 8 * q ≤ N → ∀ (a0 : (Ow Int)) (a1 : Int), ∀ (r : (Ow Int)), zlh q a0 a1 = some r → (orc T N).deep F.zlh [(Ow.enc 1 (V.int .u8)) a0, (V.int .u64) a1] = some [(Ow.enc 1 (V.int .u8)) r] := by
 intro q N hM a0 a1 r h
 rcases q with _ | q
 ·cases h
 obtain ⟨M, rfl⟩ : ∃ M, N = M + 8 := ⟨N - 8, by omega⟩
 have zbt7 := (zbs5 q)
 generalize hR : some [(Ow.enc 1 (V.int .u8)) r] = R
 rw [zhs, zbf7, y4, zhq]
 rw [zlh] at h
 replace h := zbt7 M (by omega) (M + 7) (by omega) 0 _ _ _ _ _ h R hR
 simp only [zbs3, simprocAttr, *]
def zbs7 := And.intro @kk <| And.intro @ke <| And.intro @kn <| And.intro @zbiy <| And.intro @zbkz <| @zbi0
theorem zbs8 : ∀ (q N : Nat), 8 * q ≤ N → ∀ (a0 : (Ow Int)) (a1 : Int), ∀ (r : (Ow Int)), zli q a0 a1 = some r → (orc T N).deep F.zli [(Ow.enc 1 (V.int .u8)) a0, (V.int .i64) a1] = some [(Ow.enc 1 (V.int .u8)) r] := by
 intro q N hM a0 a1 r h
 rcases q with _ | q
 ·cases h
 obtain ⟨M, rfl⟩ : ∃ M, N = M + 8 := ⟨N - 8, by omega⟩
 generalize hR : some [(Ow.enc 1 (V.int .u8)) r] = R
 rw [zhs, zbfj, y4, zhq]
 rw [zli] at h
 replace h := br h; rcases h with ⟨h1, h⟩ | ⟨h1, h⟩
 ·cases h; subst hR; simp only [zbs7, simprocAttr, *]
 ·replace h := br h; rcases h with ⟨h2, h⟩ | ⟨h2, h⟩
  ·cases h; subst hR; simp only [zbs7, simprocAttr, *]
  ·replace h := ob h; obtain ⟨r1, h3, h⟩ := h
   replace h3 := zbs6 q (M + 7) (by omega) _ _ _ h3
   try simp only [kf, simprocAttr] at h3
   cases h; subst hR; simp only [zbs7, simprocAttr, *]
def zbs9 := And.intro @kk <| And.intro @ke <| And.intro @kn <| And.intro @zbk1 <| @zbk3
theorem zbta : ∀ (q N : Nat), 8 * q ≤ N → ∀ (a0 r : Int), zlj q a0 = some r → (orc T N).deep F.zlj [(V.int .i64) a0] = some [(V.int .u64) r] := by
 intro q N hM a0 r h
 rcases q with _ | q
 ·cases h
 obtain ⟨M, rfl⟩ : ∃ M, N = M + 8 := ⟨N - 8, by omega⟩
 generalize hR : some [(V.int .u64) r] = R
 rw [zhs, zbf8, y4, zhq]
 rw [zlj] at h
 cases h; subst hR; simp only [zbs9, simprocAttr, *]
def zbtb := And.intro @kk <| And.intro @ke <| And.intro @kn <| And.intro @zbh7 <| And.intro @zbkz <| And.intro @zbk2 <| @zbh9
theorem zbtc : ∀ (q N : Nat), 8 * q ≤ N → ∀ (a0 : (Ow Int)) (a1 : Int), ∀ (r : (Ow Int)), zlk q a0 a1 = some r → (orc T N).deep F.zlk [(Ow.enc 1 (V.int .u8)) a0, (V.int .i64) a1] = some [(Ow.enc 1 (V.int .u8)) r] := by
 intro q N hM a0 a1 r h
 rcases q with _ | q
 ·cases h
 obtain ⟨M, rfl⟩ : ∃ M, N = M + 8 := ⟨N - 8, by omega⟩
 generalize hR : some [(Ow.enc 1 (V.int .u8)) r] = R
 rw [zhs, zbfa, y4, zhq]
 rw [zlk] at h
 replace h := ob h; obtain ⟨r1, h1, h⟩ := h
 replace h1 := zbta q (M + 7) (by omega) _ _ h1
 replace h := ob h; obtain ⟨r2, h2, h⟩ := h
 replace h2 := zbs6 q (M + 7) (by omega) _ _ _ h2
 try simp only [kf, simprocAttr] at h2
 cases h; subst hR; simp only [zbtb, simprocAttr, *]
def zbtd (q : Nat) : Prop := ∀ (M : Nat) (hM : 8 * q ≤ M) (j : Nat) (hj : q ≤ j) (v0z : Bool) (v0l : List (Sl Int)) (v3 : Int) (v9z : Bool) (v9l : List (Sl Int)) (v10 v11 : Int) (r : (Ow Int)) (_ : zlo q v0z v0l v3 v9z v9l v10 v11 = some r) (R : Option (List V)) (_ : some [(Ow.enc 1 (V.int .u8)) r] = R) (fr : Fr) (H : Hp) (_ : canon 0 [0, 3, 9, 10, 11] fr H = ([(0, (.sl v0z (List.map (Sl.enc (V.int .u8)) v0l))), (3, (.int .i64 v3)), (9, (.sl v9z (List.map (Sl.enc (V.int .u8)) v9l))), (10, (.int .i64 v10)), (11, (.int .i64 v11))], [])), fin zvz (unw T (orc T (M + 7)) (M + 7) 0 [.blk 0, .code zvv] (iter 0 [0, 3, 9, 10, 11] (exec T (orc T (M + 7)) (M + 7) 0 zve) j fr H)) = R
def zbte (q : Nat) : Prop := ∀ (M : Nat) (hM : 8 * q ≤ M) (j : Nat) (hj : q ≤ j) (v6len : Nat) (v25z : Bool) (v25l : List (Sl Int)) (v26 v27 : Int) (h0z : Bool) (h0l : List Int) (r : (Ow Int)) (_ : zll q v6len v25z v25l v26 v27 h0z h0l = some r) (R : Option (List V)) (_ : some [(Ow.enc 1 (V.int .u8)) r] = R) (fr : Fr) (H : Hp) (_ : canon 0 [6, 25, 26, 27] fr H = ([(6, (.vw 0 0 0 v6len 0)), (25, (.sl v25z (List.map (Sl.enc (V.int .u8)) v25l))), (26, (.int .i64 v26)), (27, (.int .i64 v27))], [(.row 0 h0z 1 (List.map (V.int .u8) h0l) true)])), fin zvz (unw T (orc T (M + 7)) (M + 7) 0 [.blk 2, .code zvt] (iter 0 [6, 25, 26, 27] (exec T (orc T (M + 7)) (M + 7) 0 zvq) j fr H)) = R
def zbtf (q : Nat) : Prop := ∀ (M : Nat) (hM : 8 * q ≤ M) (j : Nat) (hj : q ≤ j) (v25z : Bool) (v25l : List (Sl Int)) (v26 : Int) (r : (Ow Int)) (_ : zln q v25z v25l v26 = some r) (R : Option (List V)) (_ : some [(Ow.enc 1 (V.int .u8)) r] = R) (fr : Fr) (H : Hp) (_ : canon 0 [6, 25, 26, 27] fr H = ([(6, (.sl true [])), (25, (.sl v25z (List.map (Sl.enc (V.int .u8)) v25l))), (26, (.int .i64 v26)), (27, (.int .i64 0))], [])), fin zvz (unw T (orc T (M + 7)) (M + 7) 0 [.blk 2, .code zvt] (iter 0 [6, 25, 26, 27] (exec T (orc T (M + 7)) (M + 7) 0 zvq) j fr H)) = R
def zbtg (q : Nat) : Prop := ∀ (M : Nat) (hM : 8 * q ≤ M) (j : Nat) (hj : q ≤ j) (v25z : Bool) (v25l : List (Sl Int)) (v26 v27 : Int) (h0z : Bool) (h0l : List Int) (r : (Ow Int)) (_ : zlm q v25z v25l v26 v27 h0z h0l = some r) (R : Option (List V)) (_ : some [(Ow.enc 1 (V.int .u8)) r] = R) (fr : Fr) (H : Hp) (_ : canon 0 [6, 25, 26, 27] fr H = ([(6, (.vw 0 0 0 h0l.length 1)), (25, (.sl v25z (List.map (Sl.enc (V.int .u8)) v25l))), (26, (.int .i64 v26)), (27, (.int .i64 v27))], [(.row 0 h0z 1 (List.map (V.int .u8) h0l) true)])), fin zvz (unw T (orc T (M + 7)) (M + 7) 0 [.blk 2, .code zvt] (iter 0 [6, 25, 26, 27] (exec T (orc T (M + 7)) (M + 7) 0 zvq) j fr H)) = R
def zbth := And.intro @kk <| And.intro @ke <| And.intro @kn <| And.intro @zbjg <| And.intro @zblj <| And.intro @zblk <| And.intro @zbll <| @zbji
theorem zbti (q : Nat) (zbt8 : zbtd q) (zbt9 : zbte q) (zbua : zbtf q) : zbtd (q + 1) := by
 intro M hM j hj v0z v0l v3 v9z v9l v10 v11 r h R hR fr H hc
 obtain ⟨j, rfl⟩ : ∃ i, j = i + 1 := ⟨j - 1, by omega⟩
 rw [zhj, hc]; clear hc
 rw [zlo] at h
 replace h := br h; rcases h with ⟨h1, h⟩ | ⟨h1, h⟩
 ·replace h := bn h; obtain ⟨h2, h⟩ := h
  replace h := ob h; obtain ⟨e1, h3, h⟩ := h
  replace h := bm h; obtain ⟨h4, h⟩ := h
  replace h := zbt8 M (by omega) j (by omega) _ _ _ _ _ _ _ _ h R hR
  simp only [zbth, simprocAttr, *]
 ·replace h := bm h; obtain ⟨h5, h⟩ := h
  replace h := br h; rcases h with ⟨h6, h⟩ | ⟨h6, h⟩
  ·replace h := bn h; obtain ⟨h7, h⟩ := h
   replace h := bn h; obtain ⟨h8, h⟩ := h
   replace h := bm h; obtain ⟨h9, h⟩ := h
   replace h := zbt9 M (by omega) (M + 7) (by omega) _ _ _ _ _ _ _ _ h R hR
   simp only [zbth, simprocAttr, *]
  ·replace h := zbua M (by omega) (M + 7) (by omega) _ _ _ _ h R hR
   simp only [zbth, simprocAttr, *]
theorem zbtj (q : Nat) (zbt9 : zbte q) : zbte (q + 1) := by
 intro M hM j hj v6len v25z v25l v26 v27 h0z h0l r h R hR fr H hc
 obtain ⟨j, rfl⟩ : ∃ i, j = i + 1 := ⟨j - 1, by omega⟩
 rw [zhj, hc]; clear hc
 rw [zll] at h
 replace h := br h; rcases h with ⟨h1, h⟩ | ⟨h1, h⟩
 ·replace h := bn h; obtain ⟨h2, h⟩ := h
  replace h := ob h; obtain ⟨e2, h3, h⟩ := h
  replace h := bn h; obtain ⟨h4, h⟩ := h
  replace h := zbt9 M (by omega) j (by omega) _ _ _ _ _ _ _ _ h R hR
  simp only [zbth, simprocAttr, *]
 ·cases h; subst hR; simp only [zbth, simprocAttr, *]
theorem zbtk (q : Nat) (zbub : zbtg q) : zbtf (q + 1) := by
 intro M hM j hj v25z v25l v26 r h R hR fr H hc
 obtain ⟨j, rfl⟩ : ∃ i, j = i + 1 := ⟨j - 1, by omega⟩
 rw [zhj, hc]; clear hc
 rw [zln] at h
 replace h := br h; rcases h with ⟨h1, h⟩ | ⟨h1, h⟩
 ·replace h := ob h; obtain ⟨e3, h2, h⟩ := h
  replace h := bn h; obtain ⟨h3, h⟩ := h
  replace h := zbub M (by omega) j (by omega) _ _ _ _ _ _ _ h R hR
  simp only [zbth, simprocAttr, *]
 ·cases h; subst hR; simp only [zbth, simprocAttr, *]
theorem zbtl (q : Nat) (zbub : zbtg q) : zbtg (q + 1) := by
 intro M hM j hj v25z v25l v26 v27 h0z h0l r h R hR fr H hc
 obtain ⟨j, rfl⟩ : ∃ i, j = i + 1 := ⟨j - 1, by omega⟩
 rw [zhj, hc]; clear hc
 rw [zlm] at h
 replace h := br h; rcases h with ⟨h1, h⟩ | ⟨h1, h⟩
 ·replace h := bn h; obtain ⟨h2, h⟩ := h
  replace h := ob h; obtain ⟨e4, h3, h⟩ := h
  replace h := bn h; obtain ⟨h4, h⟩ := h
  replace h := zbub M (by omega) j (by omega) _ _ _ _ _ _ _ h R hR
  simp only [zbth, simprocAttr, *]
 ·cases h; subst hR; simp only [zbth, simprocAttr, *]
theorem zbtm : ∀ q, zbtd q ∧ zbte q ∧ zbtf q ∧ zbtg q
 | 0 => by refine ⟨?_, ?_, ?_, ?_⟩ <;> (intro M hM j hj; intros; rename_i h _ _ _ _ _; cases h)
 | q + 1 => by have ⟨i0, i1, i2, i3⟩ := zbtm q; exact ⟨zbti q i0 i1 i2, zbtj q i1, zbtk q i3, zbtl q i3⟩
theorem zbtn : ∀ (q N : Nat), 8 * q ≤ N → ∀ (a0 : (Sl (Sl Int))), ∀ (r : (Ow Int)), zlp q a0 = some r → (orc T N).deep F.zlp [(Sl.enc (Sl.enc (V.int .u8))) a0] = some [(Ow.enc 1 (V.int .u8)) r] := by
 intro q N hM a0 r h
 rcases q with _ | q
 ·cases h
 obtain ⟨M, rfl⟩ : ∃ M, N = M + 8 := ⟨N - 8, by omega⟩
 have zbt8 := (zbtm q).1
 generalize hR : some [(Ow.enc 1 (V.int .u8)) r] = R
 rw [zhs, zbfp, y4, zhq]
 rw [zlp] at h
 replace h := zbt8 M (by omega) (M + 7) (by omega) _ _ _ _ _ _ _ _ h R hR
 simp only [zbth, simprocAttr, *]
def zbto := And.intro @kk <| And.intro @ke <| And.intro @kn <| And.intro @zbia <| And.intro @zbiz <| And.intro @zbjh <| And.intro @zbkt <| @zbic
theorem zbtp : ∀ (q N : Nat), 8 * q ≤ N → ∀ (a0 : (Sl Int)), ∀ (r : (Ow Int) × Int), zlq q a0 = some r → (orc T N).deep F.zlq [(Sl.enc (V.int .u8)) a0] = some [(Ow.enc 1 (V.int .u8)) r.1, (V.int .i64) r.2] := by
 intro q N hM a0 r h
 rcases q with _ | q
 ·cases h
 obtain ⟨M, rfl⟩ : ∃ M, N = M + 8 := ⟨N - 8, by omega⟩
 generalize hR : some [(Ow.enc 1 (V.int .u8)) r.1, (V.int .i64) r.2] = R
 rw [zhs, zbfb, y4, zhq]
 rw [zlq] at h
 replace h := br h; rcases h with ⟨h1, h⟩ | ⟨h1, h⟩
 ·cases h; subst hR; simp only [zbto, simprocAttr, *]
 ·replace h := ob h; obtain ⟨r1, h2, h⟩ := h
  replace h2 := zbs8 q (M + 7) (by omega) _ _ _ h2
  try simp only [kf, simprocAttr] at h2
  replace h := ob h; obtain ⟨r2, h3, h⟩ := h
  replace h3 := zbso q (M + 7) (by omega) _ _ _ h3
  try simp only [kf, simprocAttr] at h3
  replace h := ob h; obtain ⟨r3, h4, h⟩ := h
  replace h4 := zbtn q (M + 7) (by omega) _ _ h4
  try simp only [kf, simprocAttr] at h4
  cases h; subst hR; simp only [zbto, simprocAttr, *]
def zbtq := And.intro @kk <| And.intro @ke <| And.intro @kn <| And.intro @zbmj <| @zbml
theorem zbtr : ∀ (q N : Nat), 8 * q ≤ N → ∀ (a0 : zjk), ∀ (r : Int), zlr q a0 = some r → (orc T N).deep F.zlr [zjk.enc a0] = some [(V.int .i64) r] := by
 intro q N hM a0 r h
 rcases q with _ | q
 ·cases h
 obtain ⟨M, rfl⟩ : ∃ M, N = M + 8 := ⟨N - 8, by omega⟩
 generalize hR : some [(V.int .i64) r] = R
 rw [zhs, zbgq, y4, zhq]
 rw [zlr] at h
 replace h := bb h; rcases h with ⟨h1', h1, h⟩ | ⟨h1', h1, h⟩
 ·cases h; subst hR; simp only [zbtq, simprocAttr, *]
 ·cases h; subst hR; simp only [zbtq, simprocAttr, *]
end Go.Dvm.C
