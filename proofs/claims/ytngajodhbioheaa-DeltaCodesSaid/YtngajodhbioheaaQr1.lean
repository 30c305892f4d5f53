/- The machine comes to these answers: part 2. -/
import Derived.Test.YtngajodhbioheaaQl0
import Derived.Test.YtngajodhbioheaaQr0
set_option linter.all false
set_option maxRecDepth 100000
set_option maxHeartbeats 4000000
namespace Go.Dvm.C
open Go Go.Dvm Go.Dvm.I
def zb37 := And.intro @kk <| And.intro @ke <| And.intro @kn <| And.intro @zbru <| And.intro @zbum <| @zbrw
theorem zb38 : ∀ (q N : Nat), 8 * q ≤ N → ∀ (a0 : Int), ∀ (r : (Ow Int)), zls q a0 = some r → (orc T N).deep F.zls [(V.int .u32) a0] = some [(Ow.enc 1 (V.int .u8)) r] := by
 intro q N hM a0 r h
 rcases q with _ | q
 ·cases h
 obtain ⟨M, rfl⟩ : ∃ M, N = M + 8 := ⟨N - 8, by omega⟩
 generalize hR : some [(Ow.enc 1 (V.int .u8)) r] = R
 rw [zhx, zbmm, y8, zhv z4v rfl]
 rw [zls] at h
 replace h := ob h; obtain ⟨r1, h1, h⟩ := h
 replace h1 := zb3e q (M + 7) (by omega) _ _ _ h1
 try simp only [kf, simprocAttr] at h1
 cases h; subst hR; simp only [zb37, simprocAttr, *]
def zb39 := And.intro @kk <| And.intro @ke <| And.intro @kn <| And.intro @zbs3 <| And.intro @zbrv <| And.intro @zbry <| And.intro @zbup <| @zbs5
theorem zb4a : ∀ (q N : Nat), 8 * q ≤ N → ∀ (a0 a1 : (Sl Int)), ∀ (r : (Ow Int)), zlt q a0 a1 = some r → (orc T N).deep F.zlt [(Sl.enc (V.int .u8)) a0, (Sl.enc (V.int .u8)) a1] = some [(Ow.enc 1 (V.int .u8)) r] := by
 intro q N hM a0 a1 r h
 rcases q with _ | q
 ·cases h
 obtain ⟨M, rfl⟩ : ∃ M, N = M + 8 := ⟨N - 8, by omega⟩
 generalize hR : some [(Ow.enc 1 (V.int .u8)) r] = R
 rw [zhx, zbm1, y8, zhv z78 rfl]
 rw [zlt] at h
 replace h := ob h; obtain ⟨r1, h1, h⟩ := h
 replace h1 := zb29 q (M + 7) (by omega) _ _ h1
 try simp only [kf, simprocAttr] at h1
 replace h := ob h; obtain ⟨r2, h2, h⟩ := h
 replace h2 := zb27 q (M + 7) (by omega) _ _ _ h2
 try simp only [kf, simprocAttr] at h2
 replace h := ob h; obtain ⟨r3, h3, h⟩ := h
 replace h3 := zb38 q (M + 7) (by omega) _ _ h3
 try simp only [kf, simprocAttr] at h3
 cases h; subst hR; simp only [zb39, simprocAttr, *]
def zb4b (q : Nat) : Prop := ∀ (M : Nat) (hM : 8 * q ≤ M) (j : Nat) (hj : q ≤ j) (v0z : Bool) (v0l : List Int) (v1z : Bool) (v1l : List Int) (v12 v13 : Int) (r : Bool) (_ : zlu q v0z v0l v1z v1l v12 v13 = some r) (R : Option (List V)) (_ : some [V.bool r] = R) (fr : Fr) (H : Hp) (_ : canon 0 [0, 1, 12, 13] fr H = ([(0, (.sl v0z (List.map (V.int .u8) v0l))), (1, (.sl v1z (List.map (V.int .u8) v1l))), (12, (.int .i64 v12)), (13, (.int .i64 v13))], [])), fin z73 (unw T (orc T (M + 7)) (M + 7) 0 [.blk 0, .code z7z] (iter 0 [0, 1, 12, 13] (exec T (orc T (M + 7)) (M + 7) 0 z7w) j fr H)) = R
def zb4c := And.intro @kk <| And.intro @ke <| And.intro @kn <| And.intro @zbs0 <| @zbs2
theorem zb4d (q : Nat) (zb7p : zb4b q) : zb4b (q + 1) := by
 intro M hM j hj v0z v0l v1z v1l v12 v13 r h R hR fr H hc
 obtain ⟨j, rfl⟩ : ∃ i, j = i + 1 := ⟨j - 1, by omega⟩
 rw [zhn, hc]; clear hc
 rw [zlu] at h
 replace h := br h; rcases h with ⟨h1, h⟩ | ⟨h1, h⟩
 ·replace h := bn h; obtain ⟨h2, h⟩ := h
  replace h := ob h; obtain ⟨e1, h3, h⟩ := h
  replace h := ob h; obtain ⟨e2, h4, h⟩ := h
  replace h := br h; rcases h with ⟨h5, h⟩ | ⟨h5, h⟩
  ·replace h := zb7p M (by omega) j (by omega) _ _ _ _ _ _ _ h R hR
   simp only [zb4c, simprocAttr, *]
  ·cases h; subst hR; simp only [zb4c, simprocAttr, *]
 ·cases h; subst hR; simp only [zb4c, simprocAttr, *]
theorem zb4e : ∀ q, zb4b q
 | 0 => by intro M hM j hj; intros; rename_i h _ _ _ _ _; cases h
 | q + 1 => by have i0 := zb4e q; exact zb4d q i0
theorem zb4f : ∀ (q N : Nat), 8 * q ≤ N → ∀ (a0 a1 : (Sl Int)), ∀ (r : Bool), zlv q a0 a1 = some r → (orc T N).deep F.zlv [(Sl.enc (V.int .u8)) a0, (Sl.enc (V.int .u8)) a1] = some [V.bool r] := by
 intro q N hM a0 a1 r h
 rcases q with _ | q
 ·cases h
 obtain ⟨M, rfl⟩ : ∃ M, N = M + 8 := ⟨N - 8, by omega⟩
 have zb7p := (zb4e q)
 generalize hR : some [V.bool r] = R
 rw [zhx, zbm0, y8, zhv z73 rfl]
 rw [zlv] at h
 replace h := br h; rcases h with ⟨h1, h⟩ | ⟨h1, h⟩
 ·replace h := zb7p M (by omega) (M + 7) (by omega) _ _ _ _ _ _ _ h R hR
  simp only [zb4c, simprocAttr, *]
 ·cases h; subst hR; simp only [zb4c, simprocAttr, *]
def zb4g := And.intro @kk <| And.intro @ke <| And.intro @kn <| And.intro @zbs6 <| @zbs8
theorem zb4h : ∀ (q N : Nat), 8 * q ≤ N → ∀ (a0 : (Sl Int)), ∀ (r : (Ow Int)), zlw q a0 = some r → (orc T N).deep F.zlw [(Sl.enc (V.int .u8)) a0] = some [(Ow.enc 1 (V.int .u8)) r] := by
 intro q N hM a0 r h
 rcases q with _ | q
 ·cases h
 obtain ⟨M, rfl⟩ : ∃ M, N = M + 8 := ⟨N - 8, by omega⟩
 generalize hR : some [(Ow.enc 1 (V.int .u8)) r] = R
 rw [zhx, zbm2, y8, zhv z8h rfl]
 rw [zlw] at h
 replace h := bb h; rcases h with ⟨h1', h1, h⟩ | ⟨h1', h1, h⟩
 ·cases h; subst hR; simp only [zb4g, simprocAttr, *]
 ·replace h := bn h; obtain ⟨h2, h⟩ := h
  cases h; subst hR; simp only [zb4g, simprocAttr, *]
def zb4i := And.intro @kk <| And.intro @ke <| And.intro @kn <| And.intro @zbp7 <| And.intro @zbsv <| And.intro @zbsy <| And.intro @zbs1 <| And.intro @zbs4 <| And.intro @zbs7 <| @zbp9
theorem zb4j : ∀ (q N : Nat), 8 * q ≤ N → ∀ (a0 : (Sl Int)), ∀ (r : (Ow Int) × Int × Int), zlx q a0 = some r → (orc T N).deep F.zlx [(Sl.enc (V.int .u8)) a0] = some [(Ow.enc 1 (V.int .u8)) r.1, (V.int .i64) r.2.1, (V.int .i64) r.2.2] := by
 intro q N hM a0 r h
 rcases q with _ | q
 ·cases h
 obtain ⟨M, rfl⟩ : ∃ M, N = M + 8 := ⟨N - 8, by omega⟩
 generalize hR : some [(Ow.enc 1 (V.int .u8)) r.1, (V.int .i64) r.2.1, (V.int .i64) r.2.2] = R
 rw [zhx, zbl2, y8, zhv zyo rfl]
 rw [zlx] at h
 replace h := ob h; obtain ⟨r1, h1, h⟩ := h
 replace h1 := zb2o q (M + 7) (by omega) _ _ h1
 try simp only [kf, simprocAttr] at h1
 replace h := bb h; rcases h with ⟨h2', h2, h⟩ | ⟨h2', h2, h⟩
 ·cases h; subst hR; simp only [zb4i, simprocAttr, *]
 ·replace h := ob h; obtain ⟨r2, h3, h⟩ := h
  replace h3 := zb2v q (M + 7) (by omega) _ _ h3
  try simp only [kf, simprocAttr] at h3
  replace h := br h; rcases h with ⟨h4, h⟩ | ⟨h4, h⟩
  ·cases h; subst hR; simp only [zb4i, simprocAttr, *]
  ·replace h := br h; rcases h with ⟨h5, h⟩ | ⟨h5, h⟩
   ·cases h; subst hR; simp only [zb4i, simprocAttr, *]
   ·replace h := br h; rcases h with ⟨h6, h⟩ | ⟨h6, h⟩
    ·cases h; subst hR; simp only [zb4i, simprocAttr, *]
    ·replace h := bn h; obtain ⟨h7, h⟩ := h
     replace h := bn h; obtain ⟨h8, h⟩ := h
     replace h := bn h; obtain ⟨h9, h⟩ := h
     replace h := bn h; obtain ⟨h10, h⟩ := h
     replace h := bn h; obtain ⟨h11, h⟩ := h
     replace h := bn h; obtain ⟨h12, h⟩ := h
     replace h := bn h; obtain ⟨h13, h⟩ := h
     replace h := bn h; obtain ⟨h14, h⟩ := h
     replace h := bn h; obtain ⟨h15, h⟩ := h
     replace h := ob h; obtain ⟨r3, h16, h⟩ := h
     replace h16 := zb4a q (M + 7) (by omega) _ _ _ h16
     try simp only [kf, simprocAttr] at h16
     replace h := ob h; obtain ⟨r4, h17, h⟩ := h
     replace h17 := zb4f q (M + 7) (by omega) _ _ _ h17
     try simp only [kf, simprocAttr] at h17
     replace h := bb h; rcases h with ⟨h18', h18, h⟩ | ⟨h18', h18, h⟩
     ·replace h := ob h; obtain ⟨r5, h19, h⟩ := h
      replace h19 := zb4h q (M + 7) (by omega) _ _ h19
      try simp only [kf, simprocAttr] at h19
      cases h; subst hR; simp only [zb4i, simprocAttr, *]
     ·cases h; subst hR; simp only [zb4i, simprocAttr, *]
def zb4k := And.intro @kk <| And.intro @ke <| And.intro @kn <| And.intro @zbvx <| @zbvz
theorem zb4l : ∀ (q N : Nat), 8 * q ≤ N → ∀ (a0 r : Int), zly q a0 = some r → (orc T N).deep F.zly [(V.int .u64) a0] = some [(V.int .i64) r] := by
 intro q N hM a0 r h
 rcases q with _ | q
 ·cases h
 obtain ⟨M, rfl⟩ : ∃ M, N = M + 8 := ⟨N - 8, by omega⟩
 generalize hR : some [(V.int .i64) r] = R
 rw [zhx, zbnz, y8, zhv zbk2 rfl]
 rw [zly] at h
 cases h; subst hR; simp only [zb4k, simprocAttr, *]
def zb4m := And.intro @kk <| And.intro @ke <| And.intro @kn <| And.intro @zbvc <| And.intro @zbu4 <| And.intro @zbvy <| @zbve
theorem zb4n : ∀ (q N : Nat), 8 * q ≤ N → ∀ (a0 : (Sl Int)), ∀ (r : Int × Int), zlz q a0 = some r → (orc T N).deep F.zlz [(Sl.enc (V.int .u8)) a0] = some [(V.int .i64) r.1, (V.int .i64) r.2] := by
 intro q N hM a0 r h
 rcases q with _ | q
 ·cases h
 obtain ⟨M, rfl⟩ : ∃ M, N = M + 8 := ⟨N - 8, by omega⟩
 generalize hR : some [(V.int .i64) r.1, (V.int .i64) r.2] = R
 rw [zhx, zbns, y8, zhv zbhf rfl]
 rw [zlz] at h
 replace h := ob h; obtain ⟨r1, h1, h⟩ := h
 replace h1 := zb2t q (M + 7) (by omega) _ _ h1
 try simp only [kf, simprocAttr] at h1
 replace h := br h; rcases h with ⟨h2, h⟩ | ⟨h2, h⟩
 ·cases h; subst hR; simp only [zb4m, simprocAttr, *]
 ·replace h := ob h; obtain ⟨r2, h3, h⟩ := h
  replace h3 := zb4l q (M + 7) (by omega) _ _ h3
  cases h; subst hR; simp only [zb4m, simprocAttr, *]
def zb4o (q : Nat) : Prop := ∀ (M : Nat) (hM : 8 * q ≤ M) (j : Nat) (hj : q ≤ j) (h1_0z : Bool) (h1_0l : List Int) (r : Int × Int × Int × Int × (List Int) × Bool × Int) (_ : zl5 q h1_0z h1_0l = some r) (R : Option (List V × Hp)) (_ : (some ([], [(.box [(.int .i64 r.1), (.int .i64 r.2.1), (.int .i64 r.2.2.1), (.int .i64 r.2.2.2.1), (.sl true []), (.bool false), (.int .i64 0), (.sl true [])]), (.box [(.sl h1_0z (List.map (V.int .u8) r.2.2.2.2.1)), (.bool r.2.2.2.2.2.1)]), (.box [(.int .i64 r.2.2.2.2.2.2)]), (.box [(.int .i64 0)]), (.box [(.int .i64 0)])]) : Option (List V × Hp)) = R) (fr : Fr) (H : Hp) (_ : canon 5 [0, 6, 7, 8] fr H = ([(0, (.ptr 1 0)), (6, (.psl [(.ptr 0 0), (.ptr 0 1), (.ptr 0 2), (.ptr 0 3), (.ptr 2 0)])), (7, (.int .i64 5)), (8, (.int .i64 0))], [(.box [(.int .i64 0), (.int .i64 0), (.int .i64 0), (.int .i64 0), (.sl true []), (.bool false), (.int .i64 0), (.sl true [])]), (.box [(.sl h1_0z (List.map (V.int .u8) h1_0l)), (.bool true)]), (.box [(.int .i64 0)]), (.box [(.int .i64 0)]), (.box [(.int .i64 0)])])), finI 5 false [] (unw T (orc T (M + 6)) (M + 6) 5 [.blk 0] (iter 5 [0, 6, 7, 8] (exec T (orc T (M + 6)) (M + 6) 5 z8r) j fr H)) = R
def zb4p (q : Nat) : Prop := ∀ (M : Nat) (hM : 8 * q ≤ M) (j : Nat) (hj : q ≤ j) (h0_0 : Int) (h1_0z : Bool) (h1_0l : List Int) (h1_1 : Bool) (r : Int × Int × Int × Int × (List Int) × Bool × Int) (_ : zl4 q h0_0 h1_0z h1_0l h1_1 = some r) (R : Option (List V × Hp)) (_ : (some ([], [(.box [(.int .i64 r.1), (.int .i64 r.2.1), (.int .i64 r.2.2.1), (.int .i64 r.2.2.2.1), (.sl true []), (.bool false), (.int .i64 0), (.sl true [])]), (.box [(.sl h1_0z (List.map (V.int .u8) r.2.2.2.2.1)), (.bool r.2.2.2.2.2.1)]), (.box [(.int .i64 r.2.2.2.2.2.2)]), (.box [(.int .i64 0)]), (.box [(.int .i64 0)])]) : Option (List V × Hp)) = R) (fr : Fr) (H : Hp) (_ : canon 5 [0, 6, 7, 8] fr H = ([(0, (.ptr 1 0)), (6, (.psl [(.ptr 0 0), (.ptr 0 1), (.ptr 0 2), (.ptr 0 3), (.ptr 2 0)])), (7, (.int .i64 5)), (8, (.int .i64 1))], [(.box [(.int .i64 h0_0), (.int .i64 0), (.int .i64 0), (.int .i64 0), (.sl true []), (.bool false), (.int .i64 0), (.sl true [])]), (.box [(.sl h1_0z (List.map (V.int .u8) h1_0l)), (.bool h1_1)]), (.box [(.int .i64 0)]), (.box [(.int .i64 0)]), (.box [(.int .i64 0)])])), finI 5 false [] (unw T (orc T (M + 6)) (M + 6) 5 [.blk 0] (iter 5 [0, 6, 7, 8] (exec T (orc T (M + 6)) (M + 6) 5 z8r) j fr H)) = R
def zb4q (q : Nat) : Prop := ∀ (M : Nat) (hM : 8 * q ≤ M) (j : Nat) (hj : q ≤ j) (h0_0 h0_1 : Int) (h1_0z : Bool) (h1_0l : List Int) (h1_1 : Bool) (r : Int × Int × Int × Int × (List Int) × Bool × Int) (_ : zl3 q h0_0 h0_1 h1_0z h1_0l h1_1 = some r) (R : Option (List V × Hp)) (_ : (some ([], [(.box [(.int .i64 r.1), (.int .i64 r.2.1), (.int .i64 r.2.2.1), (.int .i64 r.2.2.2.1), (.sl true []), (.bool false), (.int .i64 0), (.sl true [])]), (.box [(.sl h1_0z (List.map (V.int .u8) r.2.2.2.2.1)), (.bool r.2.2.2.2.2.1)]), (.box [(.int .i64 r.2.2.2.2.2.2)]), (.box [(.int .i64 0)]), (.box [(.int .i64 0)])]) : Option (List V × Hp)) = R) (fr : Fr) (H : Hp) (_ : canon 5 [0, 6, 7, 8] fr H = ([(0, (.ptr 1 0)), (6, (.psl [(.ptr 0 0), (.ptr 0 1), (.ptr 0 2), (.ptr 0 3), (.ptr 2 0)])), (7, (.int .i64 5)), (8, (.int .i64 2))], [(.box [(.int .i64 h0_0), (.int .i64 h0_1), (.int .i64 0), (.int .i64 0), (.sl true []), (.bool false), (.int .i64 0), (.sl true [])]), (.box [(.sl h1_0z (List.map (V.int .u8) h1_0l)), (.bool h1_1)]), (.box [(.int .i64 0)]), (.box [(.int .i64 0)]), (.box [(.int .i64 0)])])), finI 5 false [] (unw T (orc T (M + 6)) (M + 6) 5 [.blk 0] (iter 5 [0, 6, 7, 8] (exec T (orc T (M + 6)) (M + 6) 5 z8r) j fr H)) = R
def zb4r (q : Nat) : Prop := ∀ (M : Nat) (hM : 8 * q ≤ M) (j : Nat) (hj : q ≤ j) (h0_0 h0_1 h0_2 : Int) (h1_0z : Bool) (h1_0l : List Int) (h1_1 : Bool) (r : Int × Int × Int × Int × (List Int) × Bool × Int) (_ : zl2 q h0_0 h0_1 h0_2 h1_0z h1_0l h1_1 = some r) (R : Option (List V × Hp)) (_ : (some ([], [(.box [(.int .i64 r.1), (.int .i64 r.2.1), (.int .i64 r.2.2.1), (.int .i64 r.2.2.2.1), (.sl true []), (.bool false), (.int .i64 0), (.sl true [])]), (.box [(.sl h1_0z (List.map (V.int .u8) r.2.2.2.2.1)), (.bool r.2.2.2.2.2.1)]), (.box [(.int .i64 r.2.2.2.2.2.2)]), (.box [(.int .i64 0)]), (.box [(.int .i64 0)])]) : Option (List V × Hp)) = R) (fr : Fr) (H : Hp) (_ : canon 5 [0, 6, 7, 8] fr H = ([(0, (.ptr 1 0)), (6, (.psl [(.ptr 0 0), (.ptr 0 1), (.ptr 0 2), (.ptr 0 3), (.ptr 2 0)])), (7, (.int .i64 5)), (8, (.int .i64 3))], [(.box [(.int .i64 h0_0), (.int .i64 h0_1), (.int .i64 h0_2), (.int .i64 0), (.sl true []), (.bool false), (.int .i64 0), (.sl true [])]), (.box [(.sl h1_0z (List.map (V.int .u8) h1_0l)), (.bool h1_1)]), (.box [(.int .i64 0)]), (.box [(.int .i64 0)]), (.box [(.int .i64 0)])])), finI 5 false [] (unw T (orc T (M + 6)) (M + 6) 5 [.blk 0] (iter 5 [0, 6, 7, 8] (exec T (orc T (M + 6)) (M + 6) 5 z8r) j fr H)) = R
def zb4s (q : Nat) : Prop := ∀ (M : Nat) (hM : 8 * q ≤ M) (j : Nat) (hj : q ≤ j) (h0_0 h0_1 h0_2 h0_3 : Int) (h1_0z : Bool) (h1_0l : List Int) (h1_1 : Bool) (r : Int × Int × Int × Int × (List Int) × Bool × Int) (_ : zl1 q h0_0 h0_1 h0_2 h0_3 h1_0z h1_0l h1_1 = some r) (R : Option (List V × Hp)) (_ : (some ([], [(.box [(.int .i64 r.1), (.int .i64 r.2.1), (.int .i64 r.2.2.1), (.int .i64 r.2.2.2.1), (.sl true []), (.bool false), (.int .i64 0), (.sl true [])]), (.box [(.sl h1_0z (List.map (V.int .u8) r.2.2.2.2.1)), (.bool r.2.2.2.2.2.1)]), (.box [(.int .i64 r.2.2.2.2.2.2)]), (.box [(.int .i64 0)]), (.box [(.int .i64 0)])]) : Option (List V × Hp)) = R) (fr : Fr) (H : Hp) (_ : canon 5 [0, 6, 7, 8] fr H = ([(0, (.ptr 1 0)), (6, (.psl [(.ptr 0 0), (.ptr 0 1), (.ptr 0 2), (.ptr 0 3), (.ptr 2 0)])), (7, (.int .i64 5)), (8, (.int .i64 4))], [(.box [(.int .i64 h0_0), (.int .i64 h0_1), (.int .i64 h0_2), (.int .i64 h0_3), (.sl true []), (.bool false), (.int .i64 0), (.sl true [])]), (.box [(.sl h1_0z (List.map (V.int .u8) h1_0l)), (.bool h1_1)]), (.box [(.int .i64 0)]), (.box [(.int .i64 0)]), (.box [(.int .i64 0)])])), finI 5 false [] (unw T (orc T (M + 6)) (M + 6) 5 [.blk 0] (iter 5 [0, 6, 7, 8] (exec T (orc T (M + 6)) (M + 6) 5 z8r) j fr H)) = R
def zb4t (q : Nat) : Prop := ∀ (M : Nat) (hM : 8 * q ≤ M) (j : Nat) (hj : q ≤ j) (h0_0 h0_1 h0_2 h0_3 : Int) (h1_0z : Bool) (h1_0l : List Int) (h1_1 : Bool) (h2_0 : Int) (r : Int × Int × Int × Int × (List Int) × Bool × Int) (_ : zl0 q h0_0 h0_1 h0_2 h0_3 h1_0z h1_0l h1_1 h2_0 = some r) (R : Option (List V × Hp)) (_ : (some ([], [(.box [(.int .i64 r.1), (.int .i64 r.2.1), (.int .i64 r.2.2.1), (.int .i64 r.2.2.2.1), (.sl true []), (.bool false), (.int .i64 0), (.sl true [])]), (.box [(.sl h1_0z (List.map (V.int .u8) r.2.2.2.2.1)), (.bool r.2.2.2.2.2.1)]), (.box [(.int .i64 r.2.2.2.2.2.2)]), (.box [(.int .i64 0)]), (.box [(.int .i64 0)])]) : Option (List V × Hp)) = R) (fr : Fr) (H : Hp) (_ : canon 5 [0, 6, 7, 8] fr H = ([(0, (.ptr 1 0)), (6, (.psl [(.ptr 0 0), (.ptr 0 1), (.ptr 0 2), (.ptr 0 3), (.ptr 2 0)])), (7, (.int .i64 5)), (8, (.int .i64 5))], [(.box [(.int .i64 h0_0), (.int .i64 h0_1), (.int .i64 h0_2), (.int .i64 h0_3), (.sl true []), (.bool false), (.int .i64 0), (.sl true [])]), (.box [(.sl h1_0z (List.map (V.int .u8) h1_0l)), (.bool h1_1)]), (.box [(.int .i64 h2_0)]), (.box [(.int .i64 0)]), (.box [(.int .i64 0)])])), finI 5 false [] (unw T (orc T (M + 6)) (M + 6) 5 [.blk 0] (iter 5 [0, 6, 7, 8] (exec T (orc T (M + 6)) (M + 6) 5 z8r) j fr H)) = R
def zb4u := And.intro @kk <| And.intro @ke <| And.intro @kn <| And.intro @wl <| And.intro @zbs9 <| And.intro @zbu6 <| And.intro @zbu9 <| And.intro @zbsy <| And.intro @zbu7 <| And.intro @zbu8 <| And.intro @zbva <| @zbvb
theorem zb4v (q : Nat) (zb7q : zb4p q) : zb4o (q + 1) := by
 intro M hM j hj h1_0z h1_0l r h R hR fr H hc
 obtain ⟨j, rfl⟩ : ∃ i, j = i + 1 := ⟨j - 1, by omega⟩
 rw [zhn, hc]; clear hc
 rw [zl5] at h
 replace h := ob h; obtain ⟨r1, h1, h⟩ := h
 replace h1 := zb2v q (M + 5) (by omega) _ _ h1
 try simp only [kf, simprocAttr] at h1
 replace h := bn h; obtain ⟨h2, h⟩ := h
 replace h := bn h; obtain ⟨h3, h⟩ := h
 replace h := zb7q M (by omega) j (by omega) _ _ _ _ _ h R hR
 simp only [zb4u, simprocAttr, *]
theorem zb4w (q : Nat) (zb7r : zb4q q) : zb4p (q + 1) := by
 intro M hM j hj h0_0 h1_0z h1_0l h1_1 r h R hR fr H hc
 obtain ⟨j, rfl⟩ : ∃ i, j = i + 1 := ⟨j - 1, by omega⟩
 rw [zhn, hc]; clear hc
 rw [zl4] at h
 replace h := ob h; obtain ⟨r2, h1, h⟩ := h
 replace h1 := zb2v q (M + 5) (by omega) _ _ h1
 try simp only [kf, simprocAttr] at h1
 replace h := bb h; rcases h with ⟨h2', h2, h⟩ | ⟨h2', h2, h⟩
 ·replace h := bn h; obtain ⟨h3, h⟩ := h
  replace h := bn h; obtain ⟨h4, h⟩ := h
  replace h := zb7r M (by omega) j (by omega) _ _ _ _ _ _ h R hR
  simp only [zb4u, simprocAttr, *]
 ·replace h := bn h; obtain ⟨h5, h⟩ := h
  replace h := bn h; obtain ⟨h6, h⟩ := h
  replace h := zb7r M (by omega) j (by omega) _ _ _ _ _ _ h R hR
  simp only [zb4u, simprocAttr, *]
theorem zb4x (q : Nat) (zb7s : zb4r q) : zb4q (q + 1) := by
 intro M hM j hj h0_0 h0_1 h1_0z h1_0l h1_1 r h R hR fr H hc
 obtain ⟨j, rfl⟩ : ∃ i, j = i + 1 := ⟨j - 1, by omega⟩
 rw [zhn, hc]; clear hc
 rw [zl3] at h
 replace h := ob h; obtain ⟨r3, h1, h⟩ := h
 replace h1 := zb2v q (M + 5) (by omega) _ _ h1
 try simp only [kf, simprocAttr] at h1
 replace h := bb h; rcases h with ⟨h2', h2, h⟩ | ⟨h2', h2, h⟩
 ·replace h := bn h; obtain ⟨h3, h⟩ := h
  replace h := bn h; obtain ⟨h4, h⟩ := h
  replace h := zb7s M (by omega) j (by omega) _ _ _ _ _ _ _ h R hR
  simp only [zb4u, simprocAttr, *]
 ·replace h := bn h; obtain ⟨h5, h⟩ := h
  replace h := bn h; obtain ⟨h6, h⟩ := h
  replace h := zb7s M (by omega) j (by omega) _ _ _ _ _ _ _ h R hR
  simp only [zb4u, simprocAttr, *]
theorem zb4y (q : Nat) (zb7t : zb4s q) : zb4r (q + 1) := by
 intro M hM j hj h0_0 h0_1 h0_2 h1_0z h1_0l h1_1 r h R hR fr H hc
 obtain ⟨j, rfl⟩ : ∃ i, j = i + 1 := ⟨j - 1, by omega⟩
 rw [zhn, hc]; clear hc
 rw [zl2] at h
 replace h := ob h; obtain ⟨r4, h1, h⟩ := h
 replace h1 := zb2v q (M + 5) (by omega) _ _ h1
 try simp only [kf, simprocAttr] at h1
 replace h := bb h; rcases h with ⟨h2', h2, h⟩ | ⟨h2', h2, h⟩
 ·replace h := bn h; obtain ⟨h3, h⟩ := h
  replace h := bn h; obtain ⟨h4, h⟩ := h
  replace h := zb7t M (by omega) j (by omega) _ _ _ _ _ _ _ _ h R hR
  simp only [zb4u, simprocAttr, *]
 ·replace h := bn h; obtain ⟨h5, h⟩ := h
  replace h := bn h; obtain ⟨h6, h⟩ := h
  replace h := zb7t M (by omega) j (by omega) _ _ _ _ _ _ _ _ h R hR
  simp only [zb4u, simprocAttr, *]
theorem zb4z (q : Nat) (zb7u : zb4t q) : zb4s (q + 1) := by
 intro M hM j hj h0_0 h0_1 h0_2 h0_3 h1_0z h1_0l h1_1 r h R hR fr H hc
 obtain ⟨j, rfl⟩ : ∃ i, j = i + 1 := ⟨j - 1, by omega⟩
 rw [zhn, hc]; clear hc
 rw [zl1] at h
 replace h := ob h; obtain ⟨r5, h1, h⟩ := h
 replace h1 := zb2v q (M + 5) (by omega) _ _ h1
 try simp only [kf, simprocAttr] at h1
 replace h := bb h; rcases h with ⟨h2', h2, h⟩ | ⟨h2', h2, h⟩
 ·replace h := bn h; obtain ⟨h3, h⟩ := h
  replace h := bn h; obtain ⟨h4, h⟩ := h
  replace h := zb7u M (by omega) j (by omega) _ _ _ _ _ _ _ _ _ h R hR
  simp only [zb4u, simprocAttr, *]
 ·replace h := bn h; obtain ⟨h5, h⟩ := h
  replace h := bn h; obtain ⟨h6, h⟩ := h
  replace h := zb7u M (by omega) j (by omega) _ _ _ _ _ _ _ _ _ h R hR
  simp only [zb4u, simprocAttr, *]
theorem zb40 (q : Nat) : zb4t (q + 1) := by
 intro M hM j hj h0_0 h0_1 h0_2 h0_3 h1_0z h1_0l h1_1 h2_0 r h R hR fr H hc
 obtain ⟨j, rfl⟩ : ∃ i, j = i + 1 := ⟨j - 1, by omega⟩
 rw [zhn, hc]; clear hc
 rw [zl0] at h
 cases h; subst hR; simp only [zb4u, simprocAttr, *]
theorem zb41 : ∀ q, zb4o q ∧ zb4p q ∧ zb4q q ∧ zb4r q ∧ zb4s q ∧ zb4t q
 | 0 => by refine ⟨?_, ?_, ?_, ?_, ?_, ?_⟩ <;> (intro M hM j hj; intros; rename_i h _ _ _ _ _; cases h)
 | q + 1 => by have ⟨i0, i1, i2, i3, i4, i5⟩ := zb41 q; exact ⟨zb4v q i1, zb4w q i2, zb4x q i3, zb4y q i4, zb4z q i5, zb40 q⟩
theorem zb42 : ∀ (q M : Nat), 8 * q ≤ M → ∀ (h1_0z : Bool), ∀ (h1_0l : List Int), ∀ (r : Int × Int × Int × Int × (List Int) × Bool × Int), zl6 q h1_0z h1_0l = some r → (orc T (M + 7)).inl F.zo7 [(.ptr 1 0), (.psl [(.ptr 0 0), (.ptr 0 1), (.ptr 0 2), (.ptr 0 3), (.ptr 2 0)])] [(.box [(.int .i64 0), (.int .i64 0), (.int .i64 0), (.int .i64 0), (.sl true []), (.bool false), (.int .i64 0), (.sl true [])]), (.box [(.sl h1_0z (List.map (V.int .u8) h1_0l)), (.bool true)]), (.box [(.int .i64 0)]), (.box [(.int .i64 0)]), (.box [(.int .i64 0)])] = (some ([], [(.box [(.int .i64 r.1), (.int .i64 r.2.1), (.int .i64 r.2.2.1), (.int .i64 r.2.2.2.1), (.sl true []), (.bool false), (.int .i64 0), (.sl true [])]), (.box [(.sl h1_0z (List.map (V.int .u8) r.2.2.2.2.1)), (.bool r.2.2.2.2.2.1)]), (.box [(.int .i64 r.2.2.2.2.2.2)]), (.box [(.int .i64 0)]), (.box [(.int .i64 0)])]) : Option (List V × Hp)) := by
 intro q M hM h1_0z h1_0l r h
 rcases q with _ | q
 ·cases h
 have ih_delta_read_s0_l0 := (zb41 q).1
 generalize hR : (some ([], [(.box [(.int .i64 r.1), (.int .i64 r.2.1), (.int .i64 r.2.2.1), (.int .i64 r.2.2.2.1), (.sl true []), (.bool false), (.int .i64 0), (.sl true [])]), (.box [(.sl h1_0z (List.map (V.int .u8) r.2.2.2.2.1)), (.bool r.2.2.2.2.2.1)]), (.box [(.int .i64 r.2.2.2.2.2.2)]), (.box [(.int .i64 0)]), (.box [(.int .i64 0)])]) : Option (List V × Hp)) = R
 rw [zbtb (n := M + 6)]
 rw [zl6] at h
 replace h := ih_delta_read_s0_l0 M (by omega) (M + 6) (by omega) _ _ _ h R hR
 simp only [zb4u, simprocAttr, *]
def zb43 (q : Nat) : Prop := ∀ (M : Nat) (hM : 8 * q ≤ M) (j : Nat) (hj : q ≤ j) (h0_0 h0_1 h0_2 h0_3 : Int) (h1_0z : Bool) (h1_0l : List Int) (h1_1 : Bool) (r : (List Int) × Bool × Int × Int) (_ : zl9 q h0_0 h0_1 h0_2 h0_3 h1_0z h1_0l h1_1 = some r) (R : Option (List V × Hp)) (_ : (some ([], [(.box [(.int .i64 h0_0), (.int .i64 h0_1), (.int .i64 h0_2), (.int .i64 h0_3), (.sl true []), (.bool false), (.int .i64 0), (.sl true [])]), (.box [(.sl h1_0z (List.map (V.int .u8) r.1)), (.bool r.2.1)]), (.box [(.int .i64 r.2.2.1)]), (.box [(.int .i64 r.2.2.2)])]) : Option (List V × Hp)) = R) (fr : Fr) (H : Hp) (_ : canon 4 [0, 6, 7, 8] fr H = ([(0, (.ptr 1 0)), (6, (.psl [(.ptr 2 0), (.ptr 3 0)])), (7, (.int .i64 2)), (8, (.int .i64 0))], [(.box [(.int .i64 h0_0), (.int .i64 h0_1), (.int .i64 h0_2), (.int .i64 h0_3), (.sl true []), (.bool false), (.int .i64 0), (.sl true [])]), (.box [(.sl h1_0z (List.map (V.int .u8) h1_0l)), (.bool h1_1)]), (.box [(.int .i64 0)]), (.box [(.int .i64 0)])])), finI 4 false [] (unw T (orc T (M + 6)) (M + 6) 4 [.blk 0] (iter 4 [0, 6, 7, 8] (exec T (orc T (M + 6)) (M + 6) 4 z8r) j fr H)) = R
def zb44 (q : Nat) : Prop := ∀ (M : Nat) (hM : 8 * q ≤ M) (j : Nat) (hj : q ≤ j) (h0_0 h0_1 h0_2 h0_3 : Int) (h1_0z : Bool) (h1_0l : List Int) (h1_1 : Bool) (h2_0 : Int) (r : (List Int) × Bool × Int × Int) (_ : zl8 q h0_0 h0_1 h0_2 h0_3 h1_0z h1_0l h1_1 h2_0 = some r) (R : Option (List V × Hp)) (_ : (some ([], [(.box [(.int .i64 h0_0), (.int .i64 h0_1), (.int .i64 h0_2), (.int .i64 h0_3), (.sl true []), (.bool false), (.int .i64 0), (.sl true [])]), (.box [(.sl h1_0z (List.map (V.int .u8) r.1)), (.bool r.2.1)]), (.box [(.int .i64 r.2.2.1)]), (.box [(.int .i64 r.2.2.2)])]) : Option (List V × Hp)) = R) (fr : Fr) (H : Hp) (_ : canon 4 [0, 6, 7, 8] fr H = ([(0, (.ptr 1 0)), (6, (.psl [(.ptr 2 0), (.ptr 3 0)])), (7, (.int .i64 2)), (8, (.int .i64 1))], [(.box [(.int .i64 h0_0), (.int .i64 h0_1), (.int .i64 h0_2), (.int .i64 h0_3), (.sl true []), (.bool false), (.int .i64 0), (.sl true [])]), (.box [(.sl h1_0z (List.map (V.int .u8) h1_0l)), (.bool h1_1)]), (.box [(.int .i64 h2_0)]), (.box [(.int .i64 0)])])), finI 4 false [] (unw T (orc T (M + 6)) (M + 6) 4 [.blk 0] (iter 4 [0, 6, 7, 8] (exec T (orc T (M + 6)) (M + 6) 4 z8r) j fr H)) = R
def zb45 (q : Nat) : Prop := ∀ (M : Nat) (hM : 8 * q ≤ M) (j : Nat) (hj : q ≤ j) (h0_0 h0_1 h0_2 h0_3 : Int) (h1_0z : Bool) (h1_0l : List Int) (h1_1 : Bool) (h2_0 h3_0 : Int) (r : (List Int) × Bool × Int × Int) (_ : zl7 q h0_0 h0_1 h0_2 h0_3 h1_0z h1_0l h1_1 h2_0 h3_0 = some r) (R : Option (List V × Hp)) (_ : (some ([], [(.box [(.int .i64 h0_0), (.int .i64 h0_1), (.int .i64 h0_2), (.int .i64 h0_3), (.sl true []), (.bool false), (.int .i64 0), (.sl true [])]), (.box [(.sl h1_0z (List.map (V.int .u8) r.1)), (.bool r.2.1)]), (.box [(.int .i64 r.2.2.1)]), (.box [(.int .i64 r.2.2.2)])]) : Option (List V × Hp)) = R) (fr : Fr) (H : Hp) (_ : canon 4 [0, 6, 7, 8] fr H = ([(0, (.ptr 1 0)), (6, (.psl [(.ptr 2 0), (.ptr 3 0)])), (7, (.int .i64 2)), (8, (.int .i64 2))], [(.box [(.int .i64 h0_0), (.int .i64 h0_1), (.int .i64 h0_2), (.int .i64 h0_3), (.sl true []), (.bool false), (.int .i64 0), (.sl true [])]), (.box [(.sl h1_0z (List.map (V.int .u8) h1_0l)), (.bool h1_1)]), (.box [(.int .i64 h2_0)]), (.box [(.int .i64 h3_0)])])), finI 4 false [] (unw T (orc T (M + 6)) (M + 6) 4 [.blk 0] (iter 4 [0, 6, 7, 8] (exec T (orc T (M + 6)) (M + 6) 4 z8r) j fr H)) = R
def zb46 := And.intro @kk <| And.intro @ke <| And.intro @kn <| And.intro @wl <| And.intro @zbs9 <| And.intro @zbu6 <| And.intro @zbu9 <| And.intro @zbsy <| And.intro @zbu7 <| And.intro @zbu8 <| And.intro @zbva <| @zbvb
theorem zb47 (q : Nat) (zb7v : zb44 q) : zb43 (q + 1) := by
 intro M hM j hj h0_0 h0_1 h0_2 h0_3 h1_0z h1_0l h1_1 r h R hR fr H hc
 obtain ⟨j, rfl⟩ : ∃ i, j = i + 1 := ⟨j - 1, by omega⟩
 rw [zhn, hc]; clear hc
 rw [zl9] at h
 replace h := ob h; obtain ⟨r1, h1, h⟩ := h
 replace h1 := zb2v q (M + 5) (by omega) _ _ h1
 try simp only [kf, simprocAttr] at h1
 replace h := bb h; rcases h with ⟨h2', h2, h⟩ | ⟨h2', h2, h⟩
 ·replace h := bn h; obtain ⟨h3, h⟩ := h
  replace h := bn h; obtain ⟨h4, h⟩ := h
  replace h := zb7v M (by omega) j (by omega) _ _ _ _ _ _ _ _ _ h R hR
  simp only [zb46, simprocAttr, *]
 ·replace h := bn h; obtain ⟨h5, h⟩ := h
  replace h := bn h; obtain ⟨h6, h⟩ := h
  replace h := zb7v M (by omega) j (by omega) _ _ _ _ _ _ _ _ _ h R hR
  simp only [zb46, simprocAttr, *]
theorem zb48 (q : Nat) (zb7w : zb45 q) : zb44 (q + 1) := by
 intro M hM j hj h0_0 h0_1 h0_2 h0_3 h1_0z h1_0l h1_1 h2_0 r h R hR fr H hc
 obtain ⟨j, rfl⟩ : ∃ i, j = i + 1 := ⟨j - 1, by omega⟩
 rw [zhn, hc]; clear hc
 rw [zl8] at h
 replace h := ob h; obtain ⟨r2, h1, h⟩ := h
 replace h1 := zb2v q (M + 5) (by omega) _ _ h1
 try simp only [kf, simprocAttr] at h1
 replace h := bb h; rcases h with ⟨h2', h2, h⟩ | ⟨h2', h2, h⟩
 ·replace h := bn h; obtain ⟨h3, h⟩ := h
  replace h := bn h; obtain ⟨h4, h⟩ := h
  replace h := zb7w M (by omega) j (by omega) _ _ _ _ _ _ _ _ _ _ h R hR
  simp only [zb46, simprocAttr, *]
 ·replace h := bn h; obtain ⟨h5, h⟩ := h
  replace h := bn h; obtain ⟨h6, h⟩ := h
  replace h := zb7w M (by omega) j (by omega) _ _ _ _ _ _ _ _ _ _ h R hR
  simp only [zb46, simprocAttr, *]
theorem zb49 (q : Nat) : zb45 (q + 1) := by
 intro M hM j hj h0_0 h0_1 h0_2 h0_3 h1_0z h1_0l h1_1 h2_0 h3_0 r h R hR fr H hc
 obtain ⟨j, rfl⟩ : ∃ i, j = i + 1 := ⟨j - 1, by omega⟩
 rw [zhn, hc]; clear hc
 rw [zl7] at h
 cases h; subst hR; simp only [zb46, simprocAttr, *]
theorem zb5a : ∀ q, zb43 q ∧ zb44 q ∧ zb45 q
 | 0 => by refine ⟨?_, ?_, ?_⟩ <;> (intro M hM j hj; intros; rename_i h _ _ _ _ _; cases h)
 | q + 1 => by have ⟨i0, i1, i2⟩ := zb5a q; exact ⟨zb47 q i1, zb48 q i2, zb49 q⟩
theorem zb5b : ∀ (q M : Nat), 8 * q ≤ M → ∀ (h0_0 h0_1 h0_2 h0_3 : Int), ∀ (h1_0z : Bool), ∀ (h1_0l : List Int), ∀ (h1_1 : Bool), ∀ (r : (List Int) × Bool × Int × Int), zma q h0_0 h0_1 h0_2 h0_3 h1_0z h1_0l h1_1 = some r → (orc T (M + 7)).inl F.zo7 [(.ptr 1 0), (.psl [(.ptr 2 0), (.ptr 3 0)])] [(.box [(.int .i64 h0_0), (.int .i64 h0_1), (.int .i64 h0_2), (.int .i64 h0_3), (.sl true []), (.bool false), (.int .i64 0), (.sl true [])]), (.box [(.sl h1_0z (List.map (V.int .u8) h1_0l)), (.bool h1_1)]), (.box [(.int .i64 0)]), (.box [(.int .i64 0)])] = (some ([], [(.box [(.int .i64 h0_0), (.int .i64 h0_1), (.int .i64 h0_2), (.int .i64 h0_3), (.sl true []), (.bool false), (.int .i64 0), (.sl true [])]), (.box [(.sl h1_0z (List.map (V.int .u8) r.1)), (.bool r.2.1)]), (.box [(.int .i64 r.2.2.1)]), (.box [(.int .i64 r.2.2.2)])]) : Option (List V × Hp)) := by
 intro q M hM h0_0 h0_1 h0_2 h0_3 h1_0z h1_0l h1_1 r h
 rcases q with _ | q
 ·cases h
 have ih_delta_read_s1_l0 := (zb5a q).1
 generalize hR : (some ([], [(.box [(.int .i64 h0_0), (.int .i64 h0_1), (.int .i64 h0_2), (.int .i64 h0_3), (.sl true []), (.bool false), (.int .i64 0), (.sl true [])]), (.box [(.sl h1_0z (List.map (V.int .u8) r.1)), (.bool r.2.1)]), (.box [(.int .i64 r.2.2.1)]), (.box [(.int .i64 r.2.2.2)])]) : Option (List V × Hp)) = R
 rw [zbtb (n := M + 6)]
 rw [zma] at h
 replace h := ih_delta_read_s1_l0 M (by omega) (M + 6) (by omega) _ _ _ _ _ _ _ _ h R hR
 simp only [zb46, simprocAttr, *]
def zb5c (q : Nat) : Prop := ∀ (M : Nat) (hM : 8 * q ≤ M) (j : Nat) (hj : q ≤ j) (w4 : Nat) (h0_0 h0_1 h0_2 h0_3 : Int) (h1_0z : Bool) (h1_0l : List Int) (h1_1 : Bool) (h4l : List Int) (r : Nat × (List Int) × Bool × Int × Int) (_ : zmd q h0_0 h0_1 h0_2 h0_3 h1_0z h1_0l h1_1 h4l = some r) (R : Option (List V × Hp)) (_ : (some ([], [(.box [(.int .i64 h0_0), (.int .i64 h0_1), (.int .i64 h0_2), (.int .i64 h0_3), (.vw 4 w4 0 r.1 1), (.bool false), (.int .i64 0), (.sl true [])]), (.box [(.sl h1_0z (List.map (V.int .u8) r.2.1)), (.bool r.2.2.1)]), (.box [(.int .i64 r.2.2.2.1)]), (.box [(.int .i64 r.2.2.2.2)]), (.row w4 false 1 (List.map (V.int .i64) h4l) true)]) : Option (List V × Hp)) = R) (fr : Fr) (H : Hp) (_ : canon 5 [0, 6, 7, 8] fr H = ([(0, (.ptr 1 0)), (6, (.psl [(.ptr 2 0), (.ptr 3 0)])), (7, (.int .i64 2)), (8, (.int .i64 0))], [(.box [(.int .i64 h0_0), (.int .i64 h0_1), (.int .i64 h0_2), (.int .i64 h0_3), (.vw 4 w4 0 h4l.length 1), (.bool false), (.int .i64 0), (.sl true [])]), (.box [(.sl h1_0z (List.map (V.int .u8) h1_0l)), (.bool h1_1)]), (.box [(.int .i64 0)]), (.box [(.int .i64 0)]), (.row w4 false 1 (List.map (V.int .i64) h4l) true)])), finI 5 false [] (unw T (orc T (M + 6)) (M + 6) 5 [.blk 0] (iter 5 [0, 6, 7, 8] (exec T (orc T (M + 6)) (M + 6) 5 z8r) j fr H)) = R
def zb5d (q : Nat) : Prop := ∀ (M : Nat) (hM : 8 * q ≤ M) (j : Nat) (hj : q ≤ j) (w4 : Nat) (h0_0 h0_1 h0_2 h0_3 : Int) (h1_0z : Bool) (h1_0l : List Int) (h1_1 : Bool) (h2_0 : Int) (h4l : List Int) (r : Nat × (List Int) × Bool × Int × Int) (_ : zmc q h0_0 h0_1 h0_2 h0_3 h1_0z h1_0l h1_1 h2_0 h4l = some r) (R : Option (List V × Hp)) (_ : (some ([], [(.box [(.int .i64 h0_0), (.int .i64 h0_1), (.int .i64 h0_2), (.int .i64 h0_3), (.vw 4 w4 0 r.1 1), (.bool false), (.int .i64 0), (.sl true [])]), (.box [(.sl h1_0z (List.map (V.int .u8) r.2.1)), (.bool r.2.2.1)]), (.box [(.int .i64 r.2.2.2.1)]), (.box [(.int .i64 r.2.2.2.2)]), (.row w4 false 1 (List.map (V.int .i64) h4l) true)]) : Option (List V × Hp)) = R) (fr : Fr) (H : Hp) (_ : canon 5 [0, 6, 7, 8] fr H = ([(0, (.ptr 1 0)), (6, (.psl [(.ptr 2 0), (.ptr 3 0)])), (7, (.int .i64 2)), (8, (.int .i64 1))], [(.box [(.int .i64 h0_0), (.int .i64 h0_1), (.int .i64 h0_2), (.int .i64 h0_3), (.vw 4 w4 0 h4l.length 1), (.bool false), (.int .i64 0), (.sl true [])]), (.box [(.sl h1_0z (List.map (V.int .u8) h1_0l)), (.bool h1_1)]), (.box [(.int .i64 h2_0)]), (.box [(.int .i64 0)]), (.row w4 false 1 (List.map (V.int .i64) h4l) true)])), finI 5 false [] (unw T (orc T (M + 6)) (M + 6) 5 [.blk 0] (iter 5 [0, 6, 7, 8] (exec T (orc T (M + 6)) (M + 6) 5 z8r) j fr H)) = R
def zb5e (q : Nat) : Prop := ∀ (M : Nat) (hM : 8 * q ≤ M) (j : Nat) (hj : q ≤ j) (w4 : Nat) (h0_0 h0_1 h0_2 h0_3 : Int) (h1_0z : Bool) (h1_0l : List Int) (h1_1 : Bool) (h2_0 h3_0 : Int) (h4l : List Int) (r : Nat × (List Int) × Bool × Int × Int) (_ : zmb q h0_0 h0_1 h0_2 h0_3 h1_0z h1_0l h1_1 h2_0 h3_0 h4l = some r) (R : Option (List V × Hp)) (_ : (some ([], [(.box [(.int .i64 h0_0), (.int .i64 h0_1), (.int .i64 h0_2), (.int .i64 h0_3), (.vw 4 w4 0 r.1 1), (.bool false), (.int .i64 0), (.sl true [])]), (.box [(.sl h1_0z (List.map (V.int .u8) r.2.1)), (.bool r.2.2.1)]), (.box [(.int .i64 r.2.2.2.1)]), (.box [(.int .i64 r.2.2.2.2)]), (.row w4 false 1 (List.map (V.int .i64) h4l) true)]) : Option (List V × Hp)) = R) (fr : Fr) (H : Hp) (_ : canon 5 [0, 6, 7, 8] fr H = ([(0, (.ptr 1 0)), (6, (.psl [(.ptr 2 0), (.ptr 3 0)])), (7, (.int .i64 2)), (8, (.int .i64 2))], [(.box [(.int .i64 h0_0), (.int .i64 h0_1), (.int .i64 h0_2), (.int .i64 h0_3), (.vw 4 w4 0 h4l.length 1), (.bool false), (.int .i64 0), (.sl true [])]), (.box [(.sl h1_0z (List.map (V.int .u8) h1_0l)), (.bool h1_1)]), (.box [(.int .i64 h2_0)]), (.box [(.int .i64 h3_0)]), (.row w4 false 1 (List.map (V.int .i64) h4l) true)])), finI 5 false [] (unw T (orc T (M + 6)) (M + 6) 5 [.blk 0] (iter 5 [0, 6, 7, 8] (exec T (orc T (M + 6)) (M + 6) 5 z8r) j fr H)) = R
def zb5f := And.intro @kk <| And.intro @ke <| And.intro @kn <| And.intro @wl <| And.intro @zbs9 <| And.intro @zbu6 <| And.intro @zbu9 <| And.intro @zbsy <| And.intro @zbu7 <| And.intro @zbu8 <| And.intro @zbva <| @zbvb
theorem zb5g (q : Nat) (zb7x : zb5d q) : zb5c (q + 1) := by
 intro M hM j hj w4 h0_0 h0_1 h0_2 h0_3 h1_0z h1_0l h1_1 h4l r h R hR fr H hc
 obtain ⟨j, rfl⟩ : ∃ i, j = i + 1 := ⟨j - 1, by omega⟩
 rw [zhn, hc]; clear hc
 rw [zmd] at h
 replace h := ob h; obtain ⟨r1, h1, h⟩ := h
 replace h1 := zb2v q (M + 5) (by omega) _ _ h1
 try simp only [kf, simprocAttr] at h1
 replace h := bb h; rcases h with ⟨h2', h2, h⟩ | ⟨h2', h2, h⟩
 ·replace h := bn h; obtain ⟨h3, h⟩ := h
  replace h := bn h; obtain ⟨h4, h⟩ := h
  replace h := zb7x M (by omega) j (by omega) w4 _ _ _ _ _ _ _ _ _ _ h R hR
  simp only [zb5f, simprocAttr, *]
 ·replace h := bn h; obtain ⟨h5, h⟩ := h
  replace h := bn h; obtain ⟨h6, h⟩ := h
  replace h := zb7x M (by omega) j (by omega) w4 _ _ _ _ _ _ _ _ _ _ h R hR
  simp only [zb5f, simprocAttr, *]
theorem zb5h (q : Nat) (zb7y : zb5e q) : zb5d (q + 1) := by
 intro M hM j hj w4 h0_0 h0_1 h0_2 h0_3 h1_0z h1_0l h1_1 h2_0 h4l r h R hR fr H hc
 obtain ⟨j, rfl⟩ : ∃ i, j = i + 1 := ⟨j - 1, by omega⟩
 rw [zhn, hc]; clear hc
 rw [zmc] at h
 replace h := ob h; obtain ⟨r2, h1, h⟩ := h
 replace h1 := zb2v q (M + 5) (by omega) _ _ h1
 try simp only [kf, simprocAttr] at h1
 replace h := bb h; rcases h with ⟨h2', h2, h⟩ | ⟨h2', h2, h⟩
 ·replace h := bn h; obtain ⟨h3, h⟩ := h
  replace h := bn h; obtain ⟨h4, h⟩ := h
  replace h := zb7y M (by omega) j (by omega) w4 _ _ _ _ _ _ _ _ _ _ _ h R hR
  simp only [zb5f, simprocAttr, *]
 ·replace h := bn h; obtain ⟨h5, h⟩ := h
  replace h := bn h; obtain ⟨h6, h⟩ := h
  replace h := zb7y M (by omega) j (by omega) w4 _ _ _ _ _ _ _ _ _ _ _ h R hR
  simp only [zb5f, simprocAttr, *]
theorem zb5i (q : Nat) : zb5e (q + 1) := by
 intro M hM j hj w4 h0_0 h0_1 h0_2 h0_3 h1_0z h1_0l h1_1 h2_0 h3_0 h4l r h R hR fr H hc
 obtain ⟨j, rfl⟩ : ∃ i, j = i + 1 := ⟨j - 1, by omega⟩
 rw [zhn, hc]; clear hc
 rw [zmb] at h
 cases h; subst hR; simp only [zb5f, simprocAttr, *]
theorem zb5j : ∀ q, zb5c q ∧ zb5d q ∧ zb5e q
 | 0 => by refine ⟨?_, ?_, ?_⟩ <;> (intro M hM j hj; intros; rename_i h _ _ _ _ _; cases h)
 | q + 1 => by have ⟨i0, i1, i2⟩ := zb5j q; exact ⟨zb5g q i1, zb5h q i2, zb5i q⟩
theorem zb5k : ∀ (q M : Nat), 8 * q ≤ M → ∀ (w4 : Nat), ∀ (h0_0 h0_1 h0_2 h0_3 : Int), ∀ (h1_0z : Bool), ∀ (h1_0l : List Int), ∀ (h1_1 : Bool), ∀ (h4l : List Int), ∀ (r : Nat × (List Int) × Bool × Int × Int), zme q h0_0 h0_1 h0_2 h0_3 h1_0z h1_0l h1_1 h4l = some r → (orc T (M + 7)).inl F.zo7 [(.ptr 1 0), (.psl [(.ptr 2 0), (.ptr 3 0)])] [(.box [(.int .i64 h0_0), (.int .i64 h0_1), (.int .i64 h0_2), (.int .i64 h0_3), (.vw 4 w4 0 h4l.length 1), (.bool false), (.int .i64 0), (.sl true [])]), (.box [(.sl h1_0z (List.map (V.int .u8) h1_0l)), (.bool h1_1)]), (.box [(.int .i64 0)]), (.box [(.int .i64 0)]), (.row w4 false 1 (List.map (V.int .i64) h4l) true)] = (some ([], [(.box [(.int .i64 h0_0), (.int .i64 h0_1), (.int .i64 h0_2), (.int .i64 h0_3), (.vw 4 w4 0 r.1 1), (.bool false), (.int .i64 0), (.sl true [])]), (.box [(.sl h1_0z (List.map (V.int .u8) r.2.1)), (.bool r.2.2.1)]), (.box [(.int .i64 r.2.2.2.1)]), (.box [(.int .i64 r.2.2.2.2)]), (.row w4 false 1 (List.map (V.int .i64) h4l) true)]) : Option (List V × Hp)) := by
 intro q M hM w4 h0_0 h0_1 h0_2 h0_3 h1_0z h1_0l h1_1 h4l r h
 rcases q with _ | q
 ·cases h
 have ih_delta_read_s2_l0 := (zb5j q).1
 generalize hR : (some ([], [(.box [(.int .i64 h0_0), (.int .i64 h0_1), (.int .i64 h0_2), (.int .i64 h0_3), (.vw 4 w4 0 r.1 1), (.bool false), (.int .i64 0), (.sl true [])]), (.box [(.sl h1_0z (List.map (V.int .u8) r.2.1)), (.bool r.2.2.1)]), (.box [(.int .i64 r.2.2.2.1)]), (.box [(.int .i64 r.2.2.2.2)]), (.row w4 false 1 (List.map (V.int .i64) h4l) true)]) : Option (List V × Hp)) = R
 rw [zbtb (n := M + 6)]
 rw [zme] at h
 replace h := ih_delta_read_s2_l0 M (by omega) (M + 6) (by omega) w4 _ _ _ _ _ _ _ _ _ h R hR
 simp only [zb5f, simprocAttr, *]
def zb5l (q : Nat) : Prop := ∀ (M : Nat) (hM : 8 * q ≤ M) (j : Nat) (hj : q ≤ j) (h0_0 h0_1 h0_2 h0_3 : Int) (h0_5 : Bool) (h0_6 : Int) (h1_0z : Bool) (h1_0l : List Int) (h1_1 : Bool) (h2_0 : Int) (r : (List Int) × Bool × Int × Int) (_ : zmh q h0_0 h0_1 h0_2 h0_3 h0_5 h0_6 h1_0z h1_0l h1_1 h2_0 = some r) (R : Option (List V × Hp)) (_ : (some ([], [(.box [(.int .i64 h0_0), (.int .i64 h0_1), (.int .i64 h0_2), (.int .i64 h0_3), (.sl true []), (.bool h0_5), (.int .i64 h0_6), (.sl true [])]), (.box [(.sl h1_0z (List.map (V.int .u8) r.1)), (.bool r.2.1)]), (.box [(.int .i64 h2_0)]), (.box [(.int .i64 r.2.2.1), (.int .i64 r.2.2.2), (.int .i64 0)])]) : Option (List V × Hp)) = R) (fr : Fr) (H : Hp) (_ : canon 4 [0, 6, 7, 8] fr H = ([(0, (.ptr 1 0)), (6, (.psl [(.ptr 3 0), (.ptr 3 1)])), (7, (.int .i64 2)), (8, (.int .i64 0))], [(.box [(.int .i64 h0_0), (.int .i64 h0_1), (.int .i64 h0_2), (.int .i64 h0_3), (.sl true []), (.bool h0_5), (.int .i64 h0_6), (.sl true [])]), (.box [(.sl h1_0z (List.map (V.int .u8) h1_0l)), (.bool h1_1)]), (.box [(.int .i64 h2_0)]), (.box [(.int .i64 0), (.int .i64 0), (.int .i64 0)])])), finI 4 false [] (unw T (orc T (M + 6)) (M + 6) 4 [.blk 0] (iter 4 [0, 6, 7, 8] (exec T (orc T (M + 6)) (M + 6) 4 z8r) j fr H)) = R
def zb5m (q : Nat) : Prop := ∀ (M : Nat) (hM : 8 * q ≤ M) (j : Nat) (hj : q ≤ j) (h0_0 h0_1 h0_2 h0_3 : Int) (h0_5 : Bool) (h0_6 : Int) (h1_0z : Bool) (h1_0l : List Int) (h1_1 : Bool) (h2_0 h3_0 : Int) (r : (List Int) × Bool × Int × Int) (_ : zmg q h0_0 h0_1 h0_2 h0_3 h0_5 h0_6 h1_0z h1_0l h1_1 h2_0 h3_0 = some r) (R : Option (List V × Hp)) (_ : (some ([], [(.box [(.int .i64 h0_0), (.int .i64 h0_1), (.int .i64 h0_2), (.int .i64 h0_3), (.sl true []), (.bool h0_5), (.int .i64 h0_6), (.sl true [])]), (.box [(.sl h1_0z (List.map (V.int .u8) r.1)), (.bool r.2.1)]), (.box [(.int .i64 h2_0)]), (.box [(.int .i64 r.2.2.1), (.int .i64 r.2.2.2), (.int .i64 0)])]) : Option (List V × Hp)) = R) (fr : Fr) (H : Hp) (_ : canon 4 [0, 6, 7, 8] fr H = ([(0, (.ptr 1 0)), (6, (.psl [(.ptr 3 0), (.ptr 3 1)])), (7, (.int .i64 2)), (8, (.int .i64 1))], [(.box [(.int .i64 h0_0), (.int .i64 h0_1), (.int .i64 h0_2), (.int .i64 h0_3), (.sl true []), (.bool h0_5), (.int .i64 h0_6), (.sl true [])]), (.box [(.sl h1_0z (List.map (V.int .u8) h1_0l)), (.bool h1_1)]), (.box [(.int .i64 h2_0)]), (.box [(.int .i64 h3_0), (.int .i64 0), (.int .i64 0)])])), finI 4 false [] (unw T (orc T (M + 6)) (M + 6) 4 [.blk 0] (iter 4 [0, 6, 7, 8] (exec T (orc T (M + 6)) (M + 6) 4 z8r) j fr H)) = R
def zb5n (q : Nat) : Prop := ∀ (M : Nat) (hM : 8 * q ≤ M) (j : Nat) (hj : q ≤ j) (h0_0 h0_1 h0_2 h0_3 : Int) (h0_5 : Bool) (h0_6 : Int) (h1_0z : Bool) (h1_0l : List Int) (h1_1 : Bool) (h2_0 h3_0 h3_1 : Int) (r : (List Int) × Bool × Int × Int) (_ : zmf q h0_0 h0_1 h0_2 h0_3 h0_5 h0_6 h1_0z h1_0l h1_1 h2_0 h3_0 h3_1 = some r) (R : Option (List V × Hp)) (_ : (some ([], [(.box [(.int .i64 h0_0), (.int .i64 h0_1), (.int .i64 h0_2), (.int .i64 h0_3), (.sl true []), (.bool h0_5), (.int .i64 h0_6), (.sl true [])]), (.box [(.sl h1_0z (List.map (V.int .u8) r.1)), (.bool r.2.1)]), (.box [(.int .i64 h2_0)]), (.box [(.int .i64 r.2.2.1), (.int .i64 r.2.2.2), (.int .i64 0)])]) : Option (List V × Hp)) = R) (fr : Fr) (H : Hp) (_ : canon 4 [0, 6, 7, 8] fr H = ([(0, (.ptr 1 0)), (6, (.psl [(.ptr 3 0), (.ptr 3 1)])), (7, (.int .i64 2)), (8, (.int .i64 2))], [(.box [(.int .i64 h0_0), (.int .i64 h0_1), (.int .i64 h0_2), (.int .i64 h0_3), (.sl true []), (.bool h0_5), (.int .i64 h0_6), (.sl true [])]), (.box [(.sl h1_0z (List.map (V.int .u8) h1_0l)), (.bool h1_1)]), (.box [(.int .i64 h2_0)]), (.box [(.int .i64 h3_0), (.int .i64 h3_1), (.int .i64 0)])])), finI 4 false [] (unw T (orc T (M + 6)) (M + 6) 4 [.blk 0] (iter 4 [0, 6, 7, 8] (exec T (orc T (M + 6)) (M + 6) 4 z8r) j fr H)) = R
def zb5o := And.intro @kk <| And.intro @ke <| And.intro @kn <| And.intro @wl <| And.intro @zbs9 <| And.intro @zbu6 <| And.intro @zbu9 <| And.intro @zbsy <| And.intro @zbu7 <| And.intro @zbu8 <| And.intro @zbva <| @zbvb
theorem zb5p (q : Nat) (zb7z : zb5m q) : zb5l (q + 1) := by
 intro M hM j hj h0_0 h0_1 h0_2 h0_3 h0_5 h0_6 h1_0z h1_0l h1_1 h2_0 r h R hR fr H hc
 obtain ⟨j, rfl⟩ : ∃ i, j = i + 1 := ⟨j - 1, by omega⟩
 rw [zhn, hc]; clear hc
 rw [zmh] at h
 replace h := ob h; obtain ⟨r1, h1, h⟩ := h
 replace h1 := zb2v q (M + 5) (by omega) _ _ h1
 try simp only [kf, simprocAttr] at h1
 replace h := bb h; rcases h with ⟨h2', h2, h⟩ | ⟨h2', h2, h⟩
 ·replace h := bn h; obtain ⟨h3, h⟩ := h
  replace h := bn h; obtain ⟨h4, h⟩ := h
  replace h := zb7z M (by omega) j (by omega) _ _ _ _ _ _ _ _ _ _ _ _ h R hR
  simp only [zb5o, simprocAttr, *]
 ·replace h := bn h; obtain ⟨h5, h⟩ := h
  replace h := bn h; obtain ⟨h6, h⟩ := h
  replace h := zb7z M (by omega) j (by omega) _ _ _ _ _ _ _ _ _ _ _ _ h R hR
  simp only [zb5o, simprocAttr, *]
theorem zb5q (q : Nat) (zb70 : zb5n q) : zb5m (q + 1) := by
 intro M hM j hj h0_0 h0_1 h0_2 h0_3 h0_5 h0_6 h1_0z h1_0l h1_1 h2_0 h3_0 r h R hR fr H hc
 obtain ⟨j, rfl⟩ : ∃ i, j = i + 1 := ⟨j - 1, by omega⟩
 rw [zhn, hc]; clear hc
 rw [zmg] at h
 replace h := ob h; obtain ⟨r2, h1, h⟩ := h
 replace h1 := zb2v q (M + 5) (by omega) _ _ h1
 try simp only [kf, simprocAttr] at h1
 replace h := bb h; rcases h with ⟨h2', h2, h⟩ | ⟨h2', h2, h⟩
 ·replace h := bn h; obtain ⟨h3, h⟩ := h
  replace h := bn h; obtain ⟨h4, h⟩ := h
  replace h := zb70 M (by omega) j (by omega) _ _ _ _ _ _ _ _ _ _ _ _ _ h R hR
  simp only [zb5o, simprocAttr, *]
 ·replace h := bn h; obtain ⟨h5, h⟩ := h
  replace h := bn h; obtain ⟨h6, h⟩ := h
  replace h := zb70 M (by omega) j (by omega) _ _ _ _ _ _ _ _ _ _ _ _ _ h R hR
  simp only [zb5o, simprocAttr, *]
theorem zb5r (q : Nat) : zb5n (q + 1) := by
 intro M hM j hj h0_0 h0_1 h0_2 h0_3 h0_5 h0_6 h1_0z h1_0l h1_1 h2_0 h3_0 h3_1 r h R hR fr H hc
 obtain ⟨j, rfl⟩ : ∃ i, j = i + 1 := ⟨j - 1, by omega⟩
 rw [zhn, hc]; clear hc
 rw [zmf] at h
 cases h; subst hR; simp only [zb5o, simprocAttr, *]
theorem zb5s : ∀ q, zb5l q ∧ zb5m q ∧ zb5n q
 | 0 => by refine ⟨?_, ?_, ?_⟩ <;> (intro M hM j hj; intros; rename_i h _ _ _ _ _; cases h)
 | q + 1 => by have ⟨i0, i1, i2⟩ := zb5s q; exact ⟨zb5p q i1, zb5q q i2, zb5r q⟩
theorem zb5t : ∀ (q M : Nat), 8 * q ≤ M → ∀ (h0_0 h0_1 h0_2 h0_3 : Int), ∀ (h0_5 : Bool), ∀ (h0_6 : Int), ∀ (h1_0z : Bool), ∀ (h1_0l : List Int), ∀ (h1_1 : Bool), ∀ (h2_0 : Int), ∀ (r : (List Int) × Bool × Int × Int), zmi q h0_0 h0_1 h0_2 h0_3 h0_5 h0_6 h1_0z h1_0l h1_1 h2_0 = some r → (orc T (M + 7)).inl F.zo7 [(.ptr 1 0), (.psl [(.ptr 3 0), (.ptr 3 1)])] [(.box [(.int .i64 h0_0), (.int .i64 h0_1), (.int .i64 h0_2), (.int .i64 h0_3), (.sl true []), (.bool h0_5), (.int .i64 h0_6), (.sl true [])]), (.box [(.sl h1_0z (List.map (V.int .u8) h1_0l)), (.bool h1_1)]), (.box [(.int .i64 h2_0)]), (.box [(.int .i64 0), (.int .i64 0), (.int .i64 0)])] = (some ([], [(.box [(.int .i64 h0_0), (.int .i64 h0_1), (.int .i64 h0_2), (.int .i64 h0_3), (.sl true []), (.bool h0_5), (.int .i64 h0_6), (.sl true [])]), (.box [(.sl h1_0z (List.map (V.int .u8) r.1)), (.bool r.2.1)]), (.box [(.int .i64 h2_0)]), (.box [(.int .i64 r.2.2.1), (.int .i64 r.2.2.2), (.int .i64 0)])]) : Option (List V × Hp)) := by
 intro q M hM h0_0 h0_1 h0_2 h0_3 h0_5 h0_6 h1_0z h1_0l h1_1 h2_0 r h
 rcases q with _ | q
 ·cases h
 have ih_delta_read_s3_l0 := (zb5s q).1
 generalize hR : (some ([], [(.box [(.int .i64 h0_0), (.int .i64 h0_1), (.int .i64 h0_2), (.int .i64 h0_3), (.sl true []), (.bool h0_5), (.int .i64 h0_6), (.sl true [])]), (.box [(.sl h1_0z (List.map (V.int .u8) r.1)), (.bool r.2.1)]), (.box [(.int .i64 h2_0)]), (.box [(.int .i64 r.2.2.1), (.int .i64 r.2.2.2), (.int .i64 0)])]) : Option (List V × Hp)) = R
 rw [zbtb (n := M + 6)]
 rw [zmi] at h
 replace h := ih_delta_read_s3_l0 M (by omega) (M + 6) (by omega) _ _ _ _ _ _ _ _ _ _ _ h R hR
 simp only [zb5o, simprocAttr, *]
def zb5u (q : Nat) : Prop := ∀ (M : Nat) (hM : 8 * q ≤ M) (j : Nat) (hj : q ≤ j) (w3 : Nat) (h0_0 h0_1 h0_2 h0_3 : Int) (h0_4len : Nat) (h0_5 : Bool) (h0_6 : Int) (h1_0z : Bool) (h1_0l : List Int) (h1_1 : Bool) (h2_0 : Int) (h3l : List Int) (r : (List Int) × Bool × Int × Int) (_ : zml q h0_0 h0_1 h0_2 h0_3 h0_4len h0_5 h0_6 h1_0z h1_0l h1_1 h2_0 h3l = some r) (R : Option (List V × Hp)) (_ : (some ([], [(.box [(.int .i64 h0_0), (.int .i64 h0_1), (.int .i64 h0_2), (.int .i64 h0_3), (.vw 3 w3 0 h0_4len 1), (.bool h0_5), (.int .i64 h0_6), (.sl true [])]), (.box [(.sl h1_0z (List.map (V.int .u8) r.1)), (.bool r.2.1)]), (.box [(.int .i64 h2_0)]), (.row w3 false 1 (List.map (V.int .i64) h3l) true), (.box [(.int .i64 r.2.2.1), (.int .i64 r.2.2.2), (.int .i64 0)])]) : Option (List V × Hp)) = R) (fr : Fr) (H : Hp) (_ : canon 5 [0, 6, 7, 8] fr H = ([(0, (.ptr 1 0)), (6, (.psl [(.ptr 4 0), (.ptr 4 1)])), (7, (.int .i64 2)), (8, (.int .i64 0))], [(.box [(.int .i64 h0_0), (.int .i64 h0_1), (.int .i64 h0_2), (.int .i64 h0_3), (.vw 3 w3 0 h0_4len 1), (.bool h0_5), (.int .i64 h0_6), (.sl true [])]), (.box [(.sl h1_0z (List.map (V.int .u8) h1_0l)), (.bool h1_1)]), (.box [(.int .i64 h2_0)]), (.row w3 false 1 (List.map (V.int .i64) h3l) true), (.box [(.int .i64 0), (.int .i64 0), (.int .i64 0)])])), finI 5 false [] (unw T (orc T (M + 6)) (M + 6) 5 [.blk 0] (iter 5 [0, 6, 7, 8] (exec T (orc T (M + 6)) (M + 6) 5 z8r) j fr H)) = R
def zb5v (q : Nat) : Prop := ∀ (M : Nat) (hM : 8 * q ≤ M) (j : Nat) (hj : q ≤ j) (w3 : Nat) (h0_0 h0_1 h0_2 h0_3 : Int) (h0_4len : Nat) (h0_5 : Bool) (h0_6 : Int) (h1_0z : Bool) (h1_0l : List Int) (h1_1 : Bool) (h2_0 : Int) (h3l : List Int) (h4_0 : Int) (r : (List Int) × Bool × Int × Int) (_ : zmk q h0_0 h0_1 h0_2 h0_3 h0_4len h0_5 h0_6 h1_0z h1_0l h1_1 h2_0 h3l h4_0 = some r) (R : Option (List V × Hp)) (_ : (some ([], [(.box [(.int .i64 h0_0), (.int .i64 h0_1), (.int .i64 h0_2), (.int .i64 h0_3), (.vw 3 w3 0 h0_4len 1), (.bool h0_5), (.int .i64 h0_6), (.sl true [])]), (.box [(.sl h1_0z (List.map (V.int .u8) r.1)), (.bool r.2.1)]), (.box [(.int .i64 h2_0)]), (.row w3 false 1 (List.map (V.int .i64) h3l) true), (.box [(.int .i64 r.2.2.1), (.int .i64 r.2.2.2), (.int .i64 0)])]) : Option (List V × Hp)) = R) (fr : Fr) (H : Hp) (_ : canon 5 [0, 6, 7, 8] fr H = ([(0, (.ptr 1 0)), (6, (.psl [(.ptr 4 0), (.ptr 4 1)])), (7, (.int .i64 2)), (8, (.int .i64 1))], [(.box [(.int .i64 h0_0), (.int .i64 h0_1), (.int .i64 h0_2), (.int .i64 h0_3), (.vw 3 w3 0 h0_4len 1), (.bool h0_5), (.int .i64 h0_6), (.sl true [])]), (.box [(.sl h1_0z (List.map (V.int .u8) h1_0l)), (.bool h1_1)]), (.box [(.int .i64 h2_0)]), (.row w3 false 1 (List.map (V.int .i64) h3l) true), (.box [(.int .i64 h4_0), (.int .i64 0), (.int .i64 0)])])), finI 5 false [] (unw T (orc T (M + 6)) (M + 6) 5 [.blk 0] (iter 5 [0, 6, 7, 8] (exec T (orc T (M + 6)) (M + 6) 5 z8r) j fr H)) = R
def zb5w (q : Nat) : Prop := ∀ (M : Nat) (hM : 8 * q ≤ M) (j : Nat) (hj : q ≤ j) (w3 : Nat) (h0_0 h0_1 h0_2 h0_3 : Int) (h0_4len : Nat) (h0_5 : Bool) (h0_6 : Int) (h1_0z : Bool) (h1_0l : List Int) (h1_1 : Bool) (h2_0 : Int) (h3l : List Int) (h4_0 h4_1 : Int) (r : (List Int) × Bool × Int × Int) (_ : zmj q h0_0 h0_1 h0_2 h0_3 h0_4len h0_5 h0_6 h1_0z h1_0l h1_1 h2_0 h3l h4_0 h4_1 = some r) (R : Option (List V × Hp)) (_ : (some ([], [(.box [(.int .i64 h0_0), (.int .i64 h0_1), (.int .i64 h0_2), (.int .i64 h0_3), (.vw 3 w3 0 h0_4len 1), (.bool h0_5), (.int .i64 h0_6), (.sl true [])]), (.box [(.sl h1_0z (List.map (V.int .u8) r.1)), (.bool r.2.1)]), (.box [(.int .i64 h2_0)]), (.row w3 false 1 (List.map (V.int .i64) h3l) true), (.box [(.int .i64 r.2.2.1), (.int .i64 r.2.2.2), (.int .i64 0)])]) : Option (List V × Hp)) = R) (fr : Fr) (H : Hp) (_ : canon 5 [0, 6, 7, 8] fr H = ([(0, (.ptr 1 0)), (6, (.psl [(.ptr 4 0), (.ptr 4 1)])), (7, (.int .i64 2)), (8, (.int .i64 2))], [(.box [(.int .i64 h0_0), (.int .i64 h0_1), (.int .i64 h0_2), (.int .i64 h0_3), (.vw 3 w3 0 h0_4len 1), (.bool h0_5), (.int .i64 h0_6), (.sl true [])]), (.box [(.sl h1_0z (List.map (V.int .u8) h1_0l)), (.bool h1_1)]), (.box [(.int .i64 h2_0)]), (.row w3 false 1 (List.map (V.int .i64) h3l) true), (.box [(.int .i64 h4_0), (.int .i64 h4_1), (.int .i64 0)])])), finI 5 false [] (unw T (orc T (M + 6)) (M + 6) 5 [.blk 0] (iter 5 [0, 6, 7, 8] (exec T (orc T (M + 6)) (M + 6) 5 z8r) j fr H)) = R
def zb5x := And.intro @kk <| And.intro @ke <| And.intro @kn <| And.intro @wl <| And.intro @zbs9 <| And.intro @zbu6 <| And.intro @zbu9 <| And.intro @zbsy <| And.intro @zbu7 <| And.intro @zbu8 <| And.intro @zbva <| @zbvb
theorem zb5y (q : Nat) (zb71 : zb5v q) : zb5u (q + 1) := by
 intro M hM j hj w3 h0_0 h0_1 h0_2 h0_3 h0_4len h0_5 h0_6 h1_0z h1_0l h1_1 h2_0 h3l r h R hR fr H hc
 obtain ⟨j, rfl⟩ : ∃ i, j = i + 1 := ⟨j - 1, by omega⟩
 rw [zhn, hc]; clear hc
 rw [zml] at h
 replace h := ob h; obtain ⟨r1, h1, h⟩ := h
 replace h1 := zb2v q (M + 5) (by omega) _ _ h1
 try simp only [kf, simprocAttr] at h1
 replace h := bb h; rcases h with ⟨h2', h2, h⟩ | ⟨h2', h2, h⟩
 ·replace h := bn h; obtain ⟨h3, h⟩ := h
  replace h := bn h; obtain ⟨h4, h⟩ := h
  replace h := zb71 M (by omega) j (by omega) w3 _ _ _ _ _ _ _ _ _ _ _ _ _ _ h R hR
  simp only [zb5x, simprocAttr, *]
 ·replace h := bn h; obtain ⟨h5, h⟩ := h
  replace h := bn h; obtain ⟨h6, h⟩ := h
  replace h := zb71 M (by omega) j (by omega) w3 _ _ _ _ _ _ _ _ _ _ _ _ _ _ h R hR
  simp only [zb5x, simprocAttr, *]
theorem zb5z (q : Nat) (zb72 : zb5w q) : zb5v (q + 1) := by
 intro M hM j hj w3 h0_0 h0_1 h0_2 h0_3 h0_4len h0_5 h0_6 h1_0z h1_0l h1_1 h2_0 h3l h4_0 r h R hR fr H hc
 obtain ⟨j, rfl⟩ : ∃ i, j = i + 1 := ⟨j - 1, by omega⟩
 rw [zhn, hc]; clear hc
 rw [zmk] at h
 replace h := ob h; obtain ⟨r2, h1, h⟩ := h
 replace h1 := zb2v q (M + 5) (by omega) _ _ h1
 try simp only [kf, simprocAttr] at h1
 replace h := bb h; rcases h with ⟨h2', h2, h⟩ | ⟨h2', h2, h⟩
 ·replace h := bn h; obtain ⟨h3, h⟩ := h
  replace h := bn h; obtain ⟨h4, h⟩ := h
  replace h := zb72 M (by omega) j (by omega) w3 _ _ _ _ _ _ _ _ _ _ _ _ _ _ _ h R hR
  simp only [zb5x, simprocAttr, *]
 ·replace h := bn h; obtain ⟨h5, h⟩ := h
  replace h := bn h; obtain ⟨h6, h⟩ := h
  replace h := zb72 M (by omega) j (by omega) w3 _ _ _ _ _ _ _ _ _ _ _ _ _ _ _ h R hR
  simp only [zb5x, simprocAttr, *]
theorem zb50 (q : Nat) : zb5w (q + 1) := by
 intro M hM j hj w3 h0_0 h0_1 h0_2 h0_3 h0_4len h0_5 h0_6 h1_0z h1_0l h1_1 h2_0 h3l h4_0 h4_1 r h R hR fr H hc
 obtain ⟨j, rfl⟩ : ∃ i, j = i + 1 := ⟨j - 1, by omega⟩
 rw [zhn, hc]; clear hc
 rw [zmj] at h
 cases h; subst hR; simp only [zb5x, simprocAttr, *]
theorem zb51 : ∀ q, zb5u q ∧ zb5v q ∧ zb5w q
 | 0 => by refine ⟨?_, ?_, ?_⟩ <;> (intro M hM j hj; intros; rename_i h _ _ _ _ _; cases h)
 | q + 1 => by have ⟨i0, i1, i2⟩ := zb51 q; exact ⟨zb5y q i1, zb5z q i2, zb50 q⟩
theorem zb52 : ∀ (q M : Nat), 8 * q ≤ M → ∀ (w3 : Nat), ∀ (h0_0 h0_1 h0_2 h0_3 : Int), ∀ (h0_4len : Nat), ∀ (h0_5 : Bool), ∀ (h0_6 : Int), ∀ (h1_0z : Bool), ∀ (h1_0l : List Int), ∀ (h1_1 : Bool), ∀ (h2_0 : Int), ∀ (h3l : List Int), ∀ (r : (List Int) × Bool × Int × Int), zmm q h0_0 h0_1 h0_2 h0_3 h0_4len h0_5 h0_6 h1_0z h1_0l h1_1 h2_0 h3l = some r → (orc T (M + 7)).inl F.zo7 [(.ptr 1 0), (.psl [(.ptr 4 0), (.ptr 4 1)])] [(.box [(.int .i64 h0_0), (.int .i64 h0_1), (.int .i64 h0_2), (.int .i64 h0_3), (.vw 3 w3 0 h0_4len 1), (.bool h0_5), (.int .i64 h0_6), (.sl true [])]), (.box [(.sl h1_0z (List.map (V.int .u8) h1_0l)), (.bool h1_1)]), (.box [(.int .i64 h2_0)]), (.row w3 false 1 (List.map (V.int .i64) h3l) true), (.box [(.int .i64 0), (.int .i64 0), (.int .i64 0)])] = (some ([], [(.box [(.int .i64 h0_0), (.int .i64 h0_1), (.int .i64 h0_2), (.int .i64 h0_3), (.vw 3 w3 0 h0_4len 1), (.bool h0_5), (.int .i64 h0_6), (.sl true [])]), (.box [(.sl h1_0z (List.map (V.int .u8) r.1)), (.bool r.2.1)]), (.box [(.int .i64 h2_0)]), (.row w3 false 1 (List.map (V.int .i64) h3l) true), (.box [(.int .i64 r.2.2.1), (.int .i64 r.2.2.2), (.int .i64 0)])]) : Option (List V × Hp)) := by
 intro q M hM w3 h0_0 h0_1 h0_2 h0_3 h0_4len h0_5 h0_6 h1_0z h1_0l h1_1 h2_0 h3l r h
 rcases q with _ | q
 ·cases h
 have ih_delta_read_s4_l0 := (zb51 q).1
 generalize hR : (some ([], [(.box [(.int .i64 h0_0), (.int .i64 h0_1), (.int .i64 h0_2), (.int .i64 h0_3), (.vw 3 w3 0 h0_4len 1), (.bool h0_5), (.int .i64 h0_6), (.sl true [])]), (.box [(.sl h1_0z (List.map (V.int .u8) r.1)), (.bool r.2.1)]), (.box [(.int .i64 h2_0)]), (.row w3 false 1 (List.map (V.int .i64) h3l) true), (.box [(.int .i64 r.2.2.1), (.int .i64 r.2.2.2), (.int .i64 0)])]) : Option (List V × Hp)) = R
 rw [zbtb (n := M + 6)]
 rw [zmm] at h
 replace h := ih_delta_read_s4_l0 M (by omega) (M + 6) (by omega) w3 _ _ _ _ _ _ _ _ _ _ _ _ _ h R hR
 simp only [zb5x, simprocAttr, *]
def zb53 (q : Nat) : Prop := ∀ (M : Nat) (hM : 8 * q ≤ M) (j : Nat) (hj : q ≤ j) (w3 : Nat) (h0_0 h0_1 h0_2 h0_3 : Int) (h0_5 : Bool) (h0_6 : Int) (h1_0z : Bool) (h1_0l : List Int) (h1_1 : Bool) (h2_0 : Int) (h3l : List zjq) (r : Nat × (List Int) × Bool × Int × Int) (_ : zmp q h0_0 h0_1 h0_2 h0_3 h0_5 h0_6 h1_0z h1_0l h1_1 h2_0 h3l = some r) (R : Option (List V × Hp)) (_ : (some ([], [(.box [(.int .i64 h0_0), (.int .i64 h0_1), (.int .i64 h0_2), (.int .i64 h0_3), (.sl true []), (.bool h0_5), (.int .i64 h0_6), (.vw 3 w3 0 r.1 1)]), (.box [(.sl h1_0z (List.map (V.int .u8) r.2.1)), (.bool r.2.2.1)]), (.box [(.int .i64 h2_0)]), (.row w3 false 3 (List.map zjq.enc h3l) true), (.box [(.int .i64 r.2.2.2.1), (.int .i64 r.2.2.2.2), (.int .i64 0)])]) : Option (List V × Hp)) = R) (fr : Fr) (H : Hp) (_ : canon 5 [0, 6, 7, 8] fr H = ([(0, (.ptr 1 0)), (6, (.psl [(.ptr 4 0), (.ptr 4 1)])), (7, (.int .i64 2)), (8, (.int .i64 0))], [(.box [(.int .i64 h0_0), (.int .i64 h0_1), (.int .i64 h0_2), (.int .i64 h0_3), (.sl true []), (.bool h0_5), (.int .i64 h0_6), (.vw 3 w3 0 h3l.length 1)]), (.box [(.sl h1_0z (List.map (V.int .u8) h1_0l)), (.bool h1_1)]), (.box [(.int .i64 h2_0)]), (.row w3 false 3 (List.map zjq.enc h3l) true), (.box [(.int .i64 0), (.int .i64 0), (.int .i64 0)])])), finI 5 false [] (unw T (orc T (M + 6)) (M + 6) 5 [.blk 0] (iter 5 [0, 6, 7, 8] (exec T (orc T (M + 6)) (M + 6) 5 z8r) j fr H)) = R
def zb54 (q : Nat) : Prop := ∀ (M : Nat) (hM : 8 * q ≤ M) (j : Nat) (hj : q ≤ j) (w3 : Nat) (h0_0 h0_1 h0_2 h0_3 : Int) (h0_5 : Bool) (h0_6 : Int) (h1_0z : Bool) (h1_0l : List Int) (h1_1 : Bool) (h2_0 : Int) (h3l : List zjq) (h4_0 : Int) (r : Nat × (List Int) × Bool × Int × Int) (_ : zmo q h0_0 h0_1 h0_2 h0_3 h0_5 h0_6 h1_0z h1_0l h1_1 h2_0 h3l h4_0 = some r) (R : Option (List V × Hp)) (_ : (some ([], [(.box [(.int .i64 h0_0), (.int .i64 h0_1), (.int .i64 h0_2), (.int .i64 h0_3), (.sl true []), (.bool h0_5), (.int .i64 h0_6), (.vw 3 w3 0 r.1 1)]), (.box [(.sl h1_0z (List.map (V.int .u8) r.2.1)), (.bool r.2.2.1)]), (.box [(.int .i64 h2_0)]), (.row w3 false 3 (List.map zjq.enc h3l) true), (.box [(.int .i64 r.2.2.2.1), (.int .i64 r.2.2.2.2), (.int .i64 0)])]) : Option (List V × Hp)) = R) (fr : Fr) (H : Hp) (_ : canon 5 [0, 6, 7, 8] fr H = ([(0, (.ptr 1 0)), (6, (.psl [(.ptr 4 0), (.ptr 4 1)])), (7, (.int .i64 2)), (8, (.int .i64 1))], [(.box [(.int .i64 h0_0), (.int .i64 h0_1), (.int .i64 h0_2), (.int .i64 h0_3), (.sl true []), (.bool h0_5), (.int .i64 h0_6), (.vw 3 w3 0 h3l.length 1)]), (.box [(.sl h1_0z (List.map (V.int .u8) h1_0l)), (.bool h1_1)]), (.box [(.int .i64 h2_0)]), (.row w3 false 3 (List.map zjq.enc h3l) true), (.box [(.int .i64 h4_0), (.int .i64 0), (.int .i64 0)])])), finI 5 false [] (unw T (orc T (M + 6)) (M + 6) 5 [.blk 0] (iter 5 [0, 6, 7, 8] (exec T (orc T (M + 6)) (M + 6) 5 z8r) j fr H)) = R
def zb55 (q : Nat) : Prop := ∀ (M : Nat) (hM : 8 * q ≤ M) (j : Nat) (hj : q ≤ j) (w3 : Nat) (h0_0 h0_1 h0_2 h0_3 : Int) (h0_5 : Bool) (h0_6 : Int) (h1_0z : Bool) (h1_0l : List Int) (h1_1 : Bool) (h2_0 : Int) (h3l : List zjq) (h4_0 h4_1 : Int) (r : Nat × (List Int) × Bool × Int × Int) (_ : zmn q h0_0 h0_1 h0_2 h0_3 h0_5 h0_6 h1_0z h1_0l h1_1 h2_0 h3l h4_0 h4_1 = some r) (R : Option (List V × Hp)) (_ : (some ([], [(.box [(.int .i64 h0_0), (.int .i64 h0_1), (.int .i64 h0_2), (.int .i64 h0_3), (.sl true []), (.bool h0_5), (.int .i64 h0_6), (.vw 3 w3 0 r.1 1)]), (.box [(.sl h1_0z (List.map (V.int .u8) r.2.1)), (.bool r.2.2.1)]), (.box [(.int .i64 h2_0)]), (.row w3 false 3 (List.map zjq.enc h3l) true), (.box [(.int .i64 r.2.2.2.1), (.int .i64 r.2.2.2.2), (.int .i64 0)])]) : Option (List V × Hp)) = R) (fr : Fr) (H : Hp) (_ : canon 5 [0, 6, 7, 8] fr H = ([(0, (.ptr 1 0)), (6, (.psl [(.ptr 4 0), (.ptr 4 1)])), (7, (.int .i64 2)), (8, (.int .i64 2))], [(.box [(.int .i64 h0_0), (.int .i64 h0_1), (.int .i64 h0_2), (.int .i64 h0_3), (.sl true []), (.bool h0_5), (.int .i64 h0_6), (.vw 3 w3 0 h3l.length 1)]), (.box [(.sl h1_0z (List.map (V.int .u8) h1_0l)), (.bool h1_1)]), (.box [(.int .i64 h2_0)]), (.row w3 false 3 (List.map zjq.enc h3l) true), (.box [(.int .i64 h4_0), (.int .i64 h4_1), (.int .i64 0)])])), finI 5 false [] (unw T (orc T (M + 6)) (M + 6) 5 [.blk 0] (iter 5 [0, 6, 7, 8] (exec T (orc T (M + 6)) (M + 6) 5 z8r) j fr H)) = R
def zb56 := And.intro @kk <| And.intro @ke <| And.intro @kn <| And.intro @wl <| And.intro @zbs9 <| And.intro @zbu6 <| And.intro @zbu9 <| And.intro @zbsy <| And.intro @zbu7 <| And.intro @zbu8 <| And.intro @zbva <| @zbvb
theorem zb57 (q : Nat) (zb73 : zb54 q) : zb53 (q + 1) := by
 intro M hM j hj w3 h0_0 h0_1 h0_2 h0_3 h0_5 h0_6 h1_0z h1_0l h1_1 h2_0 h3l r h R hR fr H hc
 obtain ⟨j, rfl⟩ : ∃ i, j = i + 1 := ⟨j - 1, by omega⟩
 rw [zhn, hc]; clear hc
 rw [zmp] at h
 replace h := ob h; obtain ⟨r1, h1, h⟩ := h
 replace h1 := zb2v q (M + 5) (by omega) _ _ h1
 try simp only [kf, simprocAttr] at h1
 replace h := bb h; rcases h with ⟨h2', h2, h⟩ | ⟨h2', h2, h⟩
 ·replace h := bn h; obtain ⟨h3, h⟩ := h
  replace h := bn h; obtain ⟨h4, h⟩ := h
  replace h := zb73 M (by omega) j (by omega) w3 _ _ _ _ _ _ _ _ _ _ _ _ _ h R hR
  simp only [zb56, simprocAttr, *]
 ·replace h := bn h; obtain ⟨h5, h⟩ := h
  replace h := bn h; obtain ⟨h6, h⟩ := h
  replace h := zb73 M (by omega) j (by omega) w3 _ _ _ _ _ _ _ _ _ _ _ _ _ h R hR
  simp only [zb56, simprocAttr, *]
theorem zb58 (q : Nat) (zb74 : zb55 q) : zb54 (q + 1) := by
 intro M hM j hj w3 h0_0 h0_1 h0_2 h0_3 h0_5 h0_6 h1_0z h1_0l h1_1 h2_0 h3l h4_0 r h R hR fr H hc
 obtain ⟨j, rfl⟩ : ∃ i, j = i + 1 := ⟨j - 1, by omega⟩
 rw [zhn, hc]; clear hc
 rw [zmo] at h
 replace h := ob h; obtain ⟨r2, h1, h⟩ := h
 replace h1 := zb2v q (M + 5) (by omega) _ _ h1
 try simp only [kf, simprocAttr] at h1
 replace h := bb h; rcases h with ⟨h2', h2, h⟩ | ⟨h2', h2, h⟩
 ·replace h := bn h; obtain ⟨h3, h⟩ := h
  replace h := bn h; obtain ⟨h4, h⟩ := h
  replace h := zb74 M (by omega) j (by omega) w3 _ _ _ _ _ _ _ _ _ _ _ _ _ _ h R hR
  simp only [zb56, simprocAttr, *]
 ·replace h := bn h; obtain ⟨h5, h⟩ := h
  replace h := bn h; obtain ⟨h6, h⟩ := h
  replace h := zb74 M (by omega) j (by omega) w3 _ _ _ _ _ _ _ _ _ _ _ _ _ _ h R hR
  simp only [zb56, simprocAttr, *]
theorem zb59 (q : Nat) : zb55 (q + 1) := by
 intro M hM j hj w3 h0_0 h0_1 h0_2 h0_3 h0_5 h0_6 h1_0z h1_0l h1_1 h2_0 h3l h4_0 h4_1 r h R hR fr H hc
 obtain ⟨j, rfl⟩ : ∃ i, j = i + 1 := ⟨j - 1, by omega⟩
 rw [zhn, hc]; clear hc
 rw [zmn] at h
 cases h; subst hR; simp only [zb56, simprocAttr, *]
theorem zb6a : ∀ q, zb53 q ∧ zb54 q ∧ zb55 q
 | 0 => by refine ⟨?_, ?_, ?_⟩ <;> (intro M hM j hj; intros; rename_i h _ _ _ _ _; cases h)
 | q + 1 => by have ⟨i0, i1, i2⟩ := zb6a q; exact ⟨zb57 q i1, zb58 q i2, zb59 q⟩
theorem zb6b : ∀ (q M : Nat), 8 * q ≤ M → ∀ (w3 : Nat), ∀ (h0_0 h0_1 h0_2 h0_3 : Int), ∀ (h0_5 : Bool), ∀ (h0_6 : Int), ∀ (h1_0z : Bool), ∀ (h1_0l : List Int), ∀ (h1_1 : Bool), ∀ (h2_0 : Int), ∀ (h3l : List zjq), ∀ (r : Nat × (List Int) × Bool × Int × Int), zmq q h0_0 h0_1 h0_2 h0_3 h0_5 h0_6 h1_0z h1_0l h1_1 h2_0 h3l = some r → (orc T (M + 7)).inl F.zo7 [(.ptr 1 0), (.psl [(.ptr 4 0), (.ptr 4 1)])] [(.box [(.int .i64 h0_0), (.int .i64 h0_1), (.int .i64 h0_2), (.int .i64 h0_3), (.sl true []), (.bool h0_5), (.int .i64 h0_6), (.vw 3 w3 0 h3l.length 1)]), (.box [(.sl h1_0z (List.map (V.int .u8) h1_0l)), (.bool h1_1)]), (.box [(.int .i64 h2_0)]), (.row w3 false 3 (List.map zjq.enc h3l) true), (.box [(.int .i64 0), (.int .i64 0), (.int .i64 0)])] = (some ([], [(.box [(.int .i64 h0_0), (.int .i64 h0_1), (.int .i64 h0_2), (.int .i64 h0_3), (.sl true []), (.bool h0_5), (.int .i64 h0_6), (.vw 3 w3 0 r.1 1)]), (.box [(.sl h1_0z (List.map (V.int .u8) r.2.1)), (.bool r.2.2.1)]), (.box [(.int .i64 h2_0)]), (.row w3 false 3 (List.map zjq.enc h3l) true), (.box [(.int .i64 r.2.2.2.1), (.int .i64 r.2.2.2.2), (.int .i64 0)])]) : Option (List V × Hp)) := by
 intro q M hM w3 h0_0 h0_1 h0_2 h0_3 h0_5 h0_6 h1_0z h1_0l h1_1 h2_0 h3l r h
 rcases q with _ | q
 ·cases h
 have ih_delta_read_s5_l0 := (zb6a q).1
 generalize hR : (some ([], [(.box [(.int .i64 h0_0), (.int .i64 h0_1), (.int .i64 h0_2), (.int .i64 h0_3), (.sl true []), (.bool h0_5), (.int .i64 h0_6), (.vw 3 w3 0 r.1 1)]), (.box [(.sl h1_0z (List.map (V.int .u8) r.2.1)), (.bool r.2.2.1)]), (.box [(.int .i64 h2_0)]), (.row w3 false 3 (List.map zjq.enc h3l) true), (.box [(.int .i64 r.2.2.2.1), (.int .i64 r.2.2.2.2), (.int .i64 0)])]) : Option (List V × Hp)) = R
 rw [zbtb (n := M + 6)]
 rw [zmq] at h
 replace h := ih_delta_read_s5_l0 M (by omega) (M + 6) (by omega) w3 _ _ _ _ _ _ _ _ _ _ _ _ h R hR
 simp only [zb56, simprocAttr, *]
def zb6c (q : Nat) : Prop := ∀ (M : Nat) (hM : 8 * q ≤ M) (j : Nat) (hj : q ≤ j) (w3 w4 : Nat) (h0_0 h0_1 h0_2 h0_3 : Int) (h0_4len : Nat) (h0_5 : Bool) (h0_6 : Int) (h1_0z : Bool) (h1_0l : List Int) (h1_1 : Bool) (h2_0 : Int) (h3l : List Int) (h4l : List zjq) (r : Nat × (List Int) × Bool × Int × Int) (_ : zmt q h0_0 h0_1 h0_2 h0_3 h0_4len h0_5 h0_6 h1_0z h1_0l h1_1 h2_0 h3l h4l = some r) (R : Option (List V × Hp)) (_ : (some ([], [(.box [(.int .i64 h0_0), (.int .i64 h0_1), (.int .i64 h0_2), (.int .i64 h0_3), (.vw 3 w3 0 h0_4len 1), (.bool h0_5), (.int .i64 h0_6), (.vw 4 w4 0 r.1 1)]), (.box [(.sl h1_0z (List.map (V.int .u8) r.2.1)), (.bool r.2.2.1)]), (.box [(.int .i64 h2_0)]), (.row w3 false 1 (List.map (V.int .i64) h3l) true), (.row w4 false 3 (List.map zjq.enc h4l) true), (.box [(.int .i64 r.2.2.2.1), (.int .i64 r.2.2.2.2), (.int .i64 0)])]) : Option (List V × Hp)) = R) (fr : Fr) (H : Hp) (_ : canon 6 [0, 6, 7, 8] fr H = ([(0, (.ptr 1 0)), (6, (.psl [(.ptr 5 0), (.ptr 5 1)])), (7, (.int .i64 2)), (8, (.int .i64 0))], [(.box [(.int .i64 h0_0), (.int .i64 h0_1), (.int .i64 h0_2), (.int .i64 h0_3), (.vw 3 w3 0 h0_4len 1), (.bool h0_5), (.int .i64 h0_6), (.vw 4 w4 0 h4l.length 1)]), (.box [(.sl h1_0z (List.map (V.int .u8) h1_0l)), (.bool h1_1)]), (.box [(.int .i64 h2_0)]), (.row w3 false 1 (List.map (V.int .i64) h3l) true), (.row w4 false 3 (List.map zjq.enc h4l) true), (.box [(.int .i64 0), (.int .i64 0), (.int .i64 0)])])), finI 6 false [] (unw T (orc T (M + 6)) (M + 6) 6 [.blk 0] (iter 6 [0, 6, 7, 8] (exec T (orc T (M + 6)) (M + 6) 6 z8r) j fr H)) = R
def zb6d (q : Nat) : Prop := ∀ (M : Nat) (hM : 8 * q ≤ M) (j : Nat) (hj : q ≤ j) (w3 w4 : Nat) (h0_0 h0_1 h0_2 h0_3 : Int) (h0_4len : Nat) (h0_5 : Bool) (h0_6 : Int) (h1_0z : Bool) (h1_0l : List Int) (h1_1 : Bool) (h2_0 : Int) (h3l : List Int) (h4l : List zjq) (h5_0 : Int) (r : Nat × (List Int) × Bool × Int × Int) (_ : zms q h0_0 h0_1 h0_2 h0_3 h0_4len h0_5 h0_6 h1_0z h1_0l h1_1 h2_0 h3l h4l h5_0 = some r) (R : Option (List V × Hp)) (_ : (some ([], [(.box [(.int .i64 h0_0), (.int .i64 h0_1), (.int .i64 h0_2), (.int .i64 h0_3), (.vw 3 w3 0 h0_4len 1), (.bool h0_5), (.int .i64 h0_6), (.vw 4 w4 0 r.1 1)]), (.box [(.sl h1_0z (List.map (V.int .u8) r.2.1)), (.bool r.2.2.1)]), (.box [(.int .i64 h2_0)]), (.row w3 false 1 (List.map (V.int .i64) h3l) true), (.row w4 false 3 (List.map zjq.enc h4l) true), (.box [(.int .i64 r.2.2.2.1), (.int .i64 r.2.2.2.2), (.int .i64 0)])]) : Option (List V × Hp)) = R) (fr : Fr) (H : Hp) (_ : canon 6 [0, 6, 7, 8] fr H = ([(0, (.ptr 1 0)), (6, (.psl [(.ptr 5 0), (.ptr 5 1)])), (7, (.int .i64 2)), (8, (.int .i64 1))], [(.box [(.int .i64 h0_0), (.int .i64 h0_1), (.int .i64 h0_2), (.int .i64 h0_3), (.vw 3 w3 0 h0_4len 1), (.bool h0_5), (.int .i64 h0_6), (.vw 4 w4 0 h4l.length 1)]), (.box [(.sl h1_0z (List.map (V.int .u8) h1_0l)), (.bool h1_1)]), (.box [(.int .i64 h2_0)]), (.row w3 false 1 (List.map (V.int .i64) h3l) true), (.row w4 false 3 (List.map zjq.enc h4l) true), (.box [(.int .i64 h5_0), (.int .i64 0), (.int .i64 0)])])), finI 6 false [] (unw T (orc T (M + 6)) (M + 6) 6 [.blk 0] (iter 6 [0, 6, 7, 8] (exec T (orc T (M + 6)) (M + 6) 6 z8r) j fr H)) = R
def zb6e (q : Nat) : Prop := ∀ (M : Nat) (hM : 8 * q ≤ M) (j : Nat) (hj : q ≤ j) (w3 w4 : Nat) (h0_0 h0_1 h0_2 h0_3 : Int) (h0_4len : Nat) (h0_5 : Bool) (h0_6 : Int) (h1_0z : Bool) (h1_0l : List Int) (h1_1 : Bool) (h2_0 : Int) (h3l : List Int) (h4l : List zjq) (h5_0 h5_1 : Int) (r : Nat × (List Int) × Bool × Int × Int) (_ : zmr q h0_0 h0_1 h0_2 h0_3 h0_4len h0_5 h0_6 h1_0z h1_0l h1_1 h2_0 h3l h4l h5_0 h5_1 = some r) (R : Option (List V × Hp)) (_ : (some ([], [(.box [(.int .i64 h0_0), (.int .i64 h0_1), (.int .i64 h0_2), (.int .i64 h0_3), (.vw 3 w3 0 h0_4len 1), (.bool h0_5), (.int .i64 h0_6), (.vw 4 w4 0 r.1 1)]), (.box [(.sl h1_0z (List.map (V.int .u8) r.2.1)), (.bool r.2.2.1)]), (.box [(.int .i64 h2_0)]), (.row w3 false 1 (List.map (V.int .i64) h3l) true), (.row w4 false 3 (List.map zjq.enc h4l) true), (.box [(.int .i64 r.2.2.2.1), (.int .i64 r.2.2.2.2), (.int .i64 0)])]) : Option (List V × Hp)) = R) (fr : Fr) (H : Hp) (_ : canon 6 [0, 6, 7, 8] fr H = ([(0, (.ptr 1 0)), (6, (.psl [(.ptr 5 0), (.ptr 5 1)])), (7, (.int .i64 2)), (8, (.int .i64 2))], [(.box [(.int .i64 h0_0), (.int .i64 h0_1), (.int .i64 h0_2), (.int .i64 h0_3), (.vw 3 w3 0 h0_4len 1), (.bool h0_5), (.int .i64 h0_6), (.vw 4 w4 0 h4l.length 1)]), (.box [(.sl h1_0z (List.map (V.int .u8) h1_0l)), (.bool h1_1)]), (.box [(.int .i64 h2_0)]), (.row w3 false 1 (List.map (V.int .i64) h3l) true), (.row w4 false 3 (List.map zjq.enc h4l) true), (.box [(.int .i64 h5_0), (.int .i64 h5_1), (.int .i64 0)])])), finI 6 false [] (unw T (orc T (M + 6)) (M + 6) 6 [.blk 0] (iter 6 [0, 6, 7, 8] (exec T (orc T (M + 6)) (M + 6) 6 z8r) j fr H)) = R
def zb6f := And.intro @kk <| And.intro @ke <| And.intro @kn <| And.intro @wl <| And.intro @zbs9 <| And.intro @zbu6 <| And.intro @zbu9 <| And.intro @zbsy <| And.intro @zbu7 <| And.intro @zbu8 <| And.intro @zbva <| @zbvb
theorem zb6g (q : Nat) (zb75 : zb6d q) : zb6c (q + 1) := by
 intro M hM j hj w3 w4 h0_0 h0_1 h0_2 h0_3 h0_4len h0_5 h0_6 h1_0z h1_0l h1_1 h2_0 h3l h4l r h R hR fr H hc
 obtain ⟨j, rfl⟩ : ∃ i, j = i + 1 := ⟨j - 1, by omega⟩
 rw [zhn, hc]; clear hc
 rw [zmt] at h
 replace h := ob h; obtain ⟨r1, h1, h⟩ := h
 replace h1 := zb2v q (M + 5) (by omega) _ _ h1
 try simp only [kf, simprocAttr] at h1
 replace h := bb h; rcases h with ⟨h2', h2, h⟩ | ⟨h2', h2, h⟩
 ·replace h := bn h; obtain ⟨h3, h⟩ := h
  replace h := bn h; obtain ⟨h4, h⟩ := h
  replace h := zb75 M (by omega) j (by omega) w3 w4 _ _ _ _ _ _ _ _ _ _ _ _ _ _ _ h R hR
  simp only [zb6f, simprocAttr, *]
 ·replace h := bn h; obtain ⟨h5, h⟩ := h
  replace h := bn h; obtain ⟨h6, h⟩ := h
  replace h := zb75 M (by omega) j (by omega) w3 w4 _ _ _ _ _ _ _ _ _ _ _ _ _ _ _ h R hR
  simp only [zb6f, simprocAttr, *]
theorem zb6h (q : Nat) (zb76 : zb6e q) : zb6d (q + 1) := by
 intro M hM j hj w3 w4 h0_0 h0_1 h0_2 h0_3 h0_4len h0_5 h0_6 h1_0z h1_0l h1_1 h2_0 h3l h4l h5_0 r h R hR fr H hc
 obtain ⟨j, rfl⟩ : ∃ i, j = i + 1 := ⟨j - 1, by omega⟩
 rw [zhn, hc]; clear hc
 rw [zms] at h
 replace h := ob h; obtain ⟨r2, h1, h⟩ := h
 replace h1 := zb2v q (M + 5) (by omega) _ _ h1
 try simp only [kf, simprocAttr] at h1
 replace h := bb h; rcases h with ⟨h2', h2, h⟩ | ⟨h2', h2, h⟩
 ·replace h := bn h; obtain ⟨h3, h⟩ := h
  replace h := bn h; obtain ⟨h4, h⟩ := h
  replace h := zb76 M (by omega) j (by omega) w3 w4 _ _ _ _ _ _ _ _ _ _ _ _ _ _ _ _ h R hR
  simp only [zb6f, simprocAttr, *]
 ·replace h := bn h; obtain ⟨h5, h⟩ := h
  replace h := bn h; obtain ⟨h6, h⟩ := h
  replace h := zb76 M (by omega) j (by omega) w3 w4 _ _ _ _ _ _ _ _ _ _ _ _ _ _ _ _ h R hR
  simp only [zb6f, simprocAttr, *]
theorem zb6i (q : Nat) : zb6e (q + 1) := by
 intro M hM j hj w3 w4 h0_0 h0_1 h0_2 h0_3 h0_4len h0_5 h0_6 h1_0z h1_0l h1_1 h2_0 h3l h4l h5_0 h5_1 r h R hR fr H hc
 obtain ⟨j, rfl⟩ : ∃ i, j = i + 1 := ⟨j - 1, by omega⟩
 rw [zhn, hc]; clear hc
 rw [zmr] at h
 cases h; subst hR; simp only [zb6f, simprocAttr, *]
theorem zb6j : ∀ q, zb6c q ∧ zb6d q ∧ zb6e q
 | 0 => by refine ⟨?_, ?_, ?_⟩ <;> (intro M hM j hj; intros; rename_i h _ _ _ _ _; cases h)
 | q + 1 => by have ⟨i0, i1, i2⟩ := zb6j q; exact ⟨zb6g q i1, zb6h q i2, zb6i q⟩
theorem zb6k : ∀ (q M : Nat), 8 * q ≤ M → ∀ (w3 w4 : Nat), ∀ (h0_0 h0_1 h0_2 h0_3 : Int), ∀ (h0_4len : Nat), ∀ (h0_5 : Bool), ∀ (h0_6 : Int), ∀ (h1_0z : Bool), ∀ (h1_0l : List Int), ∀ (h1_1 : Bool), ∀ (h2_0 : Int), ∀ (h3l : List Int), ∀ (h4l : List zjq), ∀ (r : Nat × (List Int) × Bool × Int × Int), zmu q h0_0 h0_1 h0_2 h0_3 h0_4len h0_5 h0_6 h1_0z h1_0l h1_1 h2_0 h3l h4l = some r → (orc T (M + 7)).inl F.zo7 [(.ptr 1 0), (.psl [(.ptr 5 0), (.ptr 5 1)])] [(.box [(.int .i64 h0_0), (.int .i64 h0_1), (.int .i64 h0_2), (.int .i64 h0_3), (.vw 3 w3 0 h0_4len 1), (.bool h0_5), (.int .i64 h0_6), (.vw 4 w4 0 h4l.length 1)]), (.box [(.sl h1_0z (List.map (V.int .u8) h1_0l)), (.bool h1_1)]), (.box [(.int .i64 h2_0)]), (.row w3 false 1 (List.map (V.int .i64) h3l) true), (.row w4 false 3 (List.map zjq.enc h4l) true), (.box [(.int .i64 0), (.int .i64 0), (.int .i64 0)])] = (some ([], [(.box [(.int .i64 h0_0), (.int .i64 h0_1), (.int .i64 h0_2), (.int .i64 h0_3), (.vw 3 w3 0 h0_4len 1), (.bool h0_5), (.int .i64 h0_6), (.vw 4 w4 0 r.1 1)]), (.box [(.sl h1_0z (List.map (V.int .u8) r.2.1)), (.bool r.2.2.1)]), (.box [(.int .i64 h2_0)]), (.row w3 false 1 (List.map (V.int .i64) h3l) true), (.row w4 false 3 (List.map zjq.enc h4l) true), (.box [(.int .i64 r.2.2.2.1), (.int .i64 r.2.2.2.2), (.int .i64 0)])]) : Option (List V × Hp)) := by
 intro q M hM w3 w4 h0_0 h0_1 h0_2 h0_3 h0_4len h0_5 h0_6 h1_0z h1_0l h1_1 h2_0 h3l h4l r h
 rcases q with _ | q
 ·cases h
 have ih_delta_read_s6_l0 := (zb6j q).1
 generalize hR : (some ([], [(.box [(.int .i64 h0_0), (.int .i64 h0_1), (.int .i64 h0_2), (.int .i64 h0_3), (.vw 3 w3 0 h0_4len 1), (.bool h0_5), (.int .i64 h0_6), (.vw 4 w4 0 r.1 1)]), (.box [(.sl h1_0z (List.map (V.int .u8) r.2.1)), (.bool r.2.2.1)]), (.box [(.int .i64 h2_0)]), (.row w3 false 1 (List.map (V.int .i64) h3l) true), (.row w4 false 3 (List.map zjq.enc h4l) true), (.box [(.int .i64 r.2.2.2.1), (.int .i64 r.2.2.2.2), (.int .i64 0)])]) : Option (List V × Hp)) = R
 rw [zbtb (n := M + 6)]
 rw [zmu] at h
 replace h := ih_delta_read_s6_l0 M (by omega) (M + 6) (by omega) w3 w4 _ _ _ _ _ _ _ _ _ _ _ _ _ _ h R hR
 simp only [zb6f, simprocAttr, *]
def zb6l (q : Nat) : Prop := ∀ (M : Nat) (hM : 8 * q ≤ M) (j : Nat) (hj : q ≤ j) (v23 h0_0 h0_1 h0_2 h0_3 : Int) (h1_0z : Bool) (h1_0l : List Int) (h1_1 : Bool) (r : zjs × Bool) (_ : zm0 q v23 h0_0 h0_1 h0_2 h0_3 h1_0z h1_0l h1_1 = some r) (R : Option (List V)) (_ : some [zjs.enc r.1, V.bool r.2] = R) (fr : Fr) (H : Hp) (_ : canon 0 [2, 4, 6, 7, 23, 24] fr H = ([(2, (.ptr 0 0)), (4, (.ptr 1 0)), (6, (.ptr 2 0)), (7, (.ptr 3 0)), (23, (.int .i64 v23)), (24, (.int .i64 0))], [(.box [(.int .i64 h0_0), (.int .i64 h0_1), (.int .i64 h0_2), (.int .i64 h0_3), (.sl true []), (.bool false), (.int .i64 0), (.sl true [])]), (.box [(.sl h1_0z (List.map (V.int .u8) h1_0l)), (.bool h1_1)]), (.box [(.int .i64 0)]), (.box [(.int .i64 0)])])), fin zzs (unw T (orc T (M + 7)) (M + 7) 0 [.blk 0, .code zzl] (iter 0 [2, 4, 6, 7, 23, 24] (exec T (orc T (M + 7)) (M + 7) 0 zyu) j fr H)) = R
def zb6m (q : Nat) : Prop := ∀ (M : Nat) (hM : 8 * q ≤ M) (j : Nat) (hj : q ≤ j) (v23 v24 h0_0 h0_1 h0_2 h0_3 : Int) (h1_0z : Bool) (h1_0l : List Int) (h1_1 : Bool) (h4l : List Int) (r : zjs × Bool) (_ : zmx q v23 v24 h0_0 h0_1 h0_2 h0_3 h1_0z h1_0l h1_1 h4l = some r) (R : Option (List V)) (_ : some [zjs.enc r.1, V.bool r.2] = R) (fr : Fr) (H : Hp) (_ : canon 0 [2, 4, 6, 7, 23, 24] fr H = ([(2, (.ptr 0 0)), (4, (.ptr 1 0)), (6, (.ptr 2 0)), (7, (.ptr 3 0)), (23, (.int .i64 v23)), (24, (.int .i64 v24))], [(.box [(.int .i64 h0_0), (.int .i64 h0_1), (.int .i64 h0_2), (.int .i64 h0_3), (.vw 4 0 0 h4l.length 1), (.bool false), (.int .i64 0), (.sl true [])]), (.box [(.sl h1_0z (List.map (V.int .u8) h1_0l)), (.bool h1_1)]), (.box [(.int .i64 0)]), (.box [(.int .i64 0)]), (.row 0 false 1 (List.map (V.int .i64) h4l) true)])), fin zzs (unw T (orc T (M + 7)) (M + 7) 0 [.blk 0, .code zzl] (iter 0 [2, 4, 6, 7, 23, 24] (exec T (orc T (M + 7)) (M + 7) 0 zyu) j fr H)) = R
def zb6n (q : Nat) : Prop := ∀ (M : Nat) (hM : 8 * q ≤ M) (j : Nat) (hj : q ≤ j) (h0_0 h0_1 h0_2 h0_3 : Int) (h0_5 : Bool) (h0_6 : Int) (h1_0z : Bool) (h1_0l : List Int) (h1_1 : Bool) (h2_0 : Int) (r : zjs × Bool) (_ : zmz q h0_0 h0_1 h0_2 h0_3 h0_5 h0_6 h1_0z h1_0l h1_1 h2_0 = some r) (R : Option (List V)) (_ : some [zjs.enc r.1, V.bool r.2] = R) (fr : Fr) (H : Hp) (_ : canon 0 [2, 4, 7, 8] fr H = ([(2, (.ptr 0 0)), (4, (.ptr 1 0)), (7, (.ptr 2 0)), (8, (.int .i64 0))], [(.box [(.int .i64 h0_0), (.int .i64 h0_1), (.int .i64 h0_2), (.int .i64 h0_3), (.sl true []), (.bool h0_5), (.int .i64 h0_6), (.sl true [])]), (.box [(.sl h1_0z (List.map (V.int .u8) h1_0l)), (.bool h1_1)]), (.box [(.int .i64 h2_0)])])), fin zzs (unw T (orc T (M + 7)) (M + 7) 0 [.blk 2, .code zzh] (iter 0 [2, 4, 7, 8] (exec T (orc T (M + 7)) (M + 7) 0 zze) j fr H)) = R
def zb6o (q : Nat) : Prop := ∀ (M : Nat) (hM : 8 * q ≤ M) (j : Nat) (hj : q ≤ j) (h0_0 h0_1 h0_2 h0_3 : Int) (h0_4len : Nat) (h0_5 : Bool) (h0_6 : Int) (h1_0z : Bool) (h1_0l : List Int) (h1_1 : Bool) (h2_0 : Int) (h3l : List Int) (r : zjs × Bool) (_ : zmw q h0_0 h0_1 h0_2 h0_3 h0_4len h0_5 h0_6 h1_0z h1_0l h1_1 h2_0 h3l = some r) (R : Option (List V)) (_ : some [zjs.enc r.1, V.bool r.2] = R) (fr : Fr) (H : Hp) (_ : canon 0 [2, 4, 7, 8] fr H = ([(2, (.ptr 0 0)), (4, (.ptr 1 0)), (7, (.ptr 2 0)), (8, (.int .i64 0))], [(.box [(.int .i64 h0_0), (.int .i64 h0_1), (.int .i64 h0_2), (.int .i64 h0_3), (.vw 3 0 0 h0_4len 1), (.bool h0_5), (.int .i64 h0_6), (.sl true [])]), (.box [(.sl h1_0z (List.map (V.int .u8) h1_0l)), (.bool h1_1)]), (.box [(.int .i64 h2_0)]), (.row 0 false 1 (List.map (V.int .i64) h3l) true)])), fin zzs (unw T (orc T (M + 7)) (M + 7) 0 [.blk 2, .code zzh] (iter 0 [2, 4, 7, 8] (exec T (orc T (M + 7)) (M + 7) 0 zze) j fr H)) = R
def zb6p (q : Nat) : Prop := ∀ (M : Nat) (hM : 8 * q ≤ M) (j : Nat) (hj : q ≤ j) (v8 h0_0 h0_1 h0_2 h0_3 : Int) (h0_5 : Bool) (h0_6 : Int) (h1_0z : Bool) (h1_0l : List Int) (h1_1 : Bool) (h2_0 : Int) (h3l : List zjq) (r : zjs × Bool) (_ : zmy q v8 h0_0 h0_1 h0_2 h0_3 h0_5 h0_6 h1_0z h1_0l h1_1 h2_0 h3l = some r) (R : Option (List V)) (_ : some [zjs.enc r.1, V.bool r.2] = R) (fr : Fr) (H : Hp) (_ : canon 0 [2, 4, 7, 8] fr H = ([(2, (.ptr 0 0)), (4, (.ptr 1 0)), (7, (.ptr 2 0)), (8, (.int .i64 v8))], [(.box [(.int .i64 h0_0), (.int .i64 h0_1), (.int .i64 h0_2), (.int .i64 h0_3), (.sl true []), (.bool h0_5), (.int .i64 h0_6), (.vw 3 0 0 h3l.length 1)]), (.box [(.sl h1_0z (List.map (V.int .u8) h1_0l)), (.bool h1_1)]), (.box [(.int .i64 h2_0)]), (.row 0 false 3 (List.map zjq.enc h3l) true)])), fin zzs (unw T (orc T (M + 7)) (M + 7) 0 [.blk 2, .code zzh] (iter 0 [2, 4, 7, 8] (exec T (orc T (M + 7)) (M + 7) 0 zze) j fr H)) = R
def zb6q (q : Nat) : Prop := ∀ (M : Nat) (hM : 8 * q ≤ M) (j : Nat) (hj : q ≤ j) (v8 h0_0 h0_1 h0_2 h0_3 : Int) (h0_4len : Nat) (h0_5 : Bool) (h0_6 : Int) (h1_0z : Bool) (h1_0l : List Int) (h1_1 : Bool) (h2_0 : Int) (h3l : List Int) (h4l : List zjq) (r : zjs × Bool) (_ : zmv q v8 h0_0 h0_1 h0_2 h0_3 h0_4len h0_5 h0_6 h1_0z h1_0l h1_1 h2_0 h3l h4l = some r) (R : Option (List V)) (_ : some [zjs.enc r.1, V.bool r.2] = R) (fr : Fr) (H : Hp) (_ : canon 0 [2, 4, 7, 8] fr H = ([(2, (.ptr 0 0)), (4, (.ptr 1 0)), (7, (.ptr 2 0)), (8, (.int .i64 v8))], [(.box [(.int .i64 h0_0), (.int .i64 h0_1), (.int .i64 h0_2), (.int .i64 h0_3), (.vw 3 0 0 h0_4len 1), (.bool h0_5), (.int .i64 h0_6), (.vw 4 0 0 h4l.length 1)]), (.box [(.sl h1_0z (List.map (V.int .u8) h1_0l)), (.bool h1_1)]), (.box [(.int .i64 h2_0)]), (.row 0 false 1 (List.map (V.int .i64) h3l) true), (.row 0 false 3 (List.map zjq.enc h4l) true)])), fin zzs (unw T (orc T (M + 7)) (M + 7) 0 [.blk 2, .code zzh] (iter 0 [2, 4, 7, 8] (exec T (orc T (M + 7)) (M + 7) 0 zze) j fr H)) = R
def zb6r := And.intro @kk <| And.intro @ke <| And.intro @kn <| And.intro @zbqa <| And.intro @zbtc <| And.intro @zbu9 <| And.intro @zbta <| And.intro @zbvd <| And.intro @zbtd <| And.intro @zbte <| And.intro @zbva <| And.intro @zbvb <| @zbqc
theorem zb6s (q : Nat) (zb77 : zb6m q) (zb78 : zb6n q) : zb6l (q + 1) := by
 intro M hM j hj v23 h0_0 h0_1 h0_2 h0_3 h1_0z h1_0l h1_1 r h R hR fr H hc
 obtain ⟨j, rfl⟩ : ∃ i, j = i + 1 := ⟨j - 1, by omega⟩
 rw [zhn, hc]; clear hc
 rw [zm0] at h
 replace h := br h; rcases h with ⟨h1, h⟩ | ⟨h1, h⟩
 ·replace h := ob h; obtain ⟨r2, h2, h⟩ := h
  replace h2 := zb4n q (M + 6) (by omega) _ _ h2
  try simp only [kf, simprocAttr] at h2
  replace h := bb h; rcases h with ⟨h3', h3, h⟩ | ⟨h3', h3, h⟩
  ·replace h := bn h; obtain ⟨h4, h⟩ := h
   replace h := bn h; obtain ⟨h5, h⟩ := h
   replace h := zb77 M (by omega) j (by omega) _ _ _ _ _ _ _ _ _ _ _ h R hR
   simp only [zb6r, simprocAttr, *]
  ·replace h := bn h; obtain ⟨h6, h⟩ := h
   replace h := bn h; obtain ⟨h7, h⟩ := h
   replace h := zb77 M (by omega) j (by omega) _ _ _ _ _ _ _ _ _ _ _ h R hR
   simp only [zb6r, simprocAttr, *]
 ·replace h := ob h; obtain ⟨r3, h8, h⟩ := h
  replace h8 := zb5b q M (by omega) _ _ _ _ _ _ _ _ h8
  try simp only [kf, simprocAttr] at h8
  replace h := br h; rcases h with ⟨h9, h⟩ | ⟨h9, h⟩
  ·cases h; subst hR; simp only [zb6r, simprocAttr, *]
  ·replace h := zb78 M (by omega) (M + 7) (by omega) _ _ _ _ _ _ _ _ _ _ _ h R hR
   simp only [zb6r, simprocAttr, *]
theorem zb6t (q : Nat) (zb77 : zb6m q) (zb79 : zb6o q) : zb6m (q + 1) := by
 intro M hM j hj v23 v24 h0_0 h0_1 h0_2 h0_3 h1_0z h1_0l h1_1 h4l r h R hR fr H hc
 obtain ⟨j, rfl⟩ : ∃ i, j = i + 1 := ⟨j - 1, by omega⟩
 rw [zhn, hc]; clear hc
 rw [zmx] at h
 replace h := br h; rcases h with ⟨h1, h⟩ | ⟨h1, h⟩
 ·replace h := ob h; obtain ⟨r4, h2, h⟩ := h
  replace h2 := zb4n q (M + 6) (by omega) _ _ h2
  try simp only [kf, simprocAttr] at h2
  replace h := bb h; rcases h with ⟨h3', h3, h⟩ | ⟨h3', h3, h⟩
  ·replace h := bn h; obtain ⟨h4, h⟩ := h
   replace h := bn h; obtain ⟨h5, h⟩ := h
   replace h := bn h; obtain ⟨h6, h⟩ := h
   replace h := zb77 M (by omega) j (by omega) _ _ _ _ _ _ _ _ _ _ _ h R hR
   simp only [zb6r, simprocAttr, *]
  ·replace h := bn h; obtain ⟨h7, h⟩ := h
   replace h := bn h; obtain ⟨h8, h⟩ := h
   replace h := bn h; obtain ⟨h9, h⟩ := h
   replace h := zb77 M (by omega) j (by omega) _ _ _ _ _ _ _ _ _ _ _ h R hR
   simp only [zb6r, simprocAttr, *]
 ·replace h := ob h; obtain ⟨r5, h10, h⟩ := h
  replace h10 := zb5k q M (by omega) 0 _ _ _ _ _ _ _ _ _ h10
  try simp only [kf, simprocAttr] at h10
  replace h := br h; rcases h with ⟨h11, h⟩ | ⟨h11, h⟩
  ·cases h; subst hR; simp only [zb6r, simprocAttr, *]
  ·replace h := zb79 M (by omega) (M + 7) (by omega) _ _ _ _ _ _ _ _ _ _ _ _ _ h R hR
   simp only [zb6r, simprocAttr, *]
theorem zb6u (q : Nat) (zb8a : zb6p q) : zb6n (q + 1) := by
 intro M hM j hj h0_0 h0_1 h0_2 h0_3 h0_5 h0_6 h1_0z h1_0l h1_1 h2_0 r h R hR fr H hc
 obtain ⟨j, rfl⟩ : ∃ i, j = i + 1 := ⟨j - 1, by omega⟩
 rw [zhn, hc]; clear hc
 rw [zmz] at h
 replace h := br h; rcases h with ⟨h1, h⟩ | ⟨h1, h⟩
 ·replace h := bb h; rcases h with ⟨h2', h2, h⟩ | ⟨h2', h2, h⟩
  ·replace h := ob h; obtain ⟨r6, h3, h⟩ := h
   replace h3 := zb5t q M (by omega) _ _ _ _ _ _ _ _ _ _ _ h3
   try simp only [kf, simprocAttr] at h3
   replace h := ob h; obtain ⟨r7, h4, h⟩ := h
   replace h4 := zb4n q (M + 6) (by omega) _ _ h4
   try simp only [kf, simprocAttr] at h4
   replace h := bb h; rcases h with ⟨h5', h5, h⟩ | ⟨h5', h5, h⟩
   ·replace h := bn h; obtain ⟨h6, h⟩ := h
    replace h := bn h; obtain ⟨h7, h⟩ := h
    replace h := zb8a M (by omega) j (by omega) _ _ _ _ _ _ _ _ _ _ _ _ _ h R hR
    simp only [zb6r, simprocAttr, *]
   ·replace h := bn h; obtain ⟨h8, h⟩ := h
    replace h := bn h; obtain ⟨h9, h⟩ := h
    replace h := zb8a M (by omega) j (by omega) _ _ _ _ _ _ _ _ _ _ _ _ _ h R hR
    simp only [zb6r, simprocAttr, *]
  ·cases h; subst hR; simp only [zb6r, simprocAttr, *]
 ·replace h := bb h; rcases h with ⟨h10', h10, h⟩ | ⟨h10', h10, h⟩
  ·cases h; subst hR; simp only [zb6r, simprocAttr, *]
  ·cases h; subst hR; simp only [zb6r, simprocAttr, *]
theorem zb6v (q : Nat) (zb8b : zb6q q) : zb6o (q + 1) := by
 intro M hM j hj h0_0 h0_1 h0_2 h0_3 h0_4len h0_5 h0_6 h1_0z h1_0l h1_1 h2_0 h3l r h R hR fr H hc
 obtain ⟨j, rfl⟩ : ∃ i, j = i + 1 := ⟨j - 1, by omega⟩
 rw [zhn, hc]; clear hc
 rw [zmw] at h
 replace h := br h; rcases h with ⟨h1, h⟩ | ⟨h1, h⟩
 ·replace h := bb h; rcases h with ⟨h2', h2, h⟩ | ⟨h2', h2, h⟩
  ·replace h := ob h; obtain ⟨r8, h3, h⟩ := h
   replace h3 := zb52 q M (by omega) 0 _ _ _ _ _ _ _ _ _ _ _ _ _ h3
   try simp only [kf, simprocAttr] at h3
   replace h := ob h; obtain ⟨r9, h4, h⟩ := h
   replace h4 := zb4n q (M + 6) (by omega) _ _ h4
   try simp only [kf, simprocAttr] at h4
   replace h := bb h; rcases h with ⟨h5', h5, h⟩ | ⟨h5', h5, h⟩
   ·replace h := bn h; obtain ⟨h6, h⟩ := h
    replace h := bn h; obtain ⟨h7, h⟩ := h
    replace h := zb8b M (by omega) j (by omega) _ _ _ _ _ _ _ _ _ _ _ _ _ _ _ h R hR
    simp only [zb6r, simprocAttr, *]
   ·replace h := bn h; obtain ⟨h8, h⟩ := h
    replace h := bn h; obtain ⟨h9, h⟩ := h
    replace h := zb8b M (by omega) j (by omega) _ _ _ _ _ _ _ _ _ _ _ _ _ _ _ h R hR
    simp only [zb6r, simprocAttr, *]
  ·cases h; subst hR; simp only [zb6r, simprocAttr, *]
 ·replace h := bb h; rcases h with ⟨h10', h10, h⟩ | ⟨h10', h10, h⟩
  ·cases h; subst hR; simp only [zb6r, simprocAttr, *]
  ·cases h; subst hR; simp only [zb6r, simprocAttr, *]
theorem zb6w (q : Nat) (zb8a : zb6p q) : zb6p (q + 1) := by
 intro M hM j hj v8 h0_0 h0_1 h0_2 h0_3 h0_5 h0_6 h1_0z h1_0l h1_1 h2_0 h3l r h R hR fr H hc
 obtain ⟨j, rfl⟩ : ∃ i, j = i + 1 := ⟨j - 1, by omega⟩
 rw [zhn, hc]; clear hc
 rw [zmy] at h
 replace h := br h; rcases h with ⟨h1, h⟩ | ⟨h1, h⟩
 ·replace h := bb h; rcases h with ⟨h2', h2, h⟩ | ⟨h2', h2, h⟩
  ·replace h := ob h; obtain ⟨r10, h3, h⟩ := h
   replace h3 := zb6b q M (by omega) 0 _ _ _ _ _ _ _ _ _ _ _ _ h3
   try simp only [kf, simprocAttr] at h3
   replace h := ob h; obtain ⟨r11, h4, h⟩ := h
   replace h4 := zb4n q (M + 6) (by omega) _ _ h4
   try simp only [kf, simprocAttr] at h4
   replace h := bb h; rcases h with ⟨h5', h5, h⟩ | ⟨h5', h5, h⟩
   ·replace h := bn h; obtain ⟨h6, h⟩ := h
    replace h := bn h; obtain ⟨h7, h⟩ := h
    replace h := bn h; obtain ⟨h8, h⟩ := h
    replace h := zb8a M (by omega) j (by omega) _ _ _ _ _ _ _ _ _ _ _ _ _ h R hR
    simp only [zb6r, simprocAttr, *]
   ·replace h := bn h; obtain ⟨h9, h⟩ := h
    replace h := bn h; obtain ⟨h10, h⟩ := h
    replace h := bn h; obtain ⟨h11, h⟩ := h
    replace h := zb8a M (by omega) j (by omega) _ _ _ _ _ _ _ _ _ _ _ _ _ h R hR
    simp only [zb6r, simprocAttr, *]
  ·cases h; subst hR; simp only [zb6r, simprocAttr, *]
 ·replace h := bb h; rcases h with ⟨h12', h12, h⟩ | ⟨h12', h12, h⟩
  ·cases h; subst hR; simp only [zb6r, simprocAttr, *]
  ·cases h; subst hR; simp only [zb6r, simprocAttr, *]
theorem zb6x (q : Nat) (zb8b : zb6q q) : zb6q (q + 1) := by
 intro M hM j hj v8 h0_0 h0_1 h0_2 h0_3 h0_4len h0_5 h0_6 h1_0z h1_0l h1_1 h2_0 h3l h4l r h R hR fr H hc
 obtain ⟨j, rfl⟩ : ∃ i, j = i + 1 := ⟨j - 1, by omega⟩
 rw [zhn, hc]; clear hc
 rw [zmv] at h
 replace h := br h; rcases h with ⟨h1, h⟩ | ⟨h1, h⟩
 ·replace h := bb h; rcases h with ⟨h2', h2, h⟩ | ⟨h2', h2, h⟩
  ·replace h := ob h; obtain ⟨r12, h3, h⟩ := h
   replace h3 := zb6k q M (by omega) 0 0 _ _ _ _ _ _ _ _ _ _ _ _ _ _ h3
   try simp only [kf, simprocAttr] at h3
   replace h := ob h; obtain ⟨r13, h4, h⟩ := h
   replace h4 := zb4n q (M + 6) (by omega) _ _ h4
   try simp only [kf, simprocAttr] at h4
   replace h := bb h; rcases h with ⟨h5', h5, h⟩ | ⟨h5', h5, h⟩
   ·replace h := bn h; obtain ⟨h6, h⟩ := h
    replace h := bn h; obtain ⟨h7, h⟩ := h
    replace h := bn h; obtain ⟨h8, h⟩ := h
    replace h := zb8b M (by omega) j (by omega) _ _ _ _ _ _ _ _ _ _ _ _ _ _ _ h R hR
    simp only [zb6r, simprocAttr, *]
   ·replace h := bn h; obtain ⟨h9, h⟩ := h
    replace h := bn h; obtain ⟨h10, h⟩ := h
    replace h := bn h; obtain ⟨h11, h⟩ := h
    replace h := zb8b M (by omega) j (by omega) _ _ _ _ _ _ _ _ _ _ _ _ _ _ _ h R hR
    simp only [zb6r, simprocAttr, *]
  ·cases h; subst hR; simp only [zb6r, simprocAttr, *]
 ·replace h := bb h; rcases h with ⟨h12', h12, h⟩ | ⟨h12', h12, h⟩
  ·cases h; subst hR; simp only [zb6r, simprocAttr, *]
  ·cases h; subst hR; simp only [zb6r, simprocAttr, *]
theorem zb6y : ∀ q, zb6l q ∧ zb6m q ∧ zb6n q ∧ zb6o q ∧ zb6p q ∧ zb6q q
 | 0 => by refine ⟨?_, ?_, ?_, ?_, ?_, ?_⟩ <;> (intro M hM j hj; intros; rename_i h _ _ _ _ _; cases h)
 | q + 1 => by have ⟨i0, i1, i2, i3, i4, i5⟩ := zb6y q; exact ⟨zb6s q i1 i2, zb6t q i1 i3, zb6u q i4, zb6v q i5, zb6w q i4, zb6x q i5⟩
theorem zb6z : ∀ (q N : Nat), 8 * q ≤ N → ∀ (a0 : (Sl Int)), ∀ (r : zjs × Bool), zm1 q a0 = some r → (orc T N).deep F.zm1 [(Sl.enc (V.int .u8)) a0] = some [zjs.enc r.1, V.bool r.2] := by
 intro q N hM a0 r h
 rcases q with _ | q
 ·cases h
 obtain ⟨M, rfl⟩ : ∃ M, N = M + 8 := ⟨N - 8, by omega⟩
 have ih_delta_read_l0 := (zb6y q).1
 generalize hR : some [zjs.enc r.1, V.bool r.2] = R
 rw [zhx, zbl3, y8, zhv zzs rfl]
 rw [zm1] at h
 replace h := ob h; obtain ⟨r1, h1, h⟩ := h
 replace h1 := zb42 q M (by omega) _ _ _ h1
 try simp only [kf, simprocAttr] at h1
 replace h := br h; rcases h with ⟨h2, h⟩ | ⟨h2, h⟩
 ·cases h; subst hR; simp only [zb6r, simprocAttr, *]
 ·replace h := ih_delta_read_l0 M (by omega) (M + 7) (by omega) _ _ _ _ _ _ _ _ _ h R hR
  simp only [zb6r, simprocAttr, *]
def zb60 := And.intro @kk <| And.intro @ke <| And.intro @kn <| And.intro @zbvf <| @zbvh
theorem zb61 : ∀ (q N : Nat), 8 * q ≤ N → ∀ (a0 : Int), ∀ (r : Bool), zm2 q a0 = some r → (orc T N).deep F.zm2 [(V.int .i64) a0] = some [V.bool r] := by
 intro q N hM a0 r h
 rcases q with _ | q
 ·cases h
 obtain ⟨M, rfl⟩ : ∃ M, N = M + 8 := ⟨N - 8, by omega⟩
 generalize hR : some [V.bool r] = R
 rw [zhx, zbnt, y8, zhv zbhk rfl]
 rw [zm2] at h
 replace h := br h; rcases h with ⟨h1, h⟩ | ⟨h1, h⟩
 ·cases h; subst hR; simp only [zb60, simprocAttr, *]
 ·cases h; subst hR; simp only [zb60, simprocAttr, *]
def zb62 (q : Nat) : Prop := ∀ (M : Nat) (hM : 8 * q ≤ M) (j : Nat) (hj : q ≤ j) (v0z : Bool) (v0l : List Int) (v7 v8 r : Int) (_ : zm3 q v0z v0l v7 v8 = some r) (R : Option (List V × Hp)) (_ : (some ([(.int .i64 r)], []) : Option (List V × Hp)) = R) (fr : Fr) (H : Hp) (_ : canon 0 [0, 1, 7, 8] fr H = ([(0, (.sl v0z (List.map (V.int .i64) v0l))), (1, (.fn F.zm2 [])), (7, (.int .i64 v7)), (8, (.int .i64 v8))], [])), finI 0 false [.tmp 4] (unw T (orc T (M + 5)) (M + 5) 0 [.blk 0, .code zbff] (iter 0 [0, 1, 7, 8] (exec T (orc T (M + 5)) (M + 5) 0 zbfc) j fr H)) = R
def zb63 := And.intro @kk <| And.intro @ke <| And.intro @kn <| And.intro @zbuu <| @zbvg
theorem zb64 (q : Nat) (zb8c : zb62 q) : zb62 (q + 1) := by
 intro M hM j hj v0z v0l v7 v8 r h R hR fr H hc
 obtain ⟨j, rfl⟩ : ∃ i, j = i + 1 := ⟨j - 1, by omega⟩
 rw [zhn, hc]; clear hc
 rw [zm3] at h
 replace h := br h; rcases h with ⟨h1, h⟩ | ⟨h1, h⟩
 ·replace h := bn h; obtain ⟨h2, h⟩ := h
  replace h := ob h; obtain ⟨e1, h3, h⟩ := h
  replace h := ob h; obtain ⟨r2, h4, h⟩ := h
  replace h4 := zb61 q (M + 5) (by omega) _ _ h4
  replace h := bb h; rcases h with ⟨h5', h5, h⟩ | ⟨h5', h5, h⟩
  ·cases h; subst hR; simp only [zb63, simprocAttr, *]
  ·replace h := zb8c M (by omega) j (by omega) _ _ _ _ _ h R hR
   simp only [zb63, simprocAttr, *]
 ·cases h; subst hR; simp only [zb63, simprocAttr, *]
theorem zb65 : ∀ q, zb62 q
 | 0 => by intro M hM j hj; intros; rename_i h _ _ _ _ _; cases h
 | q + 1 => by have i0 := zb65 q; exact zb64 q i0
theorem zb66 : ∀ (q M : Nat), 8 * q ≤ M → ∀ (v0z : Bool), ∀ (v0l : List Int), ∀ (r : Int), zm4 q v0z v0l = some r → (orc T (M + 6)).inl F.zpc [(.sl v0z (List.map (V.int .i64) v0l)), (.fn F.zm2 [])] [] = (some ([(.int .i64 r)], []) : Option (List V × Hp)) := by
 intro q M hM v0z v0l r h
 rcases q with _ | q
 ·cases h
 have zb8c := (zb65 q)
 generalize hR : (some ([(.int .i64 r)], []) : Option (List V × Hp)) = R
 rw [zbuw (n := M + 5)]
 rw [zm4] at h
 replace h := zb8c M (by omega) (M + 5) (by omega) _ _ _ _ _ h R hR
 simp only [zb63, simprocAttr, *]
def zb67 := And.intro @kk <| And.intro @ke <| And.intro @kn <| And.intro @zbsc <| And.intro @zbti <| And.intro @zbuv <| And.intro @zbsd <| And.intro @zbse <| @zbtk
theorem zb68 : ∀ (q N : Nat), 8 * q ≤ N → ∀ (a0 : (Sl Int)), ∀ (r : Bool), zm5 q a0 = some r → (orc T N).deep F.zm5 [(Sl.enc (V.int .i64)) a0] = some [V.bool r] := by
 intro q N hM a0 r h
 rcases q with _ | q
 ·cases h
 obtain ⟨M, rfl⟩ : ∃ M, N = M + 8 := ⟨N - 8, by omega⟩
 generalize hR : some [V.bool r] = R
 rw [zhx, zbm6, y8, zhv z89 rfl]
 rw [zm5] at h
 replace h := ob h; obtain ⟨r1, h1, h⟩ := h
 replace h1 := zb66 q M (by omega) _ _ _ h1
 try simp only [kf, simprocAttr] at h1
 cases h; subst hR; simp only [zb67, simprocAttr, *]
def zb69 := And.intro @kk <| And.intro @ke <| And.intro @kn <| And.intro @zbtf <| @zbth
theorem zb7a : ∀ (q N : Nat), 8 * q ≤ N → ∀ (a0 : Int), ∀ (r : Bool), zm6 q a0 = some r → (orc T N).deep F.zm6 [(V.int .i64) a0] = some [V.bool r] := by
 intro q N hM a0 r h
 rcases q with _ | q
 ·cases h
 obtain ⟨M, rfl⟩ : ∃ M, N = M + 8 := ⟨N - 8, by omega⟩
 generalize hR : some [V.bool r] = R
 rw [zhx, zbm5, y8, zhv z84 rfl]
 rw [zm6] at h
 replace h := br h; rcases h with ⟨h1, h⟩ | ⟨h1, h⟩
 ·cases h; subst hR; simp only [zb69, simprocAttr, *]
 ·cases h; subst hR; simp only [zb69, simprocAttr, *]
def zb7b (q : Nat) : Prop := ∀ (M : Nat) (hM : 8 * q ≤ M) (j : Nat) (hj : q ≤ j) (v0z : Bool) (v0l : List zjq) (v5z : Bool) (v5l : List zjq) (v6 v7 : Int) (r : Bool) (_ : zm7 q v0z v0l v5z v5l v6 v7 = some r) (R : Option (List V)) (_ : some [V.bool r] = R) (fr : Fr) (H : Hp) (_ : canon 0 [0, 5, 6, 7] fr H = ([(0, (.sl v0z (List.map zjq.enc v0l))), (5, (.sl v5z (List.map zjq.enc v5l))), (6, (.int .i64 v6)), (7, (.int .i64 v7))], [])), fin z9s (unw T (orc T (M + 7)) (M + 7) 0 [.blk 0, .code z9p] (iter 0 [0, 5, 6, 7] (exec T (orc T (M + 7)) (M + 7) 0 z9m) j fr H)) = R
def zb7c := And.intro @kk <| And.intro @ke <| And.intro @kn <| And.intro @zbtl <| And.intro @zbtj <| @zbtn
theorem zb7d (q : Nat) (zb8d : zb7b q) : zb7b (q + 1) := by
 intro M hM j hj v0z v0l v5z v5l v6 v7 r h R hR fr H hc
 obtain ⟨j, rfl⟩ : ∃ i, j = i + 1 := ⟨j - 1, by omega⟩
 rw [zhn, hc]; clear hc
 rw [zm7] at h
 replace h := br h; rcases h with ⟨h1, h⟩ | ⟨h1, h⟩
 ·replace h := bn h; obtain ⟨h2, h⟩ := h
  replace h := ob h; obtain ⟨e1, h3, h⟩ := h
  replace h := ob h; obtain ⟨r2, h4, h⟩ := h
  replace h4 := zb68 q (M + 7) (by omega) _ _ h4
  try simp only [kf, simprocAttr] at h4
  replace h := bb h; rcases h with ⟨h5', h5, h⟩ | ⟨h5', h5, h⟩
  ·replace h := br h; rcases h with ⟨h6, h⟩ | ⟨h6, h⟩
   ·cases h; subst hR; simp only [zb7c, simprocAttr, *]
   ·replace h := br h; rcases h with ⟨h7, h⟩ | ⟨h7, h⟩
    ·cases h; subst hR; simp only [zb7c, simprocAttr, *]
    ·replace h := br h; rcases h with ⟨h8, h⟩ | ⟨h8, h⟩
     ·cases h; subst hR; simp only [zb7c, simprocAttr, *]
     ·replace h := br h; rcases h with ⟨h9, h⟩ | ⟨h9, h⟩
      ·replace h := bn h; obtain ⟨h10, h⟩ := h
       replace h := ob h; obtain ⟨e3, h11, h⟩ := h
       replace h := br h; rcases h with ⟨h12, h⟩ | ⟨h12, h⟩
       ·cases h; subst hR; simp only [zb7c, simprocAttr, *]
       ·replace h := zb8d M (by omega) j (by omega) _ _ _ _ _ _ _ h R hR
        simp only [zb7c, simprocAttr, *]
      ·replace h := zb8d M (by omega) j (by omega) _ _ _ _ _ _ _ h R hR
       simp only [zb7c, simprocAttr, *]
  ·cases h; subst hR; simp only [zb7c, simprocAttr, *]
 ·cases h; subst hR; simp only [zb7c, simprocAttr, *]
theorem zb7e : ∀ q, zb7b q
 | 0 => by intro M hM j hj; intros; rename_i h _ _ _ _ _; cases h
 | q + 1 => by have i0 := zb7e q; exact zb7d q i0
theorem zb7f : ∀ (q N : Nat), 8 * q ≤ N → ∀ (a0 : (Sl zjq)), ∀ (r : Bool), zm8 q a0 = some r → (orc T N).deep F.zm8 [(Sl.enc zjq.enc) a0] = some [V.bool r] := by
 intro q N hM a0 r h
 rcases q with _ | q
 ·cases h
 obtain ⟨M, rfl⟩ : ∃ M, N = M + 8 := ⟨N - 8, by omega⟩
 have zb8d := (zb7e q)
 generalize hR : some [V.bool r] = R
 rw [zhx, zbm7, y8, zhv z9s rfl]
 rw [zm8] at h
 replace h := zb8d M (by omega) (M + 7) (by omega) _ _ _ _ _ _ _ h R hR
 simp only [zb7c, simprocAttr, *]
def zb7g (q : Nat) : Prop := ∀ (M : Nat) (hM : 8 * q ≤ M) (j : Nat) (hj : q ≤ j) (w1 : Nat) (v0z : Bool) (v0l : List Int) (v7 v8 h0_0 h0_1 h0_2 h0_3 : Int) (h0_4z : Bool) (h0_4l : List Int) (h0_5 : Bool) (h0_6 : Int) (h0_7z : Bool) (h0_7l : List zjq) (h1l : List Int) (r : Int) (_ : zm9 q v0z v0l v7 v8 h0_0 h0_1 h0_2 h0_3 h0_4z h0_4l h0_5 h0_6 h0_7z h0_7l h1l = some r) (R : Option (List V × Hp)) (_ : (some ([(.int .i64 r)], [(.box [(.int .i64 h0_0), (.int .i64 h0_1), (.int .i64 h0_2), (.int .i64 h0_3), (.sl h0_4z (List.map (V.int .i64) h0_4l)), (.bool h0_5), (.int .i64 h0_6), (.sl h0_7z (List.map zjq.enc h0_7l))]), (.row w1 false 1 (List.map (V.int .i64) h1l) true)]) : Option (List V × Hp)) = R) (fr : Fr) (H : Hp) (_ : canon 2 [0, 1, 7, 8] fr H = ([(0, (.sl v0z (List.map (V.int .i64) v0l))), (1, (.fn F.zm6 [])), (7, (.int .i64 v7)), (8, (.int .i64 v8))], [(.box [(.int .i64 h0_0), (.int .i64 h0_1), (.int .i64 h0_2), (.int .i64 h0_3), (.sl h0_4z (List.map (V.int .i64) h0_4l)), (.bool h0_5), (.int .i64 h0_6), (.sl h0_7z (List.map zjq.enc h0_7l))]), (.row w1 false 1 (List.map (V.int .i64) h1l) true)])), finI 2 false [.tmp 4] (unw T (orc T (M + 5)) (M + 5) 2 [.blk 0, .code zbff] (iter 2 [0, 1, 7, 8] (exec T (orc T (M + 5)) (M + 5) 2 zbfc) j fr H)) = R
def zb7h := And.intro @kk <| And.intro @ke <| And.intro @kn <| And.intro @zbuu <| @zbtg
theorem zb7i (q : Nat) (zb8e : zb7g q) : zb7g (q + 1) := by
 intro M hM j hj w1 v0z v0l v7 v8 h0_0 h0_1 h0_2 h0_3 h0_4z h0_4l h0_5 h0_6 h0_7z h0_7l h1l r h R hR fr H hc
 obtain ⟨j, rfl⟩ : ∃ i, j = i + 1 := ⟨j - 1, by omega⟩
 rw [zhn, hc]; clear hc
 rw [zm9] at h
 replace h := br h; rcases h with ⟨h1, h⟩ | ⟨h1, h⟩
 ·replace h := bn h; obtain ⟨h2, h⟩ := h
  replace h := ob h; obtain ⟨e1, h3, h⟩ := h
  replace h := ob h; obtain ⟨r2, h4, h⟩ := h
  replace h4 := zb7a q (M + 5) (by omega) _ _ h4
  replace h := bb h; rcases h with ⟨h5', h5, h⟩ | ⟨h5', h5, h⟩
  ·cases h; subst hR; simp only [zb7h, simprocAttr, *]
  ·replace h := zb8e M (by omega) j (by omega) w1 _ _ _ _ _ _ _ _ _ _ _ _ _ _ _ _ h R hR
   simp only [zb7h, simprocAttr, *]
 ·cases h; subst hR; simp only [zb7h, simprocAttr, *]
theorem zb7j : ∀ q, zb7g q
 | 0 => by intro M hM j hj; intros; rename_i h _ _ _ _ _; cases h
 | q + 1 => by have i0 := zb7j q; exact zb7i q i0
theorem zb7k : ∀ (q M : Nat), 8 * q ≤ M → ∀ (w1 : Nat), ∀ (v0z : Bool), ∀ (v0l : List Int), ∀ (h0_0 h0_1 h0_2 h0_3 : Int), ∀ (h0_4z : Bool), ∀ (h0_4l : List Int), ∀ (h0_5 : Bool), ∀ (h0_6 : Int), ∀ (h0_7z : Bool), ∀ (h0_7l : List zjq), ∀ (h1l : List Int), ∀ (r : Int), zna q v0z v0l h0_0 h0_1 h0_2 h0_3 h0_4z h0_4l h0_5 h0_6 h0_7z h0_7l h1l = some r → (orc T (M + 6)).inl F.zpc [(.sl v0z (List.map (V.int .i64) v0l)), (.fn F.zm6 [])] [(.box [(.int .i64 h0_0), (.int .i64 h0_1), (.int .i64 h0_2), (.int .i64 h0_3), (.sl h0_4z (List.map (V.int .i64) h0_4l)), (.bool h0_5), (.int .i64 h0_6), (.sl h0_7z (List.map zjq.enc h0_7l))]), (.row w1 false 1 (List.map (V.int .i64) h1l) true)] = (some ([(.int .i64 r)], [(.box [(.int .i64 h0_0), (.int .i64 h0_1), (.int .i64 h0_2), (.int .i64 h0_3), (.sl h0_4z (List.map (V.int .i64) h0_4l)), (.bool h0_5), (.int .i64 h0_6), (.sl h0_7z (List.map zjq.enc h0_7l))]), (.row w1 false 1 (List.map (V.int .i64) h1l) true)]) : Option (List V × Hp)) := by
 intro q M hM w1 v0z v0l h0_0 h0_1 h0_2 h0_3 h0_4z h0_4l h0_5 h0_6 h0_7z h0_7l h1l r h
 rcases q with _ | q
 ·cases h
 have zb8e := (zb7j q)
 generalize hR : (some ([(.int .i64 r)], [(.box [(.int .i64 h0_0), (.int .i64 h0_1), (.int .i64 h0_2), (.int .i64 h0_3), (.sl h0_4z (List.map (V.int .i64) h0_4l)), (.bool h0_5), (.int .i64 h0_6), (.sl h0_7z (List.map zjq.enc h0_7l))]), (.row w1 false 1 (List.map (V.int .i64) h1l) true)]) : Option (List V × Hp)) = R
 rw [zbuw (n := M + 5)]
 rw [zna] at h
 replace h := zb8e M (by omega) (M + 5) (by omega) w1 _ _ _ _ _ _ _ _ _ _ _ _ _ _ _ _ h R hR
 simp only [zb7h, simprocAttr, *]
def zb7l := And.intro @kk <| And.intro @ke <| And.intro @kn <| And.intro @zbqd <| And.intro @zbsc <| And.intro @zbtj <| And.intro @zbtm <| And.intro @zbuv <| And.intro @zbsd <| And.intro @zbse <| @zbqf
theorem zb7m : ∀ (q N : Nat), 8 * q ≤ N → ∀ (a0 : zjs), ∀ (r : Bool), znb q a0 = some r → (orc T N).deep F.znb [zjs.enc a0] = some [V.bool r] := by
 intro q N hM a0 r h
 rcases q with _ | q
 ·cases h
 obtain ⟨M, rfl⟩ : ∃ M, N = M + 8 := ⟨N - 8, by omega⟩
 generalize hR : some [V.bool r] = R
 rw [zhx, zbl4, y8, zhv zzu rfl]
 rw [znb] at h
 replace h := ob h; obtain ⟨r1, h1, h⟩ := h
 replace h1 := zb68 q (M + 7) (by omega) _ _ h1
 try simp only [kf, simprocAttr] at h1
 replace h := bb h; rcases h with ⟨h2', h2, h⟩ | ⟨h2', h2, h⟩
 ·replace h := br h; rcases h with ⟨h3, h⟩ | ⟨h3, h⟩
  ·replace h := ob h; obtain ⟨r2, h4, h⟩ := h
   replace h4 := zb7k q M (by omega) 0 _ _ _ _ _ _ _ _ _ _ _ _ _ _ h4
   try simp only [kf, simprocAttr] at h4
   replace h := br h; rcases h with ⟨h5, h⟩ | ⟨h5, h⟩
   ·cases h; subst hR; simp only [zb7l, simprocAttr, *]
   ·replace h := br h; rcases h with ⟨h6, h⟩ | ⟨h6, h⟩
    ·replace h := br h; rcases h with ⟨h7, h⟩ | ⟨h7, h⟩
     ·replace h := bb h; rcases h with ⟨h8', h8, h⟩ | ⟨h8', h8, h⟩
      ·replace h := ob h; obtain ⟨r3, h9, h⟩ := h
       replace h9 := zb7f q (M + 7) (by omega) _ _ h9
       try simp only [kf, simprocAttr] at h9
       cases h; subst hR; simp only [zb7l, simprocAttr, *]
      ·replace h := br h; rcases h with ⟨h10, h⟩ | ⟨h10, h⟩
       ·replace h := ob h; obtain ⟨r4, h11, h⟩ := h
        replace h11 := zb7f q (M + 7) (by omega) _ _ h11
        try simp only [kf, simprocAttr] at h11
        cases h; subst hR; simp only [zb7l, simprocAttr, *]
       ·cases h; subst hR; simp only [zb7l, simprocAttr, *]
     ·cases h; subst hR; simp only [zb7l, simprocAttr, *]
    ·cases h; subst hR; simp only [zb7l, simprocAttr, *]
  ·cases h; subst hR; simp only [zb7l, simprocAttr, *]
 ·cases h; subst hR; simp only [zb7l, simprocAttr, *]
def zb7n := And.intro @kk <| And.intro @ke <| And.intro @kn <| And.intro @zbom <| And.intro @zbp8 <| And.intro @zbqb <| And.intro @zbqe <| @zboo
theorem zb7o : ∀ (q N : Nat), 8 * q ≤ N → ∀ (a0 : (Sl Int)), ∀ (r : zjs × Int), znc q a0 = some r → (orc T N).deep F.znc [(Sl.enc (V.int .u8)) a0] = some [zjs.enc r.1, (V.int .i64) r.2] := by
 intro q N hM a0 r h
 rcases q with _ | q
 ·cases h
 obtain ⟨M, rfl⟩ : ∃ M, N = M + 8 := ⟨N - 8, by omega⟩
 generalize hR : some [zjs.enc r.1, (V.int .i64) r.2] = R
 rw [zhx, zblj, y8, zhv zse rfl]
 rw [znc] at h
 replace h := ob h; obtain ⟨r1, h1, h⟩ := h
 replace h1 := zb4j q (M + 7) (by omega) _ _ h1
 try simp only [kf, simprocAttr] at h1
 replace h := br h; rcases h with ⟨h2, h⟩ | ⟨h2, h⟩
 ·replace h := br h; rcases h with ⟨h3, h⟩ | ⟨h3, h⟩
  ·replace h := ob h; obtain ⟨r2, h4, h⟩ := h
   replace h4 := zb6z q (M + 7) (by omega) _ _ h4
   try simp only [kf, simprocAttr] at h4
   replace h := bb h; rcases h with ⟨h5', h5, h⟩ | ⟨h5', h5, h⟩
   ·replace h := ob h; obtain ⟨r3, h6, h⟩ := h
    replace h6 := zb7m q (M + 7) (by omega) _ _ h6
    try simp only [kf, simprocAttr] at h6
    replace h := bb h; rcases h with ⟨h7', h7, h⟩ | ⟨h7', h7, h⟩
    ·cases h; subst hR; simp only [zb7n, simprocAttr, *]
    ·cases h; subst hR; simp only [zb7n, simprocAttr, *]
   ·cases h; subst hR; simp only [zb7n, simprocAttr, *]
  ·cases h; subst hR; simp only [zb7n, simprocAttr, *]
 ·cases h; subst hR; simp only [zb7n, simprocAttr, *]
end Go.Dvm.C
