/- The machine comes to these answers: part 2. -/
import Derived.Test.YtngajodhbioheaaQl0
import Derived.Test.YtngajodhbioheaaQr0
set_option linter.all false
set_option maxRecDepth 100000
set_option maxHeartbeats 4000000
namespace Go.Dvm.C
open Go Go.Dvm Go.Dvm.I
def zbh6 (q : Nat) : Prop := ∀ (M : Nat) (hM : 8 * q ≤ M) (j : Nat) (hj : q ≤ j) (h0z : Bool) (h0l : List Int) (h0x h1z : Bool) (h1l : List Int) (h1x : Bool) (r : (Ow Int) × Int) (_ : zls q h0z h0l h0x h1z h1l h1x = some r) (R : Option (List V)) (_ : some [(Ow.enc 1 (V.int .u8)) r.1, (V.int .i64) r.2] = R) (fr : Fr) (H : Hp) (_ : canon 0 [4, 6] fr H = ([(4, (.vw 0 0 0 h0l.length 1)), (6, (.vw 1 0 0 h1l.length 1))], [(.row 0 h0z 1 (List.map (V.int .u8) h0l) h0x), (.row 0 h1z 1 (List.map (V.int .u8) h1l) h1x)])), fin zoz (unw T (orc T (M + 7)) (M + 7) 0 [.blk 0, .code zos] (iter 0 [4, 6] (exec T (orc T (M + 7)) (M + 7) 0 zoq) j fr H)) = R
def zbh7 (q : Nat) : Prop := ∀ (M : Nat) (hM : 8 * q ≤ M) (j : Nat) (hj : q ≤ j) (v4off v4len : Nat) (h0z : Bool) (h0l : List Int) (h1z : Bool) (h1l : List Int) (h1x : Bool) (r : (Ow Int) × Int) (_ : zlr q v4off v4len h0z h0l h1z h1l h1x = some r) (R : Option (List V)) (_ : some [(Ow.enc 1 (V.int .u8)) r.1, (V.int .i64) r.2] = R) (fr : Fr) (H : Hp) (_ : canon 0 [4, 6] fr H = ([(4, (.vw 0 0 v4off v4len 1)), (6, (.vw 1 0 0 h1l.length 1))], [(.row 0 h0z 1 (List.map (V.int .u8) h0l) false), (.row 0 h1z 1 (List.map (V.int .u8) h1l) h1x)])), fin zoz (unw T (orc T (M + 7)) (M + 7) 0 [.blk 0, .code zos] (iter 0 [4, 6] (exec T (orc T (M + 7)) (M + 7) 0 zoq) j fr H)) = R
def zbh8 := And.intro @kk <| And.intro @ke <| And.intro @kn <| And.intro @z69 <| And.intro @z6v <| And.intro @z8r <| And.intro @z8u <| And.intro @z8x <| And.intro @z80 <| And.intro @z83 <| @z7b
theorem zbh9 (q : Nat) (zbim : zbh7 q) : zbh6 (q + 1) := by
 intro M hM j hj h0z h0l h0x h1z h1l h1x r h R hR fr H hc
 obtain ⟨j, rfl⟩ : ∃ i, j = i + 1 := ⟨j - 1, by omega⟩
 rw [zhk, hc]; clear hc
 rw [zls] at h
 replace h := br h; rcases h with ⟨h1, h⟩ | ⟨h1, h⟩
 ·replace h := bn h; obtain ⟨h2, h⟩ := h
  replace h := bn h; obtain ⟨h3, h⟩ := h
  replace h := bn h; obtain ⟨h4, h⟩ := h
  replace h := ob h; obtain ⟨r9, h5, h⟩ := h
  replace h5 := zbhl q (M + 7) (by omega) _ _ h5
  try simp only [kf, simprocAttr] at h5
  replace h := bn h; obtain ⟨h6, h⟩ := h
  replace h := zbim M (by omega) j (by omega) _ _ _ _ _ _ _ _ h R hR
  simp only [zbh8, simprocAttr, *]
 ·cases h; subst hR; simp only [zbh8, simprocAttr, *]
theorem zbia (q : Nat) (zbim : zbh7 q) : zbh7 (q + 1) := by
 intro M hM j hj v4off v4len h0z h0l h1z h1l h1x r h R hR fr H hc
 obtain ⟨j, rfl⟩ : ∃ i, j = i + 1 := ⟨j - 1, by omega⟩
 rw [zhk, hc]; clear hc
 rw [zlr] at h
 replace h := br h; rcases h with ⟨h1, h⟩ | ⟨h1, h⟩
 ·replace h := bn h; obtain ⟨h2, h⟩ := h
  replace h := bn h; obtain ⟨h3, h⟩ := h
  replace h := bn h; obtain ⟨h4, h⟩ := h
  replace h := ob h; obtain ⟨r10, h5, h⟩ := h
  replace h5 := zbhl q (M + 7) (by omega) _ _ h5
  try simp only [kf, simprocAttr] at h5
  replace h := bn h; obtain ⟨h6, h⟩ := h
  replace h := bn h; obtain ⟨h7, h⟩ := h
  replace h := zbim M (by omega) j (by omega) _ _ _ _ _ _ _ _ h R hR
  simp only [zbh8, simprocAttr, *]
 ·cases h; subst hR; simp only [zbh8, simprocAttr, *]
theorem zbib : ∀ q, zbh6 q ∧ zbh7 q
 | 0 => by refine ⟨?_, ?_⟩ <;> (intro M hM j hj; intros; rename_i h _ _ _ _ _; cases h)
 | q + 1 => by have ⟨i0, i1⟩ := zbib q; exact ⟨zbh9 q i1, zbia q i1⟩
theorem zbic : ∀ (q N : Nat), 8 * q ≤ N → ∀ (a0 : zjo), ∀ (r : (Ow Int) × Int), zlt q a0 = some r → (orc T N).deep F.zlt [zjo.enc a0] = some [(Ow.enc 1 (V.int .u8)) r.1, (V.int .i64) r.2] := by
 intro q N hM a0 r h
 rcases q with _ | q
 ·cases h
 obtain ⟨M, rfl⟩ : ∃ M, N = M + 8 := ⟨N - 8, by omega⟩
 have ih_snapshot_Encode_l0 := (zbib q).1
 generalize hR : some [(Ow.enc 1 (V.int .u8)) r.1, (V.int .i64) r.2] = R
 rw [zhu, z5a, y4, zhs zoz rfl]
 rw [zlt] at h
 replace h := ob h; obtain ⟨r1, h1, h⟩ := h
 replace h1 := zbd0 q (M + 7) (by omega) _ _ h1
 try simp only [kf, simprocAttr] at h1
 replace h := bb h; rcases h with ⟨h2', h2, h⟩ | ⟨h2', h2, h⟩
 ·replace h := ob h; obtain ⟨r2, h3, h⟩ := h
  replace h3 := zbhj q (M + 7) (by omega) _ _ h3
  try simp only [kf, simprocAttr] at h3
  replace h := ob h; obtain ⟨r3, h4, h⟩ := h
  replace h4 := zbgq q (M + 7) (by omega) _ _ _ h4
  try simp only [kf, simprocAttr] at h4
  replace h := ob h; obtain ⟨r4, h5, h⟩ := h
  replace h5 := zbgq q (M + 7) (by omega) _ _ _ h5
  try simp only [kf, simprocAttr] at h5
  replace h := ob h; obtain ⟨r5, h6, h⟩ := h
  replace h6 := zbgq q (M + 7) (by omega) _ _ _ h6
  try simp only [kf, simprocAttr] at h6
  replace h := ob h; obtain ⟨r6, h7, h⟩ := h
  replace h7 := zbga q (M + 7) (by omega) _ _ h7
  try simp only [kf, simprocAttr] at h7
  replace h := ob h; obtain ⟨r7, h8, h⟩ := h
  replace h8 := zbgh q (M + 7) (by omega) _ _ h8
  try simp only [kf, simprocAttr] at h8
  replace h := bn h; obtain ⟨h9, h⟩ := h
  replace h := ob h; obtain ⟨r8, h10, h⟩ := h
  replace h10 := zbhl q (M + 7) (by omega) _ _ h10
  try simp only [kf, simprocAttr] at h10
  replace h := ih_snapshot_Encode_l0 M (by omega) (M + 7) (by omega) _ _ _ _ _ _ _ h R hR
  simp only [zbh8, simprocAttr, *]
 ·cases h; subst hR; simp only [zbh8, simprocAttr, *]
def zbid (q : Nat) : Prop := ∀ (M : Nat) (hM : 8 * q ≤ M) (j : Nat) (hj : q ≤ j) (w0 w1 : Nat) (v9 : Int) (h0l : List Int) (h1l : List zjr) (r : Nat × Int × Bool × Nat × Int × Int × Bool × (List Int) × Bool × Int × Nat × Bool × (List zjn) × Bool) (_ : zlv q v9 h0l h1l = some r) (R : Option (List V × Hp)) (_ : (if r.1 = 0 then (some ([(.agg [(.int .i64 0), (.int .i64 0), (.sl true []), (.bool false), (.int .i64 0), (.sl true [])]), (.int .i64 r.2.1)], [(.row w0 false 1 (List.map (V.int .i64) h0l) r.2.2.1), (.row w1 false 7 (List.map zjr.enc h1l) true)]) : Option (List V × Hp)) else (if r.1 = 1 then (some ([(.agg [(.int .i64 0), (.int .i64 0), (.vw 0 w0 0 r.2.2.2.1 1), (.bool false), (.int .i64 0), (.sl true [])]), (.int .i64 0)], [(.row w0 false 1 (List.map (V.int .i64) h0l) true), (.row w1 false 7 (List.map zjr.enc h1l) true)]) : Option (List V × Hp)) else (some ([(.agg [(.int .i64 r.2.2.2.2.1), (.int .i64 r.2.2.2.2.2.1), (.sl r.2.2.2.2.2.2.1 (List.map (V.int .i64) r.2.2.2.2.2.2.2.1)), (.bool r.2.2.2.2.2.2.2.2.1), (.int .i64 r.2.2.2.2.2.2.2.2.2.1), (.vw 2 0 0 r.2.2.2.2.2.2.2.2.2.2.1 1)]), (.int .i64 0)], [(.row w0 false 1 (List.map (V.int .i64) h0l) false), (.row w1 false 7 (List.map zjr.enc h1l) true), (.row 0 r.2.2.2.2.2.2.2.2.2.2.2.1 3 (List.map zjn.enc r.2.2.2.2.2.2.2.2.2.2.2.2.1) r.2.2.2.2.2.2.2.2.2.2.2.2.2)]) : Option (List V × Hp)))) = R) (fr : Fr) (H : Hp) (_ : canon 2 [2, 4, 8, 9, 10] fr H = ([(2, (.ptr 2 0)), (4, (.ptr 3 0)), (8, (.vw 1 w1 0 h1l.length 1)), (9, (.int .i64 v9)), (10, (.int .i64 0))], [(.row w0 false 1 (List.map (V.int .i64) h0l) true), (.row w1 false 7 (List.map zjr.enc h1l) true), (.box [(.int .i64 0), (.int .i64 0), (.vw 0 w0 0 h0l.length 1), (.bool false), (.int .i64 0), (.sl true [])]), (.box [(.int .i64 0), (.int .i64 0), (.sl true []), (.bool false), (.int .i64 0), (.sl true [])])])), finI 2 false [.cell 4 6 true, .tmp 5] (unw T (orc T (M + 6)) (M + 6) 2 [.blk 0, .code zn8] (iter 2 [2, 4, 8, 9, 10] (exec T (orc T (M + 6)) (M + 6) 2 zn5) j fr H)) = R
def zbie (q : Nat) : Prop := ∀ (M : Nat) (hM : 8 * q ≤ M) (j : Nat) (hj : q ≤ j) (w0 w1 : Nat) (v9 v10 : Int) (h0l : List Int) (h1l : List zjr) (h2_0 h2_1 : Int) (h2_2z : Bool) (h2_2l : List Int) (h2_3 : Bool) (h2_4 : Int) (h4z : Bool) (h4l : List zjn) (h4x : Bool) (r : Nat × Int × Bool × Nat × Int × Int × Bool × (List Int) × Bool × Int × Nat × Bool × (List zjn) × Bool) (_ : zlu q v9 v10 h0l h1l h2_0 h2_1 h2_2z h2_2l h2_3 h2_4 h4z h4l h4x = some r) (R : Option (List V × Hp)) (_ : (if r.1 = 0 then (some ([(.agg [(.int .i64 0), (.int .i64 0), (.sl true []), (.bool false), (.int .i64 0), (.sl true [])]), (.int .i64 r.2.1)], [(.row w0 false 1 (List.map (V.int .i64) h0l) r.2.2.1), (.row w1 false 7 (List.map zjr.enc h1l) true)]) : Option (List V × Hp)) else (if r.1 = 1 then (some ([(.agg [(.int .i64 0), (.int .i64 0), (.vw 0 w0 0 r.2.2.2.1 1), (.bool false), (.int .i64 0), (.sl true [])]), (.int .i64 0)], [(.row w0 false 1 (List.map (V.int .i64) h0l) true), (.row w1 false 7 (List.map zjr.enc h1l) true)]) : Option (List V × Hp)) else (some ([(.agg [(.int .i64 r.2.2.2.2.1), (.int .i64 r.2.2.2.2.2.1), (.sl r.2.2.2.2.2.2.1 (List.map (V.int .i64) r.2.2.2.2.2.2.2.1)), (.bool r.2.2.2.2.2.2.2.2.1), (.int .i64 r.2.2.2.2.2.2.2.2.2.1), (.vw 2 0 0 r.2.2.2.2.2.2.2.2.2.2.1 1)]), (.int .i64 0)], [(.row w0 false 1 (List.map (V.int .i64) h0l) false), (.row w1 false 7 (List.map zjr.enc h1l) true), (.row 0 r.2.2.2.2.2.2.2.2.2.2.2.1 3 (List.map zjn.enc r.2.2.2.2.2.2.2.2.2.2.2.2.1) r.2.2.2.2.2.2.2.2.2.2.2.2.2)]) : Option (List V × Hp)))) = R) (fr : Fr) (H : Hp) (_ : canon 2 [2, 4, 8, 9, 10] fr H = ([(2, (.ptr 2 0)), (4, (.ptr 3 0)), (8, (.vw 1 w1 0 h1l.length 1)), (9, (.int .i64 v9)), (10, (.int .i64 v10))], [(.row w0 false 1 (List.map (V.int .i64) h0l) false), (.row w1 false 7 (List.map zjr.enc h1l) true), (.box [(.int .i64 h2_0), (.int .i64 h2_1), (.sl h2_2z (List.map (V.int .i64) h2_2l)), (.bool h2_3), (.int .i64 h2_4), (.vw 4 0 0 h4l.length 1)]), (.box [(.int .i64 0), (.int .i64 0), (.sl true []), (.bool false), (.int .i64 0), (.sl true [])]), (.row 0 h4z 3 (List.map zjn.enc h4l) h4x)])), finI 2 false [.cell 4 6 true, .tmp 5] (unw T (orc T (M + 6)) (M + 6) 2 [.blk 0, .code zn8] (iter 2 [2, 4, 8, 9, 10] (exec T (orc T (M + 6)) (M + 6) 2 zn5) j fr H)) = R
def zbif := And.intro @kk <| And.intro @ke <| And.intro @kn <| And.intro @z6x <| And.intro @z67 <| And.intro @z7s <| @z7v
theorem zbig (q : Nat) (zbin : zbie q) : zbid (q + 1) := by
 intro M hM j hj w0 w1 v9 h0l h1l r h R hR fr H hc
 obtain ⟨j, rfl⟩ : ∃ i, j = i + 1 := ⟨j - 1, by omega⟩
 rw [zhk, hc]; clear hc
 rw [zlv] at h
 replace h := br h; rcases h with ⟨h1, h⟩ | ⟨h1, h⟩
 ·replace h := bn h; obtain ⟨h2, h⟩ := h
  replace h := ob h; obtain ⟨e1, h3, h⟩ := h
  replace h := br h; rcases h with ⟨h4, h⟩ | ⟨h4, h⟩
  ·replace h := ob h; obtain ⟨r2, h5, h⟩ := h
   replace h5 := zbe8 q (M + 6) (by omega) _ _ h5
   try simp only [kf, simprocAttr] at h5
   replace h := bb h; rcases h with ⟨h6', h6, h⟩ | ⟨h6', h6, h⟩
   ·replace h := ob h; obtain ⟨r3, h7, h⟩ := h
    replace h7 := zbfw q (M + 6) (by omega) _ _ _ h7
    try simp only [kf, simprocAttr] at h7
    replace h := ob h; obtain ⟨r4, h8, h⟩ := h
    replace h8 := zbem q (M + 6) (by omega) _ _ _ h8
    try simp only [kf, simprocAttr] at h8
    replace h := zbin M (by omega) j (by omega) w0 w1 _ _ _ _ _ _ _ _ _ _ _ _ _ _ h R hR
    simp only [zbif, simprocAttr, *]
   ·cases h; subst hR; simp only [zbif, simprocAttr, *]
  ·cases h; subst hR; simp only [zbif, simprocAttr, *]
 ·cases h; subst hR; simp only [zbif, simprocAttr, *]
theorem zbih (q : Nat) (zbin : zbie q) : zbie (q + 1) := by
 intro M hM j hj w0 w1 v9 v10 h0l h1l h2_0 h2_1 h2_2z h2_2l h2_3 h2_4 h4z h4l h4x r h R hR fr H hc
 obtain ⟨j, rfl⟩ : ∃ i, j = i + 1 := ⟨j - 1, by omega⟩
 rw [zhk, hc]; clear hc
 rw [zlu] at h
 replace h := br h; rcases h with ⟨h1, h⟩ | ⟨h1, h⟩
 ·replace h := bn h; obtain ⟨h2, h⟩ := h
  replace h := bn h; obtain ⟨h3, h⟩ := h
  replace h := ob h; obtain ⟨e5, h4, h⟩ := h
  replace h := br h; rcases h with ⟨h5, h⟩ | ⟨h5, h⟩
  ·replace h := ob h; obtain ⟨r6, h6, h⟩ := h
   replace h6 := zbe8 q (M + 6) (by omega) _ _ h6
   try simp only [kf, simprocAttr] at h6
   replace h := bb h; rcases h with ⟨h7', h7, h⟩ | ⟨h7', h7, h⟩
   ·replace h := ob h; obtain ⟨r7, h8, h⟩ := h
    replace h8 := zbfw q (M + 6) (by omega) _ _ _ h8
    try simp only [kf, simprocAttr] at h8
    replace h := ob h; obtain ⟨r8, h9, h⟩ := h
    replace h9 := zbem q (M + 6) (by omega) _ _ _ h9
    try simp only [kf, simprocAttr] at h9
    replace h := zbin M (by omega) j (by omega) w0 w1 _ _ _ _ _ _ _ _ _ _ _ _ _ _ h R hR
    simp only [zbif, simprocAttr, *]
   ·cases h; subst hR; simp only [zbif, simprocAttr, *]
  ·cases h; subst hR; simp only [zbif, simprocAttr, *]
 ·cases h; subst hR; simp only [zbif, simprocAttr, *]
theorem zbii : ∀ q, zbid q ∧ zbie q
 | 0 => by refine ⟨?_, ?_⟩ <;> (intro M hM j hj; intros; rename_i h _ _ _ _ _; cases h)
 | q + 1 => by have ⟨i0, i1⟩ := zbii q; exact ⟨zbig q i1, zbih q i1⟩
theorem zbij : ∀ (q M : Nat), 8 * q ≤ M → ∀ (w0 w1 : Nat), ∀ (h0l : List Int), ∀ (h1l : List zjr), ∀ (r : Nat × Int × Bool × Nat × Int × Int × Bool × (List Int) × Bool × Int × Nat × Bool × (List zjn) × Bool), zlw q h0l h1l = some r → (orc T (M + 7)).inl F.zmr [(.agg [(.int .i64 0), (.int .i64 0), (.vw 0 w0 0 h0l.length 1), (.bool false), (.int .i64 0), (.sl true [])]), (.vw 1 w1 0 h1l.length 1)] [(.row w0 false 1 (List.map (V.int .i64) h0l) true), (.row w1 false 7 (List.map zjr.enc h1l) true)] = (if r.1 = 0 then (some ([(.agg [(.int .i64 0), (.int .i64 0), (.sl true []), (.bool false), (.int .i64 0), (.sl true [])]), (.int .i64 r.2.1)], [(.row w0 false 1 (List.map (V.int .i64) h0l) r.2.2.1), (.row w1 false 7 (List.map zjr.enc h1l) true)]) : Option (List V × Hp)) else (if r.1 = 1 then (some ([(.agg [(.int .i64 0), (.int .i64 0), (.vw 0 w0 0 r.2.2.2.1 1), (.bool false), (.int .i64 0), (.sl true [])]), (.int .i64 0)], [(.row w0 false 1 (List.map (V.int .i64) h0l) true), (.row w1 false 7 (List.map zjr.enc h1l) true)]) : Option (List V × Hp)) else (some ([(.agg [(.int .i64 r.2.2.2.2.1), (.int .i64 r.2.2.2.2.2.1), (.sl r.2.2.2.2.2.2.1 (List.map (V.int .i64) r.2.2.2.2.2.2.2.1)), (.bool r.2.2.2.2.2.2.2.2.1), (.int .i64 r.2.2.2.2.2.2.2.2.2.1), (.vw 2 0 0 r.2.2.2.2.2.2.2.2.2.2.1 1)]), (.int .i64 0)], [(.row w0 false 1 (List.map (V.int .i64) h0l) false), (.row w1 false 7 (List.map zjr.enc h1l) true), (.row 0 r.2.2.2.2.2.2.2.2.2.2.2.1 3 (List.map zjn.enc r.2.2.2.2.2.2.2.2.2.2.2.2.1) r.2.2.2.2.2.2.2.2.2.2.2.2.2)]) : Option (List V × Hp)))) := by
 intro q M hM w0 w1 h0l h1l r h
 rcases q with _ | q
 ·cases h
 have ih_ferrymanlaw09_awake_s0_l0 := (zbii q).1
 generalize hR : (if r.1 = 0 then (some ([(.agg [(.int .i64 0), (.int .i64 0), (.sl true []), (.bool false), (.int .i64 0), (.sl true [])]), (.int .i64 r.2.1)], [(.row w0 false 1 (List.map (V.int .i64) h0l) r.2.2.1), (.row w1 false 7 (List.map zjr.enc h1l) true)]) : Option (List V × Hp)) else (if r.1 = 1 then (some ([(.agg [(.int .i64 0), (.int .i64 0), (.vw 0 w0 0 r.2.2.2.1 1), (.bool false), (.int .i64 0), (.sl true [])]), (.int .i64 0)], [(.row w0 false 1 (List.map (V.int .i64) h0l) true), (.row w1 false 7 (List.map zjr.enc h1l) true)]) : Option (List V × Hp)) else (some ([(.agg [(.int .i64 r.2.2.2.2.1), (.int .i64 r.2.2.2.2.2.1), (.sl r.2.2.2.2.2.2.1 (List.map (V.int .i64) r.2.2.2.2.2.2.2.1)), (.bool r.2.2.2.2.2.2.2.2.1), (.int .i64 r.2.2.2.2.2.2.2.2.2.1), (.vw 2 0 0 r.2.2.2.2.2.2.2.2.2.2.1 1)]), (.int .i64 0)], [(.row w0 false 1 (List.map (V.int .i64) h0l) false), (.row w1 false 7 (List.map zjr.enc h1l) true), (.row 0 r.2.2.2.2.2.2.2.2.2.2.2.1 3 (List.map zjn.enc r.2.2.2.2.2.2.2.2.2.2.2.2.1) r.2.2.2.2.2.2.2.2.2.2.2.2.2)]) : Option (List V × Hp)))) = R
 rw [z6z (n := M + 6)]
 rw [zlw] at h
 replace h := ih_ferrymanlaw09_awake_s0_l0 M (by omega) (M + 6) (by omega) w0 w1 _ _ _ _ h R hR
 simp only [zbif, simprocAttr, *]
def zbik := And.intro @kk <| And.intro @ke <| And.intro @kn <| And.intro @z63 <| And.intro @z6y <| And.intro @z7a <| @z65
theorem zbil : ∀ (q N : Nat), 8 * q ≤ N → ∀ (r : Bool), zlx q = some r → (orc T N).deep F.zlx [] = some [V.bool r] := by
 intro q N hM r h
 rcases q with _ | q
 ·cases h
 obtain ⟨M, rfl⟩ : ∃ M, N = M + 8 := ⟨N - 8, by omega⟩
 generalize hR : some [V.bool r] = R
 rw [zhu, z48, y4, zhs zof rfl]
 rw [zlx] at h
 replace h := ob h; obtain ⟨r1, h1, h⟩ := h
 replace h1 := zbij q M (by omega) 0 0 _ _ _ h1
 try simp only [kf, simprocAttr] at h1
 replace h := br h; rcases h with ⟨h2, h⟩ | ⟨h2, h⟩
 ·replace h := ob h; obtain ⟨r2, h3, h⟩ := h
  replace h3 := zbic q (M + 7) (by omega) _ _ h3
  try simp only [kf, simprocAttr] at h3
  replace h := br h; rcases h with ⟨h4, h⟩ | ⟨h4, h⟩
  ·replace h := br h; rcases h with ⟨h5, h⟩ | ⟨h5, h⟩
   ·replace h := br h; rcases h with ⟨h6, h⟩ | ⟨h6, h⟩
    ·cases h; subst hR; simp only [zbik, simprocAttr, *]
    ·cases h; subst hR; simp only [zbik, simprocAttr, *]
   ·cases h; subst hR; simp only [zbik, simprocAttr, *]
  ·cases h; subst hR; simp only [zbik, simprocAttr, *]
 ·replace h := br h; rcases h with ⟨h7, h⟩ | ⟨h7, h⟩
  ·replace h := ob h; obtain ⟨r3, h8, h⟩ := h
   replace h8 := zbic q (M + 7) (by omega) _ _ h8
   try simp only [kf, simprocAttr] at h8
   replace h := br h; rcases h with ⟨h9, h⟩ | ⟨h9, h⟩
   ·replace h := br h; rcases h with ⟨h10, h⟩ | ⟨h10, h⟩
    ·cases h; subst hR; simp only [zbik, simprocAttr, *]
    ·cases h; subst hR; simp only [zbik, simprocAttr, *]
   ·cases h; subst hR; simp only [zbik, simprocAttr, *]
  ·replace h := ob h; obtain ⟨r4, h11, h⟩ := h
   replace h11 := zbic q (M + 7) (by omega) _ _ h11
   try simp only [kf, simprocAttr] at h11
   replace h := br h; rcases h with ⟨h12, h⟩ | ⟨h12, h⟩
   ·replace h := br h; rcases h with ⟨h13, h⟩ | ⟨h13, h⟩
    ·replace h := br h; rcases h with ⟨h14, h⟩ | ⟨h14, h⟩
     ·replace h := br h; rcases h with ⟨h15, h⟩ | ⟨h15, h⟩
      ·replace h := bn h; obtain ⟨h16, h⟩ := h
       replace h := ob h; obtain ⟨e5, h17, h⟩ := h
       replace h := br h; rcases h with ⟨h18, h⟩ | ⟨h18, h⟩
       ·replace h := br h; rcases h with ⟨h19, h⟩ | ⟨h19, h⟩
        ·replace h := br h; rcases h with ⟨h20, h⟩ | ⟨h20, h⟩
         ·replace h := br h; rcases h with ⟨h21, h⟩ | ⟨h21, h⟩
          ·replace h := ob h; obtain ⟨e6, h22, h⟩ := h
           cases h; subst hR; simp only [zbik, simprocAttr, *]
          ·cases h; subst hR; simp only [zbik, simprocAttr, *]
         ·cases h; subst hR; simp only [zbik, simprocAttr, *]
        ·cases h; subst hR; simp only [zbik, simprocAttr, *]
       ·cases h; subst hR; simp only [zbik, simprocAttr, *]
      ·cases h; subst hR; simp only [zbik, simprocAttr, *]
     ·cases h; subst hR; simp only [zbik, simprocAttr, *]
    ·cases h; subst hR; simp only [zbik, simprocAttr, *]
   ·cases h; subst hR; simp only [zbik, simprocAttr, *]
end Go.Dvm.C
