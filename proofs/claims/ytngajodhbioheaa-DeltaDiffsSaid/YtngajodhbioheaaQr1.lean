/- The machine comes to these answers: part 2. -/
import Derived.Test.YtngajodhbioheaaQl0
import Derived.Test.YtngajodhbioheaaQr0
set_option linter.all false
set_option maxRecDepth 100000
set_option maxHeartbeats 4000000
namespace Go.Dvm.C
open Go Go.Dvm Go.Dvm.I
def z88 (q : Nat) : Prop := ∀ (M : Nat) (hM : 8 * q ≤ M) (j : Nat) (hj : q ≤ j) (v8 h0_0 h0_1 : Int) (h0_2z : Bool) (h0_2l : List Int) (h0_3 : Bool) (h0_4 : Int) (h0_5z : Bool) (h0_5l : List zjm) (h1_0 h1_1 : Int) (h1_2z : Bool) (h1_2l : List Int) (h1_3 : Bool) (h1_4 : Int) (h1_5z : Bool) (h1_5l : List zjm) (r : zjo × Int) (_ : zlk q v8 h0_0 h0_1 h0_2z h0_2l h0_3 h0_4 h0_5z h0_5l h1_0 h1_1 h1_2z h1_2l h1_3 h1_4 h1_5z h1_5l = some r) (R : Option (List V)) (_ : some [zjo.enc r.1, (V.int .i64) r.2] = R) (fr : Fr) (H : Hp) (_ : canon 0 [2, 3, 4, 8] fr H = ([(2, (.ptr 0 0)), (3, (.ptr 1 0)), (4, (.ptr 2 0)), (8, (.int .i64 v8))], [(.box [(.int .i64 h0_0), (.int .i64 h0_1), (.sl h0_2z (List.map (V.int .i64) h0_2l)), (.bool h0_3), (.int .i64 h0_4), (.sl h0_5z (List.map zjm.enc h0_5l))]), (.box [(.int .i64 h1_0), (.int .i64 h1_1), (.sl h1_2z (List.map (V.int .i64) h1_2l)), (.bool h1_3), (.int .i64 h1_4), (.sl h1_5z (List.map zjm.enc h1_5l))]), (.box [(.int .i64 0), (.int .i64 0), (.int .i64 0), (.int .i64 0), (.sl true []), (.bool false), (.int .i64 0), (.sl true [])])])), fin zos (unw T (orc T (M + 7)) (M + 7) 0 [.blk 0, .code zom] (iter 0 [2, 3, 4, 8] (exec T (orc T (M + 7)) (M + 7) 0 znd) j fr H)) = R
def z89 (q : Nat) : Prop := ∀ (M : Nat) (hM : 8 * q ≤ M) (j : Nat) (hj : q ≤ j) (v12z : Bool) (v12l : List Int) (v13z : Bool) (v13l : List Int) (h0_0 h0_1 : Int) (h0_2z : Bool) (h0_2l : List Int) (h0_3 : Bool) (h0_4 : Int) (h0_5z : Bool) (h0_5l : List zjm) (h1_0 h1_1 : Int) (h1_2z : Bool) (h1_2l : List Int) (h1_3 : Bool) (h1_4 : Int) (h1_5z : Bool) (h1_5l : List zjm) (h3_0 h3_1 h3_2 : Int) (h3_5 : Bool) (h3_6 : Int) (r : zjo × Int) (_ : zlj q v12z v12l v13z v13l h0_0 h0_1 h0_2z h0_2l h0_3 h0_4 h0_5z h0_5l h1_0 h1_1 h1_2z h1_2l h1_3 h1_4 h1_5z h1_5l h3_0 h3_1 h3_2 h3_5 h3_6 = some r) (R : Option (List V)) (_ : some [zjo.enc r.1, (V.int .i64) r.2] = R) (fr : Fr) (H : Hp) (_ : canon 0 [2, 3, 4, 11, 12, 13] fr H = ([(2, (.ptr 0 0)), (3, (.ptr 1 0)), (4, (.ptr 2 0)), (11, (.ptr 3 0)), (12, (.sl v12z (List.map (V.int .i64) v12l))), (13, (.sl v13z (List.map (V.int .i64) v13l)))], [(.box [(.int .i64 h0_0), (.int .i64 h0_1), (.sl h0_2z (List.map (V.int .i64) h0_2l)), (.bool h0_3), (.int .i64 h0_4), (.sl h0_5z (List.map zjm.enc h0_5l))]), (.box [(.int .i64 h1_0), (.int .i64 h1_1), (.sl h1_2z (List.map (V.int .i64) h1_2l)), (.bool h1_3), (.int .i64 h1_4), (.sl h1_5z (List.map zjm.enc h1_5l))]), (.box [(.int .i64 0), (.int .i64 0), (.int .i64 0), (.int .i64 0), (.sl true []), (.bool false), (.int .i64 0), (.sl true [])]), (.box [(.int .i64 h3_0), (.int .i64 h3_1), (.int .i64 h3_2), (.int .i64 0), (.sl true []), (.bool h3_5), (.int .i64 h3_6), (.sl true [])])])), fin zos (unw T (orc T (M + 7)) (M + 7) 0 [.blk 2, .code zoh] (iter 0 [2, 3, 4, 11, 12, 13] (exec T (orc T (M + 7)) (M + 7) 0 znp) j fr H)) = R
def z9a (q : Nat) : Prop := ∀ (M : Nat) (hM : 8 * q ≤ M) (j : Nat) (hj : q ≤ j) (v12z : Bool) (v12l : List Int) (v13z : Bool) (v13l : List Int) (h0_0 h0_1 : Int) (h0_2z : Bool) (h0_2l : List Int) (h0_3 : Bool) (h0_4 : Int) (h0_5z : Bool) (h0_5l : List zjm) (h1_0 h1_1 : Int) (h1_2z : Bool) (h1_2l : List Int) (h1_3 : Bool) (h1_4 : Int) (h1_5z : Bool) (h1_5l : List zjm) (h3_0 h3_1 h3_2 h3_3 : Int) (h3_5 : Bool) (h3_6 : Int) (r : zjo × Int) (_ : zli q v12z v12l v13z v13l h0_0 h0_1 h0_2z h0_2l h0_3 h0_4 h0_5z h0_5l h1_0 h1_1 h1_2z h1_2l h1_3 h1_4 h1_5z h1_5l h3_0 h3_1 h3_2 h3_3 h3_5 h3_6 = some r) (R : Option (List V)) (_ : some [zjo.enc r.1, (V.int .i64) r.2] = R) (fr : Fr) (H : Hp) (_ : canon 0 [2, 3, 4, 11, 12, 13] fr H = ([(2, (.ptr 0 0)), (3, (.ptr 1 0)), (4, (.ptr 2 0)), (11, (.ptr 3 0)), (12, (.sl v12z (List.map (V.int .i64) v12l))), (13, (.sl v13z (List.map (V.int .i64) v13l)))], [(.box [(.int .i64 h0_0), (.int .i64 h0_1), (.sl h0_2z (List.map (V.int .i64) h0_2l)), (.bool h0_3), (.int .i64 h0_4), (.sl h0_5z (List.map zjm.enc h0_5l))]), (.box [(.int .i64 h1_0), (.int .i64 h1_1), (.sl h1_2z (List.map (V.int .i64) h1_2l)), (.bool h1_3), (.int .i64 h1_4), (.sl h1_5z (List.map zjm.enc h1_5l))]), (.box [(.int .i64 0), (.int .i64 0), (.int .i64 0), (.int .i64 0), (.sl true []), (.bool false), (.int .i64 0), (.sl true [])]), (.box [(.int .i64 h3_0), (.int .i64 h3_1), (.int .i64 h3_2), (.int .i64 h3_3), (.sl true []), (.bool h3_5), (.int .i64 h3_6), (.sl true [])])])), fin zos (unw T (orc T (M + 7)) (M + 7) 0 [.blk 4, .code zoe] (iter 0 [2, 3, 4, 11, 12, 13] (exec T (orc T (M + 7)) (M + 7) 0 znw) j fr H)) = R
def z9b (q : Nat) : Prop := ∀ (M : Nat) (hM : 8 * q ≤ M) (j : Nat) (hj : q ≤ j) (v14 h0_0 h0_1 : Int) (h0_2z : Bool) (h0_2l : List Int) (h0_3 : Bool) (h0_4 : Int) (h0_5z : Bool) (h0_5l : List zjm) (h1_0 h1_1 : Int) (h1_2z : Bool) (h1_2l : List Int) (h1_3 : Bool) (h1_4 : Int) (h1_5z : Bool) (h1_5l : List zjm) (h3_0 h3_1 h3_2 h3_3 : Int) (h3_5 : Bool) (h3_6 : Int) (h4z : Bool) (h4l : List Int) (r : zjo × Int) (_ : zlh q v14 h0_0 h0_1 h0_2z h0_2l h0_3 h0_4 h0_5z h0_5l h1_0 h1_1 h1_2z h1_2l h1_3 h1_4 h1_5z h1_5l h3_0 h3_1 h3_2 h3_3 h3_5 h3_6 h4z h4l = some r) (R : Option (List V)) (_ : some [zjo.enc r.1, (V.int .i64) r.2] = R) (fr : Fr) (H : Hp) (_ : canon 0 [2, 3, 4, 11, 14] fr H = ([(2, (.ptr 0 0)), (3, (.ptr 1 0)), (4, (.ptr 2 0)), (11, (.ptr 3 0)), (14, (.int .i64 v14))], [(.box [(.int .i64 h0_0), (.int .i64 h0_1), (.sl h0_2z (List.map (V.int .i64) h0_2l)), (.bool h0_3), (.int .i64 h0_4), (.sl h0_5z (List.map zjm.enc h0_5l))]), (.box [(.int .i64 h1_0), (.int .i64 h1_1), (.sl h1_2z (List.map (V.int .i64) h1_2l)), (.bool h1_3), (.int .i64 h1_4), (.sl h1_5z (List.map zjm.enc h1_5l))]), (.box [(.int .i64 0), (.int .i64 0), (.int .i64 0), (.int .i64 0), (.sl true []), (.bool false), (.int .i64 0), (.sl true [])]), (.box [(.int .i64 h3_0), (.int .i64 h3_1), (.int .i64 h3_2), (.int .i64 h3_3), (.vw 4 0 0 h4l.length 1), (.bool h3_5), (.int .i64 h3_6), (.sl true [])]), (.row 0 h4z 1 (List.map (V.int .i64) h4l) true)])), fin zos (unw T (orc T (M + 7)) (M + 7) 0 [.blk 6, .code zoc] (iter 0 [2, 3, 4, 11, 14] (exec T (orc T (M + 7)) (M + 7) 0 zn9) j fr H)) = R
def z9c (q : Nat) : Prop := ∀ (M : Nat) (hM : 8 * q ≤ M) (j : Nat) (hj : q ≤ j) (v14 h0_0 h0_1 : Int) (h0_2z : Bool) (h0_2l : List Int) (h0_3 : Bool) (h0_4 : Int) (h0_5z : Bool) (h0_5l : List zjm) (h1_0 h1_1 : Int) (h1_2z : Bool) (h1_2l : List Int) (h1_3 : Bool) (h1_4 : Int) (h1_5z : Bool) (h1_5l : List zjm) (h3_0 h3_1 h3_2 h3_3 : Int) (h3_5 : Bool) (h3_6 : Int) (h4z : Bool) (h4l : List Int) (h5l : List zjm) (r : zjo × Int) (_ : zlg q v14 h0_0 h0_1 h0_2z h0_2l h0_3 h0_4 h0_5z h0_5l h1_0 h1_1 h1_2z h1_2l h1_3 h1_4 h1_5z h1_5l h3_0 h3_1 h3_2 h3_3 h3_5 h3_6 h4z h4l h5l = some r) (R : Option (List V)) (_ : some [zjo.enc r.1, (V.int .i64) r.2] = R) (fr : Fr) (H : Hp) (_ : canon 0 [2, 3, 4, 11, 14] fr H = ([(2, (.ptr 0 0)), (3, (.ptr 1 0)), (4, (.ptr 2 0)), (11, (.ptr 3 0)), (14, (.int .i64 v14))], [(.box [(.int .i64 h0_0), (.int .i64 h0_1), (.sl h0_2z (List.map (V.int .i64) h0_2l)), (.bool h0_3), (.int .i64 h0_4), (.sl h0_5z (List.map zjm.enc h0_5l))]), (.box [(.int .i64 h1_0), (.int .i64 h1_1), (.sl h1_2z (List.map (V.int .i64) h1_2l)), (.bool h1_3), (.int .i64 h1_4), (.sl h1_5z (List.map zjm.enc h1_5l))]), (.box [(.int .i64 0), (.int .i64 0), (.int .i64 0), (.int .i64 0), (.sl true []), (.bool false), (.int .i64 0), (.sl true [])]), (.box [(.int .i64 h3_0), (.int .i64 h3_1), (.int .i64 h3_2), (.int .i64 h3_3), (.vw 4 0 0 h4l.length 1), (.bool h3_5), (.int .i64 h3_6), (.vw 5 0 0 h5l.length 1)]), (.row 0 h4z 1 (List.map (V.int .i64) h4l) true), (.row 0 false 3 (List.map zjm.enc h5l) true)])), fin zos (unw T (orc T (M + 7)) (M + 7) 0 [.blk 6, .code zoc] (iter 0 [2, 3, 4, 11, 14] (exec T (orc T (M + 7)) (M + 7) 0 zn9) j fr H)) = R
def z9d := And.intro @kk <| And.intro @ke <| And.intro @kn <| And.intro @z0a <| And.intro @z0t <| And.intro @z1n <| @z0c
theorem z9e (q : Nat) (z9u : z88 q) (z9v : z89 q) : z88 (q + 1) := by
 intro M hM j hj v8 h0_0 h0_1 h0_2z h0_2l h0_3 h0_4 h0_5z h0_5l h1_0 h1_1 h1_2z h1_2l h1_3 h1_4 h1_5z h1_5l r h R hR fr H hc
 obtain ⟨j, rfl⟩ : ∃ i, j = i + 1 := ⟨j - 1, by omega⟩
 rw [zhn, hc]; clear hc
 rw [zlk] at h
 replace h := br h; rcases h with ⟨h1, h⟩ | ⟨h1, h⟩
 ·replace h := bn h; obtain ⟨h2, h⟩ := h
  replace h := ob h; obtain ⟨e3, h3, h⟩ := h
  replace h := ob h; obtain ⟨r4, h4, h⟩ := h
  replace h4 := z8k q (M + 7) (by omega) _ _ _ h4
  try simp only [kf, simprocAttr] at h4
  replace h := bb h; rcases h with ⟨h5', h5, h⟩ | ⟨h5', h5, h⟩
  ·replace h := z9u M (by omega) j (by omega) _ _ _ _ _ _ _ _ _ _ _ _ _ _ _ _ _ _ h R hR
   simp only [z9d, simprocAttr, *]
  ·cases h; subst hR; simp only [z9d, simprocAttr, *]
 ·replace h := br h; rcases h with ⟨h6, h⟩ | ⟨h6, h⟩
  ·cases h; subst hR; simp only [z9d, simprocAttr, *]
  ·replace h := z9v M (by omega) (M + 7) (by omega) _ _ _ _ _ _ _ _ _ _ _ _ _ _ _ _ _ _ _ _ _ _ _ _ _ _ h R hR
   simp only [z9d, simprocAttr, *]
theorem z9f (q : Nat) (z9v : z89 q) (z9w : z9a q) : z89 (q + 1) := by
 intro M hM j hj v12z v12l v13z v13l h0_0 h0_1 h0_2z h0_2l h0_3 h0_4 h0_5z h0_5l h1_0 h1_1 h1_2z h1_2l h1_3 h1_4 h1_5z h1_5l h3_0 h3_1 h3_2 h3_5 h3_6 r h R hR fr H hc
 obtain ⟨j, rfl⟩ : ∃ i, j = i + 1 := ⟨j - 1, by omega⟩
 rw [zhn, hc]; clear hc
 rw [zlj] at h
 replace h := br h; rcases h with ⟨h1, h⟩ | ⟨h1, h⟩
 ·replace h := br h; rcases h with ⟨h2, h⟩ | ⟨h2, h⟩
  ·replace h := bn h; obtain ⟨h3, h⟩ := h
   replace h := ob h; obtain ⟨e5, h4, h⟩ := h
   replace h := ob h; obtain ⟨e6, h5, h⟩ := h
   replace h := br h; rcases h with ⟨h6, h⟩ | ⟨h6, h⟩
   ·replace h := z9v M (by omega) j (by omega) _ _ _ _ _ _ _ _ _ _ _ _ _ _ _ _ _ _ _ _ _ _ _ _ _ _ h R hR
    simp only [z9d, simprocAttr, *]
   ·replace h := bn h; obtain ⟨h7, h⟩ := h
    replace h := bn h; obtain ⟨h8, h⟩ := h
    replace h := z9w M (by omega) (M + 7) (by omega) _ _ _ _ _ _ _ _ _ _ _ _ _ _ _ _ _ _ _ _ _ _ _ _ _ _ _ h R hR
    simp only [z9d, simprocAttr, *]
  ·replace h := bn h; obtain ⟨h9, h⟩ := h
   replace h := bn h; obtain ⟨h10, h⟩ := h
   replace h := bn h; obtain ⟨h11, h⟩ := h
   replace h := z9w M (by omega) (M + 7) (by omega) _ _ _ _ _ _ _ _ _ _ _ _ _ _ _ _ _ _ _ _ _ _ _ _ _ _ _ h R hR
   simp only [z9d, simprocAttr, *]
 ·replace h := bn h; obtain ⟨h12, h⟩ := h
  replace h := bn h; obtain ⟨h13, h⟩ := h
  replace h := bn h; obtain ⟨h14, h⟩ := h
  replace h := z9w M (by omega) (M + 7) (by omega) _ _ _ _ _ _ _ _ _ _ _ _ _ _ _ _ _ _ _ _ _ _ _ _ _ _ _ h R hR
  simp only [z9d, simprocAttr, *]
theorem z9g (q : Nat) (z9w : z9a q) (z9x : z9b q) : z9a (q + 1) := by
 intro M hM j hj v12z v12l v13z v13l h0_0 h0_1 h0_2z h0_2l h0_3 h0_4 h0_5z h0_5l h1_0 h1_1 h1_2z h1_2l h1_3 h1_4 h1_5z h1_5l h3_0 h3_1 h3_2 h3_3 h3_5 h3_6 r h R hR fr H hc
 obtain ⟨j, rfl⟩ : ∃ i, j = i + 1 := ⟨j - 1, by omega⟩
 rw [zhn, hc]; clear hc
 rw [zli] at h
 replace h := br h; rcases h with ⟨h1, h⟩ | ⟨h1, h⟩
 ·replace h := br h; rcases h with ⟨h2, h⟩ | ⟨h2, h⟩
  ·replace h := bn h; obtain ⟨h3, h⟩ := h
   replace h := ob h; obtain ⟨e7, h4, h⟩ := h
   replace h := bn h; obtain ⟨h5, h⟩ := h
   replace h := ob h; obtain ⟨e8, h6, h⟩ := h
   replace h := br h; rcases h with ⟨h7, h⟩ | ⟨h7, h⟩
   ·replace h := z9w M (by omega) j (by omega) _ _ _ _ _ _ _ _ _ _ _ _ _ _ _ _ _ _ _ _ _ _ _ _ _ _ _ h R hR
    simp only [z9d, simprocAttr, *]
   ·replace h := bn h; obtain ⟨h8, h⟩ := h
    replace h := bn h; obtain ⟨h9, h⟩ := h
    replace h := bn h; obtain ⟨h10, h⟩ := h
    replace h := z9x M (by omega) (M + 7) (by omega) _ _ _ _ _ _ _ _ _ _ _ _ _ _ _ _ _ _ _ _ _ _ _ _ _ _ h R hR
    simp only [z9d, simprocAttr, *]
  ·replace h := bn h; obtain ⟨h11, h⟩ := h
   replace h := bn h; obtain ⟨h12, h⟩ := h
   replace h := bn h; obtain ⟨h13, h⟩ := h
   replace h := z9x M (by omega) (M + 7) (by omega) _ _ _ _ _ _ _ _ _ _ _ _ _ _ _ _ _ _ _ _ _ _ _ _ _ _ h R hR
   simp only [z9d, simprocAttr, *]
 ·replace h := bn h; obtain ⟨h14, h⟩ := h
  replace h := bn h; obtain ⟨h15, h⟩ := h
  replace h := bn h; obtain ⟨h16, h⟩ := h
  replace h := z9x M (by omega) (M + 7) (by omega) _ _ _ _ _ _ _ _ _ _ _ _ _ _ _ _ _ _ _ _ _ _ _ _ _ _ h R hR
  simp only [z9d, simprocAttr, *]
theorem z9h (q : Nat) (z9x : z9b q) (z9y : z9c q) : z9b (q + 1) := by
 intro M hM j hj v14 h0_0 h0_1 h0_2z h0_2l h0_3 h0_4 h0_5z h0_5l h1_0 h1_1 h1_2z h1_2l h1_3 h1_4 h1_5z h1_5l h3_0 h3_1 h3_2 h3_3 h3_5 h3_6 h4z h4l r h R hR fr H hc
 obtain ⟨j, rfl⟩ : ∃ i, j = i + 1 := ⟨j - 1, by omega⟩
 rw [zhn, hc]; clear hc
 rw [zlh] at h
 replace h := br h; rcases h with ⟨h1, h⟩ | ⟨h1, h⟩
 ·replace h := bn h; obtain ⟨h2, h⟩ := h
  replace h := ob h; obtain ⟨e9, h3, h⟩ := h
  replace h := ob h; obtain ⟨r10, h4, h⟩ := h
  replace h4 := z8k q (M + 7) (by omega) _ _ _ h4
  try simp only [kf, simprocAttr] at h4
  replace h := bb h; rcases h with ⟨h5', h5, h⟩ | ⟨h5', h5, h⟩
  ·replace h := br h; rcases h with ⟨h6, h⟩ | ⟨h6, h⟩
   ·replace h := br h; rcases h with ⟨h7, h⟩ | ⟨h7, h⟩
    ·replace h := br h; rcases h with ⟨h8, h⟩ | ⟨h8, h⟩
     ·replace h := z9x M (by omega) j (by omega) _ _ _ _ _ _ _ _ _ _ _ _ _ _ _ _ _ _ _ _ _ _ _ _ _ _ h R hR
      simp only [z9d, simprocAttr, *]
     ·replace h := z9y M (by omega) j (by omega) _ _ _ _ _ _ _ _ _ _ _ _ _ _ _ _ _ _ _ _ _ _ _ _ _ _ _ h R hR
      simp only [z9d, simprocAttr, *]
    ·replace h := z9y M (by omega) j (by omega) _ _ _ _ _ _ _ _ _ _ _ _ _ _ _ _ _ _ _ _ _ _ _ _ _ _ _ h R hR
     simp only [z9d, simprocAttr, *]
   ·replace h := z9y M (by omega) j (by omega) _ _ _ _ _ _ _ _ _ _ _ _ _ _ _ _ _ _ _ _ _ _ _ _ _ _ _ h R hR
    simp only [z9d, simprocAttr, *]
  ·replace h := z9y M (by omega) j (by omega) _ _ _ _ _ _ _ _ _ _ _ _ _ _ _ _ _ _ _ _ _ _ _ _ _ _ _ h R hR
   simp only [z9d, simprocAttr, *]
 ·cases h; subst hR; simp only [z9d, simprocAttr, *]
theorem z9i (q : Nat) (z9y : z9c q) : z9c (q + 1) := by
 intro M hM j hj v14 h0_0 h0_1 h0_2z h0_2l h0_3 h0_4 h0_5z h0_5l h1_0 h1_1 h1_2z h1_2l h1_3 h1_4 h1_5z h1_5l h3_0 h3_1 h3_2 h3_3 h3_5 h3_6 h4z h4l h5l r h R hR fr H hc
 obtain ⟨j, rfl⟩ : ∃ i, j = i + 1 := ⟨j - 1, by omega⟩
 rw [zhn, hc]; clear hc
 rw [zlg] at h
 replace h := br h; rcases h with ⟨h1, h⟩ | ⟨h1, h⟩
 ·replace h := bn h; obtain ⟨h2, h⟩ := h
  replace h := ob h; obtain ⟨e11, h3, h⟩ := h
  replace h := ob h; obtain ⟨r12, h4, h⟩ := h
  replace h4 := z8k q (M + 7) (by omega) _ _ _ h4
  try simp only [kf, simprocAttr] at h4
  replace h := bb h; rcases h with ⟨h5', h5, h⟩ | ⟨h5', h5, h⟩
  ·replace h := br h; rcases h with ⟨h6, h⟩ | ⟨h6, h⟩
   ·replace h := br h; rcases h with ⟨h7, h⟩ | ⟨h7, h⟩
    ·replace h := br h; rcases h with ⟨h8, h⟩ | ⟨h8, h⟩
     ·replace h := z9y M (by omega) j (by omega) _ _ _ _ _ _ _ _ _ _ _ _ _ _ _ _ _ _ _ _ _ _ _ _ _ _ _ h R hR
      simp only [z9d, simprocAttr, *]
     ·replace h := bn h; obtain ⟨h9, h⟩ := h
      replace h := z9y M (by omega) j (by omega) _ _ _ _ _ _ _ _ _ _ _ _ _ _ _ _ _ _ _ _ _ _ _ _ _ _ _ h R hR
      simp only [z9d, simprocAttr, *]
    ·replace h := bn h; obtain ⟨h10, h⟩ := h
     replace h := z9y M (by omega) j (by omega) _ _ _ _ _ _ _ _ _ _ _ _ _ _ _ _ _ _ _ _ _ _ _ _ _ _ _ h R hR
     simp only [z9d, simprocAttr, *]
   ·replace h := bn h; obtain ⟨h11, h⟩ := h
    replace h := z9y M (by omega) j (by omega) _ _ _ _ _ _ _ _ _ _ _ _ _ _ _ _ _ _ _ _ _ _ _ _ _ _ _ h R hR
    simp only [z9d, simprocAttr, *]
  ·replace h := bn h; obtain ⟨h12, h⟩ := h
   replace h := z9y M (by omega) j (by omega) _ _ _ _ _ _ _ _ _ _ _ _ _ _ _ _ _ _ _ _ _ _ _ _ _ _ _ h R hR
   simp only [z9d, simprocAttr, *]
 ·cases h; subst hR; simp only [z9d, simprocAttr, *]
theorem z9j : ∀ q, z88 q ∧ z89 q ∧ z9a q ∧ z9b q ∧ z9c q
 | 0 => by refine ⟨?_, ?_, ?_, ?_, ?_⟩ <;> (intro M hM j hj; intros; rename_i h _ _ _ _ _; cases h)
 | q + 1 => by have ⟨i0, i1, i2, i3, i4⟩ := z9j q; exact ⟨z9e q i0 i1, z9f q i1 i2, z9g q i2 i3, z9h q i3 i4, z9i q i4⟩
theorem z9k : ∀ (q N : Nat), 8 * q ≤ N → ∀ (a0 a1 : zjn), ∀ (r : zjo × Int), zll q a0 a1 = some r → (orc T N).deep F.zll [zjn.enc a0, zjn.enc a1] = some [zjo.enc r.1, (V.int .i64) r.2] := by
 intro q N hM a0 a1 r h
 rcases q with _ | q
 ·cases h
 obtain ⟨M, rfl⟩ : ∃ M, N = M + 8 := ⟨N - 8, by omega⟩
 have z9u := (z9j q).1
 generalize hR : some [zjo.enc r.1, (V.int .i64) r.2] = R
 rw [zhw, zyv, y8, zhu]
 rw [zll] at h
 replace h := ob h; obtain ⟨r1, h1, h⟩ := h
 replace h1 := z8f q (M + 7) (by omega) _ _ h1
 try simp only [kf, simprocAttr] at h1
 replace h := ob h; obtain ⟨r2, h2, h⟩ := h
 replace h2 := z8f q (M + 7) (by omega) _ _ h2
 try simp only [kf, simprocAttr] at h2
 replace h := bb h; rcases h with ⟨h3', h3, h⟩ | ⟨h3', h3, h⟩
 ·replace h := bb h; rcases h with ⟨h4', h4, h⟩ | ⟨h4', h4, h⟩
  ·replace h := br h; rcases h with ⟨h5, h⟩ | ⟨h5, h⟩
   ·replace h := z9u M (by omega) (M + 7) (by omega) _ _ _ _ _ _ _ _ _ _ _ _ _ _ _ _ _ _ h R hR
    simp only [z9d, simprocAttr, *]
   ·cases h; subst hR; simp only [z9d, simprocAttr, *]
  ·cases h; subst hR; simp only [z9d, simprocAttr, *]
 ·cases h; subst hR; simp only [z9d, simprocAttr, *]
def z9l (q : Nat) : Prop := ∀ (M : Nat) (hM : 8 * q ≤ M) (j : Nat) (hj : q ≤ j) (v5 h0_0 h0_1 h0_2 h0_3 : Int) (h0_4z : Bool) (h0_4l : List Int) (h0_5 : Bool) (h0_6 : Int) (h0_7z : Bool) (h0_7l : List zjm) (h1_0 h1_1 h1_2 h1_3 : Int) (h1_4z : Bool) (h1_4l : List Int) (h1_5 : Bool) (h1_6 : Int) (h1_7z : Bool) (h1_7l : List zjm) (r : Bool) (_ : zln q v5 h0_0 h0_1 h0_2 h0_3 h0_4z h0_4l h0_5 h0_6 h0_7z h0_7l h1_0 h1_1 h1_2 h1_3 h1_4z h1_4l h1_5 h1_6 h1_7z h1_7l = some r) (R : Option (List V)) (_ : some [V.bool r] = R) (fr : Fr) (H : Hp) (_ : canon 0 [2, 3, 5] fr H = ([(2, (.ptr 0 0)), (3, (.ptr 1 0)), (5, (.int .i64 v5))], [(.box [(.int .i64 h0_0), (.int .i64 h0_1), (.int .i64 h0_2), (.int .i64 h0_3), (.sl h0_4z (List.map (V.int .i64) h0_4l)), (.bool h0_5), (.int .i64 h0_6), (.sl h0_7z (List.map zjm.enc h0_7l))]), (.box [(.int .i64 h1_0), (.int .i64 h1_1), (.int .i64 h1_2), (.int .i64 h1_3), (.sl h1_4z (List.map (V.int .i64) h1_4l)), (.bool h1_5), (.int .i64 h1_6), (.sl h1_7z (List.map zjm.enc h1_7l))])])), fin zpg (unw T (orc T (M + 7)) (M + 7) 0 [.blk 0, .code zpc] (iter 0 [2, 3, 5] (exec T (orc T (M + 7)) (M + 7) 0 zox) j fr H)) = R
def z9m (q : Nat) : Prop := ∀ (M : Nat) (hM : 8 * q ≤ M) (j : Nat) (hj : q ≤ j) (v6 h0_0 h0_1 h0_2 h0_3 : Int) (h0_4z : Bool) (h0_4l : List Int) (h0_5 : Bool) (h0_6 : Int) (h0_7z : Bool) (h0_7l : List zjm) (h1_0 h1_1 h1_2 h1_3 : Int) (h1_4z : Bool) (h1_4l : List Int) (h1_5 : Bool) (h1_6 : Int) (h1_7z : Bool) (h1_7l : List zjm) (r : Bool) (_ : zlm q v6 h0_0 h0_1 h0_2 h0_3 h0_4z h0_4l h0_5 h0_6 h0_7z h0_7l h1_0 h1_1 h1_2 h1_3 h1_4z h1_4l h1_5 h1_6 h1_7z h1_7l = some r) (R : Option (List V)) (_ : some [V.bool r] = R) (fr : Fr) (H : Hp) (_ : canon 0 [2, 3, 6] fr H = ([(2, (.ptr 0 0)), (3, (.ptr 1 0)), (6, (.int .i64 v6))], [(.box [(.int .i64 h0_0), (.int .i64 h0_1), (.int .i64 h0_2), (.int .i64 h0_3), (.sl h0_4z (List.map (V.int .i64) h0_4l)), (.bool h0_5), (.int .i64 h0_6), (.sl h0_7z (List.map zjm.enc h0_7l))]), (.box [(.int .i64 h1_0), (.int .i64 h1_1), (.int .i64 h1_2), (.int .i64 h1_3), (.sl h1_4z (List.map (V.int .i64) h1_4l)), (.bool h1_5), (.int .i64 h1_6), (.sl h1_7z (List.map zjm.enc h1_7l))])])), fin zpg (unw T (orc T (M + 7)) (M + 7) 0 [.blk 2, .code zpb] (iter 0 [2, 3, 6] (exec T (orc T (M + 7)) (M + 7) 0 zo8) j fr H)) = R
def z9n := And.intro @kk <| And.intro @ke <| And.intro @kn <| And.intro @z0d <| @z0f
theorem z9o (q : Nat) (z9z : z9l q) (z90 : z9m q) : z9l (q + 1) := by
 intro M hM j hj v5 h0_0 h0_1 h0_2 h0_3 h0_4z h0_4l h0_5 h0_6 h0_7z h0_7l h1_0 h1_1 h1_2 h1_3 h1_4z h1_4l h1_5 h1_6 h1_7z h1_7l r h R hR fr H hc
 obtain ⟨j, rfl⟩ : ∃ i, j = i + 1 := ⟨j - 1, by omega⟩
 rw [zhn, hc]; clear hc
 rw [zln] at h
 replace h := br h; rcases h with ⟨h1, h⟩ | ⟨h1, h⟩
 ·replace h := bn h; obtain ⟨h2, h⟩ := h
  replace h := ob h; obtain ⟨e1, h3, h⟩ := h
  replace h := ob h; obtain ⟨e2, h4, h⟩ := h
  replace h := br h; rcases h with ⟨h5, h⟩ | ⟨h5, h⟩
  ·replace h := z9z M (by omega) j (by omega) _ _ _ _ _ _ _ _ _ _ _ _ _ _ _ _ _ _ _ _ _ _ h R hR
   simp only [z9n, simprocAttr, *]
  ·cases h; subst hR; simp only [z9n, simprocAttr, *]
 ·replace h := z90 M (by omega) (M + 7) (by omega) _ _ _ _ _ _ _ _ _ _ _ _ _ _ _ _ _ _ _ _ _ _ h R hR
  simp only [z9n, simprocAttr, *]
theorem z9p (q : Nat) (z90 : z9m q) : z9m (q + 1) := by
 intro M hM j hj v6 h0_0 h0_1 h0_2 h0_3 h0_4z h0_4l h0_5 h0_6 h0_7z h0_7l h1_0 h1_1 h1_2 h1_3 h1_4z h1_4l h1_5 h1_6 h1_7z h1_7l r h R hR fr H hc
 obtain ⟨j, rfl⟩ : ∃ i, j = i + 1 := ⟨j - 1, by omega⟩
 rw [zhn, hc]; clear hc
 rw [zlm] at h
 replace h := br h; rcases h with ⟨h1, h⟩ | ⟨h1, h⟩
 ·replace h := bn h; obtain ⟨h2, h⟩ := h
  replace h := ob h; obtain ⟨e3, h3, h⟩ := h
  replace h := ob h; obtain ⟨e4, h4, h⟩ := h
  replace h := br h; rcases h with ⟨h5, h⟩ | ⟨h5, h⟩
  ·replace h := br h; rcases h with ⟨h6, h⟩ | ⟨h6, h⟩
   ·replace h := br h; rcases h with ⟨h7, h⟩ | ⟨h7, h⟩
    ·replace h := z90 M (by omega) j (by omega) _ _ _ _ _ _ _ _ _ _ _ _ _ _ _ _ _ _ _ _ _ _ h R hR
     simp only [z9n, simprocAttr, *]
    ·cases h; subst hR; simp only [z9n, simprocAttr, *]
   ·cases h; subst hR; simp only [z9n, simprocAttr, *]
  ·cases h; subst hR; simp only [z9n, simprocAttr, *]
 ·cases h; subst hR; simp only [z9n, simprocAttr, *]
theorem z9q : ∀ q, z9l q ∧ z9m q
 | 0 => by refine ⟨?_, ?_⟩ <;> (intro M hM j hj; intros; rename_i h _ _ _ _ _; cases h)
 | q + 1 => by have ⟨i0, i1⟩ := z9q q; exact ⟨z9o q i0 i1, z9p q i1⟩
theorem z9r : ∀ (q N : Nat), 8 * q ≤ N → ∀ (a0 a1 : zjo), ∀ (r : Bool), zlo q a0 a1 = some r → (orc T N).deep F.zlo [zjo.enc a0, zjo.enc a1] = some [V.bool r] := by
 intro q N hM a0 a1 r h
 rcases q with _ | q
 ·cases h
 obtain ⟨M, rfl⟩ : ∃ M, N = M + 8 := ⟨N - 8, by omega⟩
 have z9z := (z9q q).1
 generalize hR : some [V.bool r] = R
 rw [zhw, zyw, y8, zhu]
 rw [zlo] at h
 replace h := br h; rcases h with ⟨h1, h⟩ | ⟨h1, h⟩
 ·replace h := br h; rcases h with ⟨h2, h⟩ | ⟨h2, h⟩
  ·replace h := br h; rcases h with ⟨h3, h⟩ | ⟨h3, h⟩
   ·replace h := br h; rcases h with ⟨h4, h⟩ | ⟨h4, h⟩
    ·replace h := bb h; rcases h with ⟨h5', h5, h⟩ | ⟨h5', h5, h⟩
     ·replace h := br h; rcases h with ⟨h6, h⟩ | ⟨h6, h⟩
      ·replace h := br h; rcases h with ⟨h7, h⟩ | ⟨h7, h⟩
       ·replace h := br h; rcases h with ⟨h8, h⟩ | ⟨h8, h⟩
        ·replace h := z9z M (by omega) (M + 7) (by omega) _ _ _ _ _ _ _ _ _ _ _ _ _ _ _ _ _ _ _ _ _ _ h R hR
         simp only [z9n, simprocAttr, *]
        ·cases h; subst hR; simp only [z9n, simprocAttr, *]
       ·cases h; subst hR; simp only [z9n, simprocAttr, *]
      ·cases h; subst hR; simp only [z9n, simprocAttr, *]
     ·cases h; subst hR; simp only [z9n, simprocAttr, *]
    ·cases h; subst hR; simp only [z9n, simprocAttr, *]
   ·cases h; subst hR; simp only [z9n, simprocAttr, *]
  ·cases h; subst hR; simp only [z9n, simprocAttr, *]
 ·cases h; subst hR; simp only [z9n, simprocAttr, *]
def z9s := And.intro @kk <| And.intro @ke <| And.intro @kn <| And.intro @zzy <| And.intro @zz2 <| And.intro @zz5 <| And.intro @zz8 <| And.intro @z0b <| And.intro @z0e <| @zz0
theorem z9t : ∀ (q N : Nat), 8 * q ≤ N → ∀ (a0 a1 : zjn), ∀ (r : Bool), zlp q a0 a1 = some r → (orc T N).deep F.zlp [zjn.enc a0, zjn.enc a1] = some [V.bool r] := by
 intro q N hM a0 a1 r h
 rcases q with _ | q
 ·cases h
 obtain ⟨M, rfl⟩ : ∃ M, N = M + 8 := ⟨N - 8, by omega⟩
 generalize hR : some [V.bool r] = R
 rw [zhw, zyr, y8, zhu]
 rw [zlp] at h
 replace h := ob h; obtain ⟨r1, h1, h⟩ := h
 replace h1 := z7s q (M + 7) (by omega)  _ h1
 replace h := ob h; obtain ⟨r2, h2, h⟩ := h
 replace h2 := z7w q (M + 7) (by omega) _ _ h2
 try simp only [kf, simprocAttr] at h2
 replace h := ob h; obtain ⟨r3, h3, h⟩ := h
 replace h3 := z7w q (M + 7) (by omega) _ _ h3
 try simp only [kf, simprocAttr] at h3
 replace h := bb h; rcases h with ⟨h4', h4, h⟩ | ⟨h4', h4, h⟩
 ·replace h := bb h; rcases h with ⟨h5', h5, h⟩ | ⟨h5', h5, h⟩
  ·replace h := bb h; rcases h with ⟨h6', h6, h⟩ | ⟨h6', h6, h⟩
   ·replace h := ob h; obtain ⟨r4, h7, h⟩ := h
    replace h7 := z59 q (M + 7) (by omega) _ _ _ h7
    try simp only [kf, simprocAttr] at h7
    replace h := ob h; obtain ⟨r5, h8, h⟩ := h
    replace h8 := z9k q (M + 7) (by omega) _ _ _ h8
    try simp only [kf, simprocAttr] at h8
    replace h := ob h; obtain ⟨r6, h9, h⟩ := h
    replace h9 := z9r q (M + 7) (by omega) _ _ _ h9
    try simp only [kf, simprocAttr] at h9
    replace h := bb h; rcases h with ⟨h10', h10, h⟩ | ⟨h10', h10, h⟩
    ·cases h; subst hR; simp only [z9s, simprocAttr, *]
    ·cases h; subst hR; simp only [z9s, simprocAttr, *]
   ·cases h; subst hR; simp only [z9s, simprocAttr, *]
  ·cases h; subst hR; simp only [z9s, simprocAttr, *]
 ·cases h; subst hR; simp only [z9s, simprocAttr, *]
end Go.Dvm.C
