/- The machine comes to these answers: part 2. -/
import Derived.Test.YtngajodhbioheaaQl0
import Derived.Test.YtngajodhbioheaaQr0
set_option linter.all false
set_option maxRecDepth 100000
set_option maxHeartbeats 4000000
namespace Go.Dvm.C
open Go Go.Dvm Go.Dvm.I
def zbnt (q : Nat) : Prop := ∀ (M : Nat) (hM : 8 * q ≤ M) (j : Nat) (hj : q ≤ j) (h1_0z : Bool) (h1_0l : List Int) (r : Int × Int × Int × Int × (List Int) × Bool × Int) (_ : zlu q h1_0z h1_0l = some r) (R : Option (List V × Hp)) (_ : (some ([], [(.box [(.int .i64 r.1), (.int .i64 r.2.1), (.int .i64 r.2.2.1), (.int .i64 r.2.2.2.1), (.sl true []), (.bool false), (.int .i64 0), (.sl true [])]), (.box [(.sl h1_0z (List.map (V.int .u8) r.2.2.2.2.1)), (.bool r.2.2.2.2.2.1)]), (.box [(.int .i64 r.2.2.2.2.2.2)]), (.box [(.int .i64 0)]), (.box [(.int .i64 0)])]) : Option (List V × Hp)) = R) (fr : Fr) (H : Hp) (_ : canon 5 [0, 6, 7, 8] fr H = ([(0, (.ptr 1 0)), (6, (.psl [(.ptr 0 0), (.ptr 0 1), (.ptr 0 2), (.ptr 0 3), (.ptr 2 0)])), (7, (.int .i64 5)), (8, (.int .i64 0))], [(.box [(.int .i64 0), (.int .i64 0), (.int .i64 0), (.int .i64 0), (.sl true []), (.bool false), (.int .i64 0), (.sl true [])]), (.box [(.sl h1_0z (List.map (V.int .u8) h1_0l)), (.bool true)]), (.box [(.int .i64 0)]), (.box [(.int .i64 0)]), (.box [(.int .i64 0)])])), finI 5 false [] (unw T (orc T (M + 6)) (M + 6) 5 [.blk 0] (iter 5 [0, 6, 7, 8] (exec T (orc T (M + 6)) (M + 6) 5 z1m) j fr H)) = R
def zbnu (q : Nat) : Prop := ∀ (M : Nat) (hM : 8 * q ≤ M) (j : Nat) (hj : q ≤ j) (h0_0 : Int) (h1_0z : Bool) (h1_0l : List Int) (h1_1 : Bool) (r : Int × Int × Int × Int × (List Int) × Bool × Int) (_ : zlt q h0_0 h1_0z h1_0l h1_1 = some r) (R : Option (List V × Hp)) (_ : (some ([], [(.box [(.int .i64 r.1), (.int .i64 r.2.1), (.int .i64 r.2.2.1), (.int .i64 r.2.2.2.1), (.sl true []), (.bool false), (.int .i64 0), (.sl true [])]), (.box [(.sl h1_0z (List.map (V.int .u8) r.2.2.2.2.1)), (.bool r.2.2.2.2.2.1)]), (.box [(.int .i64 r.2.2.2.2.2.2)]), (.box [(.int .i64 0)]), (.box [(.int .i64 0)])]) : Option (List V × Hp)) = R) (fr : Fr) (H : Hp) (_ : canon 5 [0, 6, 7, 8] fr H = ([(0, (.ptr 1 0)), (6, (.psl [(.ptr 0 0), (.ptr 0 1), (.ptr 0 2), (.ptr 0 3), (.ptr 2 0)])), (7, (.int .i64 5)), (8, (.int .i64 1))], [(.box [(.int .i64 h0_0), (.int .i64 0), (.int .i64 0), (.int .i64 0), (.sl true []), (.bool false), (.int .i64 0), (.sl true [])]), (.box [(.sl h1_0z (List.map (V.int .u8) h1_0l)), (.bool h1_1)]), (.box [(.int .i64 0)]), (.box [(.int .i64 0)]), (.box [(.int .i64 0)])])), finI 5 false [] (unw T (orc T (M + 6)) (M + 6) 5 [.blk 0] (iter 5 [0, 6, 7, 8] (exec T (orc T (M + 6)) (M + 6) 5 z1m) j fr H)) = R
def zbnv (q : Nat) : Prop := ∀ (M : Nat) (hM : 8 * q ≤ M) (j : Nat) (hj : q ≤ j) (h0_0 h0_1 : Int) (h1_0z : Bool) (h1_0l : List Int) (h1_1 : Bool) (r : Int × Int × Int × Int × (List Int) × Bool × Int) (_ : zls q h0_0 h0_1 h1_0z h1_0l h1_1 = some r) (R : Option (List V × Hp)) (_ : (some ([], [(.box [(.int .i64 r.1), (.int .i64 r.2.1), (.int .i64 r.2.2.1), (.int .i64 r.2.2.2.1), (.sl true []), (.bool false), (.int .i64 0), (.sl true [])]), (.box [(.sl h1_0z (List.map (V.int .u8) r.2.2.2.2.1)), (.bool r.2.2.2.2.2.1)]), (.box [(.int .i64 r.2.2.2.2.2.2)]), (.box [(.int .i64 0)]), (.box [(.int .i64 0)])]) : Option (List V × Hp)) = R) (fr : Fr) (H : Hp) (_ : canon 5 [0, 6, 7, 8] fr H = ([(0, (.ptr 1 0)), (6, (.psl [(.ptr 0 0), (.ptr 0 1), (.ptr 0 2), (.ptr 0 3), (.ptr 2 0)])), (7, (.int .i64 5)), (8, (.int .i64 2))], [(.box [(.int .i64 h0_0), (.int .i64 h0_1), (.int .i64 0), (.int .i64 0), (.sl true []), (.bool false), (.int .i64 0), (.sl true [])]), (.box [(.sl h1_0z (List.map (V.int .u8) h1_0l)), (.bool h1_1)]), (.box [(.int .i64 0)]), (.box [(.int .i64 0)]), (.box [(.int .i64 0)])])), finI 5 false [] (unw T (orc T (M + 6)) (M + 6) 5 [.blk 0] (iter 5 [0, 6, 7, 8] (exec T (orc T (M + 6)) (M + 6) 5 z1m) j fr H)) = R
def zbnw (q : Nat) : Prop := ∀ (M : Nat) (hM : 8 * q ≤ M) (j : Nat) (hj : q ≤ j) (h0_0 h0_1 h0_2 : Int) (h1_0z : Bool) (h1_0l : List Int) (h1_1 : Bool) (r : Int × Int × Int × Int × (List Int) × Bool × Int) (_ : zlr q h0_0 h0_1 h0_2 h1_0z h1_0l h1_1 = some r) (R : Option (List V × Hp)) (_ : (some ([], [(.box [(.int .i64 r.1), (.int .i64 r.2.1), (.int .i64 r.2.2.1), (.int .i64 r.2.2.2.1), (.sl true []), (.bool false), (.int .i64 0), (.sl true [])]), (.box [(.sl h1_0z (List.map (V.int .u8) r.2.2.2.2.1)), (.bool r.2.2.2.2.2.1)]), (.box [(.int .i64 r.2.2.2.2.2.2)]), (.box [(.int .i64 0)]), (.box [(.int .i64 0)])]) : Option (List V × Hp)) = R) (fr : Fr) (H : Hp) (_ : canon 5 [0, 6, 7, 8] fr H = ([(0, (.ptr 1 0)), (6, (.psl [(.ptr 0 0), (.ptr 0 1), (.ptr 0 2), (.ptr 0 3), (.ptr 2 0)])), (7, (.int .i64 5)), (8, (.int .i64 3))], [(.box [(.int .i64 h0_0), (.int .i64 h0_1), (.int .i64 h0_2), (.int .i64 0), (.sl true []), (.bool false), (.int .i64 0), (.sl true [])]), (.box [(.sl h1_0z (List.map (V.int .u8) h1_0l)), (.bool h1_1)]), (.box [(.int .i64 0)]), (.box [(.int .i64 0)]), (.box [(.int .i64 0)])])), finI 5 false [] (unw T (orc T (M + 6)) (M + 6) 5 [.blk 0] (iter 5 [0, 6, 7, 8] (exec T (orc T (M + 6)) (M + 6) 5 z1m) j fr H)) = R
def zbnx (q : Nat) : Prop := ∀ (M : Nat) (hM : 8 * q ≤ M) (j : Nat) (hj : q ≤ j) (h0_0 h0_1 h0_2 h0_3 : Int) (h1_0z : Bool) (h1_0l : List Int) (h1_1 : Bool) (r : Int × Int × Int × Int × (List Int) × Bool × Int) (_ : zlq q h0_0 h0_1 h0_2 h0_3 h1_0z h1_0l h1_1 = some r) (R : Option (List V × Hp)) (_ : (some ([], [(.box [(.int .i64 r.1), (.int .i64 r.2.1), (.int .i64 r.2.2.1), (.int .i64 r.2.2.2.1), (.sl true []), (.bool false), (.int .i64 0), (.sl true [])]), (.box [(.sl h1_0z (List.map (V.int .u8) r.2.2.2.2.1)), (.bool r.2.2.2.2.2.1)]), (.box [(.int .i64 r.2.2.2.2.2.2)]), (.box [(.int .i64 0)]), (.box [(.int .i64 0)])]) : Option (List V × Hp)) = R) (fr : Fr) (H : Hp) (_ : canon 5 [0, 6, 7, 8] fr H = ([(0, (.ptr 1 0)), (6, (.psl [(.ptr 0 0), (.ptr 0 1), (.ptr 0 2), (.ptr 0 3), (.ptr 2 0)])), (7, (.int .i64 5)), (8, (.int .i64 4))], [(.box [(.int .i64 h0_0), (.int .i64 h0_1), (.int .i64 h0_2), (.int .i64 h0_3), (.sl true []), (.bool false), (.int .i64 0), (.sl true [])]), (.box [(.sl h1_0z (List.map (V.int .u8) h1_0l)), (.bool h1_1)]), (.box [(.int .i64 0)]), (.box [(.int .i64 0)]), (.box [(.int .i64 0)])])), finI 5 false [] (unw T (orc T (M + 6)) (M + 6) 5 [.blk 0] (iter 5 [0, 6, 7, 8] (exec T (orc T (M + 6)) (M + 6) 5 z1m) j fr H)) = R
def zbny (q : Nat) : Prop := ∀ (M : Nat) (hM : 8 * q ≤ M) (j : Nat) (hj : q ≤ j) (h0_0 h0_1 h0_2 h0_3 : Int) (h1_0z : Bool) (h1_0l : List Int) (h1_1 : Bool) (h2_0 : Int) (r : Int × Int × Int × Int × (List Int) × Bool × Int) (_ : zlp q h0_0 h0_1 h0_2 h0_3 h1_0z h1_0l h1_1 h2_0 = some r) (R : Option (List V × Hp)) (_ : (some ([], [(.box [(.int .i64 r.1), (.int .i64 r.2.1), (.int .i64 r.2.2.1), (.int .i64 r.2.2.2.1), (.sl true []), (.bool false), (.int .i64 0), (.sl true [])]), (.box [(.sl h1_0z (List.map (V.int .u8) r.2.2.2.2.1)), (.bool r.2.2.2.2.2.1)]), (.box [(.int .i64 r.2.2.2.2.2.2)]), (.box [(.int .i64 0)]), (.box [(.int .i64 0)])]) : Option (List V × Hp)) = R) (fr : Fr) (H : Hp) (_ : canon 5 [0, 6, 7, 8] fr H = ([(0, (.ptr 1 0)), (6, (.psl [(.ptr 0 0), (.ptr 0 1), (.ptr 0 2), (.ptr 0 3), (.ptr 2 0)])), (7, (.int .i64 5)), (8, (.int .i64 5))], [(.box [(.int .i64 h0_0), (.int .i64 h0_1), (.int .i64 h0_2), (.int .i64 h0_3), (.sl true []), (.bool false), (.int .i64 0), (.sl true [])]), (.box [(.sl h1_0z (List.map (V.int .u8) h1_0l)), (.bool h1_1)]), (.box [(.int .i64 h2_0)]), (.box [(.int .i64 0)]), (.box [(.int .i64 0)])])), finI 5 false [] (unw T (orc T (M + 6)) (M + 6) 5 [.blk 0] (iter 5 [0, 6, 7, 8] (exec T (orc T (M + 6)) (M + 6) 5 z1m) j fr H)) = R
def zbnz := And.intro @kk <| And.intro @ke <| And.intro @kn <| And.intro @wl <| And.intro @zbev <| And.intro @zbf1 <| And.intro @zbf4 <| And.intro @zbek <| And.intro @zbf2 <| And.intro @zbf3 <| And.intro @zbf5 <| @zbf6
theorem zbn0 (q : Nat) (zbrc : zbnu q) : zbnt (q + 1) := by
 intro M hM j hj h1_0z h1_0l r h R hR fr H hc
 obtain ⟨j, rfl⟩ : ∃ i, j = i + 1 := ⟨j - 1, by omega⟩
 rw [zhn, hc]; clear hc
 rw [zlu] at h
 replace h := ob h; obtain ⟨r1, h1, h⟩ := h
 replace h1 := zbl2 q (M + 5) (by omega) _ _ h1
 try simp only [kf, simprocAttr] at h1
 replace h := bn h; obtain ⟨h2, h⟩ := h
 replace h := bn h; obtain ⟨h3, h⟩ := h
 replace h := zbrc M (by omega) j (by omega) _ _ _ _ _ h R hR
 simp only [zbnz, simprocAttr, *]
theorem zbn1 (q : Nat) (zbrd : zbnv q) : zbnu (q + 1) := by
 intro M hM j hj h0_0 h1_0z h1_0l h1_1 r h R hR fr H hc
 obtain ⟨j, rfl⟩ : ∃ i, j = i + 1 := ⟨j - 1, by omega⟩
 rw [zhn, hc]; clear hc
 rw [zlt] at h
 replace h := ob h; obtain ⟨r2, h1, h⟩ := h
 replace h1 := zbl2 q (M + 5) (by omega) _ _ h1
 try simp only [kf, simprocAttr] at h1
 replace h := bb h; rcases h with ⟨h2', h2, h⟩ | ⟨h2', h2, h⟩
 ·replace h := bn h; obtain ⟨h3, h⟩ := h
  replace h := bn h; obtain ⟨h4, h⟩ := h
  replace h := zbrd M (by omega) j (by omega) _ _ _ _ _ _ h R hR
  simp only [zbnz, simprocAttr, *]
 ·replace h := bn h; obtain ⟨h5, h⟩ := h
  replace h := bn h; obtain ⟨h6, h⟩ := h
  replace h := zbrd M (by omega) j (by omega) _ _ _ _ _ _ h R hR
  simp only [zbnz, simprocAttr, *]
theorem zbn2 (q : Nat) (zbre : zbnw q) : zbnv (q + 1) := by
 intro M hM j hj h0_0 h0_1 h1_0z h1_0l h1_1 r h R hR fr H hc
 obtain ⟨j, rfl⟩ : ∃ i, j = i + 1 := ⟨j - 1, by omega⟩
 rw [zhn, hc]; clear hc
 rw [zls] at h
 replace h := ob h; obtain ⟨r3, h1, h⟩ := h
 replace h1 := zbl2 q (M + 5) (by omega) _ _ h1
 try simp only [kf, simprocAttr] at h1
 replace h := bb h; rcases h with ⟨h2', h2, h⟩ | ⟨h2', h2, h⟩
 ·replace h := bn h; obtain ⟨h3, h⟩ := h
  replace h := bn h; obtain ⟨h4, h⟩ := h
  replace h := zbre M (by omega) j (by omega) _ _ _ _ _ _ _ h R hR
  simp only [zbnz, simprocAttr, *]
 ·replace h := bn h; obtain ⟨h5, h⟩ := h
  replace h := bn h; obtain ⟨h6, h⟩ := h
  replace h := zbre M (by omega) j (by omega) _ _ _ _ _ _ _ h R hR
  simp only [zbnz, simprocAttr, *]
theorem zbn3 (q : Nat) (zbrf : zbnx q) : zbnw (q + 1) := by
 intro M hM j hj h0_0 h0_1 h0_2 h1_0z h1_0l h1_1 r h R hR fr H hc
 obtain ⟨j, rfl⟩ : ∃ i, j = i + 1 := ⟨j - 1, by omega⟩
 rw [zhn, hc]; clear hc
 rw [zlr] at h
 replace h := ob h; obtain ⟨r4, h1, h⟩ := h
 replace h1 := zbl2 q (M + 5) (by omega) _ _ h1
 try simp only [kf, simprocAttr] at h1
 replace h := bb h; rcases h with ⟨h2', h2, h⟩ | ⟨h2', h2, h⟩
 ·replace h := bn h; obtain ⟨h3, h⟩ := h
  replace h := bn h; obtain ⟨h4, h⟩ := h
  replace h := zbrf M (by omega) j (by omega) _ _ _ _ _ _ _ _ h R hR
  simp only [zbnz, simprocAttr, *]
 ·replace h := bn h; obtain ⟨h5, h⟩ := h
  replace h := bn h; obtain ⟨h6, h⟩ := h
  replace h := zbrf M (by omega) j (by omega) _ _ _ _ _ _ _ _ h R hR
  simp only [zbnz, simprocAttr, *]
theorem zbn4 (q : Nat) (zbrg : zbny q) : zbnx (q + 1) := by
 intro M hM j hj h0_0 h0_1 h0_2 h0_3 h1_0z h1_0l h1_1 r h R hR fr H hc
 obtain ⟨j, rfl⟩ : ∃ i, j = i + 1 := ⟨j - 1, by omega⟩
 rw [zhn, hc]; clear hc
 rw [zlq] at h
 replace h := ob h; obtain ⟨r5, h1, h⟩ := h
 replace h1 := zbl2 q (M + 5) (by omega) _ _ h1
 try simp only [kf, simprocAttr] at h1
 replace h := bb h; rcases h with ⟨h2', h2, h⟩ | ⟨h2', h2, h⟩
 ·replace h := bn h; obtain ⟨h3, h⟩ := h
  replace h := bn h; obtain ⟨h4, h⟩ := h
  replace h := zbrg M (by omega) j (by omega) _ _ _ _ _ _ _ _ _ h R hR
  simp only [zbnz, simprocAttr, *]
 ·replace h := bn h; obtain ⟨h5, h⟩ := h
  replace h := bn h; obtain ⟨h6, h⟩ := h
  replace h := zbrg M (by omega) j (by omega) _ _ _ _ _ _ _ _ _ h R hR
  simp only [zbnz, simprocAttr, *]
theorem zbn5 (q : Nat) : zbny (q + 1) := by
 intro M hM j hj h0_0 h0_1 h0_2 h0_3 h1_0z h1_0l h1_1 h2_0 r h R hR fr H hc
 obtain ⟨j, rfl⟩ : ∃ i, j = i + 1 := ⟨j - 1, by omega⟩
 rw [zhn, hc]; clear hc
 rw [zlp] at h
 cases h; subst hR; simp only [zbnz, simprocAttr, *]
theorem zbn6 : ∀ q, zbnt q ∧ zbnu q ∧ zbnv q ∧ zbnw q ∧ zbnx q ∧ zbny q
 | 0 => by refine ⟨?_, ?_, ?_, ?_, ?_, ?_⟩ <;> (intro M hM j hj; intros; rename_i h _ _ _ _ _; cases h)
 | q + 1 => by have ⟨i0, i1, i2, i3, i4, i5⟩ := zbn6 q; exact ⟨zbn0 q i1, zbn1 q i2, zbn2 q i3, zbn3 q i4, zbn4 q i5, zbn5 q⟩
theorem zbn7 : ∀ (q M : Nat), 8 * q ≤ M → ∀ (h1_0z : Bool), ∀ (h1_0l : List Int), ∀ (r : Int × Int × Int × Int × (List Int) × Bool × Int), zlv q h1_0z h1_0l = some r → (orc T (M + 7)).inl F.znt [(.ptr 1 0), (.psl [(.ptr 0 0), (.ptr 0 1), (.ptr 0 2), (.ptr 0 3), (.ptr 2 0)])] [(.box [(.int .i64 0), (.int .i64 0), (.int .i64 0), (.int .i64 0), (.sl true []), (.bool false), (.int .i64 0), (.sl true [])]), (.box [(.sl h1_0z (List.map (V.int .u8) h1_0l)), (.bool true)]), (.box [(.int .i64 0)]), (.box [(.int .i64 0)]), (.box [(.int .i64 0)])] = (some ([], [(.box [(.int .i64 r.1), (.int .i64 r.2.1), (.int .i64 r.2.2.1), (.int .i64 r.2.2.2.1), (.sl true []), (.bool false), (.int .i64 0), (.sl true [])]), (.box [(.sl h1_0z (List.map (V.int .u8) r.2.2.2.2.1)), (.bool r.2.2.2.2.2.1)]), (.box [(.int .i64 r.2.2.2.2.2.2)]), (.box [(.int .i64 0)]), (.box [(.int .i64 0)])]) : Option (List V × Hp)) := by
 intro q M hM h1_0z h1_0l r h
 rcases q with _ | q
 ·cases h
 have ih_delta_read_s0_l0 := (zbn6 q).1
 generalize hR : (some ([], [(.box [(.int .i64 r.1), (.int .i64 r.2.1), (.int .i64 r.2.2.1), (.int .i64 r.2.2.2.1), (.sl true []), (.bool false), (.int .i64 0), (.sl true [])]), (.box [(.sl h1_0z (List.map (V.int .u8) r.2.2.2.2.1)), (.bool r.2.2.2.2.2.1)]), (.box [(.int .i64 r.2.2.2.2.2.2)]), (.box [(.int .i64 0)]), (.box [(.int .i64 0)])]) : Option (List V × Hp)) = R
 rw [zbex (n := M + 6)]
 rw [zlv] at h
 replace h := ih_delta_read_s0_l0 M (by omega) (M + 6) (by omega) _ _ _ h R hR
 simp only [zbnz, simprocAttr, *]
def zbn8 (q : Nat) : Prop := ∀ (M : Nat) (hM : 8 * q ≤ M) (j : Nat) (hj : q ≤ j) (h0_0 h0_1 h0_2 h0_3 : Int) (h1_0z : Bool) (h1_0l : List Int) (h1_1 : Bool) (r : (List Int) × Bool × Int × Int) (_ : zly q h0_0 h0_1 h0_2 h0_3 h1_0z h1_0l h1_1 = some r) (R : Option (List V × Hp)) (_ : (some ([], [(.box [(.int .i64 h0_0), (.int .i64 h0_1), (.int .i64 h0_2), (.int .i64 h0_3), (.sl true []), (.bool false), (.int .i64 0), (.sl true [])]), (.box [(.sl h1_0z (List.map (V.int .u8) r.1)), (.bool r.2.1)]), (.box [(.int .i64 r.2.2.1)]), (.box [(.int .i64 r.2.2.2)])]) : Option (List V × Hp)) = R) (fr : Fr) (H : Hp) (_ : canon 4 [0, 6, 7, 8] fr H = ([(0, (.ptr 1 0)), (6, (.psl [(.ptr 2 0), (.ptr 3 0)])), (7, (.int .i64 2)), (8, (.int .i64 0))], [(.box [(.int .i64 h0_0), (.int .i64 h0_1), (.int .i64 h0_2), (.int .i64 h0_3), (.sl true []), (.bool false), (.int .i64 0), (.sl true [])]), (.box [(.sl h1_0z (List.map (V.int .u8) h1_0l)), (.bool h1_1)]), (.box [(.int .i64 0)]), (.box [(.int .i64 0)])])), finI 4 false [] (unw T (orc T (M + 6)) (M + 6) 4 [.blk 0] (iter 4 [0, 6, 7, 8] (exec T (orc T (M + 6)) (M + 6) 4 z1m) j fr H)) = R
def zbn9 (q : Nat) : Prop := ∀ (M : Nat) (hM : 8 * q ≤ M) (j : Nat) (hj : q ≤ j) (h0_0 h0_1 h0_2 h0_3 : Int) (h1_0z : Bool) (h1_0l : List Int) (h1_1 : Bool) (h2_0 : Int) (r : (List Int) × Bool × Int × Int) (_ : zlx q h0_0 h0_1 h0_2 h0_3 h1_0z h1_0l h1_1 h2_0 = some r) (R : Option (List V × Hp)) (_ : (some ([], [(.box [(.int .i64 h0_0), (.int .i64 h0_1), (.int .i64 h0_2), (.int .i64 h0_3), (.sl true []), (.bool false), (.int .i64 0), (.sl true [])]), (.box [(.sl h1_0z (List.map (V.int .u8) r.1)), (.bool r.2.1)]), (.box [(.int .i64 r.2.2.1)]), (.box [(.int .i64 r.2.2.2)])]) : Option (List V × Hp)) = R) (fr : Fr) (H : Hp) (_ : canon 4 [0, 6, 7, 8] fr H = ([(0, (.ptr 1 0)), (6, (.psl [(.ptr 2 0), (.ptr 3 0)])), (7, (.int .i64 2)), (8, (.int .i64 1))], [(.box [(.int .i64 h0_0), (.int .i64 h0_1), (.int .i64 h0_2), (.int .i64 h0_3), (.sl true []), (.bool false), (.int .i64 0), (.sl true [])]), (.box [(.sl h1_0z (List.map (V.int .u8) h1_0l)), (.bool h1_1)]), (.box [(.int .i64 h2_0)]), (.box [(.int .i64 0)])])), finI 4 false [] (unw T (orc T (M + 6)) (M + 6) 4 [.blk 0] (iter 4 [0, 6, 7, 8] (exec T (orc T (M + 6)) (M + 6) 4 z1m) j fr H)) = R
def zboa (q : Nat) : Prop := ∀ (M : Nat) (hM : 8 * q ≤ M) (j : Nat) (hj : q ≤ j) (h0_0 h0_1 h0_2 h0_3 : Int) (h1_0z : Bool) (h1_0l : List Int) (h1_1 : Bool) (h2_0 h3_0 : Int) (r : (List Int) × Bool × Int × Int) (_ : zlw q h0_0 h0_1 h0_2 h0_3 h1_0z h1_0l h1_1 h2_0 h3_0 = some r) (R : Option (List V × Hp)) (_ : (some ([], [(.box [(.int .i64 h0_0), (.int .i64 h0_1), (.int .i64 h0_2), (.int .i64 h0_3), (.sl true []), (.bool false), (.int .i64 0), (.sl true [])]), (.box [(.sl h1_0z (List.map (V.int .u8) r.1)), (.bool r.2.1)]), (.box [(.int .i64 r.2.2.1)]), (.box [(.int .i64 r.2.2.2)])]) : Option (List V × Hp)) = R) (fr : Fr) (H : Hp) (_ : canon 4 [0, 6, 7, 8] fr H = ([(0, (.ptr 1 0)), (6, (.psl [(.ptr 2 0), (.ptr 3 0)])), (7, (.int .i64 2)), (8, (.int .i64 2))], [(.box [(.int .i64 h0_0), (.int .i64 h0_1), (.int .i64 h0_2), (.int .i64 h0_3), (.sl true []), (.bool false), (.int .i64 0), (.sl true [])]), (.box [(.sl h1_0z (List.map (V.int .u8) h1_0l)), (.bool h1_1)]), (.box [(.int .i64 h2_0)]), (.box [(.int .i64 h3_0)])])), finI 4 false [] (unw T (orc T (M + 6)) (M + 6) 4 [.blk 0] (iter 4 [0, 6, 7, 8] (exec T (orc T (M + 6)) (M + 6) 4 z1m) j fr H)) = R
def zbob := And.intro @kk <| And.intro @ke <| And.intro @kn <| And.intro @wl <| And.intro @zbev <| And.intro @zbf1 <| And.intro @zbf4 <| And.intro @zbek <| And.intro @zbf2 <| And.intro @zbf3 <| And.intro @zbf5 <| @zbf6
theorem zboc (q : Nat) (zbrh : zbn9 q) : zbn8 (q + 1) := by
 intro M hM j hj h0_0 h0_1 h0_2 h0_3 h1_0z h1_0l h1_1 r h R hR fr H hc
 obtain ⟨j, rfl⟩ : ∃ i, j = i + 1 := ⟨j - 1, by omega⟩
 rw [zhn, hc]; clear hc
 rw [zly] at h
 replace h := ob h; obtain ⟨r1, h1, h⟩ := h
 replace h1 := zbl2 q (M + 5) (by omega) _ _ h1
 try simp only [kf, simprocAttr] at h1
 replace h := bb h; rcases h with ⟨h2', h2, h⟩ | ⟨h2', h2, h⟩
 ·replace h := bn h; obtain ⟨h3, h⟩ := h
  replace h := bn h; obtain ⟨h4, h⟩ := h
  replace h := zbrh M (by omega) j (by omega) _ _ _ _ _ _ _ _ _ h R hR
  simp only [zbob, simprocAttr, *]
 ·replace h := bn h; obtain ⟨h5, h⟩ := h
  replace h := bn h; obtain ⟨h6, h⟩ := h
  replace h := zbrh M (by omega) j (by omega) _ _ _ _ _ _ _ _ _ h R hR
  simp only [zbob, simprocAttr, *]
theorem zbod (q : Nat) (zbri : zboa q) : zbn9 (q + 1) := by
 intro M hM j hj h0_0 h0_1 h0_2 h0_3 h1_0z h1_0l h1_1 h2_0 r h R hR fr H hc
 obtain ⟨j, rfl⟩ : ∃ i, j = i + 1 := ⟨j - 1, by omega⟩
 rw [zhn, hc]; clear hc
 rw [zlx] at h
 replace h := ob h; obtain ⟨r2, h1, h⟩ := h
 replace h1 := zbl2 q (M + 5) (by omega) _ _ h1
 try simp only [kf, simprocAttr] at h1
 replace h := bb h; rcases h with ⟨h2', h2, h⟩ | ⟨h2', h2, h⟩
 ·replace h := bn h; obtain ⟨h3, h⟩ := h
  replace h := bn h; obtain ⟨h4, h⟩ := h
  replace h := zbri M (by omega) j (by omega) _ _ _ _ _ _ _ _ _ _ h R hR
  simp only [zbob, simprocAttr, *]
 ·replace h := bn h; obtain ⟨h5, h⟩ := h
  replace h := bn h; obtain ⟨h6, h⟩ := h
  replace h := zbri M (by omega) j (by omega) _ _ _ _ _ _ _ _ _ _ h R hR
  simp only [zbob, simprocAttr, *]
theorem zboe (q : Nat) : zboa (q + 1) := by
 intro M hM j hj h0_0 h0_1 h0_2 h0_3 h1_0z h1_0l h1_1 h2_0 h3_0 r h R hR fr H hc
 obtain ⟨j, rfl⟩ : ∃ i, j = i + 1 := ⟨j - 1, by omega⟩
 rw [zhn, hc]; clear hc
 rw [zlw] at h
 cases h; subst hR; simp only [zbob, simprocAttr, *]
theorem zbof : ∀ q, zbn8 q ∧ zbn9 q ∧ zboa q
 | 0 => by refine ⟨?_, ?_, ?_⟩ <;> (intro M hM j hj; intros; rename_i h _ _ _ _ _; cases h)
 | q + 1 => by have ⟨i0, i1, i2⟩ := zbof q; exact ⟨zboc q i1, zbod q i2, zboe q⟩
theorem zbog : ∀ (q M : Nat), 8 * q ≤ M → ∀ (h0_0 h0_1 h0_2 h0_3 : Int), ∀ (h1_0z : Bool), ∀ (h1_0l : List Int), ∀ (h1_1 : Bool), ∀ (r : (List Int) × Bool × Int × Int), zlz q h0_0 h0_1 h0_2 h0_3 h1_0z h1_0l h1_1 = some r → (orc T (M + 7)).inl F.znt [(.ptr 1 0), (.psl [(.ptr 2 0), (.ptr 3 0)])] [(.box [(.int .i64 h0_0), (.int .i64 h0_1), (.int .i64 h0_2), (.int .i64 h0_3), (.sl true []), (.bool false), (.int .i64 0), (.sl true [])]), (.box [(.sl h1_0z (List.map (V.int .u8) h1_0l)), (.bool h1_1)]), (.box [(.int .i64 0)]), (.box [(.int .i64 0)])] = (some ([], [(.box [(.int .i64 h0_0), (.int .i64 h0_1), (.int .i64 h0_2), (.int .i64 h0_3), (.sl true []), (.bool false), (.int .i64 0), (.sl true [])]), (.box [(.sl h1_0z (List.map (V.int .u8) r.1)), (.bool r.2.1)]), (.box [(.int .i64 r.2.2.1)]), (.box [(.int .i64 r.2.2.2)])]) : Option (List V × Hp)) := by
 intro q M hM h0_0 h0_1 h0_2 h0_3 h1_0z h1_0l h1_1 r h
 rcases q with _ | q
 ·cases h
 have ih_delta_read_s1_l0 := (zbof q).1
 generalize hR : (some ([], [(.box [(.int .i64 h0_0), (.int .i64 h0_1), (.int .i64 h0_2), (.int .i64 h0_3), (.sl true []), (.bool false), (.int .i64 0), (.sl true [])]), (.box [(.sl h1_0z (List.map (V.int .u8) r.1)), (.bool r.2.1)]), (.box [(.int .i64 r.2.2.1)]), (.box [(.int .i64 r.2.2.2)])]) : Option (List V × Hp)) = R
 rw [zbex (n := M + 6)]
 rw [zlz] at h
 replace h := ih_delta_read_s1_l0 M (by omega) (M + 6) (by omega) _ _ _ _ _ _ _ _ h R hR
 simp only [zbob, simprocAttr, *]
def zboh (q : Nat) : Prop := ∀ (M : Nat) (hM : 8 * q ≤ M) (j : Nat) (hj : q ≤ j) (w4 : Nat) (h0_0 h0_1 h0_2 h0_3 : Int) (h1_0z : Bool) (h1_0l : List Int) (h1_1 : Bool) (h4l : List Int) (r : Nat × (List Int) × Bool × Int × Int) (_ : zl2 q h0_0 h0_1 h0_2 h0_3 h1_0z h1_0l h1_1 h4l = some r) (R : Option (List V × Hp)) (_ : (some ([], [(.box [(.int .i64 h0_0), (.int .i64 h0_1), (.int .i64 h0_2), (.int .i64 h0_3), (.vw 4 w4 0 r.1 1), (.bool false), (.int .i64 0), (.sl true [])]), (.box [(.sl h1_0z (List.map (V.int .u8) r.2.1)), (.bool r.2.2.1)]), (.box [(.int .i64 r.2.2.2.1)]), (.box [(.int .i64 r.2.2.2.2)]), (.row w4 false 1 (List.map (V.int .i64) h4l) true)]) : Option (List V × Hp)) = R) (fr : Fr) (H : Hp) (_ : canon 5 [0, 6, 7, 8] fr H = ([(0, (.ptr 1 0)), (6, (.psl [(.ptr 2 0), (.ptr 3 0)])), (7, (.int .i64 2)), (8, (.int .i64 0))], [(.box [(.int .i64 h0_0), (.int .i64 h0_1), (.int .i64 h0_2), (.int .i64 h0_3), (.vw 4 w4 0 h4l.length 1), (.bool false), (.int .i64 0), (.sl true [])]), (.box [(.sl h1_0z (List.map (V.int .u8) h1_0l)), (.bool h1_1)]), (.box [(.int .i64 0)]), (.box [(.int .i64 0)]), (.row w4 false 1 (List.map (V.int .i64) h4l) true)])), finI 5 false [] (unw T (orc T (M + 6)) (M + 6) 5 [.blk 0] (iter 5 [0, 6, 7, 8] (exec T (orc T (M + 6)) (M + 6) 5 z1m) j fr H)) = R
def zboi (q : Nat) : Prop := ∀ (M : Nat) (hM : 8 * q ≤ M) (j : Nat) (hj : q ≤ j) (w4 : Nat) (h0_0 h0_1 h0_2 h0_3 : Int) (h1_0z : Bool) (h1_0l : List Int) (h1_1 : Bool) (h2_0 : Int) (h4l : List Int) (r : Nat × (List Int) × Bool × Int × Int) (_ : zl1 q h0_0 h0_1 h0_2 h0_3 h1_0z h1_0l h1_1 h2_0 h4l = some r) (R : Option (List V × Hp)) (_ : (some ([], [(.box [(.int .i64 h0_0), (.int .i64 h0_1), (.int .i64 h0_2), (.int .i64 h0_3), (.vw 4 w4 0 r.1 1), (.bool false), (.int .i64 0), (.sl true [])]), (.box [(.sl h1_0z (List.map (V.int .u8) r.2.1)), (.bool r.2.2.1)]), (.box [(.int .i64 r.2.2.2.1)]), (.box [(.int .i64 r.2.2.2.2)]), (.row w4 false 1 (List.map (V.int .i64) h4l) true)]) : Option (List V × Hp)) = R) (fr : Fr) (H : Hp) (_ : canon 5 [0, 6, 7, 8] fr H = ([(0, (.ptr 1 0)), (6, (.psl [(.ptr 2 0), (.ptr 3 0)])), (7, (.int .i64 2)), (8, (.int .i64 1))], [(.box [(.int .i64 h0_0), (.int .i64 h0_1), (.int .i64 h0_2), (.int .i64 h0_3), (.vw 4 w4 0 h4l.length 1), (.bool false), (.int .i64 0), (.sl true [])]), (.box [(.sl h1_0z (List.map (V.int .u8) h1_0l)), (.bool h1_1)]), (.box [(.int .i64 h2_0)]), (.box [(.int .i64 0)]), (.row w4 false 1 (List.map (V.int .i64) h4l) true)])), finI 5 false [] (unw T (orc T (M + 6)) (M + 6) 5 [.blk 0] (iter 5 [0, 6, 7, 8] (exec T (orc T (M + 6)) (M + 6) 5 z1m) j fr H)) = R
def zboj (q : Nat) : Prop := ∀ (M : Nat) (hM : 8 * q ≤ M) (j : Nat) (hj : q ≤ j) (w4 : Nat) (h0_0 h0_1 h0_2 h0_3 : Int) (h1_0z : Bool) (h1_0l : List Int) (h1_1 : Bool) (h2_0 h3_0 : Int) (h4l : List Int) (r : Nat × (List Int) × Bool × Int × Int) (_ : zl0 q h0_0 h0_1 h0_2 h0_3 h1_0z h1_0l h1_1 h2_0 h3_0 h4l = some r) (R : Option (List V × Hp)) (_ : (some ([], [(.box [(.int .i64 h0_0), (.int .i64 h0_1), (.int .i64 h0_2), (.int .i64 h0_3), (.vw 4 w4 0 r.1 1), (.bool false), (.int .i64 0), (.sl true [])]), (.box [(.sl h1_0z (List.map (V.int .u8) r.2.1)), (.bool r.2.2.1)]), (.box [(.int .i64 r.2.2.2.1)]), (.box [(.int .i64 r.2.2.2.2)]), (.row w4 false 1 (List.map (V.int .i64) h4l) true)]) : Option (List V × Hp)) = R) (fr : Fr) (H : Hp) (_ : canon 5 [0, 6, 7, 8] fr H = ([(0, (.ptr 1 0)), (6, (.psl [(.ptr 2 0), (.ptr 3 0)])), (7, (.int .i64 2)), (8, (.int .i64 2))], [(.box [(.int .i64 h0_0), (.int .i64 h0_1), (.int .i64 h0_2), (.int .i64 h0_3), (.vw 4 w4 0 h4l.length 1), (.bool false), (.int .i64 0), (.sl true [])]), (.box [(.sl h1_0z (List.map (V.int .u8) h1_0l)), (.bool h1_1)]), (.box [(.int .i64 h2_0)]), (.box [(.int .i64 h3_0)]), (.row w4 false 1 (List.map (V.int .i64) h4l) true)])), finI 5 false [] (unw T (orc T (M + 6)) (M + 6) 5 [.blk 0] (iter 5 [0, 6, 7, 8] (exec T (orc T (M + 6)) (M + 6) 5 z1m) j fr H)) = R
def zbok := And.intro @kk <| And.intro @ke <| And.intro @kn <| And.intro @wl <| And.intro @zbev <| And.intro @zbf1 <| And.intro @zbf4 <| And.intro @zbek <| And.intro @zbf2 <| And.intro @zbf3 <| And.intro @zbf5 <| @zbf6
theorem zbol (q : Nat) (zbrj : zboi q) : zboh (q + 1) := by
 intro M hM j hj w4 h0_0 h0_1 h0_2 h0_3 h1_0z h1_0l h1_1 h4l r h R hR fr H hc
 obtain ⟨j, rfl⟩ : ∃ i, j = i + 1 := ⟨j - 1, by omega⟩
 rw [zhn, hc]; clear hc
 rw [zl2] at h
 replace h := ob h; obtain ⟨r1, h1, h⟩ := h
 replace h1 := zbl2 q (M + 5) (by omega) _ _ h1
 try simp only [kf, simprocAttr] at h1
 replace h := bb h; rcases h with ⟨h2', h2, h⟩ | ⟨h2', h2, h⟩
 ·replace h := bn h; obtain ⟨h3, h⟩ := h
  replace h := bn h; obtain ⟨h4, h⟩ := h
  replace h := zbrj M (by omega) j (by omega) w4 _ _ _ _ _ _ _ _ _ _ h R hR
  simp only [zbok, simprocAttr, *]
 ·replace h := bn h; obtain ⟨h5, h⟩ := h
  replace h := bn h; obtain ⟨h6, h⟩ := h
  replace h := zbrj M (by omega) j (by omega) w4 _ _ _ _ _ _ _ _ _ _ h R hR
  simp only [zbok, simprocAttr, *]
theorem zbom (q : Nat) (zbrk : zboj q) : zboi (q + 1) := by
 intro M hM j hj w4 h0_0 h0_1 h0_2 h0_3 h1_0z h1_0l h1_1 h2_0 h4l r h R hR fr H hc
 obtain ⟨j, rfl⟩ : ∃ i, j = i + 1 := ⟨j - 1, by omega⟩
 rw [zhn, hc]; clear hc
 rw [zl1] at h
 replace h := ob h; obtain ⟨r2, h1, h⟩ := h
 replace h1 := zbl2 q (M + 5) (by omega) _ _ h1
 try simp only [kf, simprocAttr] at h1
 replace h := bb h; rcases h with ⟨h2', h2, h⟩ | ⟨h2', h2, h⟩
 ·replace h := bn h; obtain ⟨h3, h⟩ := h
  replace h := bn h; obtain ⟨h4, h⟩ := h
  replace h := zbrk M (by omega) j (by omega) w4 _ _ _ _ _ _ _ _ _ _ _ h R hR
  simp only [zbok, simprocAttr, *]
 ·replace h := bn h; obtain ⟨h5, h⟩ := h
  replace h := bn h; obtain ⟨h6, h⟩ := h
  replace h := zbrk M (by omega) j (by omega) w4 _ _ _ _ _ _ _ _ _ _ _ h R hR
  simp only [zbok, simprocAttr, *]
theorem zbon (q : Nat) : zboj (q + 1) := by
 intro M hM j hj w4 h0_0 h0_1 h0_2 h0_3 h1_0z h1_0l h1_1 h2_0 h3_0 h4l r h R hR fr H hc
 obtain ⟨j, rfl⟩ : ∃ i, j = i + 1 := ⟨j - 1, by omega⟩
 rw [zhn, hc]; clear hc
 rw [zl0] at h
 cases h; subst hR; simp only [zbok, simprocAttr, *]
theorem zboo : ∀ q, zboh q ∧ zboi q ∧ zboj q
 | 0 => by refine ⟨?_, ?_, ?_⟩ <;> (intro M hM j hj; intros; rename_i h _ _ _ _ _; cases h)
 | q + 1 => by have ⟨i0, i1, i2⟩ := zboo q; exact ⟨zbol q i1, zbom q i2, zbon q⟩
theorem zbop : ∀ (q M : Nat), 8 * q ≤ M → ∀ (w4 : Nat), ∀ (h0_0 h0_1 h0_2 h0_3 : Int), ∀ (h1_0z : Bool), ∀ (h1_0l : List Int), ∀ (h1_1 : Bool), ∀ (h4l : List Int), ∀ (r : Nat × (List Int) × Bool × Int × Int), zl3 q h0_0 h0_1 h0_2 h0_3 h1_0z h1_0l h1_1 h4l = some r → (orc T (M + 7)).inl F.znt [(.ptr 1 0), (.psl [(.ptr 2 0), (.ptr 3 0)])] [(.box [(.int .i64 h0_0), (.int .i64 h0_1), (.int .i64 h0_2), (.int .i64 h0_3), (.vw 4 w4 0 h4l.length 1), (.bool false), (.int .i64 0), (.sl true [])]), (.box [(.sl h1_0z (List.map (V.int .u8) h1_0l)), (.bool h1_1)]), (.box [(.int .i64 0)]), (.box [(.int .i64 0)]), (.row w4 false 1 (List.map (V.int .i64) h4l) true)] = (some ([], [(.box [(.int .i64 h0_0), (.int .i64 h0_1), (.int .i64 h0_2), (.int .i64 h0_3), (.vw 4 w4 0 r.1 1), (.bool false), (.int .i64 0), (.sl true [])]), (.box [(.sl h1_0z (List.map (V.int .u8) r.2.1)), (.bool r.2.2.1)]), (.box [(.int .i64 r.2.2.2.1)]), (.box [(.int .i64 r.2.2.2.2)]), (.row w4 false 1 (List.map (V.int .i64) h4l) true)]) : Option (List V × Hp)) := by
 intro q M hM w4 h0_0 h0_1 h0_2 h0_3 h1_0z h1_0l h1_1 h4l r h
 rcases q with _ | q
 ·cases h
 have ih_delta_read_s2_l0 := (zboo q).1
 generalize hR : (some ([], [(.box [(.int .i64 h0_0), (.int .i64 h0_1), (.int .i64 h0_2), (.int .i64 h0_3), (.vw 4 w4 0 r.1 1), (.bool false), (.int .i64 0), (.sl true [])]), (.box [(.sl h1_0z (List.map (V.int .u8) r.2.1)), (.bool r.2.2.1)]), (.box [(.int .i64 r.2.2.2.1)]), (.box [(.int .i64 r.2.2.2.2)]), (.row w4 false 1 (List.map (V.int .i64) h4l) true)]) : Option (List V × Hp)) = R
 rw [zbex (n := M + 6)]
 rw [zl3] at h
 replace h := ih_delta_read_s2_l0 M (by omega) (M + 6) (by omega) w4 _ _ _ _ _ _ _ _ _ h R hR
 simp only [zbok, simprocAttr, *]
def zboq (q : Nat) : Prop := ∀ (M : Nat) (hM : 8 * q ≤ M) (j : Nat) (hj : q ≤ j) (h0_0 h0_1 h0_2 h0_3 : Int) (h0_5 : Bool) (h0_6 : Int) (h1_0z : Bool) (h1_0l : List Int) (h1_1 : Bool) (h2_0 : Int) (r : (List Int) × Bool × Int × Int) (_ : zl6 q h0_0 h0_1 h0_2 h0_3 h0_5 h0_6 h1_0z h1_0l h1_1 h2_0 = some r) (R : Option (List V × Hp)) (_ : (some ([], [(.box [(.int .i64 h0_0), (.int .i64 h0_1), (.int .i64 h0_2), (.int .i64 h0_3), (.sl true []), (.bool h0_5), (.int .i64 h0_6), (.sl true [])]), (.box [(.sl h1_0z (List.map (V.int .u8) r.1)), (.bool r.2.1)]), (.box [(.int .i64 h2_0)]), (.box [(.int .i64 r.2.2.1), (.int .i64 r.2.2.2), (.int .i64 0)])]) : Option (List V × Hp)) = R) (fr : Fr) (H : Hp) (_ : canon 4 [0, 6, 7, 8] fr H = ([(0, (.ptr 1 0)), (6, (.psl [(.ptr 3 0), (.ptr 3 1)])), (7, (.int .i64 2)), (8, (.int .i64 0))], [(.box [(.int .i64 h0_0), (.int .i64 h0_1), (.int .i64 h0_2), (.int .i64 h0_3), (.sl true []), (.bool h0_5), (.int .i64 h0_6), (.sl true [])]), (.box [(.sl h1_0z (List.map (V.int .u8) h1_0l)), (.bool h1_1)]), (.box [(.int .i64 h2_0)]), (.box [(.int .i64 0), (.int .i64 0), (.int .i64 0)])])), finI 4 false [] (unw T (orc T (M + 6)) (M + 6) 4 [.blk 0] (iter 4 [0, 6, 7, 8] (exec T (orc T (M + 6)) (M + 6) 4 z1m) j fr H)) = R
def zbor (q : Nat) : Prop := ∀ (M : Nat) (hM : 8 * q ≤ M) (j : Nat) (hj : q ≤ j) (h0_0 h0_1 h0_2 h0_3 : Int) (h0_5 : Bool) (h0_6 : Int) (h1_0z : Bool) (h1_0l : List Int) (h1_1 : Bool) (h2_0 h3_0 : Int) (r : (List Int) × Bool × Int × Int) (_ : zl5 q h0_0 h0_1 h0_2 h0_3 h0_5 h0_6 h1_0z h1_0l h1_1 h2_0 h3_0 = some r) (R : Option (List V × Hp)) (_ : (some ([], [(.box [(.int .i64 h0_0), (.int .i64 h0_1), (.int .i64 h0_2), (.int .i64 h0_3), (.sl true []), (.bool h0_5), (.int .i64 h0_6), (.sl true [])]), (.box [(.sl h1_0z (List.map (V.int .u8) r.1)), (.bool r.2.1)]), (.box [(.int .i64 h2_0)]), (.box [(.int .i64 r.2.2.1), (.int .i64 r.2.2.2), (.int .i64 0)])]) : Option (List V × Hp)) = R) (fr : Fr) (H : Hp) (_ : canon 4 [0, 6, 7, 8] fr H = ([(0, (.ptr 1 0)), (6, (.psl [(.ptr 3 0), (.ptr 3 1)])), (7, (.int .i64 2)), (8, (.int .i64 1))], [(.box [(.int .i64 h0_0), (.int .i64 h0_1), (.int .i64 h0_2), (.int .i64 h0_3), (.sl true []), (.bool h0_5), (.int .i64 h0_6), (.sl true [])]), (.box [(.sl h1_0z (List.map (V.int .u8) h1_0l)), (.bool h1_1)]), (.box [(.int .i64 h2_0)]), (.box [(.int .i64 h3_0), (.int .i64 0), (.int .i64 0)])])), finI 4 false [] (unw T (orc T (M + 6)) (M + 6) 4 [.blk 0] (iter 4 [0, 6, 7, 8] (exec T (orc T (M + 6)) (M + 6) 4 z1m) j fr H)) = R
def zbos (q : Nat) : Prop := ∀ (M : Nat) (hM : 8 * q ≤ M) (j : Nat) (hj : q ≤ j) (h0_0 h0_1 h0_2 h0_3 : Int) (h0_5 : Bool) (h0_6 : Int) (h1_0z : Bool) (h1_0l : List Int) (h1_1 : Bool) (h2_0 h3_0 h3_1 : Int) (r : (List Int) × Bool × Int × Int) (_ : zl4 q h0_0 h0_1 h0_2 h0_3 h0_5 h0_6 h1_0z h1_0l h1_1 h2_0 h3_0 h3_1 = some r) (R : Option (List V × Hp)) (_ : (some ([], [(.box [(.int .i64 h0_0), (.int .i64 h0_1), (.int .i64 h0_2), (.int .i64 h0_3), (.sl true []), (.bool h0_5), (.int .i64 h0_6), (.sl true [])]), (.box [(.sl h1_0z (List.map (V.int .u8) r.1)), (.bool r.2.1)]), (.box [(.int .i64 h2_0)]), (.box [(.int .i64 r.2.2.1), (.int .i64 r.2.2.2), (.int .i64 0)])]) : Option (List V × Hp)) = R) (fr : Fr) (H : Hp) (_ : canon 4 [0, 6, 7, 8] fr H = ([(0, (.ptr 1 0)), (6, (.psl [(.ptr 3 0), (.ptr 3 1)])), (7, (.int .i64 2)), (8, (.int .i64 2))], [(.box [(.int .i64 h0_0), (.int .i64 h0_1), (.int .i64 h0_2), (.int .i64 h0_3), (.sl true []), (.bool h0_5), (.int .i64 h0_6), (.sl true [])]), (.box [(.sl h1_0z (List.map (V.int .u8) h1_0l)), (.bool h1_1)]), (.box [(.int .i64 h2_0)]), (.box [(.int .i64 h3_0), (.int .i64 h3_1), (.int .i64 0)])])), finI 4 false [] (unw T (orc T (M + 6)) (M + 6) 4 [.blk 0] (iter 4 [0, 6, 7, 8] (exec T (orc T (M + 6)) (M + 6) 4 z1m) j fr H)) = R
def zbot := And.intro @kk <| And.intro @ke <| And.intro @kn <| And.intro @wl <| And.intro @zbev <| And.intro @zbf1 <| And.intro @zbf4 <| And.intro @zbek <| And.intro @zbf2 <| And.intro @zbf3 <| And.intro @zbf5 <| @zbf6
theorem zbou (q : Nat) (zbrl : zbor q) : zboq (q + 1) := by
 intro M hM j hj h0_0 h0_1 h0_2 h0_3 h0_5 h0_6 h1_0z h1_0l h1_1 h2_0 r h R hR fr H hc
 obtain ⟨j, rfl⟩ : ∃ i, j = i + 1 := ⟨j - 1, by omega⟩
 rw [zhn, hc]; clear hc
 rw [zl6] at h
 replace h := ob h; obtain ⟨r1, h1, h⟩ := h
 replace h1 := zbl2 q (M + 5) (by omega) _ _ h1
 try simp only [kf, simprocAttr] at h1
 replace h := bb h; rcases h with ⟨h2', h2, h⟩ | ⟨h2', h2, h⟩
 ·replace h := bn h; obtain ⟨h3, h⟩ := h
  replace h := bn h; obtain ⟨h4, h⟩ := h
  replace h := zbrl M (by omega) j (by omega) _ _ _ _ _ _ _ _ _ _ _ _ h R hR
  simp only [zbot, simprocAttr, *]
 ·replace h := bn h; obtain ⟨h5, h⟩ := h
  replace h := bn h; obtain ⟨h6, h⟩ := h
  replace h := zbrl M (by omega) j (by omega) _ _ _ _ _ _ _ _ _ _ _ _ h R hR
  simp only [zbot, simprocAttr, *]
theorem zbov (q : Nat) (zbrm : zbos q) : zbor (q + 1) := by
 intro M hM j hj h0_0 h0_1 h0_2 h0_3 h0_5 h0_6 h1_0z h1_0l h1_1 h2_0 h3_0 r h R hR fr H hc
 obtain ⟨j, rfl⟩ : ∃ i, j = i + 1 := ⟨j - 1, by omega⟩
 rw [zhn, hc]; clear hc
 rw [zl5] at h
 replace h := ob h; obtain ⟨r2, h1, h⟩ := h
 replace h1 := zbl2 q (M + 5) (by omega) _ _ h1
 try simp only [kf, simprocAttr] at h1
 replace h := bb h; rcases h with ⟨h2', h2, h⟩ | ⟨h2', h2, h⟩
 ·replace h := bn h; obtain ⟨h3, h⟩ := h
  replace h := bn h; obtain ⟨h4, h⟩ := h
  replace h := zbrm M (by omega) j (by omega) _ _ _ _ _ _ _ _ _ _ _ _ _ h R hR
  simp only [zbot, simprocAttr, *]
 ·replace h := bn h; obtain ⟨h5, h⟩ := h
  replace h := bn h; obtain ⟨h6, h⟩ := h
  replace h := zbrm M (by omega) j (by omega) _ _ _ _ _ _ _ _ _ _ _ _ _ h R hR
  simp only [zbot, simprocAttr, *]
theorem zbow (q : Nat) : zbos (q + 1) := by
 intro M hM j hj h0_0 h0_1 h0_2 h0_3 h0_5 h0_6 h1_0z h1_0l h1_1 h2_0 h3_0 h3_1 r h R hR fr H hc
 obtain ⟨j, rfl⟩ : ∃ i, j = i + 1 := ⟨j - 1, by omega⟩
 rw [zhn, hc]; clear hc
 rw [zl4] at h
 cases h; subst hR; simp only [zbot, simprocAttr, *]
theorem zbox : ∀ q, zboq q ∧ zbor q ∧ zbos q
 | 0 => by refine ⟨?_, ?_, ?_⟩ <;> (intro M hM j hj; intros; rename_i h _ _ _ _ _; cases h)
 | q + 1 => by have ⟨i0, i1, i2⟩ := zbox q; exact ⟨zbou q i1, zbov q i2, zbow q⟩
theorem zboy : ∀ (q M : Nat), 8 * q ≤ M → ∀ (h0_0 h0_1 h0_2 h0_3 : Int), ∀ (h0_5 : Bool), ∀ (h0_6 : Int), ∀ (h1_0z : Bool), ∀ (h1_0l : List Int), ∀ (h1_1 : Bool), ∀ (h2_0 : Int), ∀ (r : (List Int) × Bool × Int × Int), zl7 q h0_0 h0_1 h0_2 h0_3 h0_5 h0_6 h1_0z h1_0l h1_1 h2_0 = some r → (orc T (M + 7)).inl F.znt [(.ptr 1 0), (.psl [(.ptr 3 0), (.ptr 3 1)])] [(.box [(.int .i64 h0_0), (.int .i64 h0_1), (.int .i64 h0_2), (.int .i64 h0_3), (.sl true []), (.bool h0_5), (.int .i64 h0_6), (.sl true [])]), (.box [(.sl h1_0z (List.map (V.int .u8) h1_0l)), (.bool h1_1)]), (.box [(.int .i64 h2_0)]), (.box [(.int .i64 0), (.int .i64 0), (.int .i64 0)])] = (some ([], [(.box [(.int .i64 h0_0), (.int .i64 h0_1), (.int .i64 h0_2), (.int .i64 h0_3), (.sl true []), (.bool h0_5), (.int .i64 h0_6), (.sl true [])]), (.box [(.sl h1_0z (List.map (V.int .u8) r.1)), (.bool r.2.1)]), (.box [(.int .i64 h2_0)]), (.box [(.int .i64 r.2.2.1), (.int .i64 r.2.2.2), (.int .i64 0)])]) : Option (List V × Hp)) := by
 intro q M hM h0_0 h0_1 h0_2 h0_3 h0_5 h0_6 h1_0z h1_0l h1_1 h2_0 r h
 rcases q with _ | q
 ·cases h
 have ih_delta_read_s3_l0 := (zbox q).1
 generalize hR : (some ([], [(.box [(.int .i64 h0_0), (.int .i64 h0_1), (.int .i64 h0_2), (.int .i64 h0_3), (.sl true []), (.bool h0_5), (.int .i64 h0_6), (.sl true [])]), (.box [(.sl h1_0z (List.map (V.int .u8) r.1)), (.bool r.2.1)]), (.box [(.int .i64 h2_0)]), (.box [(.int .i64 r.2.2.1), (.int .i64 r.2.2.2), (.int .i64 0)])]) : Option (List V × Hp)) = R
 rw [zbex (n := M + 6)]
 rw [zl7] at h
 replace h := ih_delta_read_s3_l0 M (by omega) (M + 6) (by omega) _ _ _ _ _ _ _ _ _ _ _ h R hR
 simp only [zbot, simprocAttr, *]
def zboz (q : Nat) : Prop := ∀ (M : Nat) (hM : 8 * q ≤ M) (j : Nat) (hj : q ≤ j) (w3 : Nat) (h0_0 h0_1 h0_2 h0_3 : Int) (h0_4len : Nat) (h0_5 : Bool) (h0_6 : Int) (h1_0z : Bool) (h1_0l : List Int) (h1_1 : Bool) (h2_0 : Int) (h3l : List Int) (r : (List Int) × Bool × Int × Int) (_ : zma q h0_0 h0_1 h0_2 h0_3 h0_4len h0_5 h0_6 h1_0z h1_0l h1_1 h2_0 h3l = some r) (R : Option (List V × Hp)) (_ : (some ([], [(.box [(.int .i64 h0_0), (.int .i64 h0_1), (.int .i64 h0_2), (.int .i64 h0_3), (.vw 3 w3 0 h0_4len 1), (.bool h0_5), (.int .i64 h0_6), (.sl true [])]), (.box [(.sl h1_0z (List.map (V.int .u8) r.1)), (.bool r.2.1)]), (.box [(.int .i64 h2_0)]), (.row w3 false 1 (List.map (V.int .i64) h3l) true), (.box [(.int .i64 r.2.2.1), (.int .i64 r.2.2.2), (.int .i64 0)])]) : Option (List V × Hp)) = R) (fr : Fr) (H : Hp) (_ : canon 5 [0, 6, 7, 8] fr H = ([(0, (.ptr 1 0)), (6, (.psl [(.ptr 4 0), (.ptr 4 1)])), (7, (.int .i64 2)), (8, (.int .i64 0))], [(.box [(.int .i64 h0_0), (.int .i64 h0_1), (.int .i64 h0_2), (.int .i64 h0_3), (.vw 3 w3 0 h0_4len 1), (.bool h0_5), (.int .i64 h0_6), (.sl true [])]), (.box [(.sl h1_0z (List.map (V.int .u8) h1_0l)), (.bool h1_1)]), (.box [(.int .i64 h2_0)]), (.row w3 false 1 (List.map (V.int .i64) h3l) true), (.box [(.int .i64 0), (.int .i64 0), (.int .i64 0)])])), finI 5 false [] (unw T (orc T (M + 6)) (M + 6) 5 [.blk 0] (iter 5 [0, 6, 7, 8] (exec T (orc T (M + 6)) (M + 6) 5 z1m) j fr H)) = R
def zbo0 (q : Nat) : Prop := ∀ (M : Nat) (hM : 8 * q ≤ M) (j : Nat) (hj : q ≤ j) (w3 : Nat) (h0_0 h0_1 h0_2 h0_3 : Int) (h0_4len : Nat) (h0_5 : Bool) (h0_6 : Int) (h1_0z : Bool) (h1_0l : List Int) (h1_1 : Bool) (h2_0 : Int) (h3l : List Int) (h4_0 : Int) (r : (List Int) × Bool × Int × Int) (_ : zl9 q h0_0 h0_1 h0_2 h0_3 h0_4len h0_5 h0_6 h1_0z h1_0l h1_1 h2_0 h3l h4_0 = some r) (R : Option (List V × Hp)) (_ : (some ([], [(.box [(.int .i64 h0_0), (.int .i64 h0_1), (.int .i64 h0_2), (.int .i64 h0_3), (.vw 3 w3 0 h0_4len 1), (.bool h0_5), (.int .i64 h0_6), (.sl true [])]), (.box [(.sl h1_0z (List.map (V.int .u8) r.1)), (.bool r.2.1)]), (.box [(.int .i64 h2_0)]), (.row w3 false 1 (List.map (V.int .i64) h3l) true), (.box [(.int .i64 r.2.2.1), (.int .i64 r.2.2.2), (.int .i64 0)])]) : Option (List V × Hp)) = R) (fr : Fr) (H : Hp) (_ : canon 5 [0, 6, 7, 8] fr H = ([(0, (.ptr 1 0)), (6, (.psl [(.ptr 4 0), (.ptr 4 1)])), (7, (.int .i64 2)), (8, (.int .i64 1))], [(.box [(.int .i64 h0_0), (.int .i64 h0_1), (.int .i64 h0_2), (.int .i64 h0_3), (.vw 3 w3 0 h0_4len 1), (.bool h0_5), (.int .i64 h0_6), (.sl true [])]), (.box [(.sl h1_0z (List.map (V.int .u8) h1_0l)), (.bool h1_1)]), (.box [(.int .i64 h2_0)]), (.row w3 false 1 (List.map (V.int .i64) h3l) true), (.box [(.int .i64 h4_0), (.int .i64 0), (.int .i64 0)])])), finI 5 false [] (unw T (orc T (M + 6)) (M + 6) 5 [.blk 0] (iter 5 [0, 6, 7, 8] (exec T (orc T (M + 6)) (M + 6) 5 z1m) j fr H)) = R
def zbo1 (q : Nat) : Prop := ∀ (M : Nat) (hM : 8 * q ≤ M) (j : Nat) (hj : q ≤ j) (w3 : Nat) (h0_0 h0_1 h0_2 h0_3 : Int) (h0_4len : Nat) (h0_5 : Bool) (h0_6 : Int) (h1_0z : Bool) (h1_0l : List Int) (h1_1 : Bool) (h2_0 : Int) (h3l : List Int) (h4_0 h4_1 : Int) (r : (List Int) × Bool × Int × Int) (_ : zl8 q h0_0 h0_1 h0_2 h0_3 h0_4len h0_5 h0_6 h1_0z h1_0l h1_1 h2_0 h3l h4_0 h4_1 = some r) (R : Option (List V × Hp)) (_ : (some ([], [(.box [(.int .i64 h0_0), (.int .i64 h0_1), (.int .i64 h0_2), (.int .i64 h0_3), (.vw 3 w3 0 h0_4len 1), (.bool h0_5), (.int .i64 h0_6), (.sl true [])]), (.box [(.sl h1_0z (List.map (V.int .u8) r.1)), (.bool r.2.1)]), (.box [(.int .i64 h2_0)]), (.row w3 false 1 (List.map (V.int .i64) h3l) true), (.box [(.int .i64 r.2.2.1), (.int .i64 r.2.2.2), (.int .i64 0)])]) : Option (List V × Hp)) = R) (fr : Fr) (H : Hp) (_ : canon 5 [0, 6, 7, 8] fr H = ([(0, (.ptr 1 0)), (6, (.psl [(.ptr 4 0), (.ptr 4 1)])), (7, (.int .i64 2)), (8, (.int .i64 2))], [(.box [(.int .i64 h0_0), (.int .i64 h0_1), (.int .i64 h0_2), (.int .i64 h0_3), (.vw 3 w3 0 h0_4len 1), (.bool h0_5), (.int .i64 h0_6), (.sl true [])]), (.box [(.sl h1_0z (List.map (V.int .u8) h1_0l)), (.bool h1_1)]), (.box [(.int .i64 h2_0)]), (.row w3 false 1 (List.map (V.int .i64) h3l) true), (.box [(.int .i64 h4_0), (.int .i64 h4_1), (.int .i64 0)])])), finI 5 false [] (unw T (orc T (M + 6)) (M + 6) 5 [.blk 0] (iter 5 [0, 6, 7, 8] (exec T (orc T (M + 6)) (M + 6) 5 z1m) j fr H)) = R
def zbo2 := And.intro @kk <| And.intro @ke <| And.intro @kn <| And.intro @wl <| And.intro @zbev <| And.intro @zbf1 <| And.intro @zbf4 <| And.intro @zbek <| And.intro @zbf2 <| And.intro @zbf3 <| And.intro @zbf5 <| @zbf6
theorem zbo3 (q : Nat) (zbrn : zbo0 q) : zboz (q + 1) := by
 intro M hM j hj w3 h0_0 h0_1 h0_2 h0_3 h0_4len h0_5 h0_6 h1_0z h1_0l h1_1 h2_0 h3l r h R hR fr H hc
 obtain ⟨j, rfl⟩ : ∃ i, j = i + 1 := ⟨j - 1, by omega⟩
 rw [zhn, hc]; clear hc
 rw [zma] at h
 replace h := ob h; obtain ⟨r1, h1, h⟩ := h
 replace h1 := zbl2 q (M + 5) (by omega) _ _ h1
 try simp only [kf, simprocAttr] at h1
 replace h := bb h; rcases h with ⟨h2', h2, h⟩ | ⟨h2', h2, h⟩
 ·replace h := bn h; obtain ⟨h3, h⟩ := h
  replace h := bn h; obtain ⟨h4, h⟩ := h
  replace h := zbrn M (by omega) j (by omega) w3 _ _ _ _ _ _ _ _ _ _ _ _ _ _ h R hR
  simp only [zbo2, simprocAttr, *]
 ·replace h := bn h; obtain ⟨h5, h⟩ := h
  replace h := bn h; obtain ⟨h6, h⟩ := h
  replace h := zbrn M (by omega) j (by omega) w3 _ _ _ _ _ _ _ _ _ _ _ _ _ _ h R hR
  simp only [zbo2, simprocAttr, *]
theorem zbo4 (q : Nat) (zbro : zbo1 q) : zbo0 (q + 1) := by
 intro M hM j hj w3 h0_0 h0_1 h0_2 h0_3 h0_4len h0_5 h0_6 h1_0z h1_0l h1_1 h2_0 h3l h4_0 r h R hR fr H hc
 obtain ⟨j, rfl⟩ : ∃ i, j = i + 1 := ⟨j - 1, by omega⟩
 rw [zhn, hc]; clear hc
 rw [zl9] at h
 replace h := ob h; obtain ⟨r2, h1, h⟩ := h
 replace h1 := zbl2 q (M + 5) (by omega) _ _ h1
 try simp only [kf, simprocAttr] at h1
 replace h := bb h; rcases h with ⟨h2', h2, h⟩ | ⟨h2', h2, h⟩
 ·replace h := bn h; obtain ⟨h3, h⟩ := h
  replace h := bn h; obtain ⟨h4, h⟩ := h
  replace h := zbro M (by omega) j (by omega) w3 _ _ _ _ _ _ _ _ _ _ _ _ _ _ _ h R hR
  simp only [zbo2, simprocAttr, *]
 ·replace h := bn h; obtain ⟨h5, h⟩ := h
  replace h := bn h; obtain ⟨h6, h⟩ := h
  replace h := zbro M (by omega) j (by omega) w3 _ _ _ _ _ _ _ _ _ _ _ _ _ _ _ h R hR
  simp only [zbo2, simprocAttr, *]
theorem zbo5 (q : Nat) : zbo1 (q + 1) := by
 intro M hM j hj w3 h0_0 h0_1 h0_2 h0_3 h0_4len h0_5 h0_6 h1_0z h1_0l h1_1 h2_0 h3l h4_0 h4_1 r h R hR fr H hc
 obtain ⟨j, rfl⟩ : ∃ i, j = i + 1 := ⟨j - 1, by omega⟩
 rw [zhn, hc]; clear hc
 rw [zl8] at h
 cases h; subst hR; simp only [zbo2, simprocAttr, *]
theorem zbo6 : ∀ q, zboz q ∧ zbo0 q ∧ zbo1 q
 | 0 => by refine ⟨?_, ?_, ?_⟩ <;> (intro M hM j hj; intros; rename_i h _ _ _ _ _; cases h)
 | q + 1 => by have ⟨i0, i1, i2⟩ := zbo6 q; exact ⟨zbo3 q i1, zbo4 q i2, zbo5 q⟩
theorem zbo7 : ∀ (q M : Nat), 8 * q ≤ M → ∀ (w3 : Nat), ∀ (h0_0 h0_1 h0_2 h0_3 : Int), ∀ (h0_4len : Nat), ∀ (h0_5 : Bool), ∀ (h0_6 : Int), ∀ (h1_0z : Bool), ∀ (h1_0l : List Int), ∀ (h1_1 : Bool), ∀ (h2_0 : Int), ∀ (h3l : List Int), ∀ (r : (List Int) × Bool × Int × Int), zmb q h0_0 h0_1 h0_2 h0_3 h0_4len h0_5 h0_6 h1_0z h1_0l h1_1 h2_0 h3l = some r → (orc T (M + 7)).inl F.znt [(.ptr 1 0), (.psl [(.ptr 4 0), (.ptr 4 1)])] [(.box [(.int .i64 h0_0), (.int .i64 h0_1), (.int .i64 h0_2), (.int .i64 h0_3), (.vw 3 w3 0 h0_4len 1), (.bool h0_5), (.int .i64 h0_6), (.sl true [])]), (.box [(.sl h1_0z (List.map (V.int .u8) h1_0l)), (.bool h1_1)]), (.box [(.int .i64 h2_0)]), (.row w3 false 1 (List.map (V.int .i64) h3l) true), (.box [(.int .i64 0), (.int .i64 0), (.int .i64 0)])] = (some ([], [(.box [(.int .i64 h0_0), (.int .i64 h0_1), (.int .i64 h0_2), (.int .i64 h0_3), (.vw 3 w3 0 h0_4len 1), (.bool h0_5), (.int .i64 h0_6), (.sl true [])]), (.box [(.sl h1_0z (List.map (V.int .u8) r.1)), (.bool r.2.1)]), (.box [(.int .i64 h2_0)]), (.row w3 false 1 (List.map (V.int .i64) h3l) true), (.box [(.int .i64 r.2.2.1), (.int .i64 r.2.2.2), (.int .i64 0)])]) : Option (List V × Hp)) := by
 intro q M hM w3 h0_0 h0_1 h0_2 h0_3 h0_4len h0_5 h0_6 h1_0z h1_0l h1_1 h2_0 h3l r h
 rcases q with _ | q
 ·cases h
 have ih_delta_read_s4_l0 := (zbo6 q).1
 generalize hR : (some ([], [(.box [(.int .i64 h0_0), (.int .i64 h0_1), (.int .i64 h0_2), (.int .i64 h0_3), (.vw 3 w3 0 h0_4len 1), (.bool h0_5), (.int .i64 h0_6), (.sl true [])]), (.box [(.sl h1_0z (List.map (V.int .u8) r.1)), (.bool r.2.1)]), (.box [(.int .i64 h2_0)]), (.row w3 false 1 (List.map (V.int .i64) h3l) true), (.box [(.int .i64 r.2.2.1), (.int .i64 r.2.2.2), (.int .i64 0)])]) : Option (List V × Hp)) = R
 rw [zbex (n := M + 6)]
 rw [zmb] at h
 replace h := ih_delta_read_s4_l0 M (by omega) (M + 6) (by omega) w3 _ _ _ _ _ _ _ _ _ _ _ _ _ h R hR
 simp only [zbo2, simprocAttr, *]
def zbo8 (q : Nat) : Prop := ∀ (M : Nat) (hM : 8 * q ≤ M) (j : Nat) (hj : q ≤ j) (w3 : Nat) (h0_0 h0_1 h0_2 h0_3 : Int) (h0_5 : Bool) (h0_6 : Int) (h1_0z : Bool) (h1_0l : List Int) (h1_1 : Bool) (h2_0 : Int) (h3l : List zjk) (r : Nat × (List Int) × Bool × Int × Int) (_ : zme q h0_0 h0_1 h0_2 h0_3 h0_5 h0_6 h1_0z h1_0l h1_1 h2_0 h3l = some r) (R : Option (List V × Hp)) (_ : (some ([], [(.box [(.int .i64 h0_0), (.int .i64 h0_1), (.int .i64 h0_2), (.int .i64 h0_3), (.sl true []), (.bool h0_5), (.int .i64 h0_6), (.vw 3 w3 0 r.1 1)]), (.box [(.sl h1_0z (List.map (V.int .u8) r.2.1)), (.bool r.2.2.1)]), (.box [(.int .i64 h2_0)]), (.row w3 false 3 (List.map zjk.enc h3l) true), (.box [(.int .i64 r.2.2.2.1), (.int .i64 r.2.2.2.2), (.int .i64 0)])]) : Option (List V × Hp)) = R) (fr : Fr) (H : Hp) (_ : canon 5 [0, 6, 7, 8] fr H = ([(0, (.ptr 1 0)), (6, (.psl [(.ptr 4 0), (.ptr 4 1)])), (7, (.int .i64 2)), (8, (.int .i64 0))], [(.box [(.int .i64 h0_0), (.int .i64 h0_1), (.int .i64 h0_2), (.int .i64 h0_3), (.sl true []), (.bool h0_5), (.int .i64 h0_6), (.vw 3 w3 0 h3l.length 1)]), (.box [(.sl h1_0z (List.map (V.int .u8) h1_0l)), (.bool h1_1)]), (.box [(.int .i64 h2_0)]), (.row w3 false 3 (List.map zjk.enc h3l) true), (.box [(.int .i64 0), (.int .i64 0), (.int .i64 0)])])), finI 5 false [] (unw T (orc T (M + 6)) (M + 6) 5 [.blk 0] (iter 5 [0, 6, 7, 8] (exec T (orc T (M + 6)) (M + 6) 5 z1m) j fr H)) = R
def zbo9 (q : Nat) : Prop := ∀ (M : Nat) (hM : 8 * q ≤ M) (j : Nat) (hj : q ≤ j) (w3 : Nat) (h0_0 h0_1 h0_2 h0_3 : Int) (h0_5 : Bool) (h0_6 : Int) (h1_0z : Bool) (h1_0l : List Int) (h1_1 : Bool) (h2_0 : Int) (h3l : List zjk) (h4_0 : Int) (r : Nat × (List Int) × Bool × Int × Int) (_ : zmd q h0_0 h0_1 h0_2 h0_3 h0_5 h0_6 h1_0z h1_0l h1_1 h2_0 h3l h4_0 = some r) (R : Option (List V × Hp)) (_ : (some ([], [(.box [(.int .i64 h0_0), (.int .i64 h0_1), (.int .i64 h0_2), (.int .i64 h0_3), (.sl true []), (.bool h0_5), (.int .i64 h0_6), (.vw 3 w3 0 r.1 1)]), (.box [(.sl h1_0z (List.map (V.int .u8) r.2.1)), (.bool r.2.2.1)]), (.box [(.int .i64 h2_0)]), (.row w3 false 3 (List.map zjk.enc h3l) true), (.box [(.int .i64 r.2.2.2.1), (.int .i64 r.2.2.2.2), (.int .i64 0)])]) : Option (List V × Hp)) = R) (fr : Fr) (H : Hp) (_ : canon 5 [0, 6, 7, 8] fr H = ([(0, (.ptr 1 0)), (6, (.psl [(.ptr 4 0), (.ptr 4 1)])), (7, (.int .i64 2)), (8, (.int .i64 1))], [(.box [(.int .i64 h0_0), (.int .i64 h0_1), (.int .i64 h0_2), (.int .i64 h0_3), (.sl true []), (.bool h0_5), (.int .i64 h0_6), (.vw 3 w3 0 h3l.length 1)]), (.box [(.sl h1_0z (List.map (V.int .u8) h1_0l)), (.bool h1_1)]), (.box [(.int .i64 h2_0)]), (.row w3 false 3 (List.map zjk.enc h3l) true), (.box [(.int .i64 h4_0), (.int .i64 0), (.int .i64 0)])])), finI 5 false [] (unw T (orc T (M + 6)) (M + 6) 5 [.blk 0] (iter 5 [0, 6, 7, 8] (exec T (orc T (M + 6)) (M + 6) 5 z1m) j fr H)) = R
def zbpa (q : Nat) : Prop := ∀ (M : Nat) (hM : 8 * q ≤ M) (j : Nat) (hj : q ≤ j) (w3 : Nat) (h0_0 h0_1 h0_2 h0_3 : Int) (h0_5 : Bool) (h0_6 : Int) (h1_0z : Bool) (h1_0l : List Int) (h1_1 : Bool) (h2_0 : Int) (h3l : List zjk) (h4_0 h4_1 : Int) (r : Nat × (List Int) × Bool × Int × Int) (_ : zmc q h0_0 h0_1 h0_2 h0_3 h0_5 h0_6 h1_0z h1_0l h1_1 h2_0 h3l h4_0 h4_1 = some r) (R : Option (List V × Hp)) (_ : (some ([], [(.box [(.int .i64 h0_0), (.int .i64 h0_1), (.int .i64 h0_2), (.int .i64 h0_3), (.sl true []), (.bool h0_5), (.int .i64 h0_6), (.vw 3 w3 0 r.1 1)]), (.box [(.sl h1_0z (List.map (V.int .u8) r.2.1)), (.bool r.2.2.1)]), (.box [(.int .i64 h2_0)]), (.row w3 false 3 (List.map zjk.enc h3l) true), (.box [(.int .i64 r.2.2.2.1), (.int .i64 r.2.2.2.2), (.int .i64 0)])]) : Option (List V × Hp)) = R) (fr : Fr) (H : Hp) (_ : canon 5 [0, 6, 7, 8] fr H = ([(0, (.ptr 1 0)), (6, (.psl [(.ptr 4 0), (.ptr 4 1)])), (7, (.int .i64 2)), (8, (.int .i64 2))], [(.box [(.int .i64 h0_0), (.int .i64 h0_1), (.int .i64 h0_2), (.int .i64 h0_3), (.sl true []), (.bool h0_5), (.int .i64 h0_6), (.vw 3 w3 0 h3l.length 1)]), (.box [(.sl h1_0z (List.map (V.int .u8) h1_0l)), (.bool h1_1)]), (.box [(.int .i64 h2_0)]), (.row w3 false 3 (List.map zjk.enc h3l) true), (.box [(.int .i64 h4_0), (.int .i64 h4_1), (.int .i64 0)])])), finI 5 false [] (unw T (orc T (M + 6)) (M + 6) 5 [.blk 0] (iter 5 [0, 6, 7, 8] (exec T (orc T (M + 6)) (M + 6) 5 z1m) j fr H)) = R
def zbpb := And.intro @kk <| And.intro @ke <| And.intro @kn <| And.intro @wl <| And.intro @zbev <| And.intro @zbf1 <| And.intro @zbf4 <| And.intro @zbek <| And.intro @zbf2 <| And.intro @zbf3 <| And.intro @zbf5 <| @zbf6
theorem zbpc (q : Nat) (zbrp : zbo9 q) : zbo8 (q + 1) := by
 intro M hM j hj w3 h0_0 h0_1 h0_2 h0_3 h0_5 h0_6 h1_0z h1_0l h1_1 h2_0 h3l r h R hR fr H hc
 obtain ⟨j, rfl⟩ : ∃ i, j = i + 1 := ⟨j - 1, by omega⟩
 rw [zhn, hc]; clear hc
 rw [zme] at h
 replace h := ob h; obtain ⟨r1, h1, h⟩ := h
 replace h1 := zbl2 q (M + 5) (by omega) _ _ h1
 try simp only [kf, simprocAttr] at h1
 replace h := bb h; rcases h with ⟨h2', h2, h⟩ | ⟨h2', h2, h⟩
 ·replace h := bn h; obtain ⟨h3, h⟩ := h
  replace h := bn h; obtain ⟨h4, h⟩ := h
  replace h := zbrp M (by omega) j (by omega) w3 _ _ _ _ _ _ _ _ _ _ _ _ _ h R hR
  simp only [zbpb, simprocAttr, *]
 ·replace h := bn h; obtain ⟨h5, h⟩ := h
  replace h := bn h; obtain ⟨h6, h⟩ := h
  replace h := zbrp M (by omega) j (by omega) w3 _ _ _ _ _ _ _ _ _ _ _ _ _ h R hR
  simp only [zbpb, simprocAttr, *]
theorem zbpd (q : Nat) (zbrq : zbpa q) : zbo9 (q + 1) := by
 intro M hM j hj w3 h0_0 h0_1 h0_2 h0_3 h0_5 h0_6 h1_0z h1_0l h1_1 h2_0 h3l h4_0 r h R hR fr H hc
 obtain ⟨j, rfl⟩ : ∃ i, j = i + 1 := ⟨j - 1, by omega⟩
 rw [zhn, hc]; clear hc
 rw [zmd] at h
 replace h := ob h; obtain ⟨r2, h1, h⟩ := h
 replace h1 := zbl2 q (M + 5) (by omega) _ _ h1
 try simp only [kf, simprocAttr] at h1
 replace h := bb h; rcases h with ⟨h2', h2, h⟩ | ⟨h2', h2, h⟩
 ·replace h := bn h; obtain ⟨h3, h⟩ := h
  replace h := bn h; obtain ⟨h4, h⟩ := h
  replace h := zbrq M (by omega) j (by omega) w3 _ _ _ _ _ _ _ _ _ _ _ _ _ _ h R hR
  simp only [zbpb, simprocAttr, *]
 ·replace h := bn h; obtain ⟨h5, h⟩ := h
  replace h := bn h; obtain ⟨h6, h⟩ := h
  replace h := zbrq M (by omega) j (by omega) w3 _ _ _ _ _ _ _ _ _ _ _ _ _ _ h R hR
  simp only [zbpb, simprocAttr, *]
theorem zbpe (q : Nat) : zbpa (q + 1) := by
 intro M hM j hj w3 h0_0 h0_1 h0_2 h0_3 h0_5 h0_6 h1_0z h1_0l h1_1 h2_0 h3l h4_0 h4_1 r h R hR fr H hc
 obtain ⟨j, rfl⟩ : ∃ i, j = i + 1 := ⟨j - 1, by omega⟩
 rw [zhn, hc]; clear hc
 rw [zmc] at h
 cases h; subst hR; simp only [zbpb, simprocAttr, *]
theorem zbpf : ∀ q, zbo8 q ∧ zbo9 q ∧ zbpa q
 | 0 => by refine ⟨?_, ?_, ?_⟩ <;> (intro M hM j hj; intros; rename_i h _ _ _ _ _; cases h)
 | q + 1 => by have ⟨i0, i1, i2⟩ := zbpf q; exact ⟨zbpc q i1, zbpd q i2, zbpe q⟩
theorem zbpg : ∀ (q M : Nat), 8 * q ≤ M → ∀ (w3 : Nat), ∀ (h0_0 h0_1 h0_2 h0_3 : Int), ∀ (h0_5 : Bool), ∀ (h0_6 : Int), ∀ (h1_0z : Bool), ∀ (h1_0l : List Int), ∀ (h1_1 : Bool), ∀ (h2_0 : Int), ∀ (h3l : List zjk), ∀ (r : Nat × (List Int) × Bool × Int × Int), zmf q h0_0 h0_1 h0_2 h0_3 h0_5 h0_6 h1_0z h1_0l h1_1 h2_0 h3l = some r → (orc T (M + 7)).inl F.znt [(.ptr 1 0), (.psl [(.ptr 4 0), (.ptr 4 1)])] [(.box [(.int .i64 h0_0), (.int .i64 h0_1), (.int .i64 h0_2), (.int .i64 h0_3), (.sl true []), (.bool h0_5), (.int .i64 h0_6), (.vw 3 w3 0 h3l.length 1)]), (.box [(.sl h1_0z (List.map (V.int .u8) h1_0l)), (.bool h1_1)]), (.box [(.int .i64 h2_0)]), (.row w3 false 3 (List.map zjk.enc h3l) true), (.box [(.int .i64 0), (.int .i64 0), (.int .i64 0)])] = (some ([], [(.box [(.int .i64 h0_0), (.int .i64 h0_1), (.int .i64 h0_2), (.int .i64 h0_3), (.sl true []), (.bool h0_5), (.int .i64 h0_6), (.vw 3 w3 0 r.1 1)]), (.box [(.sl h1_0z (List.map (V.int .u8) r.2.1)), (.bool r.2.2.1)]), (.box [(.int .i64 h2_0)]), (.row w3 false 3 (List.map zjk.enc h3l) true), (.box [(.int .i64 r.2.2.2.1), (.int .i64 r.2.2.2.2), (.int .i64 0)])]) : Option (List V × Hp)) := by
 intro q M hM w3 h0_0 h0_1 h0_2 h0_3 h0_5 h0_6 h1_0z h1_0l h1_1 h2_0 h3l r h
 rcases q with _ | q
 ·cases h
 have ih_delta_read_s5_l0 := (zbpf q).1
 generalize hR : (some ([], [(.box [(.int .i64 h0_0), (.int .i64 h0_1), (.int .i64 h0_2), (.int .i64 h0_3), (.sl true []), (.bool h0_5), (.int .i64 h0_6), (.vw 3 w3 0 r.1 1)]), (.box [(.sl h1_0z (List.map (V.int .u8) r.2.1)), (.bool r.2.2.1)]), (.box [(.int .i64 h2_0)]), (.row w3 false 3 (List.map zjk.enc h3l) true), (.box [(.int .i64 r.2.2.2.1), (.int .i64 r.2.2.2.2), (.int .i64 0)])]) : Option (List V × Hp)) = R
 rw [zbex (n := M + 6)]
 rw [zmf] at h
 replace h := ih_delta_read_s5_l0 M (by omega) (M + 6) (by omega) w3 _ _ _ _ _ _ _ _ _ _ _ _ h R hR
 simp only [zbpb, simprocAttr, *]
def zbph (q : Nat) : Prop := ∀ (M : Nat) (hM : 8 * q ≤ M) (j : Nat) (hj : q ≤ j) (w3 w4 : Nat) (h0_0 h0_1 h0_2 h0_3 : Int) (h0_4len : Nat) (h0_5 : Bool) (h0_6 : Int) (h1_0z : Bool) (h1_0l : List Int) (h1_1 : Bool) (h2_0 : Int) (h3l : List Int) (h4l : List zjk) (r : Nat × (List Int) × Bool × Int × Int) (_ : zmi q h0_0 h0_1 h0_2 h0_3 h0_4len h0_5 h0_6 h1_0z h1_0l h1_1 h2_0 h3l h4l = some r) (R : Option (List V × Hp)) (_ : (some ([], [(.box [(.int .i64 h0_0), (.int .i64 h0_1), (.int .i64 h0_2), (.int .i64 h0_3), (.vw 3 w3 0 h0_4len 1), (.bool h0_5), (.int .i64 h0_6), (.vw 4 w4 0 r.1 1)]), (.box [(.sl h1_0z (List.map (V.int .u8) r.2.1)), (.bool r.2.2.1)]), (.box [(.int .i64 h2_0)]), (.row w3 false 1 (List.map (V.int .i64) h3l) true), (.row w4 false 3 (List.map zjk.enc h4l) true), (.box [(.int .i64 r.2.2.2.1), (.int .i64 r.2.2.2.2), (.int .i64 0)])]) : Option (List V × Hp)) = R) (fr : Fr) (H : Hp) (_ : canon 6 [0, 6, 7, 8] fr H = ([(0, (.ptr 1 0)), (6, (.psl [(.ptr 5 0), (.ptr 5 1)])), (7, (.int .i64 2)), (8, (.int .i64 0))], [(.box [(.int .i64 h0_0), (.int .i64 h0_1), (.int .i64 h0_2), (.int .i64 h0_3), (.vw 3 w3 0 h0_4len 1), (.bool h0_5), (.int .i64 h0_6), (.vw 4 w4 0 h4l.length 1)]), (.box [(.sl h1_0z (List.map (V.int .u8) h1_0l)), (.bool h1_1)]), (.box [(.int .i64 h2_0)]), (.row w3 false 1 (List.map (V.int .i64) h3l) true), (.row w4 false 3 (List.map zjk.enc h4l) true), (.box [(.int .i64 0), (.int .i64 0), (.int .i64 0)])])), finI 6 false [] (unw T (orc T (M + 6)) (M + 6) 6 [.blk 0] (iter 6 [0, 6, 7, 8] (exec T (orc T (M + 6)) (M + 6) 6 z1m) j fr H)) = R
def zbpi (q : Nat) : Prop := ∀ (M : Nat) (hM : 8 * q ≤ M) (j : Nat) (hj : q ≤ j) (w3 w4 : Nat) (h0_0 h0_1 h0_2 h0_3 : Int) (h0_4len : Nat) (h0_5 : Bool) (h0_6 : Int) (h1_0z : Bool) (h1_0l : List Int) (h1_1 : Bool) (h2_0 : Int) (h3l : List Int) (h4l : List zjk) (h5_0 : Int) (r : Nat × (List Int) × Bool × Int × Int) (_ : zmh q h0_0 h0_1 h0_2 h0_3 h0_4len h0_5 h0_6 h1_0z h1_0l h1_1 h2_0 h3l h4l h5_0 = some r) (R : Option (List V × Hp)) (_ : (some ([], [(.box [(.int .i64 h0_0), (.int .i64 h0_1), (.int .i64 h0_2), (.int .i64 h0_3), (.vw 3 w3 0 h0_4len 1), (.bool h0_5), (.int .i64 h0_6), (.vw 4 w4 0 r.1 1)]), (.box [(.sl h1_0z (List.map (V.int .u8) r.2.1)), (.bool r.2.2.1)]), (.box [(.int .i64 h2_0)]), (.row w3 false 1 (List.map (V.int .i64) h3l) true), (.row w4 false 3 (List.map zjk.enc h4l) true), (.box [(.int .i64 r.2.2.2.1), (.int .i64 r.2.2.2.2), (.int .i64 0)])]) : Option (List V × Hp)) = R) (fr : Fr) (H : Hp) (_ : canon 6 [0, 6, 7, 8] fr H = ([(0, (.ptr 1 0)), (6, (.psl [(.ptr 5 0), (.ptr 5 1)])), (7, (.int .i64 2)), (8, (.int .i64 1))], [(.box [(.int .i64 h0_0), (.int .i64 h0_1), (.int .i64 h0_2), (.int .i64 h0_3), (.vw 3 w3 0 h0_4len 1), (.bool h0_5), (.int .i64 h0_6), (.vw 4 w4 0 h4l.length 1)]), (.box [(.sl h1_0z (List.map (V.int .u8) h1_0l)), (.bool h1_1)]), (.box [(.int .i64 h2_0)]), (.row w3 false 1 (List.map (V.int .i64) h3l) true), (.row w4 false 3 (List.map zjk.enc h4l) true), (.box [(.int .i64 h5_0), (.int .i64 0), (.int .i64 0)])])), finI 6 false [] (unw T (orc T (M + 6)) (M + 6) 6 [.blk 0] (iter 6 [0, 6, 7, 8] (exec T (orc T (M + 6)) (M + 6) 6 z1m) j fr H)) = R
def zbpj (q : Nat) : Prop := ∀ (M : Nat) (hM : 8 * q ≤ M) (j : Nat) (hj : q ≤ j) (w3 w4 : Nat) (h0_0 h0_1 h0_2 h0_3 : Int) (h0_4len : Nat) (h0_5 : Bool) (h0_6 : Int) (h1_0z : Bool) (h1_0l : List Int) (h1_1 : Bool) (h2_0 : Int) (h3l : List Int) (h4l : List zjk) (h5_0 h5_1 : Int) (r : Nat × (List Int) × Bool × Int × Int) (_ : zmg q h0_0 h0_1 h0_2 h0_3 h0_4len h0_5 h0_6 h1_0z h1_0l h1_1 h2_0 h3l h4l h5_0 h5_1 = some r) (R : Option (List V × Hp)) (_ : (some ([], [(.box [(.int .i64 h0_0), (.int .i64 h0_1), (.int .i64 h0_2), (.int .i64 h0_3), (.vw 3 w3 0 h0_4len 1), (.bool h0_5), (.int .i64 h0_6), (.vw 4 w4 0 r.1 1)]), (.box [(.sl h1_0z (List.map (V.int .u8) r.2.1)), (.bool r.2.2.1)]), (.box [(.int .i64 h2_0)]), (.row w3 false 1 (List.map (V.int .i64) h3l) true), (.row w4 false 3 (List.map zjk.enc h4l) true), (.box [(.int .i64 r.2.2.2.1), (.int .i64 r.2.2.2.2), (.int .i64 0)])]) : Option (List V × Hp)) = R) (fr : Fr) (H : Hp) (_ : canon 6 [0, 6, 7, 8] fr H = ([(0, (.ptr 1 0)), (6, (.psl [(.ptr 5 0), (.ptr 5 1)])), (7, (.int .i64 2)), (8, (.int .i64 2))], [(.box [(.int .i64 h0_0), (.int .i64 h0_1), (.int .i64 h0_2), (.int .i64 h0_3), (.vw 3 w3 0 h0_4len 1), (.bool h0_5), (.int .i64 h0_6), (.vw 4 w4 0 h4l.length 1)]), (.box [(.sl h1_0z (List.map (V.int .u8) h1_0l)), (.bool h1_1)]), (.box [(.int .i64 h2_0)]), (.row w3 false 1 (List.map (V.int .i64) h3l) true), (.row w4 false 3 (List.map zjk.enc h4l) true), (.box [(.int .i64 h5_0), (.int .i64 h5_1), (.int .i64 0)])])), finI 6 false [] (unw T (orc T (M + 6)) (M + 6) 6 [.blk 0] (iter 6 [0, 6, 7, 8] (exec T (orc T (M + 6)) (M + 6) 6 z1m) j fr H)) = R
def zbpk := And.intro @kk <| And.intro @ke <| And.intro @kn <| And.intro @wl <| And.intro @zbev <| And.intro @zbf1 <| And.intro @zbf4 <| And.intro @zbek <| And.intro @zbf2 <| And.intro @zbf3 <| And.intro @zbf5 <| @zbf6
theorem zbpl (q : Nat) (zbrr : zbpi q) : zbph (q + 1) := by
 intro M hM j hj w3 w4 h0_0 h0_1 h0_2 h0_3 h0_4len h0_5 h0_6 h1_0z h1_0l h1_1 h2_0 h3l h4l r h R hR fr H hc
 obtain ⟨j, rfl⟩ : ∃ i, j = i + 1 := ⟨j - 1, by omega⟩
 rw [zhn, hc]; clear hc
 rw [zmi] at h
 replace h := ob h; obtain ⟨r1, h1, h⟩ := h
 replace h1 := zbl2 q (M + 5) (by omega) _ _ h1
 try simp only [kf, simprocAttr] at h1
 replace h := bb h; rcases h with ⟨h2', h2, h⟩ | ⟨h2', h2, h⟩
 ·replace h := bn h; obtain ⟨h3, h⟩ := h
  replace h := bn h; obtain ⟨h4, h⟩ := h
  replace h := zbrr M (by omega) j (by omega) w3 w4 _ _ _ _ _ _ _ _ _ _ _ _ _ _ _ h R hR
  simp only [zbpk, simprocAttr, *]
 ·replace h := bn h; obtain ⟨h5, h⟩ := h
  replace h := bn h; obtain ⟨h6, h⟩ := h
  replace h := zbrr M (by omega) j (by omega) w3 w4 _ _ _ _ _ _ _ _ _ _ _ _ _ _ _ h R hR
  simp only [zbpk, simprocAttr, *]
theorem zbpm (q : Nat) (zbrs : zbpj q) : zbpi (q + 1) := by
 intro M hM j hj w3 w4 h0_0 h0_1 h0_2 h0_3 h0_4len h0_5 h0_6 h1_0z h1_0l h1_1 h2_0 h3l h4l h5_0 r h R hR fr H hc
 obtain ⟨j, rfl⟩ : ∃ i, j = i + 1 := ⟨j - 1, by omega⟩
 rw [zhn, hc]; clear hc
 rw [zmh] at h
 replace h := ob h; obtain ⟨r2, h1, h⟩ := h
 replace h1 := zbl2 q (M + 5) (by omega) _ _ h1
 try simp only [kf, simprocAttr] at h1
 replace h := bb h; rcases h with ⟨h2', h2, h⟩ | ⟨h2', h2, h⟩
 ·replace h := bn h; obtain ⟨h3, h⟩ := h
  replace h := bn h; obtain ⟨h4, h⟩ := h
  replace h := zbrs M (by omega) j (by omega) w3 w4 _ _ _ _ _ _ _ _ _ _ _ _ _ _ _ _ h R hR
  simp only [zbpk, simprocAttr, *]
 ·replace h := bn h; obtain ⟨h5, h⟩ := h
  replace h := bn h; obtain ⟨h6, h⟩ := h
  replace h := zbrs M (by omega) j (by omega) w3 w4 _ _ _ _ _ _ _ _ _ _ _ _ _ _ _ _ h R hR
  simp only [zbpk, simprocAttr, *]
theorem zbpn (q : Nat) : zbpj (q + 1) := by
 intro M hM j hj w3 w4 h0_0 h0_1 h0_2 h0_3 h0_4len h0_5 h0_6 h1_0z h1_0l h1_1 h2_0 h3l h4l h5_0 h5_1 r h R hR fr H hc
 obtain ⟨j, rfl⟩ : ∃ i, j = i + 1 := ⟨j - 1, by omega⟩
 rw [zhn, hc]; clear hc
 rw [zmg] at h
 cases h; subst hR; simp only [zbpk, simprocAttr, *]
theorem zbpo : ∀ q, zbph q ∧ zbpi q ∧ zbpj q
 | 0 => by refine ⟨?_, ?_, ?_⟩ <;> (intro M hM j hj; intros; rename_i h _ _ _ _ _; cases h)
 | q + 1 => by have ⟨i0, i1, i2⟩ := zbpo q; exact ⟨zbpl q i1, zbpm q i2, zbpn q⟩
theorem zbpp : ∀ (q M : Nat), 8 * q ≤ M → ∀ (w3 w4 : Nat), ∀ (h0_0 h0_1 h0_2 h0_3 : Int), ∀ (h0_4len : Nat), ∀ (h0_5 : Bool), ∀ (h0_6 : Int), ∀ (h1_0z : Bool), ∀ (h1_0l : List Int), ∀ (h1_1 : Bool), ∀ (h2_0 : Int), ∀ (h3l : List Int), ∀ (h4l : List zjk), ∀ (r : Nat × (List Int) × Bool × Int × Int), zmj q h0_0 h0_1 h0_2 h0_3 h0_4len h0_5 h0_6 h1_0z h1_0l h1_1 h2_0 h3l h4l = some r → (orc T (M + 7)).inl F.znt [(.ptr 1 0), (.psl [(.ptr 5 0), (.ptr 5 1)])] [(.box [(.int .i64 h0_0), (.int .i64 h0_1), (.int .i64 h0_2), (.int .i64 h0_3), (.vw 3 w3 0 h0_4len 1), (.bool h0_5), (.int .i64 h0_6), (.vw 4 w4 0 h4l.length 1)]), (.box [(.sl h1_0z (List.map (V.int .u8) h1_0l)), (.bool h1_1)]), (.box [(.int .i64 h2_0)]), (.row w3 false 1 (List.map (V.int .i64) h3l) true), (.row w4 false 3 (List.map zjk.enc h4l) true), (.box [(.int .i64 0), (.int .i64 0), (.int .i64 0)])] = (some ([], [(.box [(.int .i64 h0_0), (.int .i64 h0_1), (.int .i64 h0_2), (.int .i64 h0_3), (.vw 3 w3 0 h0_4len 1), (.bool h0_5), (.int .i64 h0_6), (.vw 4 w4 0 r.1 1)]), (.box [(.sl h1_0z (List.map (V.int .u8) r.2.1)), (.bool r.2.2.1)]), (.box [(.int .i64 h2_0)]), (.row w3 false 1 (List.map (V.int .i64) h3l) true), (.row w4 false 3 (List.map zjk.enc h4l) true), (.box [(.int .i64 r.2.2.2.1), (.int .i64 r.2.2.2.2), (.int .i64 0)])]) : Option (List V × Hp)) := by
 intro q M hM w3 w4 h0_0 h0_1 h0_2 h0_3 h0_4len h0_5 h0_6 h1_0z h1_0l h1_1 h2_0 h3l h4l r h
 rcases q with _ | q
 ·cases h
 have ih_delta_read_s6_l0 := (zbpo q).1
 generalize hR : (some ([], [(.box [(.int .i64 h0_0), (.int .i64 h0_1), (.int .i64 h0_2), (.int .i64 h0_3), (.vw 3 w3 0 h0_4len 1), (.bool h0_5), (.int .i64 h0_6), (.vw 4 w4 0 r.1 1)]), (.box [(.sl h1_0z (List.map (V.int .u8) r.2.1)), (.bool r.2.2.1)]), (.box [(.int .i64 h2_0)]), (.row w3 false 1 (List.map (V.int .i64) h3l) true), (.row w4 false 3 (List.map zjk.enc h4l) true), (.box [(.int .i64 r.2.2.2.1), (.int .i64 r.2.2.2.2), (.int .i64 0)])]) : Option (List V × Hp)) = R
 rw [zbex (n := M + 6)]
 rw [zmj] at h
 replace h := ih_delta_read_s6_l0 M (by omega) (M + 6) (by omega) w3 w4 _ _ _ _ _ _ _ _ _ _ _ _ _ _ h R hR
 simp only [zbpk, simprocAttr, *]
def zbpq (q : Nat) : Prop := ∀ (M : Nat) (hM : 8 * q ≤ M) (j : Nat) (hj : q ≤ j) (v23 h0_0 h0_1 h0_2 h0_3 : Int) (h1_0z : Bool) (h1_0l : List Int) (h1_1 : Bool) (r : zjm × Bool) (_ : zmp q v23 h0_0 h0_1 h0_2 h0_3 h1_0z h1_0l h1_1 = some r) (R : Option (List V)) (_ : some [zjm.enc r.1, V.bool r.2] = R) (fr : Fr) (H : Hp) (_ : canon 0 [2, 4, 6, 7, 23, 24] fr H = ([(2, (.ptr 0 0)), (4, (.ptr 1 0)), (6, (.ptr 2 0)), (7, (.ptr 3 0)), (23, (.int .i64 v23)), (24, (.int .i64 0))], [(.box [(.int .i64 h0_0), (.int .i64 h0_1), (.int .i64 h0_2), (.int .i64 h0_3), (.sl true []), (.bool false), (.int .i64 0), (.sl true [])]), (.box [(.sl h1_0z (List.map (V.int .u8) h1_0l)), (.bool h1_1)]), (.box [(.int .i64 0)]), (.box [(.int .i64 0)])])), fin zvg (unw T (orc T (M + 7)) (M + 7) 0 [.blk 0, .code zu9] (iter 0 [2, 4, 6, 7, 23, 24] (exec T (orc T (M + 7)) (M + 7) 0 zui) j fr H)) = R
def zbpr (q : Nat) : Prop := ∀ (M : Nat) (hM : 8 * q ≤ M) (j : Nat) (hj : q ≤ j) (v23 v24 h0_0 h0_1 h0_2 h0_3 : Int) (h1_0z : Bool) (h1_0l : List Int) (h1_1 : Bool) (h4l : List Int) (r : zjm × Bool) (_ : zmm q v23 v24 h0_0 h0_1 h0_2 h0_3 h1_0z h1_0l h1_1 h4l = some r) (R : Option (List V)) (_ : some [zjm.enc r.1, V.bool r.2] = R) (fr : Fr) (H : Hp) (_ : canon 0 [2, 4, 6, 7, 23, 24] fr H = ([(2, (.ptr 0 0)), (4, (.ptr 1 0)), (6, (.ptr 2 0)), (7, (.ptr 3 0)), (23, (.int .i64 v23)), (24, (.int .i64 v24))], [(.box [(.int .i64 h0_0), (.int .i64 h0_1), (.int .i64 h0_2), (.int .i64 h0_3), (.vw 4 0 0 h4l.length 1), (.bool false), (.int .i64 0), (.sl true [])]), (.box [(.sl h1_0z (List.map (V.int .u8) h1_0l)), (.bool h1_1)]), (.box [(.int .i64 0)]), (.box [(.int .i64 0)]), (.row 0 false 1 (List.map (V.int .i64) h4l) true)])), fin zvg (unw T (orc T (M + 7)) (M + 7) 0 [.blk 0, .code zu9] (iter 0 [2, 4, 6, 7, 23, 24] (exec T (orc T (M + 7)) (M + 7) 0 zui) j fr H)) = R
def zbps (q : Nat) : Prop := ∀ (M : Nat) (hM : 8 * q ≤ M) (j : Nat) (hj : q ≤ j) (h0_0 h0_1 h0_2 h0_3 : Int) (h0_5 : Bool) (h0_6 : Int) (h1_0z : Bool) (h1_0l : List Int) (h1_1 : Bool) (h2_0 : Int) (r : zjm × Bool) (_ : zmo q h0_0 h0_1 h0_2 h0_3 h0_5 h0_6 h1_0z h1_0l h1_1 h2_0 = some r) (R : Option (List V)) (_ : some [zjm.enc r.1, V.bool r.2] = R) (fr : Fr) (H : Hp) (_ : canon 0 [2, 4, 7, 8] fr H = ([(2, (.ptr 0 0)), (4, (.ptr 1 0)), (7, (.ptr 2 0)), (8, (.int .i64 0))], [(.box [(.int .i64 h0_0), (.int .i64 h0_1), (.int .i64 h0_2), (.int .i64 h0_3), (.sl true []), (.bool h0_5), (.int .i64 h0_6), (.sl true [])]), (.box [(.sl h1_0z (List.map (V.int .u8) h1_0l)), (.bool h1_1)]), (.box [(.int .i64 h2_0)])])), fin zvg (unw T (orc T (M + 7)) (M + 7) 0 [.blk 2, .code zu5] (iter 0 [2, 4, 7, 8] (exec T (orc T (M + 7)) (M + 7) 0 zu2) j fr H)) = R
def zbpt (q : Nat) : Prop := ∀ (M : Nat) (hM : 8 * q ≤ M) (j : Nat) (hj : q ≤ j) (h0_0 h0_1 h0_2 h0_3 : Int) (h0_4len : Nat) (h0_5 : Bool) (h0_6 : Int) (h1_0z : Bool) (h1_0l : List Int) (h1_1 : Bool) (h2_0 : Int) (h3l : List Int) (r : zjm × Bool) (_ : zml q h0_0 h0_1 h0_2 h0_3 h0_4len h0_5 h0_6 h1_0z h1_0l h1_1 h2_0 h3l = some r) (R : Option (List V)) (_ : some [zjm.enc r.1, V.bool r.2] = R) (fr : Fr) (H : Hp) (_ : canon 0 [2, 4, 7, 8] fr H = ([(2, (.ptr 0 0)), (4, (.ptr 1 0)), (7, (.ptr 2 0)), (8, (.int .i64 0))], [(.box [(.int .i64 h0_0), (.int .i64 h0_1), (.int .i64 h0_2), (.int .i64 h0_3), (.vw 3 0 0 h0_4len 1), (.bool h0_5), (.int .i64 h0_6), (.sl true [])]), (.box [(.sl h1_0z (List.map (V.int .u8) h1_0l)), (.bool h1_1)]), (.box [(.int .i64 h2_0)]), (.row 0 false 1 (List.map (V.int .i64) h3l) true)])), fin zvg (unw T (orc T (M + 7)) (M + 7) 0 [.blk 2, .code zu5] (iter 0 [2, 4, 7, 8] (exec T (orc T (M + 7)) (M + 7) 0 zu2) j fr H)) = R
def zbpu (q : Nat) : Prop := ∀ (M : Nat) (hM : 8 * q ≤ M) (j : Nat) (hj : q ≤ j) (v8 h0_0 h0_1 h0_2 h0_3 : Int) (h0_5 : Bool) (h0_6 : Int) (h1_0z : Bool) (h1_0l : List Int) (h1_1 : Bool) (h2_0 : Int) (h3l : List zjk) (r : zjm × Bool) (_ : zmn q v8 h0_0 h0_1 h0_2 h0_3 h0_5 h0_6 h1_0z h1_0l h1_1 h2_0 h3l = some r) (R : Option (List V)) (_ : some [zjm.enc r.1, V.bool r.2] = R) (fr : Fr) (H : Hp) (_ : canon 0 [2, 4, 7, 8] fr H = ([(2, (.ptr 0 0)), (4, (.ptr 1 0)), (7, (.ptr 2 0)), (8, (.int .i64 v8))], [(.box [(.int .i64 h0_0), (.int .i64 h0_1), (.int .i64 h0_2), (.int .i64 h0_3), (.sl true []), (.bool h0_5), (.int .i64 h0_6), (.vw 3 0 0 h3l.length 1)]), (.box [(.sl h1_0z (List.map (V.int .u8) h1_0l)), (.bool h1_1)]), (.box [(.int .i64 h2_0)]), (.row 0 false 3 (List.map zjk.enc h3l) true)])), fin zvg (unw T (orc T (M + 7)) (M + 7) 0 [.blk 2, .code zu5] (iter 0 [2, 4, 7, 8] (exec T (orc T (M + 7)) (M + 7) 0 zu2) j fr H)) = R
def zbpv (q : Nat) : Prop := ∀ (M : Nat) (hM : 8 * q ≤ M) (j : Nat) (hj : q ≤ j) (v8 h0_0 h0_1 h0_2 h0_3 : Int) (h0_4len : Nat) (h0_5 : Bool) (h0_6 : Int) (h1_0z : Bool) (h1_0l : List Int) (h1_1 : Bool) (h2_0 : Int) (h3l : List Int) (h4l : List zjk) (r : zjm × Bool) (_ : zmk q v8 h0_0 h0_1 h0_2 h0_3 h0_4len h0_5 h0_6 h1_0z h1_0l h1_1 h2_0 h3l h4l = some r) (R : Option (List V)) (_ : some [zjm.enc r.1, V.bool r.2] = R) (fr : Fr) (H : Hp) (_ : canon 0 [2, 4, 7, 8] fr H = ([(2, (.ptr 0 0)), (4, (.ptr 1 0)), (7, (.ptr 2 0)), (8, (.int .i64 v8))], [(.box [(.int .i64 h0_0), (.int .i64 h0_1), (.int .i64 h0_2), (.int .i64 h0_3), (.vw 3 0 0 h0_4len 1), (.bool h0_5), (.int .i64 h0_6), (.vw 4 0 0 h4l.length 1)]), (.box [(.sl h1_0z (List.map (V.int .u8) h1_0l)), (.bool h1_1)]), (.box [(.int .i64 h2_0)]), (.row 0 false 1 (List.map (V.int .i64) h3l) true), (.row 0 false 3 (List.map zjk.enc h4l) true)])), fin zvg (unw T (orc T (M + 7)) (M + 7) 0 [.blk 2, .code zu5] (iter 0 [2, 4, 7, 8] (exec T (orc T (M + 7)) (M + 7) 0 zu2) j fr H)) = R
def zbpw := And.intro @kk <| And.intro @ke <| And.intro @kn <| And.intro @zbcj <| And.intro @zbey <| And.intro @zbf4 <| And.intro @zbew <| And.intro @zbf8 <| And.intro @zbez <| And.intro @zbe0 <| And.intro @zbf5 <| And.intro @zbf6 <| @zbcl
theorem zbpx (q : Nat) (zbrt : zbpr q) (zbru : zbps q) : zbpq (q + 1) := by
 intro M hM j hj v23 h0_0 h0_1 h0_2 h0_3 h1_0z h1_0l h1_1 r h R hR fr H hc
 obtain ⟨j, rfl⟩ : ∃ i, j = i + 1 := ⟨j - 1, by omega⟩
 rw [zhn, hc]; clear hc
 rw [zmp] at h
 replace h := br h; rcases h with ⟨h1, h⟩ | ⟨h1, h⟩
 ·replace h := ob h; obtain ⟨r2, h2, h⟩ := h
  replace h2 := zbm2 q (M + 6) (by omega) _ _ h2
  try simp only [kf, simprocAttr] at h2
  replace h := bb h; rcases h with ⟨h3', h3, h⟩ | ⟨h3', h3, h⟩
  ·replace h := bn h; obtain ⟨h4, h⟩ := h
   replace h := bn h; obtain ⟨h5, h⟩ := h
   replace h := zbrt M (by omega) j (by omega) _ _ _ _ _ _ _ _ _ _ _ h R hR
   simp only [zbpw, simprocAttr, *]
  ·replace h := bn h; obtain ⟨h6, h⟩ := h
   replace h := bn h; obtain ⟨h7, h⟩ := h
   replace h := zbrt M (by omega) j (by omega) _ _ _ _ _ _ _ _ _ _ _ h R hR
   simp only [zbpw, simprocAttr, *]
 ·replace h := ob h; obtain ⟨r3, h8, h⟩ := h
  replace h8 := zbog q M (by omega) _ _ _ _ _ _ _ _ h8
  try simp only [kf, simprocAttr] at h8
  replace h := br h; rcases h with ⟨h9, h⟩ | ⟨h9, h⟩
  ·cases h; subst hR; simp only [zbpw, simprocAttr, *]
  ·replace h := zbru M (by omega) (M + 7) (by omega) _ _ _ _ _ _ _ _ _ _ _ h R hR
   simp only [zbpw, simprocAttr, *]
theorem zbpy (q : Nat) (zbrt : zbpr q) (zbrv : zbpt q) : zbpr (q + 1) := by
 intro M hM j hj v23 v24 h0_0 h0_1 h0_2 h0_3 h1_0z h1_0l h1_1 h4l r h R hR fr H hc
 obtain ⟨j, rfl⟩ : ∃ i, j = i + 1 := ⟨j - 1, by omega⟩
 rw [zhn, hc]; clear hc
 rw [zmm] at h
 replace h := br h; rcases h with ⟨h1, h⟩ | ⟨h1, h⟩
 ·replace h := ob h; obtain ⟨r4, h2, h⟩ := h
  replace h2 := zbm2 q (M + 6) (by omega) _ _ h2
  try simp only [kf, simprocAttr] at h2
  replace h := bb h; rcases h with ⟨h3', h3, h⟩ | ⟨h3', h3, h⟩
  ·replace h := bn h; obtain ⟨h4, h⟩ := h
   replace h := bn h; obtain ⟨h5, h⟩ := h
   replace h := bn h; obtain ⟨h6, h⟩ := h
   replace h := zbrt M (by omega) j (by omega) _ _ _ _ _ _ _ _ _ _ _ h R hR
   simp only [zbpw, simprocAttr, *]
  ·replace h := bn h; obtain ⟨h7, h⟩ := h
   replace h := bn h; obtain ⟨h8, h⟩ := h
   replace h := bn h; obtain ⟨h9, h⟩ := h
   replace h := zbrt M (by omega) j (by omega) _ _ _ _ _ _ _ _ _ _ _ h R hR
   simp only [zbpw, simprocAttr, *]
 ·replace h := ob h; obtain ⟨r5, h10, h⟩ := h
  replace h10 := zbop q M (by omega) 0 _ _ _ _ _ _ _ _ _ h10
  try simp only [kf, simprocAttr] at h10
  replace h := br h; rcases h with ⟨h11, h⟩ | ⟨h11, h⟩
  ·cases h; subst hR; simp only [zbpw, simprocAttr, *]
  ·replace h := zbrv M (by omega) (M + 7) (by omega) _ _ _ _ _ _ _ _ _ _ _ _ _ h R hR
   simp only [zbpw, simprocAttr, *]
theorem zbpz (q : Nat) (zbrw : zbpu q) : zbps (q + 1) := by
 intro M hM j hj h0_0 h0_1 h0_2 h0_3 h0_5 h0_6 h1_0z h1_0l h1_1 h2_0 r h R hR fr H hc
 obtain ⟨j, rfl⟩ : ∃ i, j = i + 1 := ⟨j - 1, by omega⟩
 rw [zhn, hc]; clear hc
 rw [zmo] at h
 replace h := br h; rcases h with ⟨h1, h⟩ | ⟨h1, h⟩
 ·replace h := bb h; rcases h with ⟨h2', h2, h⟩ | ⟨h2', h2, h⟩
  ·replace h := ob h; obtain ⟨r6, h3, h⟩ := h
   replace h3 := zboy q M (by omega) _ _ _ _ _ _ _ _ _ _ _ h3
   try simp only [kf, simprocAttr] at h3
   replace h := ob h; obtain ⟨r7, h4, h⟩ := h
   replace h4 := zbm2 q (M + 6) (by omega) _ _ h4
   try simp only [kf, simprocAttr] at h4
   replace h := bb h; rcases h with ⟨h5', h5, h⟩ | ⟨h5', h5, h⟩
   ·replace h := bn h; obtain ⟨h6, h⟩ := h
    replace h := bn h; obtain ⟨h7, h⟩ := h
    replace h := zbrw M (by omega) j (by omega) _ _ _ _ _ _ _ _ _ _ _ _ _ h R hR
    simp only [zbpw, simprocAttr, *]
   ·replace h := bn h; obtain ⟨h8, h⟩ := h
    replace h := bn h; obtain ⟨h9, h⟩ := h
    replace h := zbrw M (by omega) j (by omega) _ _ _ _ _ _ _ _ _ _ _ _ _ h R hR
    simp only [zbpw, simprocAttr, *]
  ·cases h; subst hR; simp only [zbpw, simprocAttr, *]
 ·replace h := bb h; rcases h with ⟨h10', h10, h⟩ | ⟨h10', h10, h⟩
  ·cases h; subst hR; simp only [zbpw, simprocAttr, *]
  ·cases h; subst hR; simp only [zbpw, simprocAttr, *]
theorem zbp0 (q : Nat) (zbrx : zbpv q) : zbpt (q + 1) := by
 intro M hM j hj h0_0 h0_1 h0_2 h0_3 h0_4len h0_5 h0_6 h1_0z h1_0l h1_1 h2_0 h3l r h R hR fr H hc
 obtain ⟨j, rfl⟩ : ∃ i, j = i + 1 := ⟨j - 1, by omega⟩
 rw [zhn, hc]; clear hc
 rw [zml] at h
 replace h := br h; rcases h with ⟨h1, h⟩ | ⟨h1, h⟩
 ·replace h := bb h; rcases h with ⟨h2', h2, h⟩ | ⟨h2', h2, h⟩
  ·replace h := ob h; obtain ⟨r8, h3, h⟩ := h
   replace h3 := zbo7 q M (by omega) 0 _ _ _ _ _ _ _ _ _ _ _ _ _ h3
   try simp only [kf, simprocAttr] at h3
   replace h := ob h; obtain ⟨r9, h4, h⟩ := h
   replace h4 := zbm2 q (M + 6) (by omega) _ _ h4
   try simp only [kf, simprocAttr] at h4
   replace h := bb h; rcases h with ⟨h5', h5, h⟩ | ⟨h5', h5, h⟩
   ·replace h := bn h; obtain ⟨h6, h⟩ := h
    replace h := bn h; obtain ⟨h7, h⟩ := h
    replace h := zbrx M (by omega) j (by omega) _ _ _ _ _ _ _ _ _ _ _ _ _ _ _ h R hR
    simp only [zbpw, simprocAttr, *]
   ·replace h := bn h; obtain ⟨h8, h⟩ := h
    replace h := bn h; obtain ⟨h9, h⟩ := h
    replace h := zbrx M (by omega) j (by omega) _ _ _ _ _ _ _ _ _ _ _ _ _ _ _ h R hR
    simp only [zbpw, simprocAttr, *]
  ·cases h; subst hR; simp only [zbpw, simprocAttr, *]
 ·replace h := bb h; rcases h with ⟨h10', h10, h⟩ | ⟨h10', h10, h⟩
  ·cases h; subst hR; simp only [zbpw, simprocAttr, *]
  ·cases h; subst hR; simp only [zbpw, simprocAttr, *]
theorem zbp1 (q : Nat) (zbrw : zbpu q) : zbpu (q + 1) := by
 intro M hM j hj v8 h0_0 h0_1 h0_2 h0_3 h0_5 h0_6 h1_0z h1_0l h1_1 h2_0 h3l r h R hR fr H hc
 obtain ⟨j, rfl⟩ : ∃ i, j = i + 1 := ⟨j - 1, by omega⟩
 rw [zhn, hc]; clear hc
 rw [zmn] at h
 replace h := br h; rcases h with ⟨h1, h⟩ | ⟨h1, h⟩
 ·replace h := bb h; rcases h with ⟨h2', h2, h⟩ | ⟨h2', h2, h⟩
  ·replace h := ob h; obtain ⟨r10, h3, h⟩ := h
   replace h3 := zbpg q M (by omega) 0 _ _ _ _ _ _ _ _ _ _ _ _ h3
   try simp only [kf, simprocAttr] at h3
   replace h := ob h; obtain ⟨r11, h4, h⟩ := h
   replace h4 := zbm2 q (M + 6) (by omega) _ _ h4
   try simp only [kf, simprocAttr] at h4
   replace h := bb h; rcases h with ⟨h5', h5, h⟩ | ⟨h5', h5, h⟩
   ·replace h := bn h; obtain ⟨h6, h⟩ := h
    replace h := bn h; obtain ⟨h7, h⟩ := h
    replace h := bn h; obtain ⟨h8, h⟩ := h
    replace h := zbrw M (by omega) j (by omega) _ _ _ _ _ _ _ _ _ _ _ _ _ h R hR
    simp only [zbpw, simprocAttr, *]
   ·replace h := bn h; obtain ⟨h9, h⟩ := h
    replace h := bn h; obtain ⟨h10, h⟩ := h
    replace h := bn h; obtain ⟨h11, h⟩ := h
    replace h := zbrw M (by omega) j (by omega) _ _ _ _ _ _ _ _ _ _ _ _ _ h R hR
    simp only [zbpw, simprocAttr, *]
  ·cases h; subst hR; simp only [zbpw, simprocAttr, *]
 ·replace h := bb h; rcases h with ⟨h12', h12, h⟩ | ⟨h12', h12, h⟩
  ·cases h; subst hR; simp only [zbpw, simprocAttr, *]
  ·cases h; subst hR; simp only [zbpw, simprocAttr, *]
theorem zbp2 (q : Nat) (zbrx : zbpv q) : zbpv (q + 1) := by
 intro M hM j hj v8 h0_0 h0_1 h0_2 h0_3 h0_4len h0_5 h0_6 h1_0z h1_0l h1_1 h2_0 h3l h4l r h R hR fr H hc
 obtain ⟨j, rfl⟩ : ∃ i, j = i + 1 := ⟨j - 1, by omega⟩
 rw [zhn, hc]; clear hc
 rw [zmk] at h
 replace h := br h; rcases h with ⟨h1, h⟩ | ⟨h1, h⟩
 ·replace h := bb h; rcases h with ⟨h2', h2, h⟩ | ⟨h2', h2, h⟩
  ·replace h := ob h; obtain ⟨r12, h3, h⟩ := h
   replace h3 := zbpp q M (by omega) 0 0 _ _ _ _ _ _ _ _ _ _ _ _ _ _ h3
   try simp only [kf, simprocAttr] at h3
   replace h := ob h; obtain ⟨r13, h4, h⟩ := h
   replace h4 := zbm2 q (M + 6) (by omega) _ _ h4
   try simp only [kf, simprocAttr] at h4
   replace h := bb h; rcases h with ⟨h5', h5, h⟩ | ⟨h5', h5, h⟩
   ·replace h := bn h; obtain ⟨h6, h⟩ := h
    replace h := bn h; obtain ⟨h7, h⟩ := h
    replace h := bn h; obtain ⟨h8, h⟩ := h
    replace h := zbrx M (by omega) j (by omega) _ _ _ _ _ _ _ _ _ _ _ _ _ _ _ h R hR
    simp only [zbpw, simprocAttr, *]
   ·replace h := bn h; obtain ⟨h9, h⟩ := h
    replace h := bn h; obtain ⟨h10, h⟩ := h
    replace h := bn h; obtain ⟨h11, h⟩ := h
    replace h := zbrx M (by omega) j (by omega) _ _ _ _ _ _ _ _ _ _ _ _ _ _ _ h R hR
    simp only [zbpw, simprocAttr, *]
  ·cases h; subst hR; simp only [zbpw, simprocAttr, *]
 ·replace h := bb h; rcases h with ⟨h12', h12, h⟩ | ⟨h12', h12, h⟩
  ·cases h; subst hR; simp only [zbpw, simprocAttr, *]
  ·cases h; subst hR; simp only [zbpw, simprocAttr, *]
theorem zbp3 : ∀ q, zbpq q ∧ zbpr q ∧ zbps q ∧ zbpt q ∧ zbpu q ∧ zbpv q
 | 0 => by refine ⟨?_, ?_, ?_, ?_, ?_, ?_⟩ <;> (intro M hM j hj; intros; rename_i h _ _ _ _ _; cases h)
 | q + 1 => by have ⟨i0, i1, i2, i3, i4, i5⟩ := zbp3 q; exact ⟨zbpx q i1 i2, zbpy q i1 i3, zbpz q i4, zbp0 q i5, zbp1 q i4, zbp2 q i5⟩
theorem zbp4 : ∀ (q N : Nat), 8 * q ≤ N → ∀ (a0 : (Sl Int)), ∀ (r : zjm × Bool), zmq q a0 = some r → (orc T N).deep F.zmq [(Sl.enc (V.int .u8)) a0] = some [zjm.enc r.1, V.bool r.2] := by
 intro q N hM a0 r h
 rcases q with _ | q
 ·cases h
 obtain ⟨M, rfl⟩ : ∃ M, N = M + 8 := ⟨N - 8, by omega⟩
 have ih_delta_read_l0 := (zbp3 q).1
 generalize hR : some [zjm.enc r.1, V.bool r.2] = R
 rw [zhw, z9f, y6, zhu zvg rfl]
 rw [zmq] at h
 replace h := ob h; obtain ⟨r1, h1, h⟩ := h
 replace h1 := zbn7 q M (by omega) _ _ _ h1
 try simp only [kf, simprocAttr] at h1
 replace h := br h; rcases h with ⟨h2, h⟩ | ⟨h2, h⟩
 ·cases h; subst hR; simp only [zbpw, simprocAttr, *]
 ·replace h := ih_delta_read_l0 M (by omega) (M + 7) (by omega) _ _ _ _ _ _ _ _ _ h R hR
  simp only [zbpw, simprocAttr, *]
def zbp5 := And.intro @kk <| And.intro @ke <| And.intro @kn <| And.intro @zbga <| @zbgc
theorem zbp6 : ∀ (q N : Nat), 8 * q ≤ N → ∀ (a0 : Int), ∀ (r : Bool), zmr q a0 = some r → (orc T N).deep F.zmr [(V.int .i64) a0] = some [V.bool r] := by
 intro q N hM a0 r h
 rcases q with _ | q
 ·cases h
 obtain ⟨M, rfl⟩ : ∃ M, N = M + 8 := ⟨N - 8, by omega⟩
 generalize hR : some [V.bool r] = R
 rw [zhw, zbao, y6, zhu z68 rfl]
 rw [zmr] at h
 replace h := br h; rcases h with ⟨h1, h⟩ | ⟨h1, h⟩
 ·cases h; subst hR; simp only [zbp5, simprocAttr, *]
 ·cases h; subst hR; simp only [zbp5, simprocAttr, *]
def zbp7 (q : Nat) : Prop := ∀ (M : Nat) (hM : 8 * q ≤ M) (j : Nat) (hj : q ≤ j) (v0z : Bool) (v0l : List Int) (v7 v8 r : Int) (_ : zms q v0z v0l v7 v8 = some r) (R : Option (List V × Hp)) (_ : (some ([(.int .i64 r)], []) : Option (List V × Hp)) = R) (fr : Fr) (H : Hp) (_ : canon 0 [0, 1, 7, 8] fr H = ([(0, (.sl v0z (List.map (V.int .i64) v0l))), (1, (.fn F.zmr [])), (7, (.int .i64 v7)), (8, (.int .i64 v8))], [])), finI 0 false [.tmp 4] (unw T (orc T (M + 5)) (M + 5) 0 [.blk 0, .code z43] (iter 0 [0, 1, 7, 8] (exec T (orc T (M + 5)) (M + 5) 0 z40) j fr H)) = R
def zbp8 := And.intro @kk <| And.intro @ke <| And.intro @kn <| And.intro @zbfp <| @zbgb
theorem zbp9 (q : Nat) (zbry : zbp7 q) : zbp7 (q + 1) := by
 intro M hM j hj v0z v0l v7 v8 r h R hR fr H hc
 obtain ⟨j, rfl⟩ : ∃ i, j = i + 1 := ⟨j - 1, by omega⟩
 rw [zhn, hc]; clear hc
 rw [zms] at h
 replace h := br h; rcases h with ⟨h1, h⟩ | ⟨h1, h⟩
 ·replace h := bn h; obtain ⟨h2, h⟩ := h
  replace h := ob h; obtain ⟨e1, h3, h⟩ := h
  replace h := ob h; obtain ⟨r2, h4, h⟩ := h
  replace h4 := zbp6 q (M + 5) (by omega) _ _ h4
  replace h := bb h; rcases h with ⟨h5', h5, h⟩ | ⟨h5', h5, h⟩
  ·cases h; subst hR; simp only [zbp8, simprocAttr, *]
  ·replace h := zbry M (by omega) j (by omega) _ _ _ _ _ h R hR
   simp only [zbp8, simprocAttr, *]
 ·cases h; subst hR; simp only [zbp8, simprocAttr, *]
theorem zbqa : ∀ q, zbp7 q
 | 0 => by intro M hM j hj; intros; rename_i h _ _ _ _ _; cases h
 | q + 1 => by have i0 := zbqa q; exact zbp9 q i0
theorem zbqb : ∀ (q M : Nat), 8 * q ≤ M → ∀ (v0z : Bool), ∀ (v0l : List Int), ∀ (r : Int), zmt q v0z v0l = some r → (orc T (M + 6)).inl F.znw [(.sl v0z (List.map (V.int .i64) v0l)), (.fn F.zmr [])] [] = (some ([(.int .i64 r)], []) : Option (List V × Hp)) := by
 intro q M hM v0z v0l r h
 rcases q with _ | q
 ·cases h
 have zbry := (zbqa q)
 generalize hR : (some ([(.int .i64 r)], []) : Option (List V × Hp)) = R
 rw [zbfr (n := M + 5)]
 rw [zmt] at h
 replace h := zbry M (by omega) (M + 5) (by omega) _ _ _ _ _ h R hR
 simp only [zbp8, simprocAttr, *]
def zbqc := And.intro @kk <| And.intro @ke <| And.intro @kn <| And.intro @zbdy <| And.intro @zbe4 <| And.intro @zbfq <| And.intro @zbdz <| And.intro @zbd0 <| @zbe6
theorem zbqd : ∀ (q N : Nat), 8 * q ≤ N → ∀ (a0 : (Sl Int)), ∀ (r : Bool), zmu q a0 = some r → (orc T N).deep F.zmu [(Sl.enc (V.int .i64)) a0] = some [V.bool r] := by
 intro q N hM a0 r h
 rcases q with _ | q
 ·cases h
 obtain ⟨M, rfl⟩ : ∃ M, N = M + 8 := ⟨N - 8, by omega⟩
 generalize hR : some [V.bool r] = R
 rw [zhw, zbaa, y6, zhu z14 rfl]
 rw [zmu] at h
 replace h := ob h; obtain ⟨r1, h1, h⟩ := h
 replace h1 := zbqb q M (by omega) _ _ _ h1
 try simp only [kf, simprocAttr] at h1
 cases h; subst hR; simp only [zbqc, simprocAttr, *]
def zbqe := And.intro @kk <| And.intro @ke <| And.intro @kn <| And.intro @zbe1 <| @zbe3
theorem zbqf : ∀ (q N : Nat), 8 * q ≤ N → ∀ (a0 : Int), ∀ (r : Bool), zmv q a0 = some r → (orc T N).deep F.zmv [(V.int .i64) a0] = some [V.bool r] := by
 intro q N hM a0 r h
 rcases q with _ | q
 ·cases h
 obtain ⟨M, rfl⟩ : ∃ M, N = M + 8 := ⟨N - 8, by omega⟩
 generalize hR : some [V.bool r] = R
 rw [zhw, z99, y6, zhu z1z rfl]
 rw [zmv] at h
 replace h := br h; rcases h with ⟨h1, h⟩ | ⟨h1, h⟩
 ·cases h; subst hR; simp only [zbqe, simprocAttr, *]
 ·cases h; subst hR; simp only [zbqe, simprocAttr, *]
def zbqg (q : Nat) : Prop := ∀ (M : Nat) (hM : 8 * q ≤ M) (j : Nat) (hj : q ≤ j) (v0z : Bool) (v0l : List zjk) (v5z : Bool) (v5l : List zjk) (v6 v7 : Int) (r : Bool) (_ : zmw q v0z v0l v5z v5l v6 v7 = some r) (R : Option (List V)) (_ : some [V.bool r] = R) (fr : Fr) (H : Hp) (_ : canon 0 [0, 5, 6, 7] fr H = ([(0, (.sl v0z (List.map zjk.enc v0l))), (5, (.sl v5z (List.map zjk.enc v5l))), (6, (.int .i64 v6)), (7, (.int .i64 v7))], [])), fin z2n (unw T (orc T (M + 7)) (M + 7) 0 [.blk 0, .code z2k] (iter 0 [0, 5, 6, 7] (exec T (orc T (M + 7)) (M + 7) 0 z2h) j fr H)) = R
def zbqh := And.intro @kk <| And.intro @ke <| And.intro @kn <| And.intro @zbe7 <| And.intro @zbe5 <| @zbe9
theorem zbqi (q : Nat) (zbrz : zbqg q) : zbqg (q + 1) := by
 intro M hM j hj v0z v0l v5z v5l v6 v7 r h R hR fr H hc
 obtain ⟨j, rfl⟩ : ∃ i, j = i + 1 := ⟨j - 1, by omega⟩
 rw [zhn, hc]; clear hc
 rw [zmw] at h
 replace h := br h; rcases h with ⟨h1, h⟩ | ⟨h1, h⟩
 ·replace h := bn h; obtain ⟨h2, h⟩ := h
  replace h := ob h; obtain ⟨e1, h3, h⟩ := h
  replace h := ob h; obtain ⟨r2, h4, h⟩ := h
  replace h4 := zbqd q (M + 7) (by omega) _ _ h4
  try simp only [kf, simprocAttr] at h4
  replace h := bb h; rcases h with ⟨h5', h5, h⟩ | ⟨h5', h5, h⟩
  ·replace h := br h; rcases h with ⟨h6, h⟩ | ⟨h6, h⟩
   ·cases h; subst hR; simp only [zbqh, simprocAttr, *]
   ·replace h := br h; rcases h with ⟨h7, h⟩ | ⟨h7, h⟩
    ·cases h; subst hR; simp only [zbqh, simprocAttr, *]
    ·replace h := br h; rcases h with ⟨h8, h⟩ | ⟨h8, h⟩
     ·cases h; subst hR; simp only [zbqh, simprocAttr, *]
     ·replace h := br h; rcases h with ⟨h9, h⟩ | ⟨h9, h⟩
      ·replace h := bn h; obtain ⟨h10, h⟩ := h
       replace h := ob h; obtain ⟨e3, h11, h⟩ := h
       replace h := br h; rcases h with ⟨h12, h⟩ | ⟨h12, h⟩
       ·cases h; subst hR; simp only [zbqh, simprocAttr, *]
       ·replace h := zbrz M (by omega) j (by omega) _ _ _ _ _ _ _ h R hR
        simp only [zbqh, simprocAttr, *]
      ·replace h := zbrz M (by omega) j (by omega) _ _ _ _ _ _ _ h R hR
       simp only [zbqh, simprocAttr, *]
  ·cases h; subst hR; simp only [zbqh, simprocAttr, *]
 ·cases h; subst hR; simp only [zbqh, simprocAttr, *]
theorem zbqj : ∀ q, zbqg q
 | 0 => by intro M hM j hj; intros; rename_i h _ _ _ _ _; cases h
 | q + 1 => by have i0 := zbqj q; exact zbqi q i0
theorem zbqk : ∀ (q N : Nat), 8 * q ≤ N → ∀ (a0 : (Sl zjk)), ∀ (r : Bool), zmx q a0 = some r → (orc T N).deep F.zmx [(Sl.enc zjk.enc) a0] = some [V.bool r] := by
 intro q N hM a0 r h
 rcases q with _ | q
 ·cases h
 obtain ⟨M, rfl⟩ : ∃ M, N = M + 8 := ⟨N - 8, by omega⟩
 have zbrz := (zbqj q)
 generalize hR : some [V.bool r] = R
 rw [zhw, zbab, y6, zhu z2n rfl]
 rw [zmx] at h
 replace h := zbrz M (by omega) (M + 7) (by omega) _ _ _ _ _ _ _ h R hR
 simp only [zbqh, simprocAttr, *]
def zbql (q : Nat) : Prop := ∀ (M : Nat) (hM : 8 * q ≤ M) (j : Nat) (hj : q ≤ j) (w1 : Nat) (v0z : Bool) (v0l : List Int) (v7 v8 h0_0 h0_1 h0_2 h0_3 : Int) (h0_4z : Bool) (h0_4l : List Int) (h0_5 : Bool) (h0_6 : Int) (h0_7z : Bool) (h0_7l : List zjk) (h1l : List Int) (r : Int) (_ : zmy q v0z v0l v7 v8 h0_0 h0_1 h0_2 h0_3 h0_4z h0_4l h0_5 h0_6 h0_7z h0_7l h1l = some r) (R : Option (List V × Hp)) (_ : (some ([(.int .i64 r)], [(.box [(.int .i64 h0_0), (.int .i64 h0_1), (.int .i64 h0_2), (.int .i64 h0_3), (.sl h0_4z (List.map (V.int .i64) h0_4l)), (.bool h0_5), (.int .i64 h0_6), (.sl h0_7z (List.map zjk.enc h0_7l))]), (.row w1 false 1 (List.map (V.int .i64) h1l) true)]) : Option (List V × Hp)) = R) (fr : Fr) (H : Hp) (_ : canon 2 [0, 1, 7, 8] fr H = ([(0, (.sl v0z (List.map (V.int .i64) v0l))), (1, (.fn F.zmv [])), (7, (.int .i64 v7)), (8, (.int .i64 v8))], [(.box [(.int .i64 h0_0), (.int .i64 h0_1), (.int .i64 h0_2), (.int .i64 h0_3), (.sl h0_4z (List.map (V.int .i64) h0_4l)), (.bool h0_5), (.int .i64 h0_6), (.sl h0_7z (List.map zjk.enc h0_7l))]), (.row w1 false 1 (List.map (V.int .i64) h1l) true)])), finI 2 false [.tmp 4] (unw T (orc T (M + 5)) (M + 5) 2 [.blk 0, .code z43] (iter 2 [0, 1, 7, 8] (exec T (orc T (M + 5)) (M + 5) 2 z40) j fr H)) = R
def zbqm := And.intro @kk <| And.intro @ke <| And.intro @kn <| And.intro @zbfp <| @zbe2
theorem zbqn (q : Nat) (zbr0 : zbql q) : zbql (q + 1) := by
 intro M hM j hj w1 v0z v0l v7 v8 h0_0 h0_1 h0_2 h0_3 h0_4z h0_4l h0_5 h0_6 h0_7z h0_7l h1l r h R hR fr H hc
 obtain ⟨j, rfl⟩ : ∃ i, j = i + 1 := ⟨j - 1, by omega⟩
 rw [zhn, hc]; clear hc
 rw [zmy] at h
 replace h := br h; rcases h with ⟨h1, h⟩ | ⟨h1, h⟩
 ·replace h := bn h; obtain ⟨h2, h⟩ := h
  replace h := ob h; obtain ⟨e1, h3, h⟩ := h
  replace h := ob h; obtain ⟨r2, h4, h⟩ := h
  replace h4 := zbqf q (M + 5) (by omega) _ _ h4
  replace h := bb h; rcases h with ⟨h5', h5, h⟩ | ⟨h5', h5, h⟩
  ·cases h; subst hR; simp only [zbqm, simprocAttr, *]
  ·replace h := zbr0 M (by omega) j (by omega) w1 _ _ _ _ _ _ _ _ _ _ _ _ _ _ _ _ h R hR
   simp only [zbqm, simprocAttr, *]
 ·cases h; subst hR; simp only [zbqm, simprocAttr, *]
theorem zbqo : ∀ q, zbql q
 | 0 => by intro M hM j hj; intros; rename_i h _ _ _ _ _; cases h
 | q + 1 => by have i0 := zbqo q; exact zbqn q i0
theorem zbqp : ∀ (q M : Nat), 8 * q ≤ M → ∀ (w1 : Nat), ∀ (v0z : Bool), ∀ (v0l : List Int), ∀ (h0_0 h0_1 h0_2 h0_3 : Int), ∀ (h0_4z : Bool), ∀ (h0_4l : List Int), ∀ (h0_5 : Bool), ∀ (h0_6 : Int), ∀ (h0_7z : Bool), ∀ (h0_7l : List zjk), ∀ (h1l : List Int), ∀ (r : Int), zmz q v0z v0l h0_0 h0_1 h0_2 h0_3 h0_4z h0_4l h0_5 h0_6 h0_7z h0_7l h1l = some r → (orc T (M + 6)).inl F.znw [(.sl v0z (List.map (V.int .i64) v0l)), (.fn F.zmv [])] [(.box [(.int .i64 h0_0), (.int .i64 h0_1), (.int .i64 h0_2), (.int .i64 h0_3), (.sl h0_4z (List.map (V.int .i64) h0_4l)), (.bool h0_5), (.int .i64 h0_6), (.sl h0_7z (List.map zjk.enc h0_7l))]), (.row w1 false 1 (List.map (V.int .i64) h1l) true)] = (some ([(.int .i64 r)], [(.box [(.int .i64 h0_0), (.int .i64 h0_1), (.int .i64 h0_2), (.int .i64 h0_3), (.sl h0_4z (List.map (V.int .i64) h0_4l)), (.bool h0_5), (.int .i64 h0_6), (.sl h0_7z (List.map zjk.enc h0_7l))]), (.row w1 false 1 (List.map (V.int .i64) h1l) true)]) : Option (List V × Hp)) := by
 intro q M hM w1 v0z v0l h0_0 h0_1 h0_2 h0_3 h0_4z h0_4l h0_5 h0_6 h0_7z h0_7l h1l r h
 rcases q with _ | q
 ·cases h
 have zbr0 := (zbqo q)
 generalize hR : (some ([(.int .i64 r)], [(.box [(.int .i64 h0_0), (.int .i64 h0_1), (.int .i64 h0_2), (.int .i64 h0_3), (.sl h0_4z (List.map (V.int .i64) h0_4l)), (.bool h0_5), (.int .i64 h0_6), (.sl h0_7z (List.map zjk.enc h0_7l))]), (.row w1 false 1 (List.map (V.int .i64) h1l) true)]) : Option (List V × Hp)) = R
 rw [zbfr (n := M + 5)]
 rw [zmz] at h
 replace h := zbr0 M (by omega) (M + 5) (by omega) w1 _ _ _ _ _ _ _ _ _ _ _ _ _ _ _ _ h R hR
 simp only [zbqm, simprocAttr, *]
def zbqq := And.intro @kk <| And.intro @ke <| And.intro @kn <| And.intro @zbcm <| And.intro @zbdy <| And.intro @zbe5 <| And.intro @zbe8 <| And.intro @zbfq <| And.intro @zbdz <| And.intro @zbd0 <| @zbco
theorem zbqr : ∀ (q N : Nat), 8 * q ≤ N → ∀ (a0 : zjm), ∀ (r : Bool), zm0 q a0 = some r → (orc T N).deep F.zm0 [zjm.enc a0] = some [V.bool r] := by
 intro q N hM a0 r h
 rcases q with _ | q
 ·cases h
 obtain ⟨M, rfl⟩ : ∃ M, N = M + 8 := ⟨N - 8, by omega⟩
 generalize hR : some [V.bool r] = R
 rw [zhw, z9g, y6, zhu zvi rfl]
 rw [zm0] at h
 replace h := ob h; obtain ⟨r1, h1, h⟩ := h
 replace h1 := zbqd q (M + 7) (by omega) _ _ h1
 try simp only [kf, simprocAttr] at h1
 replace h := bb h; rcases h with ⟨h2', h2, h⟩ | ⟨h2', h2, h⟩
 ·replace h := br h; rcases h with ⟨h3, h⟩ | ⟨h3, h⟩
  ·replace h := ob h; obtain ⟨r2, h4, h⟩ := h
   replace h4 := zbqp q M (by omega) 0 _ _ _ _ _ _ _ _ _ _ _ _ _ _ h4
   try simp only [kf, simprocAttr] at h4
   replace h := br h; rcases h with ⟨h5, h⟩ | ⟨h5, h⟩
   ·cases h; subst hR; simp only [zbqq, simprocAttr, *]
   ·replace h := br h; rcases h with ⟨h6, h⟩ | ⟨h6, h⟩
    ·replace h := br h; rcases h with ⟨h7, h⟩ | ⟨h7, h⟩
     ·replace h := bb h; rcases h with ⟨h8', h8, h⟩ | ⟨h8', h8, h⟩
      ·replace h := ob h; obtain ⟨r3, h9, h⟩ := h
       replace h9 := zbqk q (M + 7) (by omega) _ _ h9
       try simp only [kf, simprocAttr] at h9
       cases h; subst hR; simp only [zbqq, simprocAttr, *]
      ·replace h := br h; rcases h with ⟨h10, h⟩ | ⟨h10, h⟩
       ·replace h := ob h; obtain ⟨r4, h11, h⟩ := h
        replace h11 := zbqk q (M + 7) (by omega) _ _ h11
        try simp only [kf, simprocAttr] at h11
        cases h; subst hR; simp only [zbqq, simprocAttr, *]
       ·cases h; subst hR; simp only [zbqq, simprocAttr, *]
     ·cases h; subst hR; simp only [zbqq, simprocAttr, *]
    ·cases h; subst hR; simp only [zbqq, simprocAttr, *]
  ·cases h; subst hR; simp only [zbqq, simprocAttr, *]
 ·cases h; subst hR; simp only [zbqq, simprocAttr, *]
def zbqs := And.intro @kk <| And.intro @ke <| And.intro @kn <| And.intro @zbba <| And.intro @zbch <| And.intro @zbck <| And.intro @zbcn <| @zbbc
theorem zbqt : ∀ (q N : Nat), 8 * q ≤ N → ∀ (a0 : (Sl Int)), ∀ (r : zjm × Int), zm1 q a0 = some r → (orc T N).deep F.zm1 [(Sl.enc (V.int .u8)) a0] = some [zjm.enc r.1, (V.int .i64) r.2] := by
 intro q N hM a0 r h
 rcases q with _ | q
 ·cases h
 obtain ⟨M, rfl⟩ : ∃ M, N = M + 8 := ⟨N - 8, by omega⟩
 generalize hR : some [zjm.enc r.1, (V.int .i64) r.2] = R
 rw [zhw, z80, y6, zhu zqa rfl]
 rw [zm1] at h
 replace h := ob h; obtain ⟨r1, h1, h⟩ := h
 replace h1 := zbmy q (M + 7) (by omega) _ _ h1
 try simp only [kf, simprocAttr] at h1
 replace h := br h; rcases h with ⟨h2, h⟩ | ⟨h2, h⟩
 ·replace h := br h; rcases h with ⟨h3, h⟩ | ⟨h3, h⟩
  ·replace h := ob h; obtain ⟨r2, h4, h⟩ := h
   replace h4 := zbp4 q (M + 7) (by omega) _ _ h4
   try simp only [kf, simprocAttr] at h4
   replace h := bb h; rcases h with ⟨h5', h5, h⟩ | ⟨h5', h5, h⟩
   ·replace h := ob h; obtain ⟨r3, h6, h⟩ := h
    replace h6 := zbqr q (M + 7) (by omega) _ _ h6
    try simp only [kf, simprocAttr] at h6
    replace h := bb h; rcases h with ⟨h7', h7, h⟩ | ⟨h7', h7, h⟩
    ·cases h; subst hR; simp only [zbqs, simprocAttr, *]
    ·cases h; subst hR; simp only [zbqs, simprocAttr, *]
   ·cases h; subst hR; simp only [zbqs, simprocAttr, *]
  ·cases h; subst hR; simp only [zbqs, simprocAttr, *]
 ·cases h; subst hR; simp only [zbqs, simprocAttr, *]
def zbqu (q : Nat) : Prop := ∀ (M : Nat) (hM : 8 * q ≤ M) (j : Nat) (hj : q ≤ j) (w0 : Nat) (v1 : Int) (h0z : Bool) (h0l : List Int) (h0x : Bool) (r : (Ow Int)) (_ : zm2 q v1 h0z h0l h0x = some r) (R : Option (List V)) (_ : some [(Ow.enc 1 (V.int .u8)) r] = R) (fr : Fr) (H : Hp) (_ : canon 1 [0, 1] fr H = ([(0, (.vw 0 w0 0 h0l.length 1)), (1, (.int .u64 v1))], [(.row w0 h0z 1 (List.map (V.int .u8) h0l) h0x)])), fin z20 (unw T (orc T (M + 7)) (M + 7) 1 [.blk 0, .code z2x] (iter 1 [0, 1] (exec T (orc T (M + 7)) (M + 7) 1 z2v) j fr H)) = R
def zbqv := And.intro @kk <| And.intro @ke <| And.intro @kn <| And.intro @zbfa <| @zbfc
theorem zbqw (q : Nat) (zbr1 : zbqu q) : zbqu (q + 1) := by
 intro M hM j hj w0 v1 h0z h0l h0x r h R hR fr H hc
 obtain ⟨j, rfl⟩ : ∃ i, j = i + 1 := ⟨j - 1, by omega⟩
 rw [zhn, hc]; clear hc
 rw [zm2] at h
 replace h := br h; rcases h with ⟨h1, h⟩ | ⟨h1, h⟩
 ·replace h := bn h; obtain ⟨h2, h⟩ := h
  replace h := zbr1 M (by omega) j (by omega) (w0 + 1) _ _ _ _ _ h R hR
  simp only [zbqv, simprocAttr, *]
 ·replace h := bn h; obtain ⟨h3, h⟩ := h
  cases h; subst hR; simp only [zbqv, simprocAttr, *]
theorem zbqx : ∀ q, zbqu q
 | 0 => by intro M hM j hj; intros; rename_i h _ _ _ _ _; cases h
 | q + 1 => by have i0 := zbqx q; exact zbqw q i0
theorem zbqy : ∀ (q N : Nat), 8 * q ≤ N → ∀ (a0 : (Ow Int)) (a1 : Int), ∀ (r : (Ow Int)), zm3 q a0 a1 = some r → (orc T N).deep F.zm3 [(Ow.enc 1 (V.int .u8)) a0, (V.int .u64) a1] = some [(Ow.enc 1 (V.int .u8)) r] := by
 intro q N hM a0 a1 r h
 rcases q with _ | q
 ·cases h
 obtain ⟨M, rfl⟩ : ∃ M, N = M + 8 := ⟨N - 8, by omega⟩
 have zbr1 := (zbqx q)
 generalize hR : some [(Ow.enc 1 (V.int .u8)) r] = R
 rw [zhw, zbac, y6, zhu z20 rfl]
 rw [zm3] at h
 replace h := zbr1 M (by omega) (M + 7) (by omega) 0 _ _ _ _ _ h R hR
 simp only [zbqv, simprocAttr, *]
def zbqz := And.intro @kk <| And.intro @ke <| And.intro @kn <| And.intro @zbdj <| And.intro @zbfb <| @zbdl
theorem zbq0 : ∀ (q N : Nat), 8 * q ≤ N → ∀ (a0 : (Ow Int)) (a1 : Int), ∀ (r : (Ow Int)), zm4 q a0 a1 = some r → (orc T N).deep F.zm4 [(Ow.enc 1 (V.int .u8)) a0, (V.int .i64) a1] = some [(Ow.enc 1 (V.int .u8)) r] := by
 intro q N hM a0 a1 r h
 rcases q with _ | q
 ·cases h
 obtain ⟨M, rfl⟩ : ∃ M, N = M + 8 := ⟨N - 8, by omega⟩
 generalize hR : some [(Ow.enc 1 (V.int .u8)) r] = R
 rw [zhw, z9r, y6, zhu zx0 rfl]
 rw [zm4] at h
 replace h := br h; rcases h with ⟨h1, h⟩ | ⟨h1, h⟩
 ·cases h; subst hR; simp only [zbqz, simprocAttr, *]
 ·replace h := br h; rcases h with ⟨h2, h⟩ | ⟨h2, h⟩
  ·cases h; subst hR; simp only [zbqz, simprocAttr, *]
  ·replace h := ob h; obtain ⟨r1, h3, h⟩ := h
   replace h3 := zbqy q (M + 7) (by omega) _ _ _ h3
   try simp only [kf, simprocAttr] at h3
   cases h; subst hR; simp only [zbqz, simprocAttr, *]
def zbq1 (q : Nat) : Prop := ∀ (M : Nat) (hM : 8 * q ≤ M) (j : Nat) (hj : q ≤ j) (w0 : Nat) (v7z : Bool) (v7l : List Int) (v8 : Int) (h0z : Bool) (h0l : List Int) (h0x : Bool) (r : (Ow Int)) (_ : zm6 q v7z v7l v8 h0z h0l h0x = some r) (R : Option (List V)) (_ : some [(Ow.enc 1 (V.int .u8)) r] = R) (fr : Fr) (H : Hp) (_ : canon 1 [0, 7, 8, 9] fr H = ([(0, (.vw 0 w0 0 h0l.length 1)), (7, (.sl v7z (List.map (V.int .i64) v7l))), (8, (.int .i64 v8)), (9, (.int .i64 0))], [(.row w0 h0z 1 (List.map (V.int .u8) h0l) h0x)])), fin zvq (unw T (orc T (M + 7)) (M + 7) 1 [.blk 0, .code zvn] (iter 1 [0, 7, 8, 9] (exec T (orc T (M + 7)) (M + 7) 1 zvk) j fr H)) = R
def zbq2 (q : Nat) : Prop := ∀ (M : Nat) (hM : 8 * q ≤ M) (j : Nat) (hj : q ≤ j) (v7z : Bool) (v7l : List Int) (v8 v9 : Int) (h1z : Bool) (h1l : List Int) (h1x : Bool) (r : (Ow Int)) (_ : zm5 q v7z v7l v8 v9 h1z h1l h1x = some r) (R : Option (List V)) (_ : some [(Ow.enc 1 (V.int .u8)) r] = R) (fr : Fr) (H : Hp) (_ : canon 1 [0, 7, 8, 9] fr H = ([(0, (.vw 1 0 0 h1l.length 1)), (7, (.sl v7z (List.map (V.int .i64) v7l))), (8, (.int .i64 v8)), (9, (.int .i64 v9))], [.dead, (.row 0 h1z 1 (List.map (V.int .u8) h1l) h1x)])), fin zvq (unw T (orc T (M + 7)) (M + 7) 1 [.blk 0, .code zvn] (iter 1 [0, 7, 8, 9] (exec T (orc T (M + 7)) (M + 7) 1 zvk) j fr H)) = R
def zbq3 := And.intro @kk <| And.intro @ke <| And.intro @kn <| And.intro @zbcp <| And.intro @zbdk <| @zbcr
theorem zbq4 (q : Nat) (zbr2 : zbq2 q) : zbq1 (q + 1) := by
 intro M hM j hj w0 v7z v7l v8 h0z h0l h0x r h R hR fr H hc
 obtain ⟨j, rfl⟩ : ∃ i, j = i + 1 := ⟨j - 1, by omega⟩
 rw [zhn, hc]; clear hc
 rw [zm6] at h
 replace h := br h; rcases h with ⟨h1, h⟩ | ⟨h1, h⟩
 ·replace h := ob h; obtain ⟨e1, h2, h⟩ := h
  replace h := ob h; obtain ⟨r2, h3, h⟩ := h
  replace h3 := zbq0 q (M + 7) (by omega) _ _ _ h3
  try simp only [kf, simprocAttr] at h3
  replace h := zbr2 M (by omega) j (by omega) _ _ _ _ _ _ _ _ h R hR
  simp only [zbq3, simprocAttr, *]
 ·cases h; subst hR; simp only [zbq3, simprocAttr, *]
theorem zbq5 (q : Nat) (zbr2 : zbq2 q) : zbq2 (q + 1) := by
 intro M hM j hj v7z v7l v8 v9 h1z h1l h1x r h R hR fr H hc
 obtain ⟨j, rfl⟩ : ∃ i, j = i + 1 := ⟨j - 1, by omega⟩
 rw [zhn, hc]; clear hc
 rw [zm5] at h
 replace h := br h; rcases h with ⟨h1, h⟩ | ⟨h1, h⟩
 ·replace h := bn h; obtain ⟨h2, h⟩ := h
  replace h := ob h; obtain ⟨e3, h3, h⟩ := h
  replace h := ob h; obtain ⟨r4, h4, h⟩ := h
  replace h4 := zbq0 q (M + 7) (by omega) _ _ _ h4
  try simp only [kf, simprocAttr] at h4
  replace h := zbr2 M (by omega) j (by omega) _ _ _ _ _ _ _ _ h R hR
  simp only [zbq3, simprocAttr, *]
 ·cases h; subst hR; simp only [zbq3, simprocAttr, *]
theorem zbq6 : ∀ q, zbq1 q ∧ zbq2 q
 | 0 => by refine ⟨?_, ?_⟩ <;> (intro M hM j hj; intros; rename_i h _ _ _ _ _; cases h)
 | q + 1 => by have ⟨i0, i1⟩ := zbq6 q; exact ⟨zbq4 q i1, zbq5 q i1⟩
theorem zbq7 : ∀ (q N : Nat), 8 * q ≤ N → ∀ (a0 : (Ow Int)) (a1 : (Sl Int)), ∀ (r : (Ow Int)), zm7 q a0 a1 = some r → (orc T N).deep F.zm7 [(Ow.enc 1 (V.int .u8)) a0, (Sl.enc (V.int .i64)) a1] = some [(Ow.enc 1 (V.int .u8)) r] := by
 intro q N hM a0 a1 r h
 rcases q with _ | q
 ·cases h
 obtain ⟨M, rfl⟩ : ∃ M, N = M + 8 := ⟨N - 8, by omega⟩
 have ih_delta_puts_l0 := (zbq6 q).1
 generalize hR : some [(Ow.enc 1 (V.int .u8)) r] = R
 rw [zhw, z9h, y6, zhu zvq rfl]
 rw [zm7] at h
 replace h := ih_delta_puts_l0 M (by omega) (M + 7) (by omega) 0 _ _ _ _ _ _ _ h R hR
 simp only [zbq3, simprocAttr, *]
def zbq8 := And.intro @kk <| And.intro @ke <| And.intro @kn <| And.intro @zbfd <| @zbff
theorem zbq9 : ∀ (q N : Nat), 8 * q ≤ N → ∀ (a0 r : Int), zm8 q a0 = some r → (orc T N).deep F.zm8 [(V.int .i64) a0] = some [(V.int .u64) r] := by
 intro q N hM a0 r h
 rcases q with _ | q
 ·cases h
 obtain ⟨M, rfl⟩ : ∃ M, N = M + 8 := ⟨N - 8, by omega⟩
 generalize hR : some [(V.int .u64) r] = R
 rw [zhw, zbad, y6, zhu z25 rfl]
 rw [zm8] at h
 cases h; subst hR; simp only [zbq8, simprocAttr, *]
def zbra := And.intro @kk <| And.intro @ke <| And.intro @kn <| And.intro @zbcs <| And.intro @zbfb <| And.intro @zbfe <| @zbcu
theorem zbrb : ∀ (q N : Nat), 8 * q ≤ N → ∀ (a0 : (Ow Int)) (a1 : Int), ∀ (r : (Ow Int)), zm9 q a0 a1 = some r → (orc T N).deep F.zm9 [(Ow.enc 1 (V.int .u8)) a0, (V.int .i64) a1] = some [(Ow.enc 1 (V.int .u8)) r] := by
 intro q N hM a0 a1 r h
 rcases q with _ | q
 ·cases h
 obtain ⟨M, rfl⟩ : ∃ M, N = M + 8 := ⟨N - 8, by omega⟩
 generalize hR : some [(Ow.enc 1 (V.int .u8)) r] = R
 rw [zhw, z9i, y6, zhu zvs rfl]
 rw [zm9] at h
 replace h := ob h; obtain ⟨r1, h1, h⟩ := h
 replace h1 := zbq9 q (M + 7) (by omega) _ _ h1
 replace h := ob h; obtain ⟨r2, h2, h⟩ := h
 replace h2 := zbqy q (M + 7) (by omega) _ _ _ h2
 try simp only [kf, simprocAttr] at h2
 cases h; subst hR; simp only [zbra, simprocAttr, *]
end Go.Dvm.C
