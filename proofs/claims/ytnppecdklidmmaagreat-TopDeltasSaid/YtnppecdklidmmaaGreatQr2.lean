/- The machine comes to these answers: part 3. -/
import Derived.Test.YtnppecdklidmmaaGreatQl0
import Derived.Test.YtnppecdklidmmaaGreatQr0
import Derived.Test.YtnppecdklidmmaaGreatQr1
set_option linter.all false
set_option maxRecDepth 100000
set_option maxHeartbeats 4000000
namespace Go.Dvm.C
open Go Go.Dvm Go.Dvm.I
def zb5c (q : Nat) : Prop := ∀ M, 8 * q ≤ M → ∀ j, q ≤ j → ∀ (h1_0z : Bool) (h1_0l : List Int) (r : Int × Int × Int × Int × (List Int) × Bool × Int), zoc q h1_0z h1_0l = some r → LS T (M + 6) 5 [0, 6, 7, 8] [.blk 0] z2b j (finI 5 false []) ((some ([], [(.box [(.int .i64 r.1), (.int .i64 r.2.1), (.int .i64 r.2.2.1), (.int .i64 r.2.2.2.1), (.sl true []), (.bool false), (.int .i64 0), (.sl true [])]), (.box [(.sl h1_0z (List.map (V.int .u8) r.2.2.2.2.1)), (.bool r.2.2.2.2.2.1)]), (.box [(.int .i64 r.2.2.2.2.2.2)]), (.box [(.int .i64 0)]), (.box [(.int .i64 0)])]) : Option (List V × Hp))) [(0, (.ptr 1 0)), (6, (.psl [(.ptr 0 0), (.ptr 0 1), (.ptr 0 2), (.ptr 0 3), (.ptr 2 0)])), (7, (.int .i64 5)), (8, (.int .i64 0))] [(.box [(.int .i64 0), (.int .i64 0), (.int .i64 0), (.int .i64 0), (.sl true []), (.bool false), (.int .i64 0), (.sl true [])]), (.box [(.sl h1_0z (List.map (V.int .u8) h1_0l)), (.bool true)]), (.box [(.int .i64 0)]), (.box [(.int .i64 0)]), (.box [(.int .i64 0)])]
def zb5d (q : Nat) : Prop := ∀ M, 8 * q ≤ M → ∀ j, q ≤ j → ∀ (h0_0 : Int) (h1_0z : Bool) (h1_0l : List Int) (h1_1 : Bool) (r : Int × Int × Int × Int × (List Int) × Bool × Int), zob q h0_0 h1_0z h1_0l h1_1 = some r → LS T (M + 6) 5 [0, 6, 7, 8] [.blk 0] z2b j (finI 5 false []) ((some ([], [(.box [(.int .i64 r.1), (.int .i64 r.2.1), (.int .i64 r.2.2.1), (.int .i64 r.2.2.2.1), (.sl true []), (.bool false), (.int .i64 0), (.sl true [])]), (.box [(.sl h1_0z (List.map (V.int .u8) r.2.2.2.2.1)), (.bool r.2.2.2.2.2.1)]), (.box [(.int .i64 r.2.2.2.2.2.2)]), (.box [(.int .i64 0)]), (.box [(.int .i64 0)])]) : Option (List V × Hp))) [(0, (.ptr 1 0)), (6, (.psl [(.ptr 0 0), (.ptr 0 1), (.ptr 0 2), (.ptr 0 3), (.ptr 2 0)])), (7, (.int .i64 5)), (8, (.int .i64 1))] [(.box [(.int .i64 h0_0), (.int .i64 0), (.int .i64 0), (.int .i64 0), (.sl true []), (.bool false), (.int .i64 0), (.sl true [])]), (.box [(.sl h1_0z (List.map (V.int .u8) h1_0l)), (.bool h1_1)]), (.box [(.int .i64 0)]), (.box [(.int .i64 0)]), (.box [(.int .i64 0)])]
def zb5e (q : Nat) : Prop := ∀ M, 8 * q ≤ M → ∀ j, q ≤ j → ∀ (h0_0 h0_1 : Int) (h1_0z : Bool) (h1_0l : List Int) (h1_1 : Bool) (r : Int × Int × Int × Int × (List Int) × Bool × Int), zoa q h0_0 h0_1 h1_0z h1_0l h1_1 = some r → LS T (M + 6) 5 [0, 6, 7, 8] [.blk 0] z2b j (finI 5 false []) ((some ([], [(.box [(.int .i64 r.1), (.int .i64 r.2.1), (.int .i64 r.2.2.1), (.int .i64 r.2.2.2.1), (.sl true []), (.bool false), (.int .i64 0), (.sl true [])]), (.box [(.sl h1_0z (List.map (V.int .u8) r.2.2.2.2.1)), (.bool r.2.2.2.2.2.1)]), (.box [(.int .i64 r.2.2.2.2.2.2)]), (.box [(.int .i64 0)]), (.box [(.int .i64 0)])]) : Option (List V × Hp))) [(0, (.ptr 1 0)), (6, (.psl [(.ptr 0 0), (.ptr 0 1), (.ptr 0 2), (.ptr 0 3), (.ptr 2 0)])), (7, (.int .i64 5)), (8, (.int .i64 2))] [(.box [(.int .i64 h0_0), (.int .i64 h0_1), (.int .i64 0), (.int .i64 0), (.sl true []), (.bool false), (.int .i64 0), (.sl true [])]), (.box [(.sl h1_0z (List.map (V.int .u8) h1_0l)), (.bool h1_1)]), (.box [(.int .i64 0)]), (.box [(.int .i64 0)]), (.box [(.int .i64 0)])]
def zb5f (q : Nat) : Prop := ∀ M, 8 * q ≤ M → ∀ j, q ≤ j → ∀ (h0_0 h0_1 h0_2 : Int) (h1_0z : Bool) (h1_0l : List Int) (h1_1 : Bool) (r : Int × Int × Int × Int × (List Int) × Bool × Int), zn9 q h0_0 h0_1 h0_2 h1_0z h1_0l h1_1 = some r → LS T (M + 6) 5 [0, 6, 7, 8] [.blk 0] z2b j (finI 5 false []) ((some ([], [(.box [(.int .i64 r.1), (.int .i64 r.2.1), (.int .i64 r.2.2.1), (.int .i64 r.2.2.2.1), (.sl true []), (.bool false), (.int .i64 0), (.sl true [])]), (.box [(.sl h1_0z (List.map (V.int .u8) r.2.2.2.2.1)), (.bool r.2.2.2.2.2.1)]), (.box [(.int .i64 r.2.2.2.2.2.2)]), (.box [(.int .i64 0)]), (.box [(.int .i64 0)])]) : Option (List V × Hp))) [(0, (.ptr 1 0)), (6, (.psl [(.ptr 0 0), (.ptr 0 1), (.ptr 0 2), (.ptr 0 3), (.ptr 2 0)])), (7, (.int .i64 5)), (8, (.int .i64 3))] [(.box [(.int .i64 h0_0), (.int .i64 h0_1), (.int .i64 h0_2), (.int .i64 0), (.sl true []), (.bool false), (.int .i64 0), (.sl true [])]), (.box [(.sl h1_0z (List.map (V.int .u8) h1_0l)), (.bool h1_1)]), (.box [(.int .i64 0)]), (.box [(.int .i64 0)]), (.box [(.int .i64 0)])]
def zb5g (q : Nat) : Prop := ∀ M, 8 * q ≤ M → ∀ j, q ≤ j → ∀ (h0_0 h0_1 h0_2 h0_3 : Int) (h1_0z : Bool) (h1_0l : List Int) (h1_1 : Bool) (r : Int × Int × Int × Int × (List Int) × Bool × Int), zn8 q h0_0 h0_1 h0_2 h0_3 h1_0z h1_0l h1_1 = some r → LS T (M + 6) 5 [0, 6, 7, 8] [.blk 0] z2b j (finI 5 false []) ((some ([], [(.box [(.int .i64 r.1), (.int .i64 r.2.1), (.int .i64 r.2.2.1), (.int .i64 r.2.2.2.1), (.sl true []), (.bool false), (.int .i64 0), (.sl true [])]), (.box [(.sl h1_0z (List.map (V.int .u8) r.2.2.2.2.1)), (.bool r.2.2.2.2.2.1)]), (.box [(.int .i64 r.2.2.2.2.2.2)]), (.box [(.int .i64 0)]), (.box [(.int .i64 0)])]) : Option (List V × Hp))) [(0, (.ptr 1 0)), (6, (.psl [(.ptr 0 0), (.ptr 0 1), (.ptr 0 2), (.ptr 0 3), (.ptr 2 0)])), (7, (.int .i64 5)), (8, (.int .i64 4))] [(.box [(.int .i64 h0_0), (.int .i64 h0_1), (.int .i64 h0_2), (.int .i64 h0_3), (.sl true []), (.bool false), (.int .i64 0), (.sl true [])]), (.box [(.sl h1_0z (List.map (V.int .u8) h1_0l)), (.bool h1_1)]), (.box [(.int .i64 0)]), (.box [(.int .i64 0)]), (.box [(.int .i64 0)])]
def zb5h (q : Nat) : Prop := ∀ M, 8 * q ≤ M → ∀ j, q ≤ j → ∀ (h0_0 h0_1 h0_2 h0_3 : Int) (h1_0z : Bool) (h1_0l : List Int) (h1_1 : Bool) (h2_0 : Int) (r : Int × Int × Int × Int × (List Int) × Bool × Int), zn7 q h0_0 h0_1 h0_2 h0_3 h1_0z h1_0l h1_1 h2_0 = some r → LS T (M + 6) 5 [0, 6, 7, 8] [.blk 0] z2b j (finI 5 false []) ((some ([], [(.box [(.int .i64 r.1), (.int .i64 r.2.1), (.int .i64 r.2.2.1), (.int .i64 r.2.2.2.1), (.sl true []), (.bool false), (.int .i64 0), (.sl true [])]), (.box [(.sl h1_0z (List.map (V.int .u8) r.2.2.2.2.1)), (.bool r.2.2.2.2.2.1)]), (.box [(.int .i64 r.2.2.2.2.2.2)]), (.box [(.int .i64 0)]), (.box [(.int .i64 0)])]) : Option (List V × Hp))) [(0, (.ptr 1 0)), (6, (.psl [(.ptr 0 0), (.ptr 0 1), (.ptr 0 2), (.ptr 0 3), (.ptr 2 0)])), (7, (.int .i64 5)), (8, (.int .i64 5))] [(.box [(.int .i64 h0_0), (.int .i64 h0_1), (.int .i64 h0_2), (.int .i64 h0_3), (.sl true []), (.bool false), (.int .i64 0), (.sl true [])]), (.box [(.sl h1_0z (List.map (V.int .u8) h1_0l)), (.bool h1_1)]), (.box [(.int .i64 h2_0)]), (.box [(.int .i64 0)]), (.box [(.int .i64 0)])]
def zb5i := y5 @kk <| y5 @ke <| y5 @kn <| y5 @wl <| y5 @zbnn <| y5 @zbpz <| y5 @zbp2 <| y5 @zbnf <| y5 @zbp0 <| y5 @zbp1 <| y5 @zbp3 <| @zbp4
theorem zb5j (q : Nat) (zb8o : zb5d q) : zb5c (q + 1) := by
 intro M hM j hj h1_0z h1_0l r h R hR fr H hc
 obtain ⟨j, rfl⟩ : ∃ i, j = i + 1 := ⟨j - 1, by omega⟩
 rw [zhy, hc]; clear hc
 rw [zoc] at h
 replace h := ob h; obtain ⟨r1, h1, h⟩ := h
 replace h1 := zb4d q (M + 5) (by omega) _ _ h1
 try simp only [kf, simprocAttr] at h1
 replace h := bn h; obtain ⟨h2, h⟩ := h
 replace h := bn h; obtain ⟨h3, h⟩ := h
 replace h := zb8o M (by omega) j (by omega) _ _ _ _ _ h R hR
 simp only [zb5i, simprocAttr, *]
theorem zb5k (q : Nat) (zb8p : zb5e q) : zb5d (q + 1) := by
 intro M hM j hj h0_0 h1_0z h1_0l h1_1 r h R hR fr H hc
 obtain ⟨j, rfl⟩ : ∃ i, j = i + 1 := ⟨j - 1, by omega⟩
 rw [zhy, hc]; clear hc
 rw [zob] at h
 repeat' (first | (cases h; done) | (replace h := bb h; rcases h with ⟨_, _, h⟩ | ⟨_, _, h⟩) | (replace h := bn h; obtain ⟨_, h⟩ := h) | (replace h := ob h; obtain ⟨_, g, h⟩ := h; first | (replace g := zb4d q (M + 5) (by omega) _ _ g; try simp only [kf, simprocAttr] at g) | skip))
 all_goals (replace h := zb8p M (by omega) j (by omega) _ _ _ _ _ _ h R hR; simp only [zb5i, simprocAttr, *])
theorem zb5l (q : Nat) (zb8q : zb5f q) : zb5e (q + 1) := by
 intro M hM j hj h0_0 h0_1 h1_0z h1_0l h1_1 r h R hR fr H hc
 obtain ⟨j, rfl⟩ : ∃ i, j = i + 1 := ⟨j - 1, by omega⟩
 rw [zhy, hc]; clear hc
 rw [zoa] at h
 repeat' (first | (cases h; done) | (replace h := bb h; rcases h with ⟨_, _, h⟩ | ⟨_, _, h⟩) | (replace h := bn h; obtain ⟨_, h⟩ := h) | (replace h := ob h; obtain ⟨_, g, h⟩ := h; first | (replace g := zb4d q (M + 5) (by omega) _ _ g; try simp only [kf, simprocAttr] at g) | skip))
 all_goals (replace h := zb8q M (by omega) j (by omega) _ _ _ _ _ _ _ h R hR; simp only [zb5i, simprocAttr, *])
theorem zb5m (q : Nat) (zb8r : zb5g q) : zb5f (q + 1) := by
 intro M hM j hj h0_0 h0_1 h0_2 h1_0z h1_0l h1_1 r h R hR fr H hc
 obtain ⟨j, rfl⟩ : ∃ i, j = i + 1 := ⟨j - 1, by omega⟩
 rw [zhy, hc]; clear hc
 rw [zn9] at h
 repeat' (first | (cases h; done) | (replace h := bb h; rcases h with ⟨_, _, h⟩ | ⟨_, _, h⟩) | (replace h := bn h; obtain ⟨_, h⟩ := h) | (replace h := ob h; obtain ⟨_, g, h⟩ := h; first | (replace g := zb4d q (M + 5) (by omega) _ _ g; try simp only [kf, simprocAttr] at g) | skip))
 all_goals (replace h := zb8r M (by omega) j (by omega) _ _ _ _ _ _ _ _ h R hR; simp only [zb5i, simprocAttr, *])
theorem zb5n (q : Nat) (zb8s : zb5h q) : zb5g (q + 1) := by
 intro M hM j hj h0_0 h0_1 h0_2 h0_3 h1_0z h1_0l h1_1 r h R hR fr H hc
 obtain ⟨j, rfl⟩ : ∃ i, j = i + 1 := ⟨j - 1, by omega⟩
 rw [zhy, hc]; clear hc
 rw [zn8] at h
 repeat' (first | (cases h; done) | (replace h := bb h; rcases h with ⟨_, _, h⟩ | ⟨_, _, h⟩) | (replace h := bn h; obtain ⟨_, h⟩ := h) | (replace h := ob h; obtain ⟨_, g, h⟩ := h; first | (replace g := zb4d q (M + 5) (by omega) _ _ g; try simp only [kf, simprocAttr] at g) | skip))
 all_goals (replace h := zb8s M (by omega) j (by omega) _ _ _ _ _ _ _ _ _ h R hR; simp only [zb5i, simprocAttr, *])
theorem zb5o (q : Nat) : zb5h (q + 1) := by
 intro M hM j hj h0_0 h0_1 h0_2 h0_3 h1_0z h1_0l h1_1 h2_0 r h R hR fr H hc
 obtain ⟨j, rfl⟩ : ∃ i, j = i + 1 := ⟨j - 1, by omega⟩
 rw [zhy, hc]; clear hc
 rw [zn7] at h
 cases h; subst hR; simp only [zb5i, simprocAttr, *]
theorem zb5p : ∀ q, zb5c q ∧ zb5d q ∧ zb5e q ∧ zb5f q ∧ zb5g q ∧ zb5h q
 | 0 => by refine ⟨?_, ?_, ?_, ?_, ?_, ?_⟩ <;> (intro M hM j hj; intros; rename_i h; cases h)
 | q + 1 => by have ⟨i0, i1, i2, i3, i4, i5⟩ := zb5p q; exact ⟨zb5j q i1, zb5k q i2, zb5l q i3, zb5m q i4, zb5n q i5, zb5o q⟩
theorem zb5q : ∀ (q M : Nat), 8 * q ≤ M → ∀ (h1_0z : Bool), ∀ (h1_0l : List Int), ∀ (r : Int × Int × Int × Int × (List Int) × Bool × Int), zod q h1_0z h1_0l = some r → (orc T (M + 7)).inl F.zp7 [(.ptr 1 0), (.psl [(.ptr 0 0), (.ptr 0 1), (.ptr 0 2), (.ptr 0 3), (.ptr 2 0)])] [(.box [(.int .i64 0), (.int .i64 0), (.int .i64 0), (.int .i64 0), (.sl true []), (.bool false), (.int .i64 0), (.sl true [])]), (.box [(.sl h1_0z (List.map (V.int .u8) h1_0l)), (.bool true)]), (.box [(.int .i64 0)]), (.box [(.int .i64 0)]), (.box [(.int .i64 0)])] = (some ([], [(.box [(.int .i64 r.1), (.int .i64 r.2.1), (.int .i64 r.2.2.1), (.int .i64 r.2.2.2.1), (.sl true []), (.bool false), (.int .i64 0), (.sl true [])]), (.box [(.sl h1_0z (List.map (V.int .u8) r.2.2.2.2.1)), (.bool r.2.2.2.2.2.1)]), (.box [(.int .i64 r.2.2.2.2.2.2)]), (.box [(.int .i64 0)]), (.box [(.int .i64 0)])]) : Option (List V × Hp)) := by
 intro q M hM h1_0z h1_0l r h
 rcases q with _ | q
 ·cases h
 have ih_delta_read_s0_l0 := (zb5p q).1
 refine byR fun R hR => ?_
 rw [zbnp (n := M + 6)]
 rw [zod] at h
 replace h := ih_delta_read_s0_l0 M (by omega) (M + 6) (by omega) _ _ _ h R hR
 simp only [zb5i, simprocAttr, *]
def zb5r (q : Nat) : Prop := ∀ M, 8 * q ≤ M → ∀ j, q ≤ j → ∀ (h0_0 h0_1 h0_2 h0_3 : Int) (h1_0z : Bool) (h1_0l : List Int) (h1_1 : Bool) (r : (List Int) × Bool × Int × Int), zog q h0_0 h0_1 h0_2 h0_3 h1_0z h1_0l h1_1 = some r → LS T (M + 6) 4 [0, 6, 7, 8] [.blk 0] z2b j (finI 4 false []) ((some ([], [(.box [(.int .i64 h0_0), (.int .i64 h0_1), (.int .i64 h0_2), (.int .i64 h0_3), (.sl true []), (.bool false), (.int .i64 0), (.sl true [])]), (.box [(.sl h1_0z (List.map (V.int .u8) r.1)), (.bool r.2.1)]), (.box [(.int .i64 r.2.2.1)]), (.box [(.int .i64 r.2.2.2)])]) : Option (List V × Hp))) [(0, (.ptr 1 0)), (6, (.psl [(.ptr 2 0), (.ptr 3 0)])), (7, (.int .i64 2)), (8, (.int .i64 0))] [(.box [(.int .i64 h0_0), (.int .i64 h0_1), (.int .i64 h0_2), (.int .i64 h0_3), (.sl true []), (.bool false), (.int .i64 0), (.sl true [])]), (.box [(.sl h1_0z (List.map (V.int .u8) h1_0l)), (.bool h1_1)]), (.box [(.int .i64 0)]), (.box [(.int .i64 0)])]
def zb5s (q : Nat) : Prop := ∀ M, 8 * q ≤ M → ∀ j, q ≤ j → ∀ (h0_0 h0_1 h0_2 h0_3 : Int) (h1_0z : Bool) (h1_0l : List Int) (h1_1 : Bool) (h2_0 : Int) (r : (List Int) × Bool × Int × Int), zof q h0_0 h0_1 h0_2 h0_3 h1_0z h1_0l h1_1 h2_0 = some r → LS T (M + 6) 4 [0, 6, 7, 8] [.blk 0] z2b j (finI 4 false []) ((some ([], [(.box [(.int .i64 h0_0), (.int .i64 h0_1), (.int .i64 h0_2), (.int .i64 h0_3), (.sl true []), (.bool false), (.int .i64 0), (.sl true [])]), (.box [(.sl h1_0z (List.map (V.int .u8) r.1)), (.bool r.2.1)]), (.box [(.int .i64 r.2.2.1)]), (.box [(.int .i64 r.2.2.2)])]) : Option (List V × Hp))) [(0, (.ptr 1 0)), (6, (.psl [(.ptr 2 0), (.ptr 3 0)])), (7, (.int .i64 2)), (8, (.int .i64 1))] [(.box [(.int .i64 h0_0), (.int .i64 h0_1), (.int .i64 h0_2), (.int .i64 h0_3), (.sl true []), (.bool false), (.int .i64 0), (.sl true [])]), (.box [(.sl h1_0z (List.map (V.int .u8) h1_0l)), (.bool h1_1)]), (.box [(.int .i64 h2_0)]), (.box [(.int .i64 0)])]
def zb5t (q : Nat) : Prop := ∀ M, 8 * q ≤ M → ∀ j, q ≤ j → ∀ (h0_0 h0_1 h0_2 h0_3 : Int) (h1_0z : Bool) (h1_0l : List Int) (h1_1 : Bool) (h2_0 h3_0 : Int) (r : (List Int) × Bool × Int × Int), zoe q h0_0 h0_1 h0_2 h0_3 h1_0z h1_0l h1_1 h2_0 h3_0 = some r → LS T (M + 6) 4 [0, 6, 7, 8] [.blk 0] z2b j (finI 4 false []) ((some ([], [(.box [(.int .i64 h0_0), (.int .i64 h0_1), (.int .i64 h0_2), (.int .i64 h0_3), (.sl true []), (.bool false), (.int .i64 0), (.sl true [])]), (.box [(.sl h1_0z (List.map (V.int .u8) r.1)), (.bool r.2.1)]), (.box [(.int .i64 r.2.2.1)]), (.box [(.int .i64 r.2.2.2)])]) : Option (List V × Hp))) [(0, (.ptr 1 0)), (6, (.psl [(.ptr 2 0), (.ptr 3 0)])), (7, (.int .i64 2)), (8, (.int .i64 2))] [(.box [(.int .i64 h0_0), (.int .i64 h0_1), (.int .i64 h0_2), (.int .i64 h0_3), (.sl true []), (.bool false), (.int .i64 0), (.sl true [])]), (.box [(.sl h1_0z (List.map (V.int .u8) h1_0l)), (.bool h1_1)]), (.box [(.int .i64 h2_0)]), (.box [(.int .i64 h3_0)])]
def zb5u := y5 @kk <| y5 @ke <| y5 @kn <| y5 @wl <| y5 @zbnn <| y5 @zbpz <| y5 @zbp2 <| y5 @zbnf <| y5 @zbp0 <| y5 @zbp1 <| y5 @zbp3 <| @zbp4
theorem zb5v (q : Nat) (zb8t : zb5s q) : zb5r (q + 1) := by
 intro M hM j hj h0_0 h0_1 h0_2 h0_3 h1_0z h1_0l h1_1 r h R hR fr H hc
 obtain ⟨j, rfl⟩ : ∃ i, j = i + 1 := ⟨j - 1, by omega⟩
 rw [zhy, hc]; clear hc
 rw [zog] at h
 repeat' (first | (cases h; done) | (replace h := bb h; rcases h with ⟨_, _, h⟩ | ⟨_, _, h⟩) | (replace h := bn h; obtain ⟨_, h⟩ := h) | (replace h := ob h; obtain ⟨_, g, h⟩ := h; first | (replace g := zb4d q (M + 5) (by omega) _ _ g; try simp only [kf, simprocAttr] at g) | skip))
 all_goals (replace h := zb8t M (by omega) j (by omega) _ _ _ _ _ _ _ _ _ h R hR; simp only [zb5u, simprocAttr, *])
theorem zb5w (q : Nat) (zb8u : zb5t q) : zb5s (q + 1) := by
 intro M hM j hj h0_0 h0_1 h0_2 h0_3 h1_0z h1_0l h1_1 h2_0 r h R hR fr H hc
 obtain ⟨j, rfl⟩ : ∃ i, j = i + 1 := ⟨j - 1, by omega⟩
 rw [zhy, hc]; clear hc
 rw [zof] at h
 repeat' (first | (cases h; done) | (replace h := bb h; rcases h with ⟨_, _, h⟩ | ⟨_, _, h⟩) | (replace h := bn h; obtain ⟨_, h⟩ := h) | (replace h := ob h; obtain ⟨_, g, h⟩ := h; first | (replace g := zb4d q (M + 5) (by omega) _ _ g; try simp only [kf, simprocAttr] at g) | skip))
 all_goals (replace h := zb8u M (by omega) j (by omega) _ _ _ _ _ _ _ _ _ _ h R hR; simp only [zb5u, simprocAttr, *])
theorem zb5x (q : Nat) : zb5t (q + 1) := by
 intro M hM j hj h0_0 h0_1 h0_2 h0_3 h1_0z h1_0l h1_1 h2_0 h3_0 r h R hR fr H hc
 obtain ⟨j, rfl⟩ : ∃ i, j = i + 1 := ⟨j - 1, by omega⟩
 rw [zhy, hc]; clear hc
 rw [zoe] at h
 cases h; subst hR; simp only [zb5u, simprocAttr, *]
theorem zb5y : ∀ q, zb5r q ∧ zb5s q ∧ zb5t q
 | 0 => by refine ⟨?_, ?_, ?_⟩ <;> (intro M hM j hj; intros; rename_i h; cases h)
 | q + 1 => by have ⟨i0, i1, i2⟩ := zb5y q; exact ⟨zb5v q i1, zb5w q i2, zb5x q⟩
theorem zb5z : ∀ (q M : Nat), 8 * q ≤ M → ∀ (h0_0 h0_1 h0_2 h0_3 : Int), ∀ (h1_0z : Bool), ∀ (h1_0l : List Int), ∀ (h1_1 : Bool), ∀ (r : (List Int) × Bool × Int × Int), zoh q h0_0 h0_1 h0_2 h0_3 h1_0z h1_0l h1_1 = some r → (orc T (M + 7)).inl F.zp7 [(.ptr 1 0), (.psl [(.ptr 2 0), (.ptr 3 0)])] [(.box [(.int .i64 h0_0), (.int .i64 h0_1), (.int .i64 h0_2), (.int .i64 h0_3), (.sl true []), (.bool false), (.int .i64 0), (.sl true [])]), (.box [(.sl h1_0z (List.map (V.int .u8) h1_0l)), (.bool h1_1)]), (.box [(.int .i64 0)]), (.box [(.int .i64 0)])] = (some ([], [(.box [(.int .i64 h0_0), (.int .i64 h0_1), (.int .i64 h0_2), (.int .i64 h0_3), (.sl true []), (.bool false), (.int .i64 0), (.sl true [])]), (.box [(.sl h1_0z (List.map (V.int .u8) r.1)), (.bool r.2.1)]), (.box [(.int .i64 r.2.2.1)]), (.box [(.int .i64 r.2.2.2)])]) : Option (List V × Hp)) := by
 intro q M hM h0_0 h0_1 h0_2 h0_3 h1_0z h1_0l h1_1 r h
 rcases q with _ | q
 ·cases h
 have ih_delta_read_s1_l0 := (zb5y q).1
 refine byR fun R hR => ?_
 rw [zbnp (n := M + 6)]
 rw [zoh] at h
 replace h := ih_delta_read_s1_l0 M (by omega) (M + 6) (by omega) _ _ _ _ _ _ _ _ h R hR
 simp only [zb5u, simprocAttr, *]
def zb50 (q : Nat) : Prop := ∀ M, 8 * q ≤ M → ∀ j, q ≤ j → ∀ (w4 : Nat) (h0_0 h0_1 h0_2 h0_3 : Int) (h1_0z : Bool) (h1_0l : List Int) (h1_1 : Bool) (h4l : List Int) (r : Nat × (List Int) × Bool × Int × Int), zok q h0_0 h0_1 h0_2 h0_3 h1_0z h1_0l h1_1 h4l = some r → LS T (M + 6) 5 [0, 6, 7, 8] [.blk 0] z2b j (finI 5 false []) ((some ([], [(.box [(.int .i64 h0_0), (.int .i64 h0_1), (.int .i64 h0_2), (.int .i64 h0_3), (.vw 4 w4 0 r.1 1), (.bool false), (.int .i64 0), (.sl true [])]), (.box [(.sl h1_0z (List.map (V.int .u8) r.2.1)), (.bool r.2.2.1)]), (.box [(.int .i64 r.2.2.2.1)]), (.box [(.int .i64 r.2.2.2.2)]), (.row w4 false 1 (List.map (V.int .i64) h4l) true)]) : Option (List V × Hp))) [(0, (.ptr 1 0)), (6, (.psl [(.ptr 2 0), (.ptr 3 0)])), (7, (.int .i64 2)), (8, (.int .i64 0))] [(.box [(.int .i64 h0_0), (.int .i64 h0_1), (.int .i64 h0_2), (.int .i64 h0_3), (.vw 4 w4 0 h4l.length 1), (.bool false), (.int .i64 0), (.sl true [])]), (.box [(.sl h1_0z (List.map (V.int .u8) h1_0l)), (.bool h1_1)]), (.box [(.int .i64 0)]), (.box [(.int .i64 0)]), (.row w4 false 1 (List.map (V.int .i64) h4l) true)]
def zb51 (q : Nat) : Prop := ∀ M, 8 * q ≤ M → ∀ j, q ≤ j → ∀ (w4 : Nat) (h0_0 h0_1 h0_2 h0_3 : Int) (h1_0z : Bool) (h1_0l : List Int) (h1_1 : Bool) (h2_0 : Int) (h4l : List Int) (r : Nat × (List Int) × Bool × Int × Int), zoj q h0_0 h0_1 h0_2 h0_3 h1_0z h1_0l h1_1 h2_0 h4l = some r → LS T (M + 6) 5 [0, 6, 7, 8] [.blk 0] z2b j (finI 5 false []) ((some ([], [(.box [(.int .i64 h0_0), (.int .i64 h0_1), (.int .i64 h0_2), (.int .i64 h0_3), (.vw 4 w4 0 r.1 1), (.bool false), (.int .i64 0), (.sl true [])]), (.box [(.sl h1_0z (List.map (V.int .u8) r.2.1)), (.bool r.2.2.1)]), (.box [(.int .i64 r.2.2.2.1)]), (.box [(.int .i64 r.2.2.2.2)]), (.row w4 false 1 (List.map (V.int .i64) h4l) true)]) : Option (List V × Hp))) [(0, (.ptr 1 0)), (6, (.psl [(.ptr 2 0), (.ptr 3 0)])), (7, (.int .i64 2)), (8, (.int .i64 1))] [(.box [(.int .i64 h0_0), (.int .i64 h0_1), (.int .i64 h0_2), (.int .i64 h0_3), (.vw 4 w4 0 h4l.length 1), (.bool false), (.int .i64 0), (.sl true [])]), (.box [(.sl h1_0z (List.map (V.int .u8) h1_0l)), (.bool h1_1)]), (.box [(.int .i64 h2_0)]), (.box [(.int .i64 0)]), (.row w4 false 1 (List.map (V.int .i64) h4l) true)]
def zb52 (q : Nat) : Prop := ∀ M, 8 * q ≤ M → ∀ j, q ≤ j → ∀ (w4 : Nat) (h0_0 h0_1 h0_2 h0_3 : Int) (h1_0z : Bool) (h1_0l : List Int) (h1_1 : Bool) (h2_0 h3_0 : Int) (h4l : List Int) (r : Nat × (List Int) × Bool × Int × Int), zoi q h0_0 h0_1 h0_2 h0_3 h1_0z h1_0l h1_1 h2_0 h3_0 h4l = some r → LS T (M + 6) 5 [0, 6, 7, 8] [.blk 0] z2b j (finI 5 false []) ((some ([], [(.box [(.int .i64 h0_0), (.int .i64 h0_1), (.int .i64 h0_2), (.int .i64 h0_3), (.vw 4 w4 0 r.1 1), (.bool false), (.int .i64 0), (.sl true [])]), (.box [(.sl h1_0z (List.map (V.int .u8) r.2.1)), (.bool r.2.2.1)]), (.box [(.int .i64 r.2.2.2.1)]), (.box [(.int .i64 r.2.2.2.2)]), (.row w4 false 1 (List.map (V.int .i64) h4l) true)]) : Option (List V × Hp))) [(0, (.ptr 1 0)), (6, (.psl [(.ptr 2 0), (.ptr 3 0)])), (7, (.int .i64 2)), (8, (.int .i64 2))] [(.box [(.int .i64 h0_0), (.int .i64 h0_1), (.int .i64 h0_2), (.int .i64 h0_3), (.vw 4 w4 0 h4l.length 1), (.bool false), (.int .i64 0), (.sl true [])]), (.box [(.sl h1_0z (List.map (V.int .u8) h1_0l)), (.bool h1_1)]), (.box [(.int .i64 h2_0)]), (.box [(.int .i64 h3_0)]), (.row w4 false 1 (List.map (V.int .i64) h4l) true)]
def zb53 := y5 @kk <| y5 @ke <| y5 @kn <| y5 @wl <| y5 @zbnn <| y5 @zbpz <| y5 @zbp2 <| y5 @zbnf <| y5 @zbp0 <| y5 @zbp1 <| y5 @zbp3 <| @zbp4
theorem zb54 (q : Nat) (zb8v : zb51 q) : zb50 (q + 1) := by
 intro M hM j hj w4 h0_0 h0_1 h0_2 h0_3 h1_0z h1_0l h1_1 h4l r h R hR fr H hc
 obtain ⟨j, rfl⟩ : ∃ i, j = i + 1 := ⟨j - 1, by omega⟩
 rw [zhy, hc]; clear hc
 rw [zok] at h
 repeat' (first | (cases h; done) | (replace h := bb h; rcases h with ⟨_, _, h⟩ | ⟨_, _, h⟩) | (replace h := bn h; obtain ⟨_, h⟩ := h) | (replace h := ob h; obtain ⟨_, g, h⟩ := h; first | (replace g := zb4d q (M + 5) (by omega) _ _ g; try simp only [kf, simprocAttr] at g) | skip))
 all_goals (replace h := zb8v M (by omega) j (by omega) w4 _ _ _ _ _ _ _ _ _ _ h R hR; simp only [zb53, simprocAttr, *])
theorem zb55 (q : Nat) (zb8w : zb52 q) : zb51 (q + 1) := by
 intro M hM j hj w4 h0_0 h0_1 h0_2 h0_3 h1_0z h1_0l h1_1 h2_0 h4l r h R hR fr H hc
 obtain ⟨j, rfl⟩ : ∃ i, j = i + 1 := ⟨j - 1, by omega⟩
 rw [zhy, hc]; clear hc
 rw [zoj] at h
 repeat' (first | (cases h; done) | (replace h := bb h; rcases h with ⟨_, _, h⟩ | ⟨_, _, h⟩) | (replace h := bn h; obtain ⟨_, h⟩ := h) | (replace h := ob h; obtain ⟨_, g, h⟩ := h; first | (replace g := zb4d q (M + 5) (by omega) _ _ g; try simp only [kf, simprocAttr] at g) | skip))
 all_goals (replace h := zb8w M (by omega) j (by omega) w4 _ _ _ _ _ _ _ _ _ _ _ h R hR; simp only [zb53, simprocAttr, *])
theorem zb56 (q : Nat) : zb52 (q + 1) := by
 intro M hM j hj w4 h0_0 h0_1 h0_2 h0_3 h1_0z h1_0l h1_1 h2_0 h3_0 h4l r h R hR fr H hc
 obtain ⟨j, rfl⟩ : ∃ i, j = i + 1 := ⟨j - 1, by omega⟩
 rw [zhy, hc]; clear hc
 rw [zoi] at h
 cases h; subst hR; simp only [zb53, simprocAttr, *]
theorem zb57 : ∀ q, zb50 q ∧ zb51 q ∧ zb52 q
 | 0 => by refine ⟨?_, ?_, ?_⟩ <;> (intro M hM j hj; intros; rename_i h; cases h)
 | q + 1 => by have ⟨i0, i1, i2⟩ := zb57 q; exact ⟨zb54 q i1, zb55 q i2, zb56 q⟩
theorem zb58 : ∀ (q M : Nat), 8 * q ≤ M → ∀ (w4 : Nat), ∀ (h0_0 h0_1 h0_2 h0_3 : Int), ∀ (h1_0z : Bool), ∀ (h1_0l : List Int), ∀ (h1_1 : Bool), ∀ (h4l : List Int), ∀ (r : Nat × (List Int) × Bool × Int × Int), zol q h0_0 h0_1 h0_2 h0_3 h1_0z h1_0l h1_1 h4l = some r → (orc T (M + 7)).inl F.zp7 [(.ptr 1 0), (.psl [(.ptr 2 0), (.ptr 3 0)])] [(.box [(.int .i64 h0_0), (.int .i64 h0_1), (.int .i64 h0_2), (.int .i64 h0_3), (.vw 4 w4 0 h4l.length 1), (.bool false), (.int .i64 0), (.sl true [])]), (.box [(.sl h1_0z (List.map (V.int .u8) h1_0l)), (.bool h1_1)]), (.box [(.int .i64 0)]), (.box [(.int .i64 0)]), (.row w4 false 1 (List.map (V.int .i64) h4l) true)] = (some ([], [(.box [(.int .i64 h0_0), (.int .i64 h0_1), (.int .i64 h0_2), (.int .i64 h0_3), (.vw 4 w4 0 r.1 1), (.bool false), (.int .i64 0), (.sl true [])]), (.box [(.sl h1_0z (List.map (V.int .u8) r.2.1)), (.bool r.2.2.1)]), (.box [(.int .i64 r.2.2.2.1)]), (.box [(.int .i64 r.2.2.2.2)]), (.row w4 false 1 (List.map (V.int .i64) h4l) true)]) : Option (List V × Hp)) := by
 intro q M hM w4 h0_0 h0_1 h0_2 h0_3 h1_0z h1_0l h1_1 h4l r h
 rcases q with _ | q
 ·cases h
 have ih_delta_read_s2_l0 := (zb57 q).1
 refine byR fun R hR => ?_
 rw [zbnp (n := M + 6)]
 rw [zol] at h
 replace h := ih_delta_read_s2_l0 M (by omega) (M + 6) (by omega) w4 _ _ _ _ _ _ _ _ _ h R hR
 simp only [zb53, simprocAttr, *]
def zb59 (q : Nat) : Prop := ∀ M, 8 * q ≤ M → ∀ j, q ≤ j → ∀ (h0_0 h0_1 h0_2 h0_3 : Int) (h0_5 : Bool) (h0_6 : Int) (h1_0z : Bool) (h1_0l : List Int) (h1_1 : Bool) (h2_0 : Int) (r : (List Int) × Bool × Int × Int), zoo q h0_0 h0_1 h0_2 h0_3 h0_5 h0_6 h1_0z h1_0l h1_1 h2_0 = some r → LS T (M + 6) 4 [0, 6, 7, 8] [.blk 0] z2b j (finI 4 false []) ((some ([], [(.box [(.int .i64 h0_0), (.int .i64 h0_1), (.int .i64 h0_2), (.int .i64 h0_3), (.sl true []), (.bool h0_5), (.int .i64 h0_6), (.sl true [])]), (.box [(.sl h1_0z (List.map (V.int .u8) r.1)), (.bool r.2.1)]), (.box [(.int .i64 h2_0)]), (.box [(.int .i64 r.2.2.1), (.int .i64 r.2.2.2), (.int .i64 0)])]) : Option (List V × Hp))) [(0, (.ptr 1 0)), (6, (.psl [(.ptr 3 0), (.ptr 3 1)])), (7, (.int .i64 2)), (8, (.int .i64 0))] [(.box [(.int .i64 h0_0), (.int .i64 h0_1), (.int .i64 h0_2), (.int .i64 h0_3), (.sl true []), (.bool h0_5), (.int .i64 h0_6), (.sl true [])]), (.box [(.sl h1_0z (List.map (V.int .u8) h1_0l)), (.bool h1_1)]), (.box [(.int .i64 h2_0)]), (.box [(.int .i64 0), (.int .i64 0), (.int .i64 0)])]
def zb6a (q : Nat) : Prop := ∀ M, 8 * q ≤ M → ∀ j, q ≤ j → ∀ (h0_0 h0_1 h0_2 h0_3 : Int) (h0_5 : Bool) (h0_6 : Int) (h1_0z : Bool) (h1_0l : List Int) (h1_1 : Bool) (h2_0 h3_0 : Int) (r : (List Int) × Bool × Int × Int), zon q h0_0 h0_1 h0_2 h0_3 h0_5 h0_6 h1_0z h1_0l h1_1 h2_0 h3_0 = some r → LS T (M + 6) 4 [0, 6, 7, 8] [.blk 0] z2b j (finI 4 false []) ((some ([], [(.box [(.int .i64 h0_0), (.int .i64 h0_1), (.int .i64 h0_2), (.int .i64 h0_3), (.sl true []), (.bool h0_5), (.int .i64 h0_6), (.sl true [])]), (.box [(.sl h1_0z (List.map (V.int .u8) r.1)), (.bool r.2.1)]), (.box [(.int .i64 h2_0)]), (.box [(.int .i64 r.2.2.1), (.int .i64 r.2.2.2), (.int .i64 0)])]) : Option (List V × Hp))) [(0, (.ptr 1 0)), (6, (.psl [(.ptr 3 0), (.ptr 3 1)])), (7, (.int .i64 2)), (8, (.int .i64 1))] [(.box [(.int .i64 h0_0), (.int .i64 h0_1), (.int .i64 h0_2), (.int .i64 h0_3), (.sl true []), (.bool h0_5), (.int .i64 h0_6), (.sl true [])]), (.box [(.sl h1_0z (List.map (V.int .u8) h1_0l)), (.bool h1_1)]), (.box [(.int .i64 h2_0)]), (.box [(.int .i64 h3_0), (.int .i64 0), (.int .i64 0)])]
def zb6b (q : Nat) : Prop := ∀ M, 8 * q ≤ M → ∀ j, q ≤ j → ∀ (h0_0 h0_1 h0_2 h0_3 : Int) (h0_5 : Bool) (h0_6 : Int) (h1_0z : Bool) (h1_0l : List Int) (h1_1 : Bool) (h2_0 h3_0 h3_1 : Int) (r : (List Int) × Bool × Int × Int), zom q h0_0 h0_1 h0_2 h0_3 h0_5 h0_6 h1_0z h1_0l h1_1 h2_0 h3_0 h3_1 = some r → LS T (M + 6) 4 [0, 6, 7, 8] [.blk 0] z2b j (finI 4 false []) ((some ([], [(.box [(.int .i64 h0_0), (.int .i64 h0_1), (.int .i64 h0_2), (.int .i64 h0_3), (.sl true []), (.bool h0_5), (.int .i64 h0_6), (.sl true [])]), (.box [(.sl h1_0z (List.map (V.int .u8) r.1)), (.bool r.2.1)]), (.box [(.int .i64 h2_0)]), (.box [(.int .i64 r.2.2.1), (.int .i64 r.2.2.2), (.int .i64 0)])]) : Option (List V × Hp))) [(0, (.ptr 1 0)), (6, (.psl [(.ptr 3 0), (.ptr 3 1)])), (7, (.int .i64 2)), (8, (.int .i64 2))] [(.box [(.int .i64 h0_0), (.int .i64 h0_1), (.int .i64 h0_2), (.int .i64 h0_3), (.sl true []), (.bool h0_5), (.int .i64 h0_6), (.sl true [])]), (.box [(.sl h1_0z (List.map (V.int .u8) h1_0l)), (.bool h1_1)]), (.box [(.int .i64 h2_0)]), (.box [(.int .i64 h3_0), (.int .i64 h3_1), (.int .i64 0)])]
def zb6c := y5 @kk <| y5 @ke <| y5 @kn <| y5 @wl <| y5 @zbnn <| y5 @zbpz <| y5 @zbp2 <| y5 @zbnf <| y5 @zbp0 <| y5 @zbp1 <| y5 @zbp3 <| @zbp4
theorem zb6d (q : Nat) (zb8x : zb6a q) : zb59 (q + 1) := by
 intro M hM j hj h0_0 h0_1 h0_2 h0_3 h0_5 h0_6 h1_0z h1_0l h1_1 h2_0 r h R hR fr H hc
 obtain ⟨j, rfl⟩ : ∃ i, j = i + 1 := ⟨j - 1, by omega⟩
 rw [zhy, hc]; clear hc
 rw [zoo] at h
 repeat' (first | (cases h; done) | (replace h := bb h; rcases h with ⟨_, _, h⟩ | ⟨_, _, h⟩) | (replace h := bn h; obtain ⟨_, h⟩ := h) | (replace h := ob h; obtain ⟨_, g, h⟩ := h; first | (replace g := zb4d q (M + 5) (by omega) _ _ g; try simp only [kf, simprocAttr] at g) | skip))
 all_goals (replace h := zb8x M (by omega) j (by omega) _ _ _ _ _ _ _ _ _ _ _ _ h R hR; simp only [zb6c, simprocAttr, *])
theorem zb6e (q : Nat) (zb8y : zb6b q) : zb6a (q + 1) := by
 intro M hM j hj h0_0 h0_1 h0_2 h0_3 h0_5 h0_6 h1_0z h1_0l h1_1 h2_0 h3_0 r h R hR fr H hc
 obtain ⟨j, rfl⟩ : ∃ i, j = i + 1 := ⟨j - 1, by omega⟩
 rw [zhy, hc]; clear hc
 rw [zon] at h
 repeat' (first | (cases h; done) | (replace h := bb h; rcases h with ⟨_, _, h⟩ | ⟨_, _, h⟩) | (replace h := bn h; obtain ⟨_, h⟩ := h) | (replace h := ob h; obtain ⟨_, g, h⟩ := h; first | (replace g := zb4d q (M + 5) (by omega) _ _ g; try simp only [kf, simprocAttr] at g) | skip))
 all_goals (replace h := zb8y M (by omega) j (by omega) _ _ _ _ _ _ _ _ _ _ _ _ _ h R hR; simp only [zb6c, simprocAttr, *])
theorem zb6f (q : Nat) : zb6b (q + 1) := by
 intro M hM j hj h0_0 h0_1 h0_2 h0_3 h0_5 h0_6 h1_0z h1_0l h1_1 h2_0 h3_0 h3_1 r h R hR fr H hc
 obtain ⟨j, rfl⟩ : ∃ i, j = i + 1 := ⟨j - 1, by omega⟩
 rw [zhy, hc]; clear hc
 rw [zom] at h
 cases h; subst hR; simp only [zb6c, simprocAttr, *]
theorem zb6g : ∀ q, zb59 q ∧ zb6a q ∧ zb6b q
 | 0 => by refine ⟨?_, ?_, ?_⟩ <;> (intro M hM j hj; intros; rename_i h; cases h)
 | q + 1 => by have ⟨i0, i1, i2⟩ := zb6g q; exact ⟨zb6d q i1, zb6e q i2, zb6f q⟩
theorem zb6h : ∀ (q M : Nat), 8 * q ≤ M → ∀ (h0_0 h0_1 h0_2 h0_3 : Int), ∀ (h0_5 : Bool), ∀ (h0_6 : Int), ∀ (h1_0z : Bool), ∀ (h1_0l : List Int), ∀ (h1_1 : Bool), ∀ (h2_0 : Int), ∀ (r : (List Int) × Bool × Int × Int), zop q h0_0 h0_1 h0_2 h0_3 h0_5 h0_6 h1_0z h1_0l h1_1 h2_0 = some r → (orc T (M + 7)).inl F.zp7 [(.ptr 1 0), (.psl [(.ptr 3 0), (.ptr 3 1)])] [(.box [(.int .i64 h0_0), (.int .i64 h0_1), (.int .i64 h0_2), (.int .i64 h0_3), (.sl true []), (.bool h0_5), (.int .i64 h0_6), (.sl true [])]), (.box [(.sl h1_0z (List.map (V.int .u8) h1_0l)), (.bool h1_1)]), (.box [(.int .i64 h2_0)]), (.box [(.int .i64 0), (.int .i64 0), (.int .i64 0)])] = (some ([], [(.box [(.int .i64 h0_0), (.int .i64 h0_1), (.int .i64 h0_2), (.int .i64 h0_3), (.sl true []), (.bool h0_5), (.int .i64 h0_6), (.sl true [])]), (.box [(.sl h1_0z (List.map (V.int .u8) r.1)), (.bool r.2.1)]), (.box [(.int .i64 h2_0)]), (.box [(.int .i64 r.2.2.1), (.int .i64 r.2.2.2), (.int .i64 0)])]) : Option (List V × Hp)) := by
 intro q M hM h0_0 h0_1 h0_2 h0_3 h0_5 h0_6 h1_0z h1_0l h1_1 h2_0 r h
 rcases q with _ | q
 ·cases h
 have ih_delta_read_s3_l0 := (zb6g q).1
 refine byR fun R hR => ?_
 rw [zbnp (n := M + 6)]
 rw [zop] at h
 replace h := ih_delta_read_s3_l0 M (by omega) (M + 6) (by omega) _ _ _ _ _ _ _ _ _ _ _ h R hR
 simp only [zb6c, simprocAttr, *]
def zb6i (q : Nat) : Prop := ∀ M, 8 * q ≤ M → ∀ j, q ≤ j → ∀ (w3 : Nat) (h0_0 h0_1 h0_2 h0_3 : Int) (h0_4len : Nat) (h0_5 : Bool) (h0_6 : Int) (h1_0z : Bool) (h1_0l : List Int) (h1_1 : Bool) (h2_0 : Int) (h3l : List Int) (r : (List Int) × Bool × Int × Int), zos q h0_0 h0_1 h0_2 h0_3 h0_4len h0_5 h0_6 h1_0z h1_0l h1_1 h2_0 h3l = some r → LS T (M + 6) 5 [0, 6, 7, 8] [.blk 0] z2b j (finI 5 false []) ((some ([], [(.box [(.int .i64 h0_0), (.int .i64 h0_1), (.int .i64 h0_2), (.int .i64 h0_3), (.vw 3 w3 0 h0_4len 1), (.bool h0_5), (.int .i64 h0_6), (.sl true [])]), (.box [(.sl h1_0z (List.map (V.int .u8) r.1)), (.bool r.2.1)]), (.box [(.int .i64 h2_0)]), (.row w3 false 1 (List.map (V.int .i64) h3l) true), (.box [(.int .i64 r.2.2.1), (.int .i64 r.2.2.2), (.int .i64 0)])]) : Option (List V × Hp))) [(0, (.ptr 1 0)), (6, (.psl [(.ptr 4 0), (.ptr 4 1)])), (7, (.int .i64 2)), (8, (.int .i64 0))] [(.box [(.int .i64 h0_0), (.int .i64 h0_1), (.int .i64 h0_2), (.int .i64 h0_3), (.vw 3 w3 0 h0_4len 1), (.bool h0_5), (.int .i64 h0_6), (.sl true [])]), (.box [(.sl h1_0z (List.map (V.int .u8) h1_0l)), (.bool h1_1)]), (.box [(.int .i64 h2_0)]), (.row w3 false 1 (List.map (V.int .i64) h3l) true), (.box [(.int .i64 0), (.int .i64 0), (.int .i64 0)])]
def zb6j (q : Nat) : Prop := ∀ M, 8 * q ≤ M → ∀ j, q ≤ j → ∀ (w3 : Nat) (h0_0 h0_1 h0_2 h0_3 : Int) (h0_4len : Nat) (h0_5 : Bool) (h0_6 : Int) (h1_0z : Bool) (h1_0l : List Int) (h1_1 : Bool) (h2_0 : Int) (h3l : List Int) (h4_0 : Int) (r : (List Int) × Bool × Int × Int), zor q h0_0 h0_1 h0_2 h0_3 h0_4len h0_5 h0_6 h1_0z h1_0l h1_1 h2_0 h3l h4_0 = some r → LS T (M + 6) 5 [0, 6, 7, 8] [.blk 0] z2b j (finI 5 false []) ((some ([], [(.box [(.int .i64 h0_0), (.int .i64 h0_1), (.int .i64 h0_2), (.int .i64 h0_3), (.vw 3 w3 0 h0_4len 1), (.bool h0_5), (.int .i64 h0_6), (.sl true [])]), (.box [(.sl h1_0z (List.map (V.int .u8) r.1)), (.bool r.2.1)]), (.box [(.int .i64 h2_0)]), (.row w3 false 1 (List.map (V.int .i64) h3l) true), (.box [(.int .i64 r.2.2.1), (.int .i64 r.2.2.2), (.int .i64 0)])]) : Option (List V × Hp))) [(0, (.ptr 1 0)), (6, (.psl [(.ptr 4 0), (.ptr 4 1)])), (7, (.int .i64 2)), (8, (.int .i64 1))] [(.box [(.int .i64 h0_0), (.int .i64 h0_1), (.int .i64 h0_2), (.int .i64 h0_3), (.vw 3 w3 0 h0_4len 1), (.bool h0_5), (.int .i64 h0_6), (.sl true [])]), (.box [(.sl h1_0z (List.map (V.int .u8) h1_0l)), (.bool h1_1)]), (.box [(.int .i64 h2_0)]), (.row w3 false 1 (List.map (V.int .i64) h3l) true), (.box [(.int .i64 h4_0), (.int .i64 0), (.int .i64 0)])]
def zb6k (q : Nat) : Prop := ∀ M, 8 * q ≤ M → ∀ j, q ≤ j → ∀ (w3 : Nat) (h0_0 h0_1 h0_2 h0_3 : Int) (h0_4len : Nat) (h0_5 : Bool) (h0_6 : Int) (h1_0z : Bool) (h1_0l : List Int) (h1_1 : Bool) (h2_0 : Int) (h3l : List Int) (h4_0 h4_1 : Int) (r : (List Int) × Bool × Int × Int), zoq q h0_0 h0_1 h0_2 h0_3 h0_4len h0_5 h0_6 h1_0z h1_0l h1_1 h2_0 h3l h4_0 h4_1 = some r → LS T (M + 6) 5 [0, 6, 7, 8] [.blk 0] z2b j (finI 5 false []) ((some ([], [(.box [(.int .i64 h0_0), (.int .i64 h0_1), (.int .i64 h0_2), (.int .i64 h0_3), (.vw 3 w3 0 h0_4len 1), (.bool h0_5), (.int .i64 h0_6), (.sl true [])]), (.box [(.sl h1_0z (List.map (V.int .u8) r.1)), (.bool r.2.1)]), (.box [(.int .i64 h2_0)]), (.row w3 false 1 (List.map (V.int .i64) h3l) true), (.box [(.int .i64 r.2.2.1), (.int .i64 r.2.2.2), (.int .i64 0)])]) : Option (List V × Hp))) [(0, (.ptr 1 0)), (6, (.psl [(.ptr 4 0), (.ptr 4 1)])), (7, (.int .i64 2)), (8, (.int .i64 2))] [(.box [(.int .i64 h0_0), (.int .i64 h0_1), (.int .i64 h0_2), (.int .i64 h0_3), (.vw 3 w3 0 h0_4len 1), (.bool h0_5), (.int .i64 h0_6), (.sl true [])]), (.box [(.sl h1_0z (List.map (V.int .u8) h1_0l)), (.bool h1_1)]), (.box [(.int .i64 h2_0)]), (.row w3 false 1 (List.map (V.int .i64) h3l) true), (.box [(.int .i64 h4_0), (.int .i64 h4_1), (.int .i64 0)])]
def zb6l := y5 @kk <| y5 @ke <| y5 @kn <| y5 @wl <| y5 @zbnn <| y5 @zbpz <| y5 @zbp2 <| y5 @zbnf <| y5 @zbp0 <| y5 @zbp1 <| y5 @zbp3 <| @zbp4
theorem zb6m (q : Nat) (zb8z : zb6j q) : zb6i (q + 1) := by
 intro M hM j hj w3 h0_0 h0_1 h0_2 h0_3 h0_4len h0_5 h0_6 h1_0z h1_0l h1_1 h2_0 h3l r h R hR fr H hc
 obtain ⟨j, rfl⟩ : ∃ i, j = i + 1 := ⟨j - 1, by omega⟩
 rw [zhy, hc]; clear hc
 rw [zos] at h
 repeat' (first | (cases h; done) | (replace h := bb h; rcases h with ⟨_, _, h⟩ | ⟨_, _, h⟩) | (replace h := bn h; obtain ⟨_, h⟩ := h) | (replace h := ob h; obtain ⟨_, g, h⟩ := h; first | (replace g := zb4d q (M + 5) (by omega) _ _ g; try simp only [kf, simprocAttr] at g) | skip))
 all_goals (replace h := zb8z M (by omega) j (by omega) w3 _ _ _ _ _ _ _ _ _ _ _ _ _ _ h R hR; simp only [zb6l, simprocAttr, *])
theorem zb6n (q : Nat) (zb80 : zb6k q) : zb6j (q + 1) := by
 intro M hM j hj w3 h0_0 h0_1 h0_2 h0_3 h0_4len h0_5 h0_6 h1_0z h1_0l h1_1 h2_0 h3l h4_0 r h R hR fr H hc
 obtain ⟨j, rfl⟩ : ∃ i, j = i + 1 := ⟨j - 1, by omega⟩
 rw [zhy, hc]; clear hc
 rw [zor] at h
 repeat' (first | (cases h; done) | (replace h := bb h; rcases h with ⟨_, _, h⟩ | ⟨_, _, h⟩) | (replace h := bn h; obtain ⟨_, h⟩ := h) | (replace h := ob h; obtain ⟨_, g, h⟩ := h; first | (replace g := zb4d q (M + 5) (by omega) _ _ g; try simp only [kf, simprocAttr] at g) | skip))
 all_goals (replace h := zb80 M (by omega) j (by omega) w3 _ _ _ _ _ _ _ _ _ _ _ _ _ _ _ h R hR; simp only [zb6l, simprocAttr, *])
theorem zb6o (q : Nat) : zb6k (q + 1) := by
 intro M hM j hj w3 h0_0 h0_1 h0_2 h0_3 h0_4len h0_5 h0_6 h1_0z h1_0l h1_1 h2_0 h3l h4_0 h4_1 r h R hR fr H hc
 obtain ⟨j, rfl⟩ : ∃ i, j = i + 1 := ⟨j - 1, by omega⟩
 rw [zhy, hc]; clear hc
 rw [zoq] at h
 cases h; subst hR; simp only [zb6l, simprocAttr, *]
theorem zb6p : ∀ q, zb6i q ∧ zb6j q ∧ zb6k q
 | 0 => by refine ⟨?_, ?_, ?_⟩ <;> (intro M hM j hj; intros; rename_i h; cases h)
 | q + 1 => by have ⟨i0, i1, i2⟩ := zb6p q; exact ⟨zb6m q i1, zb6n q i2, zb6o q⟩
theorem zb6q : ∀ (q M : Nat), 8 * q ≤ M → ∀ (w3 : Nat), ∀ (h0_0 h0_1 h0_2 h0_3 : Int), ∀ (h0_4len : Nat), ∀ (h0_5 : Bool), ∀ (h0_6 : Int), ∀ (h1_0z : Bool), ∀ (h1_0l : List Int), ∀ (h1_1 : Bool), ∀ (h2_0 : Int), ∀ (h3l : List Int), ∀ (r : (List Int) × Bool × Int × Int), zot q h0_0 h0_1 h0_2 h0_3 h0_4len h0_5 h0_6 h1_0z h1_0l h1_1 h2_0 h3l = some r → (orc T (M + 7)).inl F.zp7 [(.ptr 1 0), (.psl [(.ptr 4 0), (.ptr 4 1)])] [(.box [(.int .i64 h0_0), (.int .i64 h0_1), (.int .i64 h0_2), (.int .i64 h0_3), (.vw 3 w3 0 h0_4len 1), (.bool h0_5), (.int .i64 h0_6), (.sl true [])]), (.box [(.sl h1_0z (List.map (V.int .u8) h1_0l)), (.bool h1_1)]), (.box [(.int .i64 h2_0)]), (.row w3 false 1 (List.map (V.int .i64) h3l) true), (.box [(.int .i64 0), (.int .i64 0), (.int .i64 0)])] = (some ([], [(.box [(.int .i64 h0_0), (.int .i64 h0_1), (.int .i64 h0_2), (.int .i64 h0_3), (.vw 3 w3 0 h0_4len 1), (.bool h0_5), (.int .i64 h0_6), (.sl true [])]), (.box [(.sl h1_0z (List.map (V.int .u8) r.1)), (.bool r.2.1)]), (.box [(.int .i64 h2_0)]), (.row w3 false 1 (List.map (V.int .i64) h3l) true), (.box [(.int .i64 r.2.2.1), (.int .i64 r.2.2.2), (.int .i64 0)])]) : Option (List V × Hp)) := by
 intro q M hM w3 h0_0 h0_1 h0_2 h0_3 h0_4len h0_5 h0_6 h1_0z h1_0l h1_1 h2_0 h3l r h
 rcases q with _ | q
 ·cases h
 have ih_delta_read_s4_l0 := (zb6p q).1
 refine byR fun R hR => ?_
 rw [zbnp (n := M + 6)]
 rw [zot] at h
 replace h := ih_delta_read_s4_l0 M (by omega) (M + 6) (by omega) w3 _ _ _ _ _ _ _ _ _ _ _ _ _ h R hR
 simp only [zb6l, simprocAttr, *]
def zb6r (q : Nat) : Prop := ∀ M, 8 * q ≤ M → ∀ j, q ≤ j → ∀ (w3 : Nat) (h0_0 h0_1 h0_2 h0_3 : Int) (h0_5 : Bool) (h0_6 : Int) (h1_0z : Bool) (h1_0l : List Int) (h1_1 : Bool) (h2_0 : Int) (h3l : List zj5) (r : Nat × (List Int) × Bool × Int × Int), zow q h0_0 h0_1 h0_2 h0_3 h0_5 h0_6 h1_0z h1_0l h1_1 h2_0 h3l = some r → LS T (M + 6) 5 [0, 6, 7, 8] [.blk 0] z2b j (finI 5 false []) ((some ([], [(.box [(.int .i64 h0_0), (.int .i64 h0_1), (.int .i64 h0_2), (.int .i64 h0_3), (.sl true []), (.bool h0_5), (.int .i64 h0_6), (.vw 3 w3 0 r.1 1)]), (.box [(.sl h1_0z (List.map (V.int .u8) r.2.1)), (.bool r.2.2.1)]), (.box [(.int .i64 h2_0)]), (.row w3 false 3 (List.map zj5.enc h3l) true), (.box [(.int .i64 r.2.2.2.1), (.int .i64 r.2.2.2.2), (.int .i64 0)])]) : Option (List V × Hp))) [(0, (.ptr 1 0)), (6, (.psl [(.ptr 4 0), (.ptr 4 1)])), (7, (.int .i64 2)), (8, (.int .i64 0))] [(.box [(.int .i64 h0_0), (.int .i64 h0_1), (.int .i64 h0_2), (.int .i64 h0_3), (.sl true []), (.bool h0_5), (.int .i64 h0_6), (.vw 3 w3 0 h3l.length 1)]), (.box [(.sl h1_0z (List.map (V.int .u8) h1_0l)), (.bool h1_1)]), (.box [(.int .i64 h2_0)]), (.row w3 false 3 (List.map zj5.enc h3l) true), (.box [(.int .i64 0), (.int .i64 0), (.int .i64 0)])]
def zb6s (q : Nat) : Prop := ∀ M, 8 * q ≤ M → ∀ j, q ≤ j → ∀ (w3 : Nat) (h0_0 h0_1 h0_2 h0_3 : Int) (h0_5 : Bool) (h0_6 : Int) (h1_0z : Bool) (h1_0l : List Int) (h1_1 : Bool) (h2_0 : Int) (h3l : List zj5) (h4_0 : Int) (r : Nat × (List Int) × Bool × Int × Int), zov q h0_0 h0_1 h0_2 h0_3 h0_5 h0_6 h1_0z h1_0l h1_1 h2_0 h3l h4_0 = some r → LS T (M + 6) 5 [0, 6, 7, 8] [.blk 0] z2b j (finI 5 false []) ((some ([], [(.box [(.int .i64 h0_0), (.int .i64 h0_1), (.int .i64 h0_2), (.int .i64 h0_3), (.sl true []), (.bool h0_5), (.int .i64 h0_6), (.vw 3 w3 0 r.1 1)]), (.box [(.sl h1_0z (List.map (V.int .u8) r.2.1)), (.bool r.2.2.1)]), (.box [(.int .i64 h2_0)]), (.row w3 false 3 (List.map zj5.enc h3l) true), (.box [(.int .i64 r.2.2.2.1), (.int .i64 r.2.2.2.2), (.int .i64 0)])]) : Option (List V × Hp))) [(0, (.ptr 1 0)), (6, (.psl [(.ptr 4 0), (.ptr 4 1)])), (7, (.int .i64 2)), (8, (.int .i64 1))] [(.box [(.int .i64 h0_0), (.int .i64 h0_1), (.int .i64 h0_2), (.int .i64 h0_3), (.sl true []), (.bool h0_5), (.int .i64 h0_6), (.vw 3 w3 0 h3l.length 1)]), (.box [(.sl h1_0z (List.map (V.int .u8) h1_0l)), (.bool h1_1)]), (.box [(.int .i64 h2_0)]), (.row w3 false 3 (List.map zj5.enc h3l) true), (.box [(.int .i64 h4_0), (.int .i64 0), (.int .i64 0)])]
def zb6t (q : Nat) : Prop := ∀ M, 8 * q ≤ M → ∀ j, q ≤ j → ∀ (w3 : Nat) (h0_0 h0_1 h0_2 h0_3 : Int) (h0_5 : Bool) (h0_6 : Int) (h1_0z : Bool) (h1_0l : List Int) (h1_1 : Bool) (h2_0 : Int) (h3l : List zj5) (h4_0 h4_1 : Int) (r : Nat × (List Int) × Bool × Int × Int), zou q h0_0 h0_1 h0_2 h0_3 h0_5 h0_6 h1_0z h1_0l h1_1 h2_0 h3l h4_0 h4_1 = some r → LS T (M + 6) 5 [0, 6, 7, 8] [.blk 0] z2b j (finI 5 false []) ((some ([], [(.box [(.int .i64 h0_0), (.int .i64 h0_1), (.int .i64 h0_2), (.int .i64 h0_3), (.sl true []), (.bool h0_5), (.int .i64 h0_6), (.vw 3 w3 0 r.1 1)]), (.box [(.sl h1_0z (List.map (V.int .u8) r.2.1)), (.bool r.2.2.1)]), (.box [(.int .i64 h2_0)]), (.row w3 false 3 (List.map zj5.enc h3l) true), (.box [(.int .i64 r.2.2.2.1), (.int .i64 r.2.2.2.2), (.int .i64 0)])]) : Option (List V × Hp))) [(0, (.ptr 1 0)), (6, (.psl [(.ptr 4 0), (.ptr 4 1)])), (7, (.int .i64 2)), (8, (.int .i64 2))] [(.box [(.int .i64 h0_0), (.int .i64 h0_1), (.int .i64 h0_2), (.int .i64 h0_3), (.sl true []), (.bool h0_5), (.int .i64 h0_6), (.vw 3 w3 0 h3l.length 1)]), (.box [(.sl h1_0z (List.map (V.int .u8) h1_0l)), (.bool h1_1)]), (.box [(.int .i64 h2_0)]), (.row w3 false 3 (List.map zj5.enc h3l) true), (.box [(.int .i64 h4_0), (.int .i64 h4_1), (.int .i64 0)])]
def zb6u := y5 @kk <| y5 @ke <| y5 @kn <| y5 @wl <| y5 @zbnn <| y5 @zbpz <| y5 @zbp2 <| y5 @zbnf <| y5 @zbp0 <| y5 @zbp1 <| y5 @zbp3 <| @zbp4
theorem zb6v (q : Nat) (zb81 : zb6s q) : zb6r (q + 1) := by
 intro M hM j hj w3 h0_0 h0_1 h0_2 h0_3 h0_5 h0_6 h1_0z h1_0l h1_1 h2_0 h3l r h R hR fr H hc
 obtain ⟨j, rfl⟩ : ∃ i, j = i + 1 := ⟨j - 1, by omega⟩
 rw [zhy, hc]; clear hc
 rw [zow] at h
 repeat' (first | (cases h; done) | (replace h := bb h; rcases h with ⟨_, _, h⟩ | ⟨_, _, h⟩) | (replace h := bn h; obtain ⟨_, h⟩ := h) | (replace h := ob h; obtain ⟨_, g, h⟩ := h; first | (replace g := zb4d q (M + 5) (by omega) _ _ g; try simp only [kf, simprocAttr] at g) | skip))
 all_goals (replace h := zb81 M (by omega) j (by omega) w3 _ _ _ _ _ _ _ _ _ _ _ _ _ h R hR; simp only [zb6u, simprocAttr, *])
theorem zb6w (q : Nat) (zb82 : zb6t q) : zb6s (q + 1) := by
 intro M hM j hj w3 h0_0 h0_1 h0_2 h0_3 h0_5 h0_6 h1_0z h1_0l h1_1 h2_0 h3l h4_0 r h R hR fr H hc
 obtain ⟨j, rfl⟩ : ∃ i, j = i + 1 := ⟨j - 1, by omega⟩
 rw [zhy, hc]; clear hc
 rw [zov] at h
 repeat' (first | (cases h; done) | (replace h := bb h; rcases h with ⟨_, _, h⟩ | ⟨_, _, h⟩) | (replace h := bn h; obtain ⟨_, h⟩ := h) | (replace h := ob h; obtain ⟨_, g, h⟩ := h; first | (replace g := zb4d q (M + 5) (by omega) _ _ g; try simp only [kf, simprocAttr] at g) | skip))
 all_goals (replace h := zb82 M (by omega) j (by omega) w3 _ _ _ _ _ _ _ _ _ _ _ _ _ _ h R hR; simp only [zb6u, simprocAttr, *])
theorem zb6x (q : Nat) : zb6t (q + 1) := by
 intro M hM j hj w3 h0_0 h0_1 h0_2 h0_3 h0_5 h0_6 h1_0z h1_0l h1_1 h2_0 h3l h4_0 h4_1 r h R hR fr H hc
 obtain ⟨j, rfl⟩ : ∃ i, j = i + 1 := ⟨j - 1, by omega⟩
 rw [zhy, hc]; clear hc
 rw [zou] at h
 cases h; subst hR; simp only [zb6u, simprocAttr, *]
theorem zb6y : ∀ q, zb6r q ∧ zb6s q ∧ zb6t q
 | 0 => by refine ⟨?_, ?_, ?_⟩ <;> (intro M hM j hj; intros; rename_i h; cases h)
 | q + 1 => by have ⟨i0, i1, i2⟩ := zb6y q; exact ⟨zb6v q i1, zb6w q i2, zb6x q⟩
theorem zb6z : ∀ (q M : Nat), 8 * q ≤ M → ∀ (w3 : Nat), ∀ (h0_0 h0_1 h0_2 h0_3 : Int), ∀ (h0_5 : Bool), ∀ (h0_6 : Int), ∀ (h1_0z : Bool), ∀ (h1_0l : List Int), ∀ (h1_1 : Bool), ∀ (h2_0 : Int), ∀ (h3l : List zj5), ∀ (r : Nat × (List Int) × Bool × Int × Int), zox q h0_0 h0_1 h0_2 h0_3 h0_5 h0_6 h1_0z h1_0l h1_1 h2_0 h3l = some r → (orc T (M + 7)).inl F.zp7 [(.ptr 1 0), (.psl [(.ptr 4 0), (.ptr 4 1)])] [(.box [(.int .i64 h0_0), (.int .i64 h0_1), (.int .i64 h0_2), (.int .i64 h0_3), (.sl true []), (.bool h0_5), (.int .i64 h0_6), (.vw 3 w3 0 h3l.length 1)]), (.box [(.sl h1_0z (List.map (V.int .u8) h1_0l)), (.bool h1_1)]), (.box [(.int .i64 h2_0)]), (.row w3 false 3 (List.map zj5.enc h3l) true), (.box [(.int .i64 0), (.int .i64 0), (.int .i64 0)])] = (some ([], [(.box [(.int .i64 h0_0), (.int .i64 h0_1), (.int .i64 h0_2), (.int .i64 h0_3), (.sl true []), (.bool h0_5), (.int .i64 h0_6), (.vw 3 w3 0 r.1 1)]), (.box [(.sl h1_0z (List.map (V.int .u8) r.2.1)), (.bool r.2.2.1)]), (.box [(.int .i64 h2_0)]), (.row w3 false 3 (List.map zj5.enc h3l) true), (.box [(.int .i64 r.2.2.2.1), (.int .i64 r.2.2.2.2), (.int .i64 0)])]) : Option (List V × Hp)) := by
 intro q M hM w3 h0_0 h0_1 h0_2 h0_3 h0_5 h0_6 h1_0z h1_0l h1_1 h2_0 h3l r h
 rcases q with _ | q
 ·cases h
 have ih_delta_read_s5_l0 := (zb6y q).1
 refine byR fun R hR => ?_
 rw [zbnp (n := M + 6)]
 rw [zox] at h
 replace h := ih_delta_read_s5_l0 M (by omega) (M + 6) (by omega) w3 _ _ _ _ _ _ _ _ _ _ _ _ h R hR
 simp only [zb6u, simprocAttr, *]
def zb60 (q : Nat) : Prop := ∀ M, 8 * q ≤ M → ∀ j, q ≤ j → ∀ (w3 w4 : Nat) (h0_0 h0_1 h0_2 h0_3 : Int) (h0_4len : Nat) (h0_5 : Bool) (h0_6 : Int) (h1_0z : Bool) (h1_0l : List Int) (h1_1 : Bool) (h2_0 : Int) (h3l : List Int) (h4l : List zj5) (r : Nat × (List Int) × Bool × Int × Int), zo0 q h0_0 h0_1 h0_2 h0_3 h0_4len h0_5 h0_6 h1_0z h1_0l h1_1 h2_0 h3l h4l = some r → LS T (M + 6) 6 [0, 6, 7, 8] [.blk 0] z2b j (finI 6 false []) ((some ([], [(.box [(.int .i64 h0_0), (.int .i64 h0_1), (.int .i64 h0_2), (.int .i64 h0_3), (.vw 3 w3 0 h0_4len 1), (.bool h0_5), (.int .i64 h0_6), (.vw 4 w4 0 r.1 1)]), (.box [(.sl h1_0z (List.map (V.int .u8) r.2.1)), (.bool r.2.2.1)]), (.box [(.int .i64 h2_0)]), (.row w3 false 1 (List.map (V.int .i64) h3l) true), (.row w4 false 3 (List.map zj5.enc h4l) true), (.box [(.int .i64 r.2.2.2.1), (.int .i64 r.2.2.2.2), (.int .i64 0)])]) : Option (List V × Hp))) [(0, (.ptr 1 0)), (6, (.psl [(.ptr 5 0), (.ptr 5 1)])), (7, (.int .i64 2)), (8, (.int .i64 0))] [(.box [(.int .i64 h0_0), (.int .i64 h0_1), (.int .i64 h0_2), (.int .i64 h0_3), (.vw 3 w3 0 h0_4len 1), (.bool h0_5), (.int .i64 h0_6), (.vw 4 w4 0 h4l.length 1)]), (.box [(.sl h1_0z (List.map (V.int .u8) h1_0l)), (.bool h1_1)]), (.box [(.int .i64 h2_0)]), (.row w3 false 1 (List.map (V.int .i64) h3l) true), (.row w4 false 3 (List.map zj5.enc h4l) true), (.box [(.int .i64 0), (.int .i64 0), (.int .i64 0)])]
def zb61 (q : Nat) : Prop := ∀ M, 8 * q ≤ M → ∀ j, q ≤ j → ∀ (w3 w4 : Nat) (h0_0 h0_1 h0_2 h0_3 : Int) (h0_4len : Nat) (h0_5 : Bool) (h0_6 : Int) (h1_0z : Bool) (h1_0l : List Int) (h1_1 : Bool) (h2_0 : Int) (h3l : List Int) (h4l : List zj5) (h5_0 : Int) (r : Nat × (List Int) × Bool × Int × Int), zoz q h0_0 h0_1 h0_2 h0_3 h0_4len h0_5 h0_6 h1_0z h1_0l h1_1 h2_0 h3l h4l h5_0 = some r → LS T (M + 6) 6 [0, 6, 7, 8] [.blk 0] z2b j (finI 6 false []) ((some ([], [(.box [(.int .i64 h0_0), (.int .i64 h0_1), (.int .i64 h0_2), (.int .i64 h0_3), (.vw 3 w3 0 h0_4len 1), (.bool h0_5), (.int .i64 h0_6), (.vw 4 w4 0 r.1 1)]), (.box [(.sl h1_0z (List.map (V.int .u8) r.2.1)), (.bool r.2.2.1)]), (.box [(.int .i64 h2_0)]), (.row w3 false 1 (List.map (V.int .i64) h3l) true), (.row w4 false 3 (List.map zj5.enc h4l) true), (.box [(.int .i64 r.2.2.2.1), (.int .i64 r.2.2.2.2), (.int .i64 0)])]) : Option (List V × Hp))) [(0, (.ptr 1 0)), (6, (.psl [(.ptr 5 0), (.ptr 5 1)])), (7, (.int .i64 2)), (8, (.int .i64 1))] [(.box [(.int .i64 h0_0), (.int .i64 h0_1), (.int .i64 h0_2), (.int .i64 h0_3), (.vw 3 w3 0 h0_4len 1), (.bool h0_5), (.int .i64 h0_6), (.vw 4 w4 0 h4l.length 1)]), (.box [(.sl h1_0z (List.map (V.int .u8) h1_0l)), (.bool h1_1)]), (.box [(.int .i64 h2_0)]), (.row w3 false 1 (List.map (V.int .i64) h3l) true), (.row w4 false 3 (List.map zj5.enc h4l) true), (.box [(.int .i64 h5_0), (.int .i64 0), (.int .i64 0)])]
def zb62 (q : Nat) : Prop := ∀ M, 8 * q ≤ M → ∀ j, q ≤ j → ∀ (w3 w4 : Nat) (h0_0 h0_1 h0_2 h0_3 : Int) (h0_4len : Nat) (h0_5 : Bool) (h0_6 : Int) (h1_0z : Bool) (h1_0l : List Int) (h1_1 : Bool) (h2_0 : Int) (h3l : List Int) (h4l : List zj5) (h5_0 h5_1 : Int) (r : Nat × (List Int) × Bool × Int × Int), zoy q h0_0 h0_1 h0_2 h0_3 h0_4len h0_5 h0_6 h1_0z h1_0l h1_1 h2_0 h3l h4l h5_0 h5_1 = some r → LS T (M + 6) 6 [0, 6, 7, 8] [.blk 0] z2b j (finI 6 false []) ((some ([], [(.box [(.int .i64 h0_0), (.int .i64 h0_1), (.int .i64 h0_2), (.int .i64 h0_3), (.vw 3 w3 0 h0_4len 1), (.bool h0_5), (.int .i64 h0_6), (.vw 4 w4 0 r.1 1)]), (.box [(.sl h1_0z (List.map (V.int .u8) r.2.1)), (.bool r.2.2.1)]), (.box [(.int .i64 h2_0)]), (.row w3 false 1 (List.map (V.int .i64) h3l) true), (.row w4 false 3 (List.map zj5.enc h4l) true), (.box [(.int .i64 r.2.2.2.1), (.int .i64 r.2.2.2.2), (.int .i64 0)])]) : Option (List V × Hp))) [(0, (.ptr 1 0)), (6, (.psl [(.ptr 5 0), (.ptr 5 1)])), (7, (.int .i64 2)), (8, (.int .i64 2))] [(.box [(.int .i64 h0_0), (.int .i64 h0_1), (.int .i64 h0_2), (.int .i64 h0_3), (.vw 3 w3 0 h0_4len 1), (.bool h0_5), (.int .i64 h0_6), (.vw 4 w4 0 h4l.length 1)]), (.box [(.sl h1_0z (List.map (V.int .u8) h1_0l)), (.bool h1_1)]), (.box [(.int .i64 h2_0)]), (.row w3 false 1 (List.map (V.int .i64) h3l) true), (.row w4 false 3 (List.map zj5.enc h4l) true), (.box [(.int .i64 h5_0), (.int .i64 h5_1), (.int .i64 0)])]
def zb63 := y5 @kk <| y5 @ke <| y5 @kn <| y5 @wl <| y5 @zbnn <| y5 @zbpz <| y5 @zbp2 <| y5 @zbnf <| y5 @zbp0 <| y5 @zbp1 <| y5 @zbp3 <| @zbp4
theorem zb64 (q : Nat) (zb83 : zb61 q) : zb60 (q + 1) := by
 intro M hM j hj w3 w4 h0_0 h0_1 h0_2 h0_3 h0_4len h0_5 h0_6 h1_0z h1_0l h1_1 h2_0 h3l h4l r h R hR fr H hc
 obtain ⟨j, rfl⟩ : ∃ i, j = i + 1 := ⟨j - 1, by omega⟩
 rw [zhy, hc]; clear hc
 rw [zo0] at h
 repeat' (first | (cases h; done) | (replace h := bb h; rcases h with ⟨_, _, h⟩ | ⟨_, _, h⟩) | (replace h := bn h; obtain ⟨_, h⟩ := h) | (replace h := ob h; obtain ⟨_, g, h⟩ := h; first | (replace g := zb4d q (M + 5) (by omega) _ _ g; try simp only [kf, simprocAttr] at g) | skip))
 all_goals (replace h := zb83 M (by omega) j (by omega) w3 w4 _ _ _ _ _ _ _ _ _ _ _ _ _ _ _ h R hR; simp only [zb63, simprocAttr, *])
theorem zb65 (q : Nat) (zb84 : zb62 q) : zb61 (q + 1) := by
 intro M hM j hj w3 w4 h0_0 h0_1 h0_2 h0_3 h0_4len h0_5 h0_6 h1_0z h1_0l h1_1 h2_0 h3l h4l h5_0 r h R hR fr H hc
 obtain ⟨j, rfl⟩ : ∃ i, j = i + 1 := ⟨j - 1, by omega⟩
 rw [zhy, hc]; clear hc
 rw [zoz] at h
 repeat' (first | (cases h; done) | (replace h := bb h; rcases h with ⟨_, _, h⟩ | ⟨_, _, h⟩) | (replace h := bn h; obtain ⟨_, h⟩ := h) | (replace h := ob h; obtain ⟨_, g, h⟩ := h; first | (replace g := zb4d q (M + 5) (by omega) _ _ g; try simp only [kf, simprocAttr] at g) | skip))
 all_goals (replace h := zb84 M (by omega) j (by omega) w3 w4 _ _ _ _ _ _ _ _ _ _ _ _ _ _ _ _ h R hR; simp only [zb63, simprocAttr, *])
theorem zb66 (q : Nat) : zb62 (q + 1) := by
 intro M hM j hj w3 w4 h0_0 h0_1 h0_2 h0_3 h0_4len h0_5 h0_6 h1_0z h1_0l h1_1 h2_0 h3l h4l h5_0 h5_1 r h R hR fr H hc
 obtain ⟨j, rfl⟩ : ∃ i, j = i + 1 := ⟨j - 1, by omega⟩
 rw [zhy, hc]; clear hc
 rw [zoy] at h
 cases h; subst hR; simp only [zb63, simprocAttr, *]
theorem zb67 : ∀ q, zb60 q ∧ zb61 q ∧ zb62 q
 | 0 => by refine ⟨?_, ?_, ?_⟩ <;> (intro M hM j hj; intros; rename_i h; cases h)
 | q + 1 => by have ⟨i0, i1, i2⟩ := zb67 q; exact ⟨zb64 q i1, zb65 q i2, zb66 q⟩
theorem zb68 : ∀ (q M : Nat), 8 * q ≤ M → ∀ (w3 w4 : Nat), ∀ (h0_0 h0_1 h0_2 h0_3 : Int), ∀ (h0_4len : Nat), ∀ (h0_5 : Bool), ∀ (h0_6 : Int), ∀ (h1_0z : Bool), ∀ (h1_0l : List Int), ∀ (h1_1 : Bool), ∀ (h2_0 : Int), ∀ (h3l : List Int), ∀ (h4l : List zj5), ∀ (r : Nat × (List Int) × Bool × Int × Int), zo1 q h0_0 h0_1 h0_2 h0_3 h0_4len h0_5 h0_6 h1_0z h1_0l h1_1 h2_0 h3l h4l = some r → (orc T (M + 7)).inl F.zp7 [(.ptr 1 0), (.psl [(.ptr 5 0), (.ptr 5 1)])] [(.box [(.int .i64 h0_0), (.int .i64 h0_1), (.int .i64 h0_2), (.int .i64 h0_3), (.vw 3 w3 0 h0_4len 1), (.bool h0_5), (.int .i64 h0_6), (.vw 4 w4 0 h4l.length 1)]), (.box [(.sl h1_0z (List.map (V.int .u8) h1_0l)), (.bool h1_1)]), (.box [(.int .i64 h2_0)]), (.row w3 false 1 (List.map (V.int .i64) h3l) true), (.row w4 false 3 (List.map zj5.enc h4l) true), (.box [(.int .i64 0), (.int .i64 0), (.int .i64 0)])] = (some ([], [(.box [(.int .i64 h0_0), (.int .i64 h0_1), (.int .i64 h0_2), (.int .i64 h0_3), (.vw 3 w3 0 h0_4len 1), (.bool h0_5), (.int .i64 h0_6), (.vw 4 w4 0 r.1 1)]), (.box [(.sl h1_0z (List.map (V.int .u8) r.2.1)), (.bool r.2.2.1)]), (.box [(.int .i64 h2_0)]), (.row w3 false 1 (List.map (V.int .i64) h3l) true), (.row w4 false 3 (List.map zj5.enc h4l) true), (.box [(.int .i64 r.2.2.2.1), (.int .i64 r.2.2.2.2), (.int .i64 0)])]) : Option (List V × Hp)) := by
 intro q M hM w3 w4 h0_0 h0_1 h0_2 h0_3 h0_4len h0_5 h0_6 h1_0z h1_0l h1_1 h2_0 h3l h4l r h
 rcases q with _ | q
 ·cases h
 have ih_delta_read_s6_l0 := (zb67 q).1
 refine byR fun R hR => ?_
 rw [zbnp (n := M + 6)]
 rw [zo1] at h
 replace h := ih_delta_read_s6_l0 M (by omega) (M + 6) (by omega) w3 w4 _ _ _ _ _ _ _ _ _ _ _ _ _ _ h R hR
 simp only [zb63, simprocAttr, *]
def zb69 (q : Nat) : Prop := ∀ M, 8 * q ≤ M → ∀ j, q ≤ j → ∀ (v23 h0_0 h0_1 h0_2 h0_3 : Int) (h1_0z : Bool) (h1_0l : List Int) (h1_1 : Bool) (r : zj9 × Bool), zo7 q v23 h0_0 h0_1 h0_2 h0_3 h1_0z h1_0l h1_1 = some r → LS T (M + 7) 0 [2, 4, 6, 7, 23, 24] [.blk 0, .code (.seq (.reg zvr) zv6)] zvq j (fin zwa) (some [zj9.enc r.1, V.bool r.2]) [(2, (.ptr 0 0)), (4, (.ptr 1 0)), (6, (.ptr 2 0)), (7, (.ptr 3 0)), (23, (.int .i64 v23)), (24, (.int .i64 0))] [(.box [(.int .i64 h0_0), (.int .i64 h0_1), (.int .i64 h0_2), (.int .i64 h0_3), (.sl true []), (.bool false), (.int .i64 0), (.sl true [])]), (.box [(.sl h1_0z (List.map (V.int .u8) h1_0l)), (.bool h1_1)]), (.box [(.int .i64 0)]), (.box [(.int .i64 0)])]
def zb7a (q : Nat) : Prop := ∀ M, 8 * q ≤ M → ∀ j, q ≤ j → ∀ (v23 v24 h0_0 h0_1 h0_2 h0_3 : Int) (h1_0z : Bool) (h1_0l : List Int) (h1_1 : Bool) (h4l : List Int) (r : zj9 × Bool), zo4 q v23 v24 h0_0 h0_1 h0_2 h0_3 h1_0z h1_0l h1_1 h4l = some r → LS T (M + 7) 0 [2, 4, 6, 7, 23, 24] [.blk 0, .code (.seq (.reg zvr) zv6)] zvq j (fin zwa) (some [zj9.enc r.1, V.bool r.2]) [(2, (.ptr 0 0)), (4, (.ptr 1 0)), (6, (.ptr 2 0)), (7, (.ptr 3 0)), (23, (.int .i64 v23)), (24, (.int .i64 v24))] [(.box [(.int .i64 h0_0), (.int .i64 h0_1), (.int .i64 h0_2), (.int .i64 h0_3), (.vw 4 0 0 h4l.length 1), (.bool false), (.int .i64 0), (.sl true [])]), (.box [(.sl h1_0z (List.map (V.int .u8) h1_0l)), (.bool h1_1)]), (.box [(.int .i64 0)]), (.box [(.int .i64 0)]), (.row 0 false 1 (List.map (V.int .i64) h4l) true)]
def zb7b (q : Nat) : Prop := ∀ M, 8 * q ≤ M → ∀ j, q ≤ j → ∀ (h0_0 h0_1 h0_2 h0_3 : Int) (h0_5 : Bool) (h0_6 : Int) (h1_0z : Bool) (h1_0l : List Int) (h1_1 : Bool) (h2_0 : Int) (r : zj9 × Bool), zo6 q h0_0 h0_1 h0_2 h0_3 h0_5 h0_6 h1_0z h1_0l h1_1 h2_0 = some r → LS T (M + 7) 0 [2, 4, 7, 8] [.blk 2, .code (.seq (.dreg zv4 [(10, 13)]) .ret)] zv3 j (fin zwa) (some [zj9.enc r.1, V.bool r.2]) [(2, (.ptr 0 0)), (4, (.ptr 1 0)), (7, (.ptr 2 0)), (8, (.int .i64 0))] [(.box [(.int .i64 h0_0), (.int .i64 h0_1), (.int .i64 h0_2), (.int .i64 h0_3), (.sl true []), (.bool h0_5), (.int .i64 h0_6), (.sl true [])]), (.box [(.sl h1_0z (List.map (V.int .u8) h1_0l)), (.bool h1_1)]), (.box [(.int .i64 h2_0)])]
def zb7c (q : Nat) : Prop := ∀ M, 8 * q ≤ M → ∀ j, q ≤ j → ∀ (h0_0 h0_1 h0_2 h0_3 : Int) (h0_4len : Nat) (h0_5 : Bool) (h0_6 : Int) (h1_0z : Bool) (h1_0l : List Int) (h1_1 : Bool) (h2_0 : Int) (h3l : List Int) (r : zj9 × Bool), zo3 q h0_0 h0_1 h0_2 h0_3 h0_4len h0_5 h0_6 h1_0z h1_0l h1_1 h2_0 h3l = some r → LS T (M + 7) 0 [2, 4, 7, 8] [.blk 2, .code (.seq (.dreg zv4 [(10, 13)]) .ret)] zv3 j (fin zwa) (some [zj9.enc r.1, V.bool r.2]) [(2, (.ptr 0 0)), (4, (.ptr 1 0)), (7, (.ptr 2 0)), (8, (.int .i64 0))] [(.box [(.int .i64 h0_0), (.int .i64 h0_1), (.int .i64 h0_2), (.int .i64 h0_3), (.vw 3 0 0 h0_4len 1), (.bool h0_5), (.int .i64 h0_6), (.sl true [])]), (.box [(.sl h1_0z (List.map (V.int .u8) h1_0l)), (.bool h1_1)]), (.box [(.int .i64 h2_0)]), (.row 0 false 1 (List.map (V.int .i64) h3l) true)]
def zb7d (q : Nat) : Prop := ∀ M, 8 * q ≤ M → ∀ j, q ≤ j → ∀ (v8 h0_0 h0_1 h0_2 h0_3 : Int) (h0_5 : Bool) (h0_6 : Int) (h1_0z : Bool) (h1_0l : List Int) (h1_1 : Bool) (h2_0 : Int) (h3l : List zj5) (r : zj9 × Bool), zo5 q v8 h0_0 h0_1 h0_2 h0_3 h0_5 h0_6 h1_0z h1_0l h1_1 h2_0 h3l = some r → LS T (M + 7) 0 [2, 4, 7, 8] [.blk 2, .code (.seq (.dreg zv4 [(10, 13)]) .ret)] zv3 j (fin zwa) (some [zj9.enc r.1, V.bool r.2]) [(2, (.ptr 0 0)), (4, (.ptr 1 0)), (7, (.ptr 2 0)), (8, (.int .i64 v8))] [(.box [(.int .i64 h0_0), (.int .i64 h0_1), (.int .i64 h0_2), (.int .i64 h0_3), (.sl true []), (.bool h0_5), (.int .i64 h0_6), (.vw 3 0 0 h3l.length 1)]), (.box [(.sl h1_0z (List.map (V.int .u8) h1_0l)), (.bool h1_1)]), (.box [(.int .i64 h2_0)]), (.row 0 false 3 (List.map zj5.enc h3l) true)]
def zb7e (q : Nat) : Prop := ∀ M, 8 * q ≤ M → ∀ j, q ≤ j → ∀ (v8 h0_0 h0_1 h0_2 h0_3 : Int) (h0_4len : Nat) (h0_5 : Bool) (h0_6 : Int) (h1_0z : Bool) (h1_0l : List Int) (h1_1 : Bool) (h2_0 : Int) (h3l : List Int) (h4l : List zj5) (r : zj9 × Bool), zo2 q v8 h0_0 h0_1 h0_2 h0_3 h0_4len h0_5 h0_6 h1_0z h1_0l h1_1 h2_0 h3l h4l = some r → LS T (M + 7) 0 [2, 4, 7, 8] [.blk 2, .code (.seq (.dreg zv4 [(10, 13)]) .ret)] zv3 j (fin zwa) (some [zj9.enc r.1, V.bool r.2]) [(2, (.ptr 0 0)), (4, (.ptr 1 0)), (7, (.ptr 2 0)), (8, (.int .i64 v8))] [(.box [(.int .i64 h0_0), (.int .i64 h0_1), (.int .i64 h0_2), (.int .i64 h0_3), (.vw 3 0 0 h0_4len 1), (.bool h0_5), (.int .i64 h0_6), (.vw 4 0 0 h4l.length 1)]), (.box [(.sl h1_0z (List.map (V.int .u8) h1_0l)), (.bool h1_1)]), (.box [(.int .i64 h2_0)]), (.row 0 false 1 (List.map (V.int .i64) h3l) true), (.row 0 false 3 (List.map zj5.enc h4l) true)]
def zb7f := y5 @kk <| y5 @ke <| y5 @kn <| y5 @zbj6 <| y5 @zbnq <| y5 @zbp2 <| y5 @zbno <| y5 @zbp6 <| y5 @zbnr <| y5 @zbns <| y5 @zbp3 <| y5 @zbp4 <| @zbj8
theorem zb7g (q : Nat) (zb85 : zb7a q) (zb86 : zb7b q) : zb69 (q + 1) := by
 intro M hM j hj v23 h0_0 h0_1 h0_2 h0_3 h1_0z h1_0l h1_1 r h R hR fr H hc
 obtain ⟨j, rfl⟩ : ∃ i, j = i + 1 := ⟨j - 1, by omega⟩
 rw [zhy, hc]; clear hc
 rw [zo7] at h
 repeat' (first | (cases h; done) | (replace h := bb h; rcases h with ⟨_, _, h⟩ | ⟨_, _, h⟩) | (replace h := bn h; obtain ⟨_, h⟩ := h) | (replace h := br h; rcases h with ⟨_, h⟩ | ⟨_, h⟩) | (replace h := ob h; obtain ⟨_, g, h⟩ := h; first | ((first | replace g := zb4q q (M + 6) (by omega) _ _ g | replace g := zb5z q M (by omega) _ _ _ _ _ _ _ _ g); try simp only [kf, simprocAttr] at g) | skip))
 all_goals (first | (cases h; subst hR; simp only [zb7f, simprocAttr, *]) | (replace h := zb85 M (by omega) j (by omega) _ _ _ _ _ _ _ _ _ _ _ h R hR; simp only [zb7f, simprocAttr, *]) | (replace h := zb86 M (by omega) (M + 7) (by omega) _ _ _ _ _ _ _ _ _ _ _ h R hR; simp only [zb7f, simprocAttr, *]))
theorem zb7h (q : Nat) (zb85 : zb7a q) (zb87 : zb7c q) : zb7a (q + 1) := by
 intro M hM j hj v23 v24 h0_0 h0_1 h0_2 h0_3 h1_0z h1_0l h1_1 h4l r h R hR fr H hc
 obtain ⟨j, rfl⟩ : ∃ i, j = i + 1 := ⟨j - 1, by omega⟩
 rw [zhy, hc]; clear hc
 rw [zo4] at h
 repeat' (first | (cases h; done) | (replace h := bb h; rcases h with ⟨_, _, h⟩ | ⟨_, _, h⟩) | (replace h := bn h; obtain ⟨_, h⟩ := h) | (replace h := br h; rcases h with ⟨_, h⟩ | ⟨_, h⟩) | (replace h := ob h; obtain ⟨_, g, h⟩ := h; first | ((first | replace g := zb4q q (M + 6) (by omega) _ _ g | replace g := zb58 q M (by omega) 0 _ _ _ _ _ _ _ _ _ g); try simp only [kf, simprocAttr] at g) | skip))
 all_goals (first | (cases h; subst hR; simp only [zb7f, simprocAttr, *]) | (replace h := zb85 M (by omega) j (by omega) _ _ _ _ _ _ _ _ _ _ _ h R hR; simp only [zb7f, simprocAttr, *]) | (replace h := zb87 M (by omega) (M + 7) (by omega) _ _ _ _ _ _ _ _ _ _ _ _ _ h R hR; simp only [zb7f, simprocAttr, *]))
theorem zb7i (q : Nat) (zb88 : zb7d q) : zb7b (q + 1) := by
 intro M hM j hj h0_0 h0_1 h0_2 h0_3 h0_5 h0_6 h1_0z h1_0l h1_1 h2_0 r h R hR fr H hc
 obtain ⟨j, rfl⟩ : ∃ i, j = i + 1 := ⟨j - 1, by omega⟩
 rw [zhy, hc]; clear hc
 rw [zo6] at h
 repeat' (first | (cases h; done) | (replace h := bb h; rcases h with ⟨_, _, h⟩ | ⟨_, _, h⟩) | (replace h := bn h; obtain ⟨_, h⟩ := h) | (replace h := br h; rcases h with ⟨_, h⟩ | ⟨_, h⟩) | (replace h := ob h; obtain ⟨_, g, h⟩ := h; first | ((first | replace g := zb6h q M (by omega) _ _ _ _ _ _ _ _ _ _ _ g | replace g := zb4q q (M + 6) (by omega) _ _ g); try simp only [kf, simprocAttr] at g) | skip))
 all_goals (first | (cases h; subst hR; simp only [zb7f, simprocAttr, *]) | (replace h := zb88 M (by omega) j (by omega) _ _ _ _ _ _ _ _ _ _ _ _ _ h R hR; simp only [zb7f, simprocAttr, *]))
theorem zb7j (q : Nat) (zb89 : zb7e q) : zb7c (q + 1) := by
 intro M hM j hj h0_0 h0_1 h0_2 h0_3 h0_4len h0_5 h0_6 h1_0z h1_0l h1_1 h2_0 h3l r h R hR fr H hc
 obtain ⟨j, rfl⟩ : ∃ i, j = i + 1 := ⟨j - 1, by omega⟩
 rw [zhy, hc]; clear hc
 rw [zo3] at h
 repeat' (first | (cases h; done) | (replace h := bb h; rcases h with ⟨_, _, h⟩ | ⟨_, _, h⟩) | (replace h := bn h; obtain ⟨_, h⟩ := h) | (replace h := br h; rcases h with ⟨_, h⟩ | ⟨_, h⟩) | (replace h := ob h; obtain ⟨_, g, h⟩ := h; first | ((first | replace g := zb6q q M (by omega) 0 _ _ _ _ _ _ _ _ _ _ _ _ _ g | replace g := zb4q q (M + 6) (by omega) _ _ g); try simp only [kf, simprocAttr] at g) | skip))
 all_goals (first | (cases h; subst hR; simp only [zb7f, simprocAttr, *]) | (replace h := zb89 M (by omega) j (by omega) _ _ _ _ _ _ _ _ _ _ _ _ _ _ _ h R hR; simp only [zb7f, simprocAttr, *]))
theorem zb7k (q : Nat) (zb88 : zb7d q) : zb7d (q + 1) := by
 intro M hM j hj v8 h0_0 h0_1 h0_2 h0_3 h0_5 h0_6 h1_0z h1_0l h1_1 h2_0 h3l r h R hR fr H hc
 obtain ⟨j, rfl⟩ : ∃ i, j = i + 1 := ⟨j - 1, by omega⟩
 rw [zhy, hc]; clear hc
 rw [zo5] at h
 repeat' (first | (cases h; done) | (replace h := bb h; rcases h with ⟨_, _, h⟩ | ⟨_, _, h⟩) | (replace h := bn h; obtain ⟨_, h⟩ := h) | (replace h := br h; rcases h with ⟨_, h⟩ | ⟨_, h⟩) | (replace h := ob h; obtain ⟨_, g, h⟩ := h; first | ((first | replace g := zb6z q M (by omega) 0 _ _ _ _ _ _ _ _ _ _ _ _ g | replace g := zb4q q (M + 6) (by omega) _ _ g); try simp only [kf, simprocAttr] at g) | skip))
 all_goals (first | (cases h; subst hR; simp only [zb7f, simprocAttr, *]) | (replace h := zb88 M (by omega) j (by omega) _ _ _ _ _ _ _ _ _ _ _ _ _ h R hR; simp only [zb7f, simprocAttr, *]))
theorem zb7l (q : Nat) (zb89 : zb7e q) : zb7e (q + 1) := by
 intro M hM j hj v8 h0_0 h0_1 h0_2 h0_3 h0_4len h0_5 h0_6 h1_0z h1_0l h1_1 h2_0 h3l h4l r h R hR fr H hc
 obtain ⟨j, rfl⟩ : ∃ i, j = i + 1 := ⟨j - 1, by omega⟩
 rw [zhy, hc]; clear hc
 rw [zo2] at h
 repeat' (first | (cases h; done) | (replace h := bb h; rcases h with ⟨_, _, h⟩ | ⟨_, _, h⟩) | (replace h := bn h; obtain ⟨_, h⟩ := h) | (replace h := br h; rcases h with ⟨_, h⟩ | ⟨_, h⟩) | (replace h := ob h; obtain ⟨_, g, h⟩ := h; first | ((first | replace g := zb68 q M (by omega) 0 0 _ _ _ _ _ _ _ _ _ _ _ _ _ _ g | replace g := zb4q q (M + 6) (by omega) _ _ g); try simp only [kf, simprocAttr] at g) | skip))
 all_goals (first | (cases h; subst hR; simp only [zb7f, simprocAttr, *]) | (replace h := zb89 M (by omega) j (by omega) _ _ _ _ _ _ _ _ _ _ _ _ _ _ _ h R hR; simp only [zb7f, simprocAttr, *]))
theorem zb7m : ∀ q, zb69 q ∧ zb7a q ∧ zb7b q ∧ zb7c q ∧ zb7d q ∧ zb7e q
 | 0 => by refine ⟨?_, ?_, ?_, ?_, ?_, ?_⟩ <;> (intro M hM j hj; intros; rename_i h; cases h)
 | q + 1 => by have ⟨i0, i1, i2, i3, i4, i5⟩ := zb7m q; exact ⟨zb7g q i1 i2, zb7h q i1 i3, zb7i q i4, zb7j q i5, zb7k q i4, zb7l q i5⟩
theorem zb7n : ∀ (q N : Nat), 8 * q ≤ N → ∀ (a0 : (Sl Int)), ∀ (r : zj9 × Bool), zo8 q a0 = some r → (orc T N).deep F.zo8 [(Sl.enc (V.int .u8)) a0] = some [zj9.enc r.1, V.bool r.2] := by
 intro q N hM a0 r h
 rcases q with _ | q
 ·cases h
 obtain ⟨M, rfl⟩ : ∃ M, N = M + 8 := ⟨N - 8, by omega⟩
 have ih_delta_read_l0 := (zb7m q).1
 refine byR fun R hR => ?_
 rw [zh9, zbey, y7, zh6 zwa rfl]
 rw [zo8] at h
 replace h := ob h; obtain ⟨r1, h1, h⟩ := h
 replace h1 := zb5q q M (by omega) _ _ _ h1
 try simp only [kf, simprocAttr] at h1
 replace h := br h; rcases h with ⟨h2, h⟩ | ⟨h2, h⟩
 ·cases h; subst hR; simp only [zb7f, simprocAttr, *]
 ·replace h := ih_delta_read_l0 M (by omega) (M + 7) (by omega) _ _ _ _ _ _ _ _ _ h R hR
  simp only [zb7f, simprocAttr, *]
def zb7o := y5 @kk <| y5 @ke <| y5 @kn <| y5 @zbh3 <| y5 @zbjs <| y5 @zbj4 <| y5 @zbj7 <| @zbh5
theorem zb7p : ∀ (q N : Nat), 8 * q ≤ N → ∀ (a0 : (Sl Int)), ∀ (r : zj9 × Int), zo9 q a0 = some r → (orc T N).deep F.zo9 [(Sl.enc (V.int .u8)) a0] = some [zj9.enc r.1, (V.int .i64) r.2] := by
 intro q N hM a0 r h
 rcases q with _ | q
 ·cases h
 obtain ⟨M, rfl⟩ : ∃ M, N = M + 8 := ⟨N - 8, by omega⟩
 refine byR fun R hR => ?_
 rw [zh9, zbd9, y7, zh6 zsf rfl]
 rw [zo9] at h
 repeat' (first | (cases h; done) | (replace h := bb h; rcases h with ⟨_, _, h⟩ | ⟨_, _, h⟩) | (replace h := br h; rcases h with ⟨_, h⟩ | ⟨_, h⟩) | (replace h := ob h; obtain ⟨_, g, h⟩ := h; first | ((first | replace g := zb4m q (M + 7) (by omega) _ _ g | replace g := zb7n q (M + 7) (by omega) _ _ g | replace g := zb3j q (M + 7) (by omega) _ _ g); try simp only [kf, simprocAttr] at g) | skip))
 all_goals (cases h; subst hR; simp only [zb7o, simprocAttr, *])
def zb7q (q : Nat) : Prop := ∀ M, 8 * q ≤ M → ∀ j, q ≤ j → ∀ (v0z : Bool) (v0l : List (Sl Int)) (v3 : Int) (v9z : Bool) (v9l : List (Sl Int)) (v10 v11 : Int) (r : (Ow Int)), zpd q v0z v0l v3 v9z v9l v10 v11 = some r → LS T (M + 7) 0 [0, 3, 9, 10, 11] [.blk 0, .code (.seq (.reg zwc) zwl)] zwb j (fin zwo) (some [(Ow.enc 1 (V.int .i64)) r]) [(0, (.sl v0z (List.map (Sl.enc (V.int .i64)) v0l))), (3, (.int .i64 v3)), (9, (.sl v9z (List.map (Sl.enc (V.int .i64)) v9l))), (10, (.int .i64 v10)), (11, (.int .i64 v11))] []
def zb7r (q : Nat) : Prop := ∀ M, 8 * q ≤ M → ∀ j, q ≤ j → ∀ (v6len : Nat) (v25z : Bool) (v25l : List (Sl Int)) (v26 v27 : Int) (h0z : Bool) (h0l : List Int) (r : (Ow Int)), zpa q v6len v25z v25l v26 v27 h0z h0l = some r → LS T (M + 7) 0 [6, 25, 26, 27] [.blk 2, .code (.seq (.reg zwk) .ret)] zwj j (fin zwo) (some [(Ow.enc 1 (V.int .i64)) r]) [(6, (.vw 0 0 0 v6len 0)), (25, (.sl v25z (List.map (Sl.enc (V.int .i64)) v25l))), (26, (.int .i64 v26)), (27, (.int .i64 v27))] [(.row 0 h0z 1 (List.map (V.int .i64) h0l) true)]
def zb7s (q : Nat) : Prop := ∀ M, 8 * q ≤ M → ∀ j, q ≤ j → ∀ (v25z : Bool) (v25l : List (Sl Int)) (v26 : Int) (r : (Ow Int)), zpc q v25z v25l v26 = some r → LS T (M + 7) 0 [6, 25, 26, 27] [.blk 2, .code (.seq (.reg zwk) .ret)] zwj j (fin zwo) (some [(Ow.enc 1 (V.int .i64)) r]) [(6, (.sl true [])), (25, (.sl v25z (List.map (Sl.enc (V.int .i64)) v25l))), (26, (.int .i64 v26)), (27, (.int .i64 0))] []
def zb7t (q : Nat) : Prop := ∀ M, 8 * q ≤ M → ∀ j, q ≤ j → ∀ (v25z : Bool) (v25l : List (Sl Int)) (v26 v27 : Int) (h0z : Bool) (h0l : List Int) (r : (Ow Int)), zpb q v25z v25l v26 v27 h0z h0l = some r → LS T (M + 7) 0 [6, 25, 26, 27] [.blk 2, .code (.seq (.reg zwk) .ret)] zwj j (fin zwo) (some [(Ow.enc 1 (V.int .i64)) r]) [(6, (.vw 0 0 0 h0l.length 1)), (25, (.sl v25z (List.map (Sl.enc (V.int .i64)) v25l))), (26, (.int .i64 v26)), (27, (.int .i64 v27))] [(.row 0 h0z 1 (List.map (V.int .i64) h0l) true)]
def zb7u := y5 @kk <| y5 @ke <| y5 @kn <| y5 @zbj9 <| y5 @zbnt <| y5 @zbnu <| y5 @zbnv <| @zbkb
theorem zb7v (q : Nat) (zb9a : zb7q q) (zb9b : zb7r q) (zb9c : zb7s q) : zb7q (q + 1) := by
 intro M hM j hj v0z v0l v3 v9z v9l v10 v11 r h R hR fr H hc
 obtain ⟨j, rfl⟩ : ∃ i, j = i + 1 := ⟨j - 1, by omega⟩
 rw [zhy, hc]; clear hc
 rw [zpd] at h
 repeat' (first | (cases h; done) | (replace h := bn h; obtain ⟨_, h⟩ := h) | (replace h := bm h; obtain ⟨_, h⟩ := h) | (replace h := br h; rcases h with ⟨_, h⟩ | ⟨_, h⟩) | (replace h := ob h; obtain ⟨_, g, h⟩ := h))
 all_goals (first | (replace h := zb9a M (by omega) j (by omega) _ _ _ _ _ _ _ _ h R hR; simp only [zb7u, simprocAttr, *]) | (replace h := zb9b M (by omega) (M + 7) (by omega) _ _ _ _ _ _ _ _ h R hR; simp only [zb7u, simprocAttr, *]) | (replace h := zb9c M (by omega) (M + 7) (by omega) _ _ _ _ h R hR; simp only [zb7u, simprocAttr, *]))
theorem zb7w (q : Nat) (zb9b : zb7r q) : zb7r (q + 1) := by
 intro M hM j hj v6len v25z v25l v26 v27 h0z h0l r h R hR fr H hc
 obtain ⟨j, rfl⟩ : ∃ i, j = i + 1 := ⟨j - 1, by omega⟩
 rw [zhy, hc]; clear hc
 rw [zpa] at h
 replace h := br h; rcases h with ⟨h1, h⟩ | ⟨h1, h⟩
 ·replace h := bn h; obtain ⟨h2, h⟩ := h
  replace h := ob h; obtain ⟨e2, h3, h⟩ := h
  replace h := bn h; obtain ⟨h4, h⟩ := h
  replace h := zb9b M (by omega) j (by omega) _ _ _ _ _ _ _ _ h R hR
  simp only [zb7u, simprocAttr, *]
 ·cases h; subst hR; simp only [zb7u, simprocAttr, *]
theorem zb7x (q : Nat) (zb9d : zb7t q) : zb7s (q + 1) := by
 intro M hM j hj v25z v25l v26 r h R hR fr H hc
 obtain ⟨j, rfl⟩ : ∃ i, j = i + 1 := ⟨j - 1, by omega⟩
 rw [zhy, hc]; clear hc
 rw [zpc] at h
 replace h := br h; rcases h with ⟨h1, h⟩ | ⟨h1, h⟩
 ·replace h := ob h; obtain ⟨e3, h2, h⟩ := h
  replace h := bn h; obtain ⟨h3, h⟩ := h
  replace h := zb9d M (by omega) j (by omega) _ _ _ _ _ _ _ h R hR
  simp only [zb7u, simprocAttr, *]
 ·cases h; subst hR; simp only [zb7u, simprocAttr, *]
theorem zb7y (q : Nat) (zb9d : zb7t q) : zb7t (q + 1) := by
 intro M hM j hj v25z v25l v26 v27 h0z h0l r h R hR fr H hc
 obtain ⟨j, rfl⟩ : ∃ i, j = i + 1 := ⟨j - 1, by omega⟩
 rw [zhy, hc]; clear hc
 rw [zpb] at h
 replace h := br h; rcases h with ⟨h1, h⟩ | ⟨h1, h⟩
 ·replace h := bn h; obtain ⟨h2, h⟩ := h
  replace h := ob h; obtain ⟨e4, h3, h⟩ := h
  replace h := bn h; obtain ⟨h4, h⟩ := h
  replace h := zb9d M (by omega) j (by omega) _ _ _ _ _ _ _ h R hR
  simp only [zb7u, simprocAttr, *]
 ·cases h; subst hR; simp only [zb7u, simprocAttr, *]
theorem zb7z : ∀ q, zb7q q ∧ zb7r q ∧ zb7s q ∧ zb7t q
 | 0 => by refine ⟨?_, ?_, ?_, ?_⟩ <;> (intro M hM j hj; intros; rename_i h; cases h)
 | q + 1 => by have ⟨i0, i1, i2, i3⟩ := zb7z q; exact ⟨zb7v q i0 i1 i2, zb7w q i1, zb7x q i3, zb7y q i3⟩
theorem zb70 : ∀ (q N : Nat), 8 * q ≤ N → ∀ (a0 : (Sl (Sl Int))), ∀ (r : (Ow Int)), zpe q a0 = some r → (orc T N).deep F.zpe [(Sl.enc (Sl.enc (V.int .i64))) a0] = some [(Ow.enc 1 (V.int .i64)) r] := by
 intro q N hM a0 r h
 rcases q with _ | q
 ·cases h
 obtain ⟨M, rfl⟩ : ∃ M, N = M + 8 := ⟨N - 8, by omega⟩
 have zb9a := (zb7z q).1
 refine byR fun R hR => ?_
 rw [zh9, zbez, y7, zh6 zwo rfl]
 rw [zpe] at h
 replace h := zb9a M (by omega) (M + 7) (by omega) _ _ _ _ _ _ _ _ h R hR
 simp only [zb7u, simprocAttr, *]
def zb71 (q : Nat) : Prop := ∀ M, 8 * q ≤ M → ∀ j, q ≤ j → ∀ (v89z : Bool) (v89l : List zj5) (v90 h1_0 h1_1 : Int) (h1_3 : Bool) (h1_4 : Int) (h1_5z : Bool) (h1_5l : List zj5) (h2z : Bool) (h2l : List Int) (h2x : Bool) (r : zj6 × Int), zpg q v89z v89l v90 h1_0 h1_1 h1_3 h1_4 h1_5z h1_5l h2z h2l h2x = some r → LS T (M + 7) 0 [4, 7, 89, 90, 91] [.blk 1, .code zsq] zsm j (fin zsu) (some [zj6.enc r.1, (V.int .i64) r.2]) [(4, (.ptr 0 0)), (7, (.ptr 1 0)), (89, (.sl v89z (List.map zj5.enc v89l))), (90, (.int .i64 v90)), (91, (.int .i64 0))] [(.box [(.int .i64 0), (.int .i64 0), (.sl true []), (.bool false), (.int .i64 0), (.sl true [])]), (.box [(.int .i64 h1_0), (.int .i64 h1_1), (.vw 2 0 0 h2l.length 1), (.bool h1_3), (.int .i64 h1_4), (.sl h1_5z (List.map zj5.enc h1_5l))]), (.row 0 h2z 1 (List.map (V.int .i64) h2l) h2x)]
def zb72 (q : Nat) : Prop := ∀ M, 8 * q ≤ M → ∀ j, q ≤ j → ∀ (v89z : Bool) (v89l : List zj5) (v90 v91 h1_0 h1_1 : Int) (h1_3 : Bool) (h1_4 : Int) (h2z : Bool) (h2l : List Int) (h2x h3z : Bool) (h3l : List zj5) (h3x : Bool) (r : zj6 × Int), zpf q v89z v89l v90 v91 h1_0 h1_1 h1_3 h1_4 h2z h2l h2x h3z h3l h3x = some r → LS T (M + 7) 0 [4, 7, 89, 90, 91] [.blk 1, .code zsq] zsm j (fin zsu) (some [zj6.enc r.1, (V.int .i64) r.2]) [(4, (.ptr 0 0)), (7, (.ptr 1 0)), (89, (.sl v89z (List.map zj5.enc v89l))), (90, (.int .i64 v90)), (91, (.int .i64 v91))] [(.box [(.int .i64 0), (.int .i64 0), (.sl true []), (.bool false), (.int .i64 0), (.sl true [])]), (.box [(.int .i64 h1_0), (.int .i64 h1_1), (.vw 2 0 0 h2l.length 1), (.bool h1_3), (.int .i64 h1_4), (.vw 3 0 0 h3l.length 1)]), (.row 0 h2z 1 (List.map (V.int .i64) h2l) h2x), (.row 0 h3z 3 (List.map zj5.enc h3l) h3x)]
def zb73 := y5 @kk <| y5 @ke <| y5 @kn <| y5 @zbh6 <| y5 @zbhv <| y5 @zbi1 <| y5 @zbka <| @zbh8
theorem zb74 (q : Nat) (zb9e : zb72 q) : zb71 (q + 1) := by
 intro M hM j hj v89z v89l v90 h1_0 h1_1 h1_3 h1_4 h1_5z h1_5l h2z h2l h2x r h R hR fr H hc
 obtain ⟨j, rfl⟩ : ∃ i, j = i + 1 := ⟨j - 1, by omega⟩
 rw [zhy, hc]; clear hc
 rw [zpg] at h
 repeat' (first | (cases h; done) | (replace h := bb h; rcases h with ⟨_, _, h⟩ | ⟨_, _, h⟩) | (replace h := br h; rcases h with ⟨_, h⟩ | ⟨_, h⟩) | (replace h := ob h; obtain ⟨_, g, h⟩ := h; first | ((first | replace g := zbxo q (M + 7) (by omega) _ _ _ g | replace g := zb13 q (M + 7) (by omega) _ _ g); try simp only [kf, simprocAttr] at g) | skip))
 all_goals (first | (cases h; subst hR; simp only [zb73, simprocAttr, *]) | (replace h := zb9e M (by omega) j (by omega) _ _ _ _ _ _ _ _ _ _ _ _ _ _ _ h R hR; simp only [zb73, simprocAttr, *]))
theorem zb75 (q : Nat) (zb9e : zb72 q) : zb72 (q + 1) := by
 intro M hM j hj v89z v89l v90 v91 h1_0 h1_1 h1_3 h1_4 h2z h2l h2x h3z h3l h3x r h R hR fr H hc
 obtain ⟨j, rfl⟩ : ∃ i, j = i + 1 := ⟨j - 1, by omega⟩
 rw [zhy, hc]; clear hc
 rw [zpf] at h
 repeat' (first | (cases h; done) | (replace h := bb h; rcases h with ⟨_, _, h⟩ | ⟨_, _, h⟩) | (replace h := bn h; obtain ⟨_, h⟩ := h) | (replace h := br h; rcases h with ⟨_, h⟩ | ⟨_, h⟩) | (replace h := ob h; obtain ⟨_, g, h⟩ := h; first | ((first | replace g := zbxo q (M + 7) (by omega) _ _ _ g | replace g := zb13 q (M + 7) (by omega) _ _ g); try simp only [kf, simprocAttr] at g) | skip))
 all_goals (first | (cases h; subst hR; simp only [zb73, simprocAttr, *]) | (replace h := zb9e M (by omega) j (by omega) _ _ _ _ _ _ _ _ _ _ _ _ _ _ _ h R hR; simp only [zb73, simprocAttr, *]))
theorem zb76 : ∀ q, zb71 q ∧ zb72 q
 | 0 => by refine ⟨?_, ?_⟩ <;> (intro M hM j hj; intros; rename_i h; cases h)
 | q + 1 => by have ⟨i0, i1⟩ := zb76 q; exact ⟨zb74 q i1, zb75 q i1⟩
theorem zb77 : ∀ (q N : Nat), 8 * q ≤ N → ∀ (a0 : zj6) (a1 : zj9), ∀ (r : zj6 × Int), zph q a0 a1 = some r → (orc T N).deep F.zph [zj6.enc a0, zj9.enc a1] = some [zj6.enc r.1, (V.int .i64) r.2] := by
 intro q N hM a0 a1 r h
 rcases q with _ | q
 ·cases h
 obtain ⟨M, rfl⟩ : ∃ M, N = M + 8 := ⟨N - 8, by omega⟩
 have ih_delta_Apply_l0 := (zb76 q).1
 refine byR fun R hR => ?_
 rw [zh9, zbea, y7, zh6 zsu rfl]
 rw [zph] at h
 repeat' (first | (cases h; done) | (replace h := bb h; rcases h with ⟨_, _, h⟩ | ⟨_, _, h⟩) | (replace h := bn h; obtain ⟨_, h⟩ := h) | (replace h := br h; rcases h with ⟨_, h⟩ | ⟨_, h⟩) | (replace h := ob h; obtain ⟨_, g, h⟩ := h; first | ((first | replace g := zb13 q (M + 7) (by omega) _ _ g | replace g := zb70 q (M + 7) (by omega) _ _ g); try simp only [kf, simprocAttr] at g) | skip))
 all_goals (first | (cases h; subst hR; simp only [zb73, simprocAttr, *]) | (replace h := ih_delta_Apply_l0 M (by omega) (M + 7) (by omega) _ _ _ _ _ _ _ _ _ _ _ _ _ h R hR; simp only [zb73, simprocAttr, *]))
def zb78 (q : Nat) : Prop := ∀ M, 8 * q ≤ M → ∀ j, q ≤ j → ∀ (v0z : Bool) (v0l : List Int) (v1z : Bool) (v1l : List Int) (v12 v13 : Int) (r : Bool), zpi q v0z v0l v1z v1l v12 v13 = some r → LS T (M + 7) 0 [0, 1, 12, 13] [.blk 0, .code (.seq (.reg z22) .ret)] z21 j (fin z25) (some [V.bool r]) [(0, (.sl v0z (List.map (V.int .i64) v0l))), (1, (.sl v1z (List.map (V.int .i64) v1l))), (12, (.int .i64 v12)), (13, (.int .i64 v13))] []
def zb79 := y5 @kk <| y5 @ke <| y5 @kn <| y5 @zbnw <| @zbny
theorem zb8a (q : Nat) (zb9f : zb78 q) : zb78 (q + 1) := by
 intro M hM j hj v0z v0l v1z v1l v12 v13 r h R hR fr H hc
 obtain ⟨j, rfl⟩ : ∃ i, j = i + 1 := ⟨j - 1, by omega⟩
 rw [zhy, hc]; clear hc
 rw [zpi] at h
 replace h := br h; rcases h with ⟨h1, h⟩ | ⟨h1, h⟩
 ·replace h := bn h; obtain ⟨h2, h⟩ := h
  replace h := ob h; obtain ⟨e1, h3, h⟩ := h
  replace h := ob h; obtain ⟨e2, h4, h⟩ := h
  replace h := br h; rcases h with ⟨h5, h⟩ | ⟨h5, h⟩
  ·replace h := zb9f M (by omega) j (by omega) _ _ _ _ _ _ _ h R hR
   simp only [zb79, simprocAttr, *]
  ·cases h; subst hR; simp only [zb79, simprocAttr, *]
 ·cases h; subst hR; simp only [zb79, simprocAttr, *]
theorem zb8b : ∀ q, zb78 q
 | 0 => by intro M hM j hj; intros; rename_i h; cases h
 | q + 1 => by have i0 := zb8b q; exact zb8a q i0
theorem zb8c : ∀ (q N : Nat), 8 * q ≤ N → ∀ (a0 a1 : (Sl Int)), ∀ (r : Bool), zpj q a0 a1 = some r → (orc T N).deep F.zpj [(Sl.enc (V.int .i64)) a0, (Sl.enc (V.int .i64)) a1] = some [V.bool r] := by
 intro q N hM a0 a1 r h
 rcases q with _ | q
 ·cases h
 obtain ⟨M, rfl⟩ : ∃ M, N = M + 8 := ⟨N - 8, by omega⟩
 have zb9f := (zb8b q)
 refine byR fun R hR => ?_
 rw [zh9, zbf7, y7, zh6 z25 rfl]
 rw [zpj] at h
 replace h := br h; rcases h with ⟨h1, h⟩ | ⟨h1, h⟩
 ·replace h := zb9f M (by omega) (M + 7) (by omega) _ _ _ _ _ _ _ h R hR
  simp only [zb79, simprocAttr, *]
 ·cases h; subst hR; simp only [zb79, simprocAttr, *]
def zb8d := y5 @kk <| y5 @ke <| y5 @kn <| y5 @zbkc <| y5 @zbnx <| @zbke
theorem zb8e : ∀ (q N : Nat), 8 * q ≤ N → ∀ (a0 a1 : zj4), ∀ (r : Bool), zpk q a0 a1 = some r → (orc T N).deep F.zpk [zj4.enc a0, zj4.enc a1] = some [V.bool r] := by
 intro q N hM a0 a1 r h
 rcases q with _ | q
 ·cases h
 obtain ⟨M, rfl⟩ : ∃ M, N = M + 8 := ⟨N - 8, by omega⟩
 refine byR fun R hR => ?_
 rw [zh9, zbe0, y7, zh6 zwq rfl]
 rw [zpk] at h
 repeat' (first | (cases h; done) | (replace h := bb h; rcases h with ⟨_, _, h⟩ | ⟨_, _, h⟩) | (replace h := br h; rcases h with ⟨_, h⟩ | ⟨_, h⟩) | (replace h := ob h; obtain ⟨_, g, h⟩ := h; first | (replace g := zb8c q (M + 7) (by omega) _ _ _ g; try simp only [kf, simprocAttr] at g) | skip))
 all_goals (cases h; subst hR; simp only [zb8d, simprocAttr, *])
def zb8f (q : Nat) : Prop := ∀ M, 8 * q ≤ M → ∀ j, q ≤ j → ∀ (v0z : Bool) (v0l : List zj5) (v1z : Bool) (v1l : List zj5) (v12 v13 : Int) (r : Bool), zpl q v0z v0l v1z v1l v12 v13 = some r → LS T (M + 7) 0 [0, 1, 12, 13] [.blk 0, .code (.seq (.reg zwt) .ret)] zws j (fin zww) (some [V.bool r]) [(0, (.sl v0z (List.map zj5.enc v0l))), (1, (.sl v1z (List.map zj5.enc v1l))), (12, (.int .i64 v12)), (13, (.int .i64 v13))] []
def zb8g := y5 @kk <| y5 @ke <| y5 @kn <| y5 @zbkf <| @zbkh
theorem zb8h (q : Nat) (zb9g : zb8f q) : zb8f (q + 1) := by
 intro M hM j hj v0z v0l v1z v1l v12 v13 r h R hR fr H hc
 obtain ⟨j, rfl⟩ : ∃ i, j = i + 1 := ⟨j - 1, by omega⟩
 rw [zhy, hc]; clear hc
 rw [zpl] at h
 repeat' (first | (cases h; done) | (replace h := bn h; obtain ⟨_, h⟩ := h) | (replace h := br h; rcases h with ⟨_, h⟩ | ⟨_, h⟩) | (replace h := ob h; obtain ⟨_, g, h⟩ := h))
 all_goals (first | (cases h; subst hR; simp only [zb8g, simprocAttr, *]) | (replace h := zb9g M (by omega) j (by omega) _ _ _ _ _ _ _ h R hR; simp only [zb8g, simprocAttr, *]))
theorem zb8i : ∀ q, zb8f q
 | 0 => by intro M hM j hj; intros; rename_i h; cases h
 | q + 1 => by have i0 := zb8i q; exact zb8h q i0
theorem zb8j : ∀ (q N : Nat), 8 * q ≤ N → ∀ (a0 a1 : (Sl zj5)), ∀ (r : Bool), zpm q a0 a1 = some r → (orc T N).deep F.zpm [(Sl.enc zj5.enc) a0, (Sl.enc zj5.enc) a1] = some [V.bool r] := by
 intro q N hM a0 a1 r h
 rcases q with _ | q
 ·cases h
 obtain ⟨M, rfl⟩ : ∃ M, N = M + 8 := ⟨N - 8, by omega⟩
 have zb9g := (zb8i q)
 refine byR fun R hR => ?_
 rw [zh9, zbe1, y7, zh6 zww rfl]
 rw [zpm] at h
 replace h := br h; rcases h with ⟨h1, h⟩ | ⟨h1, h⟩
 ·replace h := zb9g M (by omega) (M + 7) (by omega) _ _ _ _ _ _ _ h R hR
  simp only [zb8g, simprocAttr, *]
 ·cases h; subst hR; simp only [zb8g, simprocAttr, *]
def zb8k := y5 @kk <| y5 @ke <| y5 @kn <| y5 @zbh9 <| y5 @zbkd <| y5 @zbkg <| @zbib
theorem zb8l : ∀ (q N : Nat), 8 * q ≤ N → ∀ (a0 a1 : zj6), ∀ (r : Bool), zpn q a0 a1 = some r → (orc T N).deep F.zpn [zj6.enc a0, zj6.enc a1] = some [V.bool r] := by
 intro q N hM a0 a1 r h
 rcases q with _ | q
 ·cases h
 obtain ⟨M, rfl⟩ : ∃ M, N = M + 8 := ⟨N - 8, by omega⟩
 refine byR fun R hR => ?_
 rw [zh9, zbeb, y7, zh6 zsw rfl]
 rw [zpn] at h
 repeat' (first | (cases h; done) | (replace h := bb h; rcases h with ⟨_, _, h⟩ | ⟨_, _, h⟩) | (replace h := br h; rcases h with ⟨_, h⟩ | ⟨_, h⟩) | (replace h := ob h; obtain ⟨_, g, h⟩ := h; first | ((first | replace g := zb8e q (M + 7) (by omega) _ _ _ g | replace g := zb8j q (M + 7) (by omega) _ _ _ g); try simp only [kf, simprocAttr] at g) | skip))
 all_goals (cases h; subst hR; simp only [zb8k, simprocAttr, *])
def zb8m := y5 @kk <| y5 @ke <| y5 @kn <| y5 @zbhi <| y5 @zbhm <| y5 @zbhp <| y5 @zbhs <| y5 @zbhv <| y5 @zbhy <| y5 @zbh1 <| y5 @zbh4 <| y5 @zbh7 <| y5 @zbia <| @zbhk
theorem zb8n : ∀ (q N : Nat), 8 * q ≤ N → ∀ (a0 : zj6) (a1 : (Sl zj8)) (a2 : Int), ∀ (r : Bool), zpo q a0 a1 a2 = some r → (orc T N).deep F.zpo [zj6.enc a0, (Sl.enc zj8.enc) a1, (V.int .i64) a2] = some [V.bool r] := by
 intro q N hM a0 a1 a2 r h
 rcases q with _ | q
 ·cases h
 obtain ⟨M, rfl⟩ : ∃ M, N = M + 8 := ⟨N - 8, by omega⟩
 refine byR fun R hR => ?_
 rw [zh9, zbd2, y7, zh6 zqw rfl]
 rw [zpo] at h
 repeat' (first | (cases h; done) | (replace h := bb h; rcases h with ⟨_, _, h⟩ | ⟨_, _, h⟩) | (replace h := bn h; obtain ⟨_, h⟩ := h) | (replace h := br h; rcases h with ⟨_, h⟩ | ⟨_, h⟩) | (replace h := ob h; obtain ⟨_, g, h⟩ := h; first | ((first | replace g := zb1b q (M + 7) (by omega)  _ g | replace g := zb1u q (M + 7) (by omega) _ _ g | replace g := zbxv q (M + 7) (by omega) _ _ _ g | replace g := zb13 q (M + 7) (by omega) _ _ g | replace g := zb2w q (M + 7) (by omega) _ _ _ g | replace g := zb3x q (M + 7) (by omega) _ _ g | replace g := zb7p q (M + 7) (by omega) _ _ g | replace g := zb77 q (M + 7) (by omega) _ _ _ g | replace g := zb8l q (M + 7) (by omega) _ _ _ g); try simp only [kf, simprocAttr] at g) | skip))
 all_goals (cases h; subst hR; simp only [zb8m, simprocAttr, *])
end Go.Dvm.C
