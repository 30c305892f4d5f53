/- The machine comes to these answers: part 2. -/
import Derived.Test.YtngajodhbioheaaQl0
import Derived.Test.YtngajodhbioheaaQr0
set_option linter.all false
set_option maxRecDepth 100000
set_option maxHeartbeats 4000000
namespace Go.Dvm.C
open Go Go.Dvm Go.Dvm.I
def zbn8 := And.intro @kk <| And.intro @ke <| And.intro @kn <| And.intro @zbf8 <| And.intro @zbf0 <| And.intro @zbgl <| @zbga
theorem zbn9 : ∀ (q N : Nat), 8 * q ≤ N → ∀ (a0 : (Sl Int)), ∀ (r : Int × Int), zlw q a0 = some r → (orc T N).deep F.zlw [(Sl.enc (V.int .u8)) a0] = some [(V.int .i64) r.1, (V.int .i64) r.2] := by
 intro q N hM a0 r h
 rcases q with _ | q
 ·cases h
 obtain ⟨M, rfl⟩ : ∃ M, N = M + 8 := ⟨N - 8, by omega⟩
 generalize hR : some [(V.int .i64) r.1, (V.int .i64) r.2] = R
 rw [zhy, zbag, y6, zhw z6t rfl]
 rw [zlw] at h
 replace h := ob h; obtain ⟨r1, h1, h⟩ := h
 replace h1 := zbmh q (M + 7) (by omega) _ _ h1
 try simp only [kf, simprocAttr] at h1
 replace h := br h; rcases h with ⟨h2, h⟩ | ⟨h2, h⟩
 ·cases h; subst hR; simp only [zbn8, simprocAttr, *]
 ·replace h := ob h; obtain ⟨r2, h3, h⟩ := h
  replace h3 := zbnh q (M + 7) (by omega) _ _ h3
  cases h; subst hR; simp only [zbn8, simprocAttr, *]
def zboa (q : Nat) : Prop := ∀ (M : Nat) (hM : 8 * q ≤ M) (j : Nat) (hj : q ≤ j) (h1_0z : Bool) (h1_0l : List Int) (r : Int × Int × Int × Int × (List Int) × Bool × Int) (_ : zl2 q h1_0z h1_0l = some r) (R : Option (List V × Hp)) (_ : (some ([], [(.box [(.int .i64 r.1), (.int .i64 r.2.1), (.int .i64 r.2.2.1), (.int .i64 r.2.2.2.1), (.sl true []), (.bool false), (.int .i64 0), (.sl true [])]), (.box [(.sl h1_0z (List.map (V.int .u8) r.2.2.2.2.1)), (.bool r.2.2.2.2.2.1)]), (.box [(.int .i64 r.2.2.2.2.2.2)]), (.box [(.int .i64 0)]), (.box [(.int .i64 0)])]) : Option (List V × Hp)) = R) (fr : Fr) (H : Hp) (_ : canon 5 [0, 6, 7, 8] fr H = ([(0, (.ptr 1 0)), (6, (.psl [(.ptr 0 0), (.ptr 0 1), (.ptr 0 2), (.ptr 0 3), (.ptr 2 0)])), (7, (.int .i64 5)), (8, (.int .i64 0))], [(.box [(.int .i64 0), (.int .i64 0), (.int .i64 0), (.int .i64 0), (.sl true []), (.bool false), (.int .i64 0), (.sl true [])]), (.box [(.sl h1_0z (List.map (V.int .u8) h1_0l)), (.bool true)]), (.box [(.int .i64 0)]), (.box [(.int .i64 0)]), (.box [(.int .i64 0)])])), finI 5 false [] (unw T (orc T (M + 6)) (M + 6) 5 [.blk 0] (iter 5 [0, 6, 7, 8] (exec T (orc T (M + 6)) (M + 6) 5 z1c) j fr H)) = R
def zbob (q : Nat) : Prop := ∀ (M : Nat) (hM : 8 * q ≤ M) (j : Nat) (hj : q ≤ j) (h0_0 : Int) (h1_0z : Bool) (h1_0l : List Int) (h1_1 : Bool) (r : Int × Int × Int × Int × (List Int) × Bool × Int) (_ : zl1 q h0_0 h1_0z h1_0l h1_1 = some r) (R : Option (List V × Hp)) (_ : (some ([], [(.box [(.int .i64 r.1), (.int .i64 r.2.1), (.int .i64 r.2.2.1), (.int .i64 r.2.2.2.1), (.sl true []), (.bool false), (.int .i64 0), (.sl true [])]), (.box [(.sl h1_0z (List.map (V.int .u8) r.2.2.2.2.1)), (.bool r.2.2.2.2.2.1)]), (.box [(.int .i64 r.2.2.2.2.2.2)]), (.box [(.int .i64 0)]), (.box [(.int .i64 0)])]) : Option (List V × Hp)) = R) (fr : Fr) (H : Hp) (_ : canon 5 [0, 6, 7, 8] fr H = ([(0, (.ptr 1 0)), (6, (.psl [(.ptr 0 0), (.ptr 0 1), (.ptr 0 2), (.ptr 0 3), (.ptr 2 0)])), (7, (.int .i64 5)), (8, (.int .i64 1))], [(.box [(.int .i64 h0_0), (.int .i64 0), (.int .i64 0), (.int .i64 0), (.sl true []), (.bool false), (.int .i64 0), (.sl true [])]), (.box [(.sl h1_0z (List.map (V.int .u8) h1_0l)), (.bool h1_1)]), (.box [(.int .i64 0)]), (.box [(.int .i64 0)]), (.box [(.int .i64 0)])])), finI 5 false [] (unw T (orc T (M + 6)) (M + 6) 5 [.blk 0] (iter 5 [0, 6, 7, 8] (exec T (orc T (M + 6)) (M + 6) 5 z1c) j fr H)) = R
def zboc (q : Nat) : Prop := ∀ (M : Nat) (hM : 8 * q ≤ M) (j : Nat) (hj : q ≤ j) (h0_0 h0_1 : Int) (h1_0z : Bool) (h1_0l : List Int) (h1_1 : Bool) (r : Int × Int × Int × Int × (List Int) × Bool × Int) (_ : zl0 q h0_0 h0_1 h1_0z h1_0l h1_1 = some r) (R : Option (List V × Hp)) (_ : (some ([], [(.box [(.int .i64 r.1), (.int .i64 r.2.1), (.int .i64 r.2.2.1), (.int .i64 r.2.2.2.1), (.sl true []), (.bool false), (.int .i64 0), (.sl true [])]), (.box [(.sl h1_0z (List.map (V.int .u8) r.2.2.2.2.1)), (.bool r.2.2.2.2.2.1)]), (.box [(.int .i64 r.2.2.2.2.2.2)]), (.box [(.int .i64 0)]), (.box [(.int .i64 0)])]) : Option (List V × Hp)) = R) (fr : Fr) (H : Hp) (_ : canon 5 [0, 6, 7, 8] fr H = ([(0, (.ptr 1 0)), (6, (.psl [(.ptr 0 0), (.ptr 0 1), (.ptr 0 2), (.ptr 0 3), (.ptr 2 0)])), (7, (.int .i64 5)), (8, (.int .i64 2))], [(.box [(.int .i64 h0_0), (.int .i64 h0_1), (.int .i64 0), (.int .i64 0), (.sl true []), (.bool false), (.int .i64 0), (.sl true [])]), (.box [(.sl h1_0z (List.map (V.int .u8) h1_0l)), (.bool h1_1)]), (.box [(.int .i64 0)]), (.box [(.int .i64 0)]), (.box [(.int .i64 0)])])), finI 5 false [] (unw T (orc T (M + 6)) (M + 6) 5 [.blk 0] (iter 5 [0, 6, 7, 8] (exec T (orc T (M + 6)) (M + 6) 5 z1c) j fr H)) = R
def zbod (q : Nat) : Prop := ∀ (M : Nat) (hM : 8 * q ≤ M) (j : Nat) (hj : q ≤ j) (h0_0 h0_1 h0_2 : Int) (h1_0z : Bool) (h1_0l : List Int) (h1_1 : Bool) (r : Int × Int × Int × Int × (List Int) × Bool × Int) (_ : zlz q h0_0 h0_1 h0_2 h1_0z h1_0l h1_1 = some r) (R : Option (List V × Hp)) (_ : (some ([], [(.box [(.int .i64 r.1), (.int .i64 r.2.1), (.int .i64 r.2.2.1), (.int .i64 r.2.2.2.1), (.sl true []), (.bool false), (.int .i64 0), (.sl true [])]), (.box [(.sl h1_0z (List.map (V.int .u8) r.2.2.2.2.1)), (.bool r.2.2.2.2.2.1)]), (.box [(.int .i64 r.2.2.2.2.2.2)]), (.box [(.int .i64 0)]), (.box [(.int .i64 0)])]) : Option (List V × Hp)) = R) (fr : Fr) (H : Hp) (_ : canon 5 [0, 6, 7, 8] fr H = ([(0, (.ptr 1 0)), (6, (.psl [(.ptr 0 0), (.ptr 0 1), (.ptr 0 2), (.ptr 0 3), (.ptr 2 0)])), (7, (.int .i64 5)), (8, (.int .i64 3))], [(.box [(.int .i64 h0_0), (.int .i64 h0_1), (.int .i64 h0_2), (.int .i64 0), (.sl true []), (.bool false), (.int .i64 0), (.sl true [])]), (.box [(.sl h1_0z (List.map (V.int .u8) h1_0l)), (.bool h1_1)]), (.box [(.int .i64 0)]), (.box [(.int .i64 0)]), (.box [(.int .i64 0)])])), finI 5 false [] (unw T (orc T (M + 6)) (M + 6) 5 [.blk 0] (iter 5 [0, 6, 7, 8] (exec T (orc T (M + 6)) (M + 6) 5 z1c) j fr H)) = R
def zboe (q : Nat) : Prop := ∀ (M : Nat) (hM : 8 * q ≤ M) (j : Nat) (hj : q ≤ j) (h0_0 h0_1 h0_2 h0_3 : Int) (h1_0z : Bool) (h1_0l : List Int) (h1_1 : Bool) (r : Int × Int × Int × Int × (List Int) × Bool × Int) (_ : zly q h0_0 h0_1 h0_2 h0_3 h1_0z h1_0l h1_1 = some r) (R : Option (List V × Hp)) (_ : (some ([], [(.box [(.int .i64 r.1), (.int .i64 r.2.1), (.int .i64 r.2.2.1), (.int .i64 r.2.2.2.1), (.sl true []), (.bool false), (.int .i64 0), (.sl true [])]), (.box [(.sl h1_0z (List.map (V.int .u8) r.2.2.2.2.1)), (.bool r.2.2.2.2.2.1)]), (.box [(.int .i64 r.2.2.2.2.2.2)]), (.box [(.int .i64 0)]), (.box [(.int .i64 0)])]) : Option (List V × Hp)) = R) (fr : Fr) (H : Hp) (_ : canon 5 [0, 6, 7, 8] fr H = ([(0, (.ptr 1 0)), (6, (.psl [(.ptr 0 0), (.ptr 0 1), (.ptr 0 2), (.ptr 0 3), (.ptr 2 0)])), (7, (.int .i64 5)), (8, (.int .i64 4))], [(.box [(.int .i64 h0_0), (.int .i64 h0_1), (.int .i64 h0_2), (.int .i64 h0_3), (.sl true []), (.bool false), (.int .i64 0), (.sl true [])]), (.box [(.sl h1_0z (List.map (V.int .u8) h1_0l)), (.bool h1_1)]), (.box [(.int .i64 0)]), (.box [(.int .i64 0)]), (.box [(.int .i64 0)])])), finI 5 false [] (unw T (orc T (M + 6)) (M + 6) 5 [.blk 0] (iter 5 [0, 6, 7, 8] (exec T (orc T (M + 6)) (M + 6) 5 z1c) j fr H)) = R
def zbof (q : Nat) : Prop := ∀ (M : Nat) (hM : 8 * q ≤ M) (j : Nat) (hj : q ≤ j) (h0_0 h0_1 h0_2 h0_3 : Int) (h1_0z : Bool) (h1_0l : List Int) (h1_1 : Bool) (h2_0 : Int) (r : Int × Int × Int × Int × (List Int) × Bool × Int) (_ : zlx q h0_0 h0_1 h0_2 h0_3 h1_0z h1_0l h1_1 h2_0 = some r) (R : Option (List V × Hp)) (_ : (some ([], [(.box [(.int .i64 r.1), (.int .i64 r.2.1), (.int .i64 r.2.2.1), (.int .i64 r.2.2.2.1), (.sl true []), (.bool false), (.int .i64 0), (.sl true [])]), (.box [(.sl h1_0z (List.map (V.int .u8) r.2.2.2.2.1)), (.bool r.2.2.2.2.2.1)]), (.box [(.int .i64 r.2.2.2.2.2.2)]), (.box [(.int .i64 0)]), (.box [(.int .i64 0)])]) : Option (List V × Hp)) = R) (fr : Fr) (H : Hp) (_ : canon 5 [0, 6, 7, 8] fr H = ([(0, (.ptr 1 0)), (6, (.psl [(.ptr 0 0), (.ptr 0 1), (.ptr 0 2), (.ptr 0 3), (.ptr 2 0)])), (7, (.int .i64 5)), (8, (.int .i64 5))], [(.box [(.int .i64 h0_0), (.int .i64 h0_1), (.int .i64 h0_2), (.int .i64 h0_3), (.sl true []), (.bool false), (.int .i64 0), (.sl true [])]), (.box [(.sl h1_0z (List.map (V.int .u8) h1_0l)), (.bool h1_1)]), (.box [(.int .i64 h2_0)]), (.box [(.int .i64 0)]), (.box [(.int .i64 0)])])), finI 5 false [] (unw T (orc T (M + 6)) (M + 6) 5 [.blk 0] (iter 5 [0, 6, 7, 8] (exec T (orc T (M + 6)) (M + 6) 5 z1c) j fr H)) = R
def zbog := And.intro @kk <| And.intro @ke <| And.intro @kn <| And.intro @wl <| And.intro @zbew <| And.intro @zbf2 <| And.intro @zbf5 <| And.intro @zbel <| And.intro @zbf3 <| And.intro @zbf4 <| And.intro @zbf6 <| @zbf7
theorem zboh (q : Nat) (zbrt : zbob q) : zboa (q + 1) := by
 intro M hM j hj h1_0z h1_0l r h R hR fr H hc
 obtain ⟨j, rfl⟩ : ∃ i, j = i + 1 := ⟨j - 1, by omega⟩
 rw [zho, hc]; clear hc
 rw [zl2] at h
 replace h := ob h; obtain ⟨r1, h1, h⟩ := h
 replace h1 := zbmj q (M + 5) (by omega) _ _ h1
 try simp only [kf, simprocAttr] at h1
 replace h := bn h; obtain ⟨h2, h⟩ := h
 replace h := bn h; obtain ⟨h3, h⟩ := h
 replace h := zbrt M (by omega) j (by omega) _ _ _ _ _ h R hR
 simp only [zbog, simprocAttr, *]
theorem zboi (q : Nat) (zbru : zboc q) : zbob (q + 1) := by
 intro M hM j hj h0_0 h1_0z h1_0l h1_1 r h R hR fr H hc
 obtain ⟨j, rfl⟩ : ∃ i, j = i + 1 := ⟨j - 1, by omega⟩
 rw [zho, hc]; clear hc
 rw [zl1] at h
 replace h := ob h; obtain ⟨r2, h1, h⟩ := h
 replace h1 := zbmj q (M + 5) (by omega) _ _ h1
 try simp only [kf, simprocAttr] at h1
 replace h := bb h; rcases h with ⟨h2', h2, h⟩ | ⟨h2', h2, h⟩
 ·replace h := bn h; obtain ⟨h3, h⟩ := h
  replace h := bn h; obtain ⟨h4, h⟩ := h
  replace h := zbru M (by omega) j (by omega) _ _ _ _ _ _ h R hR
  simp only [zbog, simprocAttr, *]
 ·replace h := bn h; obtain ⟨h5, h⟩ := h
  replace h := bn h; obtain ⟨h6, h⟩ := h
  replace h := zbru M (by omega) j (by omega) _ _ _ _ _ _ h R hR
  simp only [zbog, simprocAttr, *]
theorem zboj (q : Nat) (zbrv : zbod q) : zboc (q + 1) := by
 intro M hM j hj h0_0 h0_1 h1_0z h1_0l h1_1 r h R hR fr H hc
 obtain ⟨j, rfl⟩ : ∃ i, j = i + 1 := ⟨j - 1, by omega⟩
 rw [zho, hc]; clear hc
 rw [zl0] at h
 replace h := ob h; obtain ⟨r3, h1, h⟩ := h
 replace h1 := zbmj q (M + 5) (by omega) _ _ h1
 try simp only [kf, simprocAttr] at h1
 replace h := bb h; rcases h with ⟨h2', h2, h⟩ | ⟨h2', h2, h⟩
 ·replace h := bn h; obtain ⟨h3, h⟩ := h
  replace h := bn h; obtain ⟨h4, h⟩ := h
  replace h := zbrv M (by omega) j (by omega) _ _ _ _ _ _ _ h R hR
  simp only [zbog, simprocAttr, *]
 ·replace h := bn h; obtain ⟨h5, h⟩ := h
  replace h := bn h; obtain ⟨h6, h⟩ := h
  replace h := zbrv M (by omega) j (by omega) _ _ _ _ _ _ _ h R hR
  simp only [zbog, simprocAttr, *]
theorem zbok (q : Nat) (zbrw : zboe q) : zbod (q + 1) := by
 intro M hM j hj h0_0 h0_1 h0_2 h1_0z h1_0l h1_1 r h R hR fr H hc
 obtain ⟨j, rfl⟩ : ∃ i, j = i + 1 := ⟨j - 1, by omega⟩
 rw [zho, hc]; clear hc
 rw [zlz] at h
 replace h := ob h; obtain ⟨r4, h1, h⟩ := h
 replace h1 := zbmj q (M + 5) (by omega) _ _ h1
 try simp only [kf, simprocAttr] at h1
 replace h := bb h; rcases h with ⟨h2', h2, h⟩ | ⟨h2', h2, h⟩
 ·replace h := bn h; obtain ⟨h3, h⟩ := h
  replace h := bn h; obtain ⟨h4, h⟩ := h
  replace h := zbrw M (by omega) j (by omega) _ _ _ _ _ _ _ _ h R hR
  simp only [zbog, simprocAttr, *]
 ·replace h := bn h; obtain ⟨h5, h⟩ := h
  replace h := bn h; obtain ⟨h6, h⟩ := h
  replace h := zbrw M (by omega) j (by omega) _ _ _ _ _ _ _ _ h R hR
  simp only [zbog, simprocAttr, *]
theorem zbol (q : Nat) (zbrx : zbof q) : zboe (q + 1) := by
 intro M hM j hj h0_0 h0_1 h0_2 h0_3 h1_0z h1_0l h1_1 r h R hR fr H hc
 obtain ⟨j, rfl⟩ : ∃ i, j = i + 1 := ⟨j - 1, by omega⟩
 rw [zho, hc]; clear hc
 rw [zly] at h
 replace h := ob h; obtain ⟨r5, h1, h⟩ := h
 replace h1 := zbmj q (M + 5) (by omega) _ _ h1
 try simp only [kf, simprocAttr] at h1
 replace h := bb h; rcases h with ⟨h2', h2, h⟩ | ⟨h2', h2, h⟩
 ·replace h := bn h; obtain ⟨h3, h⟩ := h
  replace h := bn h; obtain ⟨h4, h⟩ := h
  replace h := zbrx M (by omega) j (by omega) _ _ _ _ _ _ _ _ _ h R hR
  simp only [zbog, simprocAttr, *]
 ·replace h := bn h; obtain ⟨h5, h⟩ := h
  replace h := bn h; obtain ⟨h6, h⟩ := h
  replace h := zbrx M (by omega) j (by omega) _ _ _ _ _ _ _ _ _ h R hR
  simp only [zbog, simprocAttr, *]
theorem zbom (q : Nat) : zbof (q + 1) := by
 intro M hM j hj h0_0 h0_1 h0_2 h0_3 h1_0z h1_0l h1_1 h2_0 r h R hR fr H hc
 obtain ⟨j, rfl⟩ : ∃ i, j = i + 1 := ⟨j - 1, by omega⟩
 rw [zho, hc]; clear hc
 rw [zlx] at h
 cases h; subst hR; simp only [zbog, simprocAttr, *]
theorem zbon : ∀ q, zboa q ∧ zbob q ∧ zboc q ∧ zbod q ∧ zboe q ∧ zbof q
 | 0 => by refine ⟨?_, ?_, ?_, ?_, ?_, ?_⟩ <;> (intro M hM j hj; intros; rename_i h _ _ _ _ _; cases h)
 | q + 1 => by have ⟨i0, i1, i2, i3, i4, i5⟩ := zbon q; exact ⟨zboh q i1, zboi q i2, zboj q i3, zbok q i4, zbol q i5, zbom q⟩
theorem zboo : ∀ (q M : Nat), 8 * q ≤ M → ∀ (h1_0z : Bool), ∀ (h1_0l : List Int), ∀ (r : Int × Int × Int × Int × (List Int) × Bool × Int), zl3 q h1_0z h1_0l = some r → (orc T (M + 7)).inl F.zn2 [(.ptr 1 0), (.psl [(.ptr 0 0), (.ptr 0 1), (.ptr 0 2), (.ptr 0 3), (.ptr 2 0)])] [(.box [(.int .i64 0), (.int .i64 0), (.int .i64 0), (.int .i64 0), (.sl true []), (.bool false), (.int .i64 0), (.sl true [])]), (.box [(.sl h1_0z (List.map (V.int .u8) h1_0l)), (.bool true)]), (.box [(.int .i64 0)]), (.box [(.int .i64 0)]), (.box [(.int .i64 0)])] = (some ([], [(.box [(.int .i64 r.1), (.int .i64 r.2.1), (.int .i64 r.2.2.1), (.int .i64 r.2.2.2.1), (.sl true []), (.bool false), (.int .i64 0), (.sl true [])]), (.box [(.sl h1_0z (List.map (V.int .u8) r.2.2.2.2.1)), (.bool r.2.2.2.2.2.1)]), (.box [(.int .i64 r.2.2.2.2.2.2)]), (.box [(.int .i64 0)]), (.box [(.int .i64 0)])]) : Option (List V × Hp)) := by
 intro q M hM h1_0z h1_0l r h
 rcases q with _ | q
 ·cases h
 have ih_delta_read_s0_l0 := (zbon q).1
 generalize hR : (some ([], [(.box [(.int .i64 r.1), (.int .i64 r.2.1), (.int .i64 r.2.2.1), (.int .i64 r.2.2.2.1), (.sl true []), (.bool false), (.int .i64 0), (.sl true [])]), (.box [(.sl h1_0z (List.map (V.int .u8) r.2.2.2.2.1)), (.bool r.2.2.2.2.2.1)]), (.box [(.int .i64 r.2.2.2.2.2.2)]), (.box [(.int .i64 0)]), (.box [(.int .i64 0)])]) : Option (List V × Hp)) = R
 rw [zbey (n := M + 6)]
 rw [zl3] at h
 replace h := ih_delta_read_s0_l0 M (by omega) (M + 6) (by omega) _ _ _ h R hR
 simp only [zbog, simprocAttr, *]
def zbop (q : Nat) : Prop := ∀ (M : Nat) (hM : 8 * q ≤ M) (j : Nat) (hj : q ≤ j) (h0_0 h0_1 h0_2 h0_3 : Int) (h1_0z : Bool) (h1_0l : List Int) (h1_1 : Bool) (r : (List Int) × Bool × Int × Int) (_ : zl6 q h0_0 h0_1 h0_2 h0_3 h1_0z h1_0l h1_1 = some r) (R : Option (List V × Hp)) (_ : (some ([], [(.box [(.int .i64 h0_0), (.int .i64 h0_1), (.int .i64 h0_2), (.int .i64 h0_3), (.sl true []), (.bool false), (.int .i64 0), (.sl true [])]), (.box [(.sl h1_0z (List.map (V.int .u8) r.1)), (.bool r.2.1)]), (.box [(.int .i64 r.2.2.1)]), (.box [(.int .i64 r.2.2.2)])]) : Option (List V × Hp)) = R) (fr : Fr) (H : Hp) (_ : canon 4 [0, 6, 7, 8] fr H = ([(0, (.ptr 1 0)), (6, (.psl [(.ptr 2 0), (.ptr 3 0)])), (7, (.int .i64 2)), (8, (.int .i64 0))], [(.box [(.int .i64 h0_0), (.int .i64 h0_1), (.int .i64 h0_2), (.int .i64 h0_3), (.sl true []), (.bool false), (.int .i64 0), (.sl true [])]), (.box [(.sl h1_0z (List.map (V.int .u8) h1_0l)), (.bool h1_1)]), (.box [(.int .i64 0)]), (.box [(.int .i64 0)])])), finI 4 false [] (unw T (orc T (M + 6)) (M + 6) 4 [.blk 0] (iter 4 [0, 6, 7, 8] (exec T (orc T (M + 6)) (M + 6) 4 z1c) j fr H)) = R
def zboq (q : Nat) : Prop := ∀ (M : Nat) (hM : 8 * q ≤ M) (j : Nat) (hj : q ≤ j) (h0_0 h0_1 h0_2 h0_3 : Int) (h1_0z : Bool) (h1_0l : List Int) (h1_1 : Bool) (h2_0 : Int) (r : (List Int) × Bool × Int × Int) (_ : zl5 q h0_0 h0_1 h0_2 h0_3 h1_0z h1_0l h1_1 h2_0 = some r) (R : Option (List V × Hp)) (_ : (some ([], [(.box [(.int .i64 h0_0), (.int .i64 h0_1), (.int .i64 h0_2), (.int .i64 h0_3), (.sl true []), (.bool false), (.int .i64 0), (.sl true [])]), (.box [(.sl h1_0z (List.map (V.int .u8) r.1)), (.bool r.2.1)]), (.box [(.int .i64 r.2.2.1)]), (.box [(.int .i64 r.2.2.2)])]) : Option (List V × Hp)) = R) (fr : Fr) (H : Hp) (_ : canon 4 [0, 6, 7, 8] fr H = ([(0, (.ptr 1 0)), (6, (.psl [(.ptr 2 0), (.ptr 3 0)])), (7, (.int .i64 2)), (8, (.int .i64 1))], [(.box [(.int .i64 h0_0), (.int .i64 h0_1), (.int .i64 h0_2), (.int .i64 h0_3), (.sl true []), (.bool false), (.int .i64 0), (.sl true [])]), (.box [(.sl h1_0z (List.map (V.int .u8) h1_0l)), (.bool h1_1)]), (.box [(.int .i64 h2_0)]), (.box [(.int .i64 0)])])), finI 4 false [] (unw T (orc T (M + 6)) (M + 6) 4 [.blk 0] (iter 4 [0, 6, 7, 8] (exec T (orc T (M + 6)) (M + 6) 4 z1c) j fr H)) = R
def zbor (q : Nat) : Prop := ∀ (M : Nat) (hM : 8 * q ≤ M) (j : Nat) (hj : q ≤ j) (h0_0 h0_1 h0_2 h0_3 : Int) (h1_0z : Bool) (h1_0l : List Int) (h1_1 : Bool) (h2_0 h3_0 : Int) (r : (List Int) × Bool × Int × Int) (_ : zl4 q h0_0 h0_1 h0_2 h0_3 h1_0z h1_0l h1_1 h2_0 h3_0 = some r) (R : Option (List V × Hp)) (_ : (some ([], [(.box [(.int .i64 h0_0), (.int .i64 h0_1), (.int .i64 h0_2), (.int .i64 h0_3), (.sl true []), (.bool false), (.int .i64 0), (.sl true [])]), (.box [(.sl h1_0z (List.map (V.int .u8) r.1)), (.bool r.2.1)]), (.box [(.int .i64 r.2.2.1)]), (.box [(.int .i64 r.2.2.2)])]) : Option (List V × Hp)) = R) (fr : Fr) (H : Hp) (_ : canon 4 [0, 6, 7, 8] fr H = ([(0, (.ptr 1 0)), (6, (.psl [(.ptr 2 0), (.ptr 3 0)])), (7, (.int .i64 2)), (8, (.int .i64 2))], [(.box [(.int .i64 h0_0), (.int .i64 h0_1), (.int .i64 h0_2), (.int .i64 h0_3), (.sl true []), (.bool false), (.int .i64 0), (.sl true [])]), (.box [(.sl h1_0z (List.map (V.int .u8) h1_0l)), (.bool h1_1)]), (.box [(.int .i64 h2_0)]), (.box [(.int .i64 h3_0)])])), finI 4 false [] (unw T (orc T (M + 6)) (M + 6) 4 [.blk 0] (iter 4 [0, 6, 7, 8] (exec T (orc T (M + 6)) (M + 6) 4 z1c) j fr H)) = R
def zbos := And.intro @kk <| And.intro @ke <| And.intro @kn <| And.intro @wl <| And.intro @zbew <| And.intro @zbf2 <| And.intro @zbf5 <| And.intro @zbel <| And.intro @zbf3 <| And.intro @zbf4 <| And.intro @zbf6 <| @zbf7
theorem zbot (q : Nat) (zbry : zboq q) : zbop (q + 1) := by
 intro M hM j hj h0_0 h0_1 h0_2 h0_3 h1_0z h1_0l h1_1 r h R hR fr H hc
 obtain ⟨j, rfl⟩ : ∃ i, j = i + 1 := ⟨j - 1, by omega⟩
 rw [zho, hc]; clear hc
 rw [zl6] at h
 replace h := ob h; obtain ⟨r1, h1, h⟩ := h
 replace h1 := zbmj q (M + 5) (by omega) _ _ h1
 try simp only [kf, simprocAttr] at h1
 replace h := bb h; rcases h with ⟨h2', h2, h⟩ | ⟨h2', h2, h⟩
 ·replace h := bn h; obtain ⟨h3, h⟩ := h
  replace h := bn h; obtain ⟨h4, h⟩ := h
  replace h := zbry M (by omega) j (by omega) _ _ _ _ _ _ _ _ _ h R hR
  simp only [zbos, simprocAttr, *]
 ·replace h := bn h; obtain ⟨h5, h⟩ := h
  replace h := bn h; obtain ⟨h6, h⟩ := h
  replace h := zbry M (by omega) j (by omega) _ _ _ _ _ _ _ _ _ h R hR
  simp only [zbos, simprocAttr, *]
theorem zbou (q : Nat) (zbrz : zbor q) : zboq (q + 1) := by
 intro M hM j hj h0_0 h0_1 h0_2 h0_3 h1_0z h1_0l h1_1 h2_0 r h R hR fr H hc
 obtain ⟨j, rfl⟩ : ∃ i, j = i + 1 := ⟨j - 1, by omega⟩
 rw [zho, hc]; clear hc
 rw [zl5] at h
 replace h := ob h; obtain ⟨r2, h1, h⟩ := h
 replace h1 := zbmj q (M + 5) (by omega) _ _ h1
 try simp only [kf, simprocAttr] at h1
 replace h := bb h; rcases h with ⟨h2', h2, h⟩ | ⟨h2', h2, h⟩
 ·replace h := bn h; obtain ⟨h3, h⟩ := h
  replace h := bn h; obtain ⟨h4, h⟩ := h
  replace h := zbrz M (by omega) j (by omega) _ _ _ _ _ _ _ _ _ _ h R hR
  simp only [zbos, simprocAttr, *]
 ·replace h := bn h; obtain ⟨h5, h⟩ := h
  replace h := bn h; obtain ⟨h6, h⟩ := h
  replace h := zbrz M (by omega) j (by omega) _ _ _ _ _ _ _ _ _ _ h R hR
  simp only [zbos, simprocAttr, *]
theorem zbov (q : Nat) : zbor (q + 1) := by
 intro M hM j hj h0_0 h0_1 h0_2 h0_3 h1_0z h1_0l h1_1 h2_0 h3_0 r h R hR fr H hc
 obtain ⟨j, rfl⟩ : ∃ i, j = i + 1 := ⟨j - 1, by omega⟩
 rw [zho, hc]; clear hc
 rw [zl4] at h
 cases h; subst hR; simp only [zbos, simprocAttr, *]
theorem zbow : ∀ q, zbop q ∧ zboq q ∧ zbor q
 | 0 => by refine ⟨?_, ?_, ?_⟩ <;> (intro M hM j hj; intros; rename_i h _ _ _ _ _; cases h)
 | q + 1 => by have ⟨i0, i1, i2⟩ := zbow q; exact ⟨zbot q i1, zbou q i2, zbov q⟩
theorem zbox : ∀ (q M : Nat), 8 * q ≤ M → ∀ (h0_0 h0_1 h0_2 h0_3 : Int), ∀ (h1_0z : Bool), ∀ (h1_0l : List Int), ∀ (h1_1 : Bool), ∀ (r : (List Int) × Bool × Int × Int), zl7 q h0_0 h0_1 h0_2 h0_3 h1_0z h1_0l h1_1 = some r → (orc T (M + 7)).inl F.zn2 [(.ptr 1 0), (.psl [(.ptr 2 0), (.ptr 3 0)])] [(.box [(.int .i64 h0_0), (.int .i64 h0_1), (.int .i64 h0_2), (.int .i64 h0_3), (.sl true []), (.bool false), (.int .i64 0), (.sl true [])]), (.box [(.sl h1_0z (List.map (V.int .u8) h1_0l)), (.bool h1_1)]), (.box [(.int .i64 0)]), (.box [(.int .i64 0)])] = (some ([], [(.box [(.int .i64 h0_0), (.int .i64 h0_1), (.int .i64 h0_2), (.int .i64 h0_3), (.sl true []), (.bool false), (.int .i64 0), (.sl true [])]), (.box [(.sl h1_0z (List.map (V.int .u8) r.1)), (.bool r.2.1)]), (.box [(.int .i64 r.2.2.1)]), (.box [(.int .i64 r.2.2.2)])]) : Option (List V × Hp)) := by
 intro q M hM h0_0 h0_1 h0_2 h0_3 h1_0z h1_0l h1_1 r h
 rcases q with _ | q
 ·cases h
 have ih_delta_read_s1_l0 := (zbow q).1
 generalize hR : (some ([], [(.box [(.int .i64 h0_0), (.int .i64 h0_1), (.int .i64 h0_2), (.int .i64 h0_3), (.sl true []), (.bool false), (.int .i64 0), (.sl true [])]), (.box [(.sl h1_0z (List.map (V.int .u8) r.1)), (.bool r.2.1)]), (.box [(.int .i64 r.2.2.1)]), (.box [(.int .i64 r.2.2.2)])]) : Option (List V × Hp)) = R
 rw [zbey (n := M + 6)]
 rw [zl7] at h
 replace h := ih_delta_read_s1_l0 M (by omega) (M + 6) (by omega) _ _ _ _ _ _ _ _ h R hR
 simp only [zbos, simprocAttr, *]
def zboy (q : Nat) : Prop := ∀ (M : Nat) (hM : 8 * q ≤ M) (j : Nat) (hj : q ≤ j) (w4 : Nat) (h0_0 h0_1 h0_2 h0_3 : Int) (h1_0z : Bool) (h1_0l : List Int) (h1_1 : Bool) (h4l : List Int) (r : Nat × (List Int) × Bool × Int × Int) (_ : zma q h0_0 h0_1 h0_2 h0_3 h1_0z h1_0l h1_1 h4l = some r) (R : Option (List V × Hp)) (_ : (some ([], [(.box [(.int .i64 h0_0), (.int .i64 h0_1), (.int .i64 h0_2), (.int .i64 h0_3), (.vw 4 w4 0 r.1 1), (.bool false), (.int .i64 0), (.sl true [])]), (.box [(.sl h1_0z (List.map (V.int .u8) r.2.1)), (.bool r.2.2.1)]), (.box [(.int .i64 r.2.2.2.1)]), (.box [(.int .i64 r.2.2.2.2)]), (.row w4 false 1 (List.map (V.int .i64) h4l) true)]) : Option (List V × Hp)) = R) (fr : Fr) (H : Hp) (_ : canon 5 [0, 6, 7, 8] fr H = ([(0, (.ptr 1 0)), (6, (.psl [(.ptr 2 0), (.ptr 3 0)])), (7, (.int .i64 2)), (8, (.int .i64 0))], [(.box [(.int .i64 h0_0), (.int .i64 h0_1), (.int .i64 h0_2), (.int .i64 h0_3), (.vw 4 w4 0 h4l.length 1), (.bool false), (.int .i64 0), (.sl true [])]), (.box [(.sl h1_0z (List.map (V.int .u8) h1_0l)), (.bool h1_1)]), (.box [(.int .i64 0)]), (.box [(.int .i64 0)]), (.row w4 false 1 (List.map (V.int .i64) h4l) true)])), finI 5 false [] (unw T (orc T (M + 6)) (M + 6) 5 [.blk 0] (iter 5 [0, 6, 7, 8] (exec T (orc T (M + 6)) (M + 6) 5 z1c) j fr H)) = R
def zboz (q : Nat) : Prop := ∀ (M : Nat) (hM : 8 * q ≤ M) (j : Nat) (hj : q ≤ j) (w4 : Nat) (h0_0 h0_1 h0_2 h0_3 : Int) (h1_0z : Bool) (h1_0l : List Int) (h1_1 : Bool) (h2_0 : Int) (h4l : List Int) (r : Nat × (List Int) × Bool × Int × Int) (_ : zl9 q h0_0 h0_1 h0_2 h0_3 h1_0z h1_0l h1_1 h2_0 h4l = some r) (R : Option (List V × Hp)) (_ : (some ([], [(.box [(.int .i64 h0_0), (.int .i64 h0_1), (.int .i64 h0_2), (.int .i64 h0_3), (.vw 4 w4 0 r.1 1), (.bool false), (.int .i64 0), (.sl true [])]), (.box [(.sl h1_0z (List.map (V.int .u8) r.2.1)), (.bool r.2.2.1)]), (.box [(.int .i64 r.2.2.2.1)]), (.box [(.int .i64 r.2.2.2.2)]), (.row w4 false 1 (List.map (V.int .i64) h4l) true)]) : Option (List V × Hp)) = R) (fr : Fr) (H : Hp) (_ : canon 5 [0, 6, 7, 8] fr H = ([(0, (.ptr 1 0)), (6, (.psl [(.ptr 2 0), (.ptr 3 0)])), (7, (.int .i64 2)), (8, (.int .i64 1))], [(.box [(.int .i64 h0_0), (.int .i64 h0_1), (.int .i64 h0_2), (.int .i64 h0_3), (.vw 4 w4 0 h4l.length 1), (.bool false), (.int .i64 0), (.sl true [])]), (.box [(.sl h1_0z (List.map (V.int .u8) h1_0l)), (.bool h1_1)]), (.box [(.int .i64 h2_0)]), (.box [(.int .i64 0)]), (.row w4 false 1 (List.map (V.int .i64) h4l) true)])), finI 5 false [] (unw T (orc T (M + 6)) (M + 6) 5 [.blk 0] (iter 5 [0, 6, 7, 8] (exec T (orc T (M + 6)) (M + 6) 5 z1c) j fr H)) = R
def zbo0 (q : Nat) : Prop := ∀ (M : Nat) (hM : 8 * q ≤ M) (j : Nat) (hj : q ≤ j) (w4 : Nat) (h0_0 h0_1 h0_2 h0_3 : Int) (h1_0z : Bool) (h1_0l : List Int) (h1_1 : Bool) (h2_0 h3_0 : Int) (h4l : List Int) (r : Nat × (List Int) × Bool × Int × Int) (_ : zl8 q h0_0 h0_1 h0_2 h0_3 h1_0z h1_0l h1_1 h2_0 h3_0 h4l = some r) (R : Option (List V × Hp)) (_ : (some ([], [(.box [(.int .i64 h0_0), (.int .i64 h0_1), (.int .i64 h0_2), (.int .i64 h0_3), (.vw 4 w4 0 r.1 1), (.bool false), (.int .i64 0), (.sl true [])]), (.box [(.sl h1_0z (List.map (V.int .u8) r.2.1)), (.bool r.2.2.1)]), (.box [(.int .i64 r.2.2.2.1)]), (.box [(.int .i64 r.2.2.2.2)]), (.row w4 false 1 (List.map (V.int .i64) h4l) true)]) : Option (List V × Hp)) = R) (fr : Fr) (H : Hp) (_ : canon 5 [0, 6, 7, 8] fr H = ([(0, (.ptr 1 0)), (6, (.psl [(.ptr 2 0), (.ptr 3 0)])), (7, (.int .i64 2)), (8, (.int .i64 2))], [(.box [(.int .i64 h0_0), (.int .i64 h0_1), (.int .i64 h0_2), (.int .i64 h0_3), (.vw 4 w4 0 h4l.length 1), (.bool false), (.int .i64 0), (.sl true [])]), (.box [(.sl h1_0z (List.map (V.int .u8) h1_0l)), (.bool h1_1)]), (.box [(.int .i64 h2_0)]), (.box [(.int .i64 h3_0)]), (.row w4 false 1 (List.map (V.int .i64) h4l) true)])), finI 5 false [] (unw T (orc T (M + 6)) (M + 6) 5 [.blk 0] (iter 5 [0, 6, 7, 8] (exec T (orc T (M + 6)) (M + 6) 5 z1c) j fr H)) = R
def zbo1 := And.intro @kk <| And.intro @ke <| And.intro @kn <| And.intro @wl <| And.intro @zbew <| And.intro @zbf2 <| And.intro @zbf5 <| And.intro @zbel <| And.intro @zbf3 <| And.intro @zbf4 <| And.intro @zbf6 <| @zbf7
theorem zbo2 (q : Nat) (zbr0 : zboz q) : zboy (q + 1) := by
 intro M hM j hj w4 h0_0 h0_1 h0_2 h0_3 h1_0z h1_0l h1_1 h4l r h R hR fr H hc
 obtain ⟨j, rfl⟩ : ∃ i, j = i + 1 := ⟨j - 1, by omega⟩
 rw [zho, hc]; clear hc
 rw [zma] at h
 replace h := ob h; obtain ⟨r1, h1, h⟩ := h
 replace h1 := zbmj q (M + 5) (by omega) _ _ h1
 try simp only [kf, simprocAttr] at h1
 replace h := bb h; rcases h with ⟨h2', h2, h⟩ | ⟨h2', h2, h⟩
 ·replace h := bn h; obtain ⟨h3, h⟩ := h
  replace h := bn h; obtain ⟨h4, h⟩ := h
  replace h := zbr0 M (by omega) j (by omega) w4 _ _ _ _ _ _ _ _ _ _ h R hR
  simp only [zbo1, simprocAttr, *]
 ·replace h := bn h; obtain ⟨h5, h⟩ := h
  replace h := bn h; obtain ⟨h6, h⟩ := h
  replace h := zbr0 M (by omega) j (by omega) w4 _ _ _ _ _ _ _ _ _ _ h R hR
  simp only [zbo1, simprocAttr, *]
theorem zbo3 (q : Nat) (zbr1 : zbo0 q) : zboz (q + 1) := by
 intro M hM j hj w4 h0_0 h0_1 h0_2 h0_3 h1_0z h1_0l h1_1 h2_0 h4l r h R hR fr H hc
 obtain ⟨j, rfl⟩ : ∃ i, j = i + 1 := ⟨j - 1, by omega⟩
 rw [zho, hc]; clear hc
 rw [zl9] at h
 replace h := ob h; obtain ⟨r2, h1, h⟩ := h
 replace h1 := zbmj q (M + 5) (by omega) _ _ h1
 try simp only [kf, simprocAttr] at h1
 replace h := bb h; rcases h with ⟨h2', h2, h⟩ | ⟨h2', h2, h⟩
 ·replace h := bn h; obtain ⟨h3, h⟩ := h
  replace h := bn h; obtain ⟨h4, h⟩ := h
  replace h := zbr1 M (by omega) j (by omega) w4 _ _ _ _ _ _ _ _ _ _ _ h R hR
  simp only [zbo1, simprocAttr, *]
 ·replace h := bn h; obtain ⟨h5, h⟩ := h
  replace h := bn h; obtain ⟨h6, h⟩ := h
  replace h := zbr1 M (by omega) j (by omega) w4 _ _ _ _ _ _ _ _ _ _ _ h R hR
  simp only [zbo1, simprocAttr, *]
theorem zbo4 (q : Nat) : zbo0 (q + 1) := by
 intro M hM j hj w4 h0_0 h0_1 h0_2 h0_3 h1_0z h1_0l h1_1 h2_0 h3_0 h4l r h R hR fr H hc
 obtain ⟨j, rfl⟩ : ∃ i, j = i + 1 := ⟨j - 1, by omega⟩
 rw [zho, hc]; clear hc
 rw [zl8] at h
 cases h; subst hR; simp only [zbo1, simprocAttr, *]
theorem zbo5 : ∀ q, zboy q ∧ zboz q ∧ zbo0 q
 | 0 => by refine ⟨?_, ?_, ?_⟩ <;> (intro M hM j hj; intros; rename_i h _ _ _ _ _; cases h)
 | q + 1 => by have ⟨i0, i1, i2⟩ := zbo5 q; exact ⟨zbo2 q i1, zbo3 q i2, zbo4 q⟩
theorem zbo6 : ∀ (q M : Nat), 8 * q ≤ M → ∀ (w4 : Nat), ∀ (h0_0 h0_1 h0_2 h0_3 : Int), ∀ (h1_0z : Bool), ∀ (h1_0l : List Int), ∀ (h1_1 : Bool), ∀ (h4l : List Int), ∀ (r : Nat × (List Int) × Bool × Int × Int), zmb q h0_0 h0_1 h0_2 h0_3 h1_0z h1_0l h1_1 h4l = some r → (orc T (M + 7)).inl F.zn2 [(.ptr 1 0), (.psl [(.ptr 2 0), (.ptr 3 0)])] [(.box [(.int .i64 h0_0), (.int .i64 h0_1), (.int .i64 h0_2), (.int .i64 h0_3), (.vw 4 w4 0 h4l.length 1), (.bool false), (.int .i64 0), (.sl true [])]), (.box [(.sl h1_0z (List.map (V.int .u8) h1_0l)), (.bool h1_1)]), (.box [(.int .i64 0)]), (.box [(.int .i64 0)]), (.row w4 false 1 (List.map (V.int .i64) h4l) true)] = (some ([], [(.box [(.int .i64 h0_0), (.int .i64 h0_1), (.int .i64 h0_2), (.int .i64 h0_3), (.vw 4 w4 0 r.1 1), (.bool false), (.int .i64 0), (.sl true [])]), (.box [(.sl h1_0z (List.map (V.int .u8) r.2.1)), (.bool r.2.2.1)]), (.box [(.int .i64 r.2.2.2.1)]), (.box [(.int .i64 r.2.2.2.2)]), (.row w4 false 1 (List.map (V.int .i64) h4l) true)]) : Option (List V × Hp)) := by
 intro q M hM w4 h0_0 h0_1 h0_2 h0_3 h1_0z h1_0l h1_1 h4l r h
 rcases q with _ | q
 ·cases h
 have ih_delta_read_s2_l0 := (zbo5 q).1
 generalize hR : (some ([], [(.box [(.int .i64 h0_0), (.int .i64 h0_1), (.int .i64 h0_2), (.int .i64 h0_3), (.vw 4 w4 0 r.1 1), (.bool false), (.int .i64 0), (.sl true [])]), (.box [(.sl h1_0z (List.map (V.int .u8) r.2.1)), (.bool r.2.2.1)]), (.box [(.int .i64 r.2.2.2.1)]), (.box [(.int .i64 r.2.2.2.2)]), (.row w4 false 1 (List.map (V.int .i64) h4l) true)]) : Option (List V × Hp)) = R
 rw [zbey (n := M + 6)]
 rw [zmb] at h
 replace h := ih_delta_read_s2_l0 M (by omega) (M + 6) (by omega) w4 _ _ _ _ _ _ _ _ _ h R hR
 simp only [zbo1, simprocAttr, *]
def zbo7 (q : Nat) : Prop := ∀ (M : Nat) (hM : 8 * q ≤ M) (j : Nat) (hj : q ≤ j) (h0_0 h0_1 h0_2 h0_3 : Int) (h0_5 : Bool) (h0_6 : Int) (h1_0z : Bool) (h1_0l : List Int) (h1_1 : Bool) (h2_0 : Int) (r : (List Int) × Bool × Int × Int) (_ : zme q h0_0 h0_1 h0_2 h0_3 h0_5 h0_6 h1_0z h1_0l h1_1 h2_0 = some r) (R : Option (List V × Hp)) (_ : (some ([], [(.box [(.int .i64 h0_0), (.int .i64 h0_1), (.int .i64 h0_2), (.int .i64 h0_3), (.sl true []), (.bool h0_5), (.int .i64 h0_6), (.sl true [])]), (.box [(.sl h1_0z (List.map (V.int .u8) r.1)), (.bool r.2.1)]), (.box [(.int .i64 h2_0)]), (.box [(.int .i64 r.2.2.1), (.int .i64 r.2.2.2), (.int .i64 0)])]) : Option (List V × Hp)) = R) (fr : Fr) (H : Hp) (_ : canon 4 [0, 6, 7, 8] fr H = ([(0, (.ptr 1 0)), (6, (.psl [(.ptr 3 0), (.ptr 3 1)])), (7, (.int .i64 2)), (8, (.int .i64 0))], [(.box [(.int .i64 h0_0), (.int .i64 h0_1), (.int .i64 h0_2), (.int .i64 h0_3), (.sl true []), (.bool h0_5), (.int .i64 h0_6), (.sl true [])]), (.box [(.sl h1_0z (List.map (V.int .u8) h1_0l)), (.bool h1_1)]), (.box [(.int .i64 h2_0)]), (.box [(.int .i64 0), (.int .i64 0), (.int .i64 0)])])), finI 4 false [] (unw T (orc T (M + 6)) (M + 6) 4 [.blk 0] (iter 4 [0, 6, 7, 8] (exec T (orc T (M + 6)) (M + 6) 4 z1c) j fr H)) = R
def zbo8 (q : Nat) : Prop := ∀ (M : Nat) (hM : 8 * q ≤ M) (j : Nat) (hj : q ≤ j) (h0_0 h0_1 h0_2 h0_3 : Int) (h0_5 : Bool) (h0_6 : Int) (h1_0z : Bool) (h1_0l : List Int) (h1_1 : Bool) (h2_0 h3_0 : Int) (r : (List Int) × Bool × Int × Int) (_ : zmd q h0_0 h0_1 h0_2 h0_3 h0_5 h0_6 h1_0z h1_0l h1_1 h2_0 h3_0 = some r) (R : Option (List V × Hp)) (_ : (some ([], [(.box [(.int .i64 h0_0), (.int .i64 h0_1), (.int .i64 h0_2), (.int .i64 h0_3), (.sl true []), (.bool h0_5), (.int .i64 h0_6), (.sl true [])]), (.box [(.sl h1_0z (List.map (V.int .u8) r.1)), (.bool r.2.1)]), (.box [(.int .i64 h2_0)]), (.box [(.int .i64 r.2.2.1), (.int .i64 r.2.2.2), (.int .i64 0)])]) : Option (List V × Hp)) = R) (fr : Fr) (H : Hp) (_ : canon 4 [0, 6, 7, 8] fr H = ([(0, (.ptr 1 0)), (6, (.psl [(.ptr 3 0), (.ptr 3 1)])), (7, (.int .i64 2)), (8, (.int .i64 1))], [(.box [(.int .i64 h0_0), (.int .i64 h0_1), (.int .i64 h0_2), (.int .i64 h0_3), (.sl true []), (.bool h0_5), (.int .i64 h0_6), (.sl true [])]), (.box [(.sl h1_0z (List.map (V.int .u8) h1_0l)), (.bool h1_1)]), (.box [(.int .i64 h2_0)]), (.box [(.int .i64 h3_0), (.int .i64 0), (.int .i64 0)])])), finI 4 false [] (unw T (orc T (M + 6)) (M + 6) 4 [.blk 0] (iter 4 [0, 6, 7, 8] (exec T (orc T (M + 6)) (M + 6) 4 z1c) j fr H)) = R
def zbo9 (q : Nat) : Prop := ∀ (M : Nat) (hM : 8 * q ≤ M) (j : Nat) (hj : q ≤ j) (h0_0 h0_1 h0_2 h0_3 : Int) (h0_5 : Bool) (h0_6 : Int) (h1_0z : Bool) (h1_0l : List Int) (h1_1 : Bool) (h2_0 h3_0 h3_1 : Int) (r : (List Int) × Bool × Int × Int) (_ : zmc q h0_0 h0_1 h0_2 h0_3 h0_5 h0_6 h1_0z h1_0l h1_1 h2_0 h3_0 h3_1 = some r) (R : Option (List V × Hp)) (_ : (some ([], [(.box [(.int .i64 h0_0), (.int .i64 h0_1), (.int .i64 h0_2), (.int .i64 h0_3), (.sl true []), (.bool h0_5), (.int .i64 h0_6), (.sl true [])]), (.box [(.sl h1_0z (List.map (V.int .u8) r.1)), (.bool r.2.1)]), (.box [(.int .i64 h2_0)]), (.box [(.int .i64 r.2.2.1), (.int .i64 r.2.2.2), (.int .i64 0)])]) : Option (List V × Hp)) = R) (fr : Fr) (H : Hp) (_ : canon 4 [0, 6, 7, 8] fr H = ([(0, (.ptr 1 0)), (6, (.psl [(.ptr 3 0), (.ptr 3 1)])), (7, (.int .i64 2)), (8, (.int .i64 2))], [(.box [(.int .i64 h0_0), (.int .i64 h0_1), (.int .i64 h0_2), (.int .i64 h0_3), (.sl true []), (.bool h0_5), (.int .i64 h0_6), (.sl true [])]), (.box [(.sl h1_0z (List.map (V.int .u8) h1_0l)), (.bool h1_1)]), (.box [(.int .i64 h2_0)]), (.box [(.int .i64 h3_0), (.int .i64 h3_1), (.int .i64 0)])])), finI 4 false [] (unw T (orc T (M + 6)) (M + 6) 4 [.blk 0] (iter 4 [0, 6, 7, 8] (exec T (orc T (M + 6)) (M + 6) 4 z1c) j fr H)) = R
def zbpa := And.intro @kk <| And.intro @ke <| And.intro @kn <| And.intro @wl <| And.intro @zbew <| And.intro @zbf2 <| And.intro @zbf5 <| And.intro @zbel <| And.intro @zbf3 <| And.intro @zbf4 <| And.intro @zbf6 <| @zbf7
theorem zbpb (q : Nat) (zbr2 : zbo8 q) : zbo7 (q + 1) := by
 intro M hM j hj h0_0 h0_1 h0_2 h0_3 h0_5 h0_6 h1_0z h1_0l h1_1 h2_0 r h R hR fr H hc
 obtain ⟨j, rfl⟩ : ∃ i, j = i + 1 := ⟨j - 1, by omega⟩
 rw [zho, hc]; clear hc
 rw [zme] at h
 replace h := ob h; obtain ⟨r1, h1, h⟩ := h
 replace h1 := zbmj q (M + 5) (by omega) _ _ h1
 try simp only [kf, simprocAttr] at h1
 replace h := bb h; rcases h with ⟨h2', h2, h⟩ | ⟨h2', h2, h⟩
 ·replace h := bn h; obtain ⟨h3, h⟩ := h
  replace h := bn h; obtain ⟨h4, h⟩ := h
  replace h := zbr2 M (by omega) j (by omega) _ _ _ _ _ _ _ _ _ _ _ _ h R hR
  simp only [zbpa, simprocAttr, *]
 ·replace h := bn h; obtain ⟨h5, h⟩ := h
  replace h := bn h; obtain ⟨h6, h⟩ := h
  replace h := zbr2 M (by omega) j (by omega) _ _ _ _ _ _ _ _ _ _ _ _ h R hR
  simp only [zbpa, simprocAttr, *]
theorem zbpc (q : Nat) (zbr3 : zbo9 q) : zbo8 (q + 1) := by
 intro M hM j hj h0_0 h0_1 h0_2 h0_3 h0_5 h0_6 h1_0z h1_0l h1_1 h2_0 h3_0 r h R hR fr H hc
 obtain ⟨j, rfl⟩ : ∃ i, j = i + 1 := ⟨j - 1, by omega⟩
 rw [zho, hc]; clear hc
 rw [zmd] at h
 replace h := ob h; obtain ⟨r2, h1, h⟩ := h
 replace h1 := zbmj q (M + 5) (by omega) _ _ h1
 try simp only [kf, simprocAttr] at h1
 replace h := bb h; rcases h with ⟨h2', h2, h⟩ | ⟨h2', h2, h⟩
 ·replace h := bn h; obtain ⟨h3, h⟩ := h
  replace h := bn h; obtain ⟨h4, h⟩ := h
  replace h := zbr3 M (by omega) j (by omega) _ _ _ _ _ _ _ _ _ _ _ _ _ h R hR
  simp only [zbpa, simprocAttr, *]
 ·replace h := bn h; obtain ⟨h5, h⟩ := h
  replace h := bn h; obtain ⟨h6, h⟩ := h
  replace h := zbr3 M (by omega) j (by omega) _ _ _ _ _ _ _ _ _ _ _ _ _ h R hR
  simp only [zbpa, simprocAttr, *]
theorem zbpd (q : Nat) : zbo9 (q + 1) := by
 intro M hM j hj h0_0 h0_1 h0_2 h0_3 h0_5 h0_6 h1_0z h1_0l h1_1 h2_0 h3_0 h3_1 r h R hR fr H hc
 obtain ⟨j, rfl⟩ : ∃ i, j = i + 1 := ⟨j - 1, by omega⟩
 rw [zho, hc]; clear hc
 rw [zmc] at h
 cases h; subst hR; simp only [zbpa, simprocAttr, *]
theorem zbpe : ∀ q, zbo7 q ∧ zbo8 q ∧ zbo9 q
 | 0 => by refine ⟨?_, ?_, ?_⟩ <;> (intro M hM j hj; intros; rename_i h _ _ _ _ _; cases h)
 | q + 1 => by have ⟨i0, i1, i2⟩ := zbpe q; exact ⟨zbpb q i1, zbpc q i2, zbpd q⟩
theorem zbpf : ∀ (q M : Nat), 8 * q ≤ M → ∀ (h0_0 h0_1 h0_2 h0_3 : Int), ∀ (h0_5 : Bool), ∀ (h0_6 : Int), ∀ (h1_0z : Bool), ∀ (h1_0l : List Int), ∀ (h1_1 : Bool), ∀ (h2_0 : Int), ∀ (r : (List Int) × Bool × Int × Int), zmf q h0_0 h0_1 h0_2 h0_3 h0_5 h0_6 h1_0z h1_0l h1_1 h2_0 = some r → (orc T (M + 7)).inl F.zn2 [(.ptr 1 0), (.psl [(.ptr 3 0), (.ptr 3 1)])] [(.box [(.int .i64 h0_0), (.int .i64 h0_1), (.int .i64 h0_2), (.int .i64 h0_3), (.sl true []), (.bool h0_5), (.int .i64 h0_6), (.sl true [])]), (.box [(.sl h1_0z (List.map (V.int .u8) h1_0l)), (.bool h1_1)]), (.box [(.int .i64 h2_0)]), (.box [(.int .i64 0), (.int .i64 0), (.int .i64 0)])] = (some ([], [(.box [(.int .i64 h0_0), (.int .i64 h0_1), (.int .i64 h0_2), (.int .i64 h0_3), (.sl true []), (.bool h0_5), (.int .i64 h0_6), (.sl true [])]), (.box [(.sl h1_0z (List.map (V.int .u8) r.1)), (.bool r.2.1)]), (.box [(.int .i64 h2_0)]), (.box [(.int .i64 r.2.2.1), (.int .i64 r.2.2.2), (.int .i64 0)])]) : Option (List V × Hp)) := by
 intro q M hM h0_0 h0_1 h0_2 h0_3 h0_5 h0_6 h1_0z h1_0l h1_1 h2_0 r h
 rcases q with _ | q
 ·cases h
 have ih_delta_read_s3_l0 := (zbpe q).1
 generalize hR : (some ([], [(.box [(.int .i64 h0_0), (.int .i64 h0_1), (.int .i64 h0_2), (.int .i64 h0_3), (.sl true []), (.bool h0_5), (.int .i64 h0_6), (.sl true [])]), (.box [(.sl h1_0z (List.map (V.int .u8) r.1)), (.bool r.2.1)]), (.box [(.int .i64 h2_0)]), (.box [(.int .i64 r.2.2.1), (.int .i64 r.2.2.2), (.int .i64 0)])]) : Option (List V × Hp)) = R
 rw [zbey (n := M + 6)]
 rw [zmf] at h
 replace h := ih_delta_read_s3_l0 M (by omega) (M + 6) (by omega) _ _ _ _ _ _ _ _ _ _ _ h R hR
 simp only [zbpa, simprocAttr, *]
def zbpg (q : Nat) : Prop := ∀ (M : Nat) (hM : 8 * q ≤ M) (j : Nat) (hj : q ≤ j) (w3 : Nat) (h0_0 h0_1 h0_2 h0_3 : Int) (h0_4len : Nat) (h0_5 : Bool) (h0_6 : Int) (h1_0z : Bool) (h1_0l : List Int) (h1_1 : Bool) (h2_0 : Int) (h3l : List Int) (r : (List Int) × Bool × Int × Int) (_ : zmi q h0_0 h0_1 h0_2 h0_3 h0_4len h0_5 h0_6 h1_0z h1_0l h1_1 h2_0 h3l = some r) (R : Option (List V × Hp)) (_ : (some ([], [(.box [(.int .i64 h0_0), (.int .i64 h0_1), (.int .i64 h0_2), (.int .i64 h0_3), (.vw 3 w3 0 h0_4len 1), (.bool h0_5), (.int .i64 h0_6), (.sl true [])]), (.box [(.sl h1_0z (List.map (V.int .u8) r.1)), (.bool r.2.1)]), (.box [(.int .i64 h2_0)]), (.row w3 false 1 (List.map (V.int .i64) h3l) true), (.box [(.int .i64 r.2.2.1), (.int .i64 r.2.2.2), (.int .i64 0)])]) : Option (List V × Hp)) = R) (fr : Fr) (H : Hp) (_ : canon 5 [0, 6, 7, 8] fr H = ([(0, (.ptr 1 0)), (6, (.psl [(.ptr 4 0), (.ptr 4 1)])), (7, (.int .i64 2)), (8, (.int .i64 0))], [(.box [(.int .i64 h0_0), (.int .i64 h0_1), (.int .i64 h0_2), (.int .i64 h0_3), (.vw 3 w3 0 h0_4len 1), (.bool h0_5), (.int .i64 h0_6), (.sl true [])]), (.box [(.sl h1_0z (List.map (V.int .u8) h1_0l)), (.bool h1_1)]), (.box [(.int .i64 h2_0)]), (.row w3 false 1 (List.map (V.int .i64) h3l) true), (.box [(.int .i64 0), (.int .i64 0), (.int .i64 0)])])), finI 5 false [] (unw T (orc T (M + 6)) (M + 6) 5 [.blk 0] (iter 5 [0, 6, 7, 8] (exec T (orc T (M + 6)) (M + 6) 5 z1c) j fr H)) = R
def zbph (q : Nat) : Prop := ∀ (M : Nat) (hM : 8 * q ≤ M) (j : Nat) (hj : q ≤ j) (w3 : Nat) (h0_0 h0_1 h0_2 h0_3 : Int) (h0_4len : Nat) (h0_5 : Bool) (h0_6 : Int) (h1_0z : Bool) (h1_0l : List Int) (h1_1 : Bool) (h2_0 : Int) (h3l : List Int) (h4_0 : Int) (r : (List Int) × Bool × Int × Int) (_ : zmh q h0_0 h0_1 h0_2 h0_3 h0_4len h0_5 h0_6 h1_0z h1_0l h1_1 h2_0 h3l h4_0 = some r) (R : Option (List V × Hp)) (_ : (some ([], [(.box [(.int .i64 h0_0), (.int .i64 h0_1), (.int .i64 h0_2), (.int .i64 h0_3), (.vw 3 w3 0 h0_4len 1), (.bool h0_5), (.int .i64 h0_6), (.sl true [])]), (.box [(.sl h1_0z (List.map (V.int .u8) r.1)), (.bool r.2.1)]), (.box [(.int .i64 h2_0)]), (.row w3 false 1 (List.map (V.int .i64) h3l) true), (.box [(.int .i64 r.2.2.1), (.int .i64 r.2.2.2), (.int .i64 0)])]) : Option (List V × Hp)) = R) (fr : Fr) (H : Hp) (_ : canon 5 [0, 6, 7, 8] fr H = ([(0, (.ptr 1 0)), (6, (.psl [(.ptr 4 0), (.ptr 4 1)])), (7, (.int .i64 2)), (8, (.int .i64 1))], [(.box [(.int .i64 h0_0), (.int .i64 h0_1), (.int .i64 h0_2), (.int .i64 h0_3), (.vw 3 w3 0 h0_4len 1), (.bool h0_5), (.int .i64 h0_6), (.sl true [])]), (.box [(.sl h1_0z (List.map (V.int .u8) h1_0l)), (.bool h1_1)]), (.box [(.int .i64 h2_0)]), (.row w3 false 1 (List.map (V.int .i64) h3l) true), (.box [(.int .i64 h4_0), (.int .i64 0), (.int .i64 0)])])), finI 5 false [] (unw T (orc T (M + 6)) (M + 6) 5 [.blk 0] (iter 5 [0, 6, 7, 8] (exec T (orc T (M + 6)) (M + 6) 5 z1c) j fr H)) = R
def zbpi (q : Nat) : Prop := ∀ (M : Nat) (hM : 8 * q ≤ M) (j : Nat) (hj : q ≤ j) (w3 : Nat) (h0_0 h0_1 h0_2 h0_3 : Int) (h0_4len : Nat) (h0_5 : Bool) (h0_6 : Int) (h1_0z : Bool) (h1_0l : List Int) (h1_1 : Bool) (h2_0 : Int) (h3l : List Int) (h4_0 h4_1 : Int) (r : (List Int) × Bool × Int × Int) (_ : zmg q h0_0 h0_1 h0_2 h0_3 h0_4len h0_5 h0_6 h1_0z h1_0l h1_1 h2_0 h3l h4_0 h4_1 = some r) (R : Option (List V × Hp)) (_ : (some ([], [(.box [(.int .i64 h0_0), (.int .i64 h0_1), (.int .i64 h0_2), (.int .i64 h0_3), (.vw 3 w3 0 h0_4len 1), (.bool h0_5), (.int .i64 h0_6), (.sl true [])]), (.box [(.sl h1_0z (List.map (V.int .u8) r.1)), (.bool r.2.1)]), (.box [(.int .i64 h2_0)]), (.row w3 false 1 (List.map (V.int .i64) h3l) true), (.box [(.int .i64 r.2.2.1), (.int .i64 r.2.2.2), (.int .i64 0)])]) : Option (List V × Hp)) = R) (fr : Fr) (H : Hp) (_ : canon 5 [0, 6, 7, 8] fr H = ([(0, (.ptr 1 0)), (6, (.psl [(.ptr 4 0), (.ptr 4 1)])), (7, (.int .i64 2)), (8, (.int .i64 2))], [(.box [(.int .i64 h0_0), (.int .i64 h0_1), (.int .i64 h0_2), (.int .i64 h0_3), (.vw 3 w3 0 h0_4len 1), (.bool h0_5), (.int .i64 h0_6), (.sl true [])]), (.box [(.sl h1_0z (List.map (V.int .u8) h1_0l)), (.bool h1_1)]), (.box [(.int .i64 h2_0)]), (.row w3 false 1 (List.map (V.int .i64) h3l) true), (.box [(.int .i64 h4_0), (.int .i64 h4_1), (.int .i64 0)])])), finI 5 false [] (unw T (orc T (M + 6)) (M + 6) 5 [.blk 0] (iter 5 [0, 6, 7, 8] (exec T (orc T (M + 6)) (M + 6) 5 z1c) j fr H)) = R
def zbpj := And.intro @kk <| And.intro @ke <| And.intro @kn <| And.intro @wl <| And.intro @zbew <| And.intro @zbf2 <| And.intro @zbf5 <| And.intro @zbel <| And.intro @zbf3 <| And.intro @zbf4 <| And.intro @zbf6 <| @zbf7
theorem zbpk (q : Nat) (zbr4 : zbph q) : zbpg (q + 1) := by
 intro M hM j hj w3 h0_0 h0_1 h0_2 h0_3 h0_4len h0_5 h0_6 h1_0z h1_0l h1_1 h2_0 h3l r h R hR fr H hc
 obtain ⟨j, rfl⟩ : ∃ i, j = i + 1 := ⟨j - 1, by omega⟩
 rw [zho, hc]; clear hc
 rw [zmi] at h
 replace h := ob h; obtain ⟨r1, h1, h⟩ := h
 replace h1 := zbmj q (M + 5) (by omega) _ _ h1
 try simp only [kf, simprocAttr] at h1
 replace h := bb h; rcases h with ⟨h2', h2, h⟩ | ⟨h2', h2, h⟩
 ·replace h := bn h; obtain ⟨h3, h⟩ := h
  replace h := bn h; obtain ⟨h4, h⟩ := h
  replace h := zbr4 M (by omega) j (by omega) w3 _ _ _ _ _ _ _ _ _ _ _ _ _ _ h R hR
  simp only [zbpj, simprocAttr, *]
 ·replace h := bn h; obtain ⟨h5, h⟩ := h
  replace h := bn h; obtain ⟨h6, h⟩ := h
  replace h := zbr4 M (by omega) j (by omega) w3 _ _ _ _ _ _ _ _ _ _ _ _ _ _ h R hR
  simp only [zbpj, simprocAttr, *]
theorem zbpl (q : Nat) (zbr5 : zbpi q) : zbph (q + 1) := by
 intro M hM j hj w3 h0_0 h0_1 h0_2 h0_3 h0_4len h0_5 h0_6 h1_0z h1_0l h1_1 h2_0 h3l h4_0 r h R hR fr H hc
 obtain ⟨j, rfl⟩ : ∃ i, j = i + 1 := ⟨j - 1, by omega⟩
 rw [zho, hc]; clear hc
 rw [zmh] at h
 replace h := ob h; obtain ⟨r2, h1, h⟩ := h
 replace h1 := zbmj q (M + 5) (by omega) _ _ h1
 try simp only [kf, simprocAttr] at h1
 replace h := bb h; rcases h with ⟨h2', h2, h⟩ | ⟨h2', h2, h⟩
 ·replace h := bn h; obtain ⟨h3, h⟩ := h
  replace h := bn h; obtain ⟨h4, h⟩ := h
  replace h := zbr5 M (by omega) j (by omega) w3 _ _ _ _ _ _ _ _ _ _ _ _ _ _ _ h R hR
  simp only [zbpj, simprocAttr, *]
 ·replace h := bn h; obtain ⟨h5, h⟩ := h
  replace h := bn h; obtain ⟨h6, h⟩ := h
  replace h := zbr5 M (by omega) j (by omega) w3 _ _ _ _ _ _ _ _ _ _ _ _ _ _ _ h R hR
  simp only [zbpj, simprocAttr, *]
theorem zbpm (q : Nat) : zbpi (q + 1) := by
 intro M hM j hj w3 h0_0 h0_1 h0_2 h0_3 h0_4len h0_5 h0_6 h1_0z h1_0l h1_1 h2_0 h3l h4_0 h4_1 r h R hR fr H hc
 obtain ⟨j, rfl⟩ : ∃ i, j = i + 1 := ⟨j - 1, by omega⟩
 rw [zho, hc]; clear hc
 rw [zmg] at h
 cases h; subst hR; simp only [zbpj, simprocAttr, *]
theorem zbpn : ∀ q, zbpg q ∧ zbph q ∧ zbpi q
 | 0 => by refine ⟨?_, ?_, ?_⟩ <;> (intro M hM j hj; intros; rename_i h _ _ _ _ _; cases h)
 | q + 1 => by have ⟨i0, i1, i2⟩ := zbpn q; exact ⟨zbpk q i1, zbpl q i2, zbpm q⟩
theorem zbpo : ∀ (q M : Nat), 8 * q ≤ M → ∀ (w3 : Nat), ∀ (h0_0 h0_1 h0_2 h0_3 : Int), ∀ (h0_4len : Nat), ∀ (h0_5 : Bool), ∀ (h0_6 : Int), ∀ (h1_0z : Bool), ∀ (h1_0l : List Int), ∀ (h1_1 : Bool), ∀ (h2_0 : Int), ∀ (h3l : List Int), ∀ (r : (List Int) × Bool × Int × Int), zmj q h0_0 h0_1 h0_2 h0_3 h0_4len h0_5 h0_6 h1_0z h1_0l h1_1 h2_0 h3l = some r → (orc T (M + 7)).inl F.zn2 [(.ptr 1 0), (.psl [(.ptr 4 0), (.ptr 4 1)])] [(.box [(.int .i64 h0_0), (.int .i64 h0_1), (.int .i64 h0_2), (.int .i64 h0_3), (.vw 3 w3 0 h0_4len 1), (.bool h0_5), (.int .i64 h0_6), (.sl true [])]), (.box [(.sl h1_0z (List.map (V.int .u8) h1_0l)), (.bool h1_1)]), (.box [(.int .i64 h2_0)]), (.row w3 false 1 (List.map (V.int .i64) h3l) true), (.box [(.int .i64 0), (.int .i64 0), (.int .i64 0)])] = (some ([], [(.box [(.int .i64 h0_0), (.int .i64 h0_1), (.int .i64 h0_2), (.int .i64 h0_3), (.vw 3 w3 0 h0_4len 1), (.bool h0_5), (.int .i64 h0_6), (.sl true [])]), (.box [(.sl h1_0z (List.map (V.int .u8) r.1)), (.bool r.2.1)]), (.box [(.int .i64 h2_0)]), (.row w3 false 1 (List.map (V.int .i64) h3l) true), (.box [(.int .i64 r.2.2.1), (.int .i64 r.2.2.2), (.int .i64 0)])]) : Option (List V × Hp)) := by
 intro q M hM w3 h0_0 h0_1 h0_2 h0_3 h0_4len h0_5 h0_6 h1_0z h1_0l h1_1 h2_0 h3l r h
 rcases q with _ | q
 ·cases h
 have ih_delta_read_s4_l0 := (zbpn q).1
 generalize hR : (some ([], [(.box [(.int .i64 h0_0), (.int .i64 h0_1), (.int .i64 h0_2), (.int .i64 h0_3), (.vw 3 w3 0 h0_4len 1), (.bool h0_5), (.int .i64 h0_6), (.sl true [])]), (.box [(.sl h1_0z (List.map (V.int .u8) r.1)), (.bool r.2.1)]), (.box [(.int .i64 h2_0)]), (.row w3 false 1 (List.map (V.int .i64) h3l) true), (.box [(.int .i64 r.2.2.1), (.int .i64 r.2.2.2), (.int .i64 0)])]) : Option (List V × Hp)) = R
 rw [zbey (n := M + 6)]
 rw [zmj] at h
 replace h := ih_delta_read_s4_l0 M (by omega) (M + 6) (by omega) w3 _ _ _ _ _ _ _ _ _ _ _ _ _ h R hR
 simp only [zbpj, simprocAttr, *]
def zbpp (q : Nat) : Prop := ∀ (M : Nat) (hM : 8 * q ≤ M) (j : Nat) (hj : q ≤ j) (w3 : Nat) (h0_0 h0_1 h0_2 h0_3 : Int) (h0_5 : Bool) (h0_6 : Int) (h1_0z : Bool) (h1_0l : List Int) (h1_1 : Bool) (h2_0 : Int) (h3l : List zjq) (r : Nat × (List Int) × Bool × Int × Int) (_ : zmm q h0_0 h0_1 h0_2 h0_3 h0_5 h0_6 h1_0z h1_0l h1_1 h2_0 h3l = some r) (R : Option (List V × Hp)) (_ : (some ([], [(.box [(.int .i64 h0_0), (.int .i64 h0_1), (.int .i64 h0_2), (.int .i64 h0_3), (.sl true []), (.bool h0_5), (.int .i64 h0_6), (.vw 3 w3 0 r.1 1)]), (.box [(.sl h1_0z (List.map (V.int .u8) r.2.1)), (.bool r.2.2.1)]), (.box [(.int .i64 h2_0)]), (.row w3 false 3 (List.map zjq.enc h3l) true), (.box [(.int .i64 r.2.2.2.1), (.int .i64 r.2.2.2.2), (.int .i64 0)])]) : Option (List V × Hp)) = R) (fr : Fr) (H : Hp) (_ : canon 5 [0, 6, 7, 8] fr H = ([(0, (.ptr 1 0)), (6, (.psl [(.ptr 4 0), (.ptr 4 1)])), (7, (.int .i64 2)), (8, (.int .i64 0))], [(.box [(.int .i64 h0_0), (.int .i64 h0_1), (.int .i64 h0_2), (.int .i64 h0_3), (.sl true []), (.bool h0_5), (.int .i64 h0_6), (.vw 3 w3 0 h3l.length 1)]), (.box [(.sl h1_0z (List.map (V.int .u8) h1_0l)), (.bool h1_1)]), (.box [(.int .i64 h2_0)]), (.row w3 false 3 (List.map zjq.enc h3l) true), (.box [(.int .i64 0), (.int .i64 0), (.int .i64 0)])])), finI 5 false [] (unw T (orc T (M + 6)) (M + 6) 5 [.blk 0] (iter 5 [0, 6, 7, 8] (exec T (orc T (M + 6)) (M + 6) 5 z1c) j fr H)) = R
def zbpq (q : Nat) : Prop := ∀ (M : Nat) (hM : 8 * q ≤ M) (j : Nat) (hj : q ≤ j) (w3 : Nat) (h0_0 h0_1 h0_2 h0_3 : Int) (h0_5 : Bool) (h0_6 : Int) (h1_0z : Bool) (h1_0l : List Int) (h1_1 : Bool) (h2_0 : Int) (h3l : List zjq) (h4_0 : Int) (r : Nat × (List Int) × Bool × Int × Int) (_ : zml q h0_0 h0_1 h0_2 h0_3 h0_5 h0_6 h1_0z h1_0l h1_1 h2_0 h3l h4_0 = some r) (R : Option (List V × Hp)) (_ : (some ([], [(.box [(.int .i64 h0_0), (.int .i64 h0_1), (.int .i64 h0_2), (.int .i64 h0_3), (.sl true []), (.bool h0_5), (.int .i64 h0_6), (.vw 3 w3 0 r.1 1)]), (.box [(.sl h1_0z (List.map (V.int .u8) r.2.1)), (.bool r.2.2.1)]), (.box [(.int .i64 h2_0)]), (.row w3 false 3 (List.map zjq.enc h3l) true), (.box [(.int .i64 r.2.2.2.1), (.int .i64 r.2.2.2.2), (.int .i64 0)])]) : Option (List V × Hp)) = R) (fr : Fr) (H : Hp) (_ : canon 5 [0, 6, 7, 8] fr H = ([(0, (.ptr 1 0)), (6, (.psl [(.ptr 4 0), (.ptr 4 1)])), (7, (.int .i64 2)), (8, (.int .i64 1))], [(.box [(.int .i64 h0_0), (.int .i64 h0_1), (.int .i64 h0_2), (.int .i64 h0_3), (.sl true []), (.bool h0_5), (.int .i64 h0_6), (.vw 3 w3 0 h3l.length 1)]), (.box [(.sl h1_0z (List.map (V.int .u8) h1_0l)), (.bool h1_1)]), (.box [(.int .i64 h2_0)]), (.row w3 false 3 (List.map zjq.enc h3l) true), (.box [(.int .i64 h4_0), (.int .i64 0), (.int .i64 0)])])), finI 5 false [] (unw T (orc T (M + 6)) (M + 6) 5 [.blk 0] (iter 5 [0, 6, 7, 8] (exec T (orc T (M + 6)) (M + 6) 5 z1c) j fr H)) = R
def zbpr (q : Nat) : Prop := ∀ (M : Nat) (hM : 8 * q ≤ M) (j : Nat) (hj : q ≤ j) (w3 : Nat) (h0_0 h0_1 h0_2 h0_3 : Int) (h0_5 : Bool) (h0_6 : Int) (h1_0z : Bool) (h1_0l : List Int) (h1_1 : Bool) (h2_0 : Int) (h3l : List zjq) (h4_0 h4_1 : Int) (r : Nat × (List Int) × Bool × Int × Int) (_ : zmk q h0_0 h0_1 h0_2 h0_3 h0_5 h0_6 h1_0z h1_0l h1_1 h2_0 h3l h4_0 h4_1 = some r) (R : Option (List V × Hp)) (_ : (some ([], [(.box [(.int .i64 h0_0), (.int .i64 h0_1), (.int .i64 h0_2), (.int .i64 h0_3), (.sl true []), (.bool h0_5), (.int .i64 h0_6), (.vw 3 w3 0 r.1 1)]), (.box [(.sl h1_0z (List.map (V.int .u8) r.2.1)), (.bool r.2.2.1)]), (.box [(.int .i64 h2_0)]), (.row w3 false 3 (List.map zjq.enc h3l) true), (.box [(.int .i64 r.2.2.2.1), (.int .i64 r.2.2.2.2), (.int .i64 0)])]) : Option (List V × Hp)) = R) (fr : Fr) (H : Hp) (_ : canon 5 [0, 6, 7, 8] fr H = ([(0, (.ptr 1 0)), (6, (.psl [(.ptr 4 0), (.ptr 4 1)])), (7, (.int .i64 2)), (8, (.int .i64 2))], [(.box [(.int .i64 h0_0), (.int .i64 h0_1), (.int .i64 h0_2), (.int .i64 h0_3), (.sl true []), (.bool h0_5), (.int .i64 h0_6), (.vw 3 w3 0 h3l.length 1)]), (.box [(.sl h1_0z (List.map (V.int .u8) h1_0l)), (.bool h1_1)]), (.box [(.int .i64 h2_0)]), (.row w3 false 3 (List.map zjq.enc h3l) true), (.box [(.int .i64 h4_0), (.int .i64 h4_1), (.int .i64 0)])])), finI 5 false [] (unw T (orc T (M + 6)) (M + 6) 5 [.blk 0] (iter 5 [0, 6, 7, 8] (exec T (orc T (M + 6)) (M + 6) 5 z1c) j fr H)) = R
def zbps := And.intro @kk <| And.intro @ke <| And.intro @kn <| And.intro @wl <| And.intro @zbew <| And.intro @zbf2 <| And.intro @zbf5 <| And.intro @zbel <| And.intro @zbf3 <| And.intro @zbf4 <| And.intro @zbf6 <| @zbf7
theorem zbpt (q : Nat) (zbr6 : zbpq q) : zbpp (q + 1) := by
 intro M hM j hj w3 h0_0 h0_1 h0_2 h0_3 h0_5 h0_6 h1_0z h1_0l h1_1 h2_0 h3l r h R hR fr H hc
 obtain ⟨j, rfl⟩ : ∃ i, j = i + 1 := ⟨j - 1, by omega⟩
 rw [zho, hc]; clear hc
 rw [zmm] at h
 replace h := ob h; obtain ⟨r1, h1, h⟩ := h
 replace h1 := zbmj q (M + 5) (by omega) _ _ h1
 try simp only [kf, simprocAttr] at h1
 replace h := bb h; rcases h with ⟨h2', h2, h⟩ | ⟨h2', h2, h⟩
 ·replace h := bn h; obtain ⟨h3, h⟩ := h
  replace h := bn h; obtain ⟨h4, h⟩ := h
  replace h := zbr6 M (by omega) j (by omega) w3 _ _ _ _ _ _ _ _ _ _ _ _ _ h R hR
  simp only [zbps, simprocAttr, *]
 ·replace h := bn h; obtain ⟨h5, h⟩ := h
  replace h := bn h; obtain ⟨h6, h⟩ := h
  replace h := zbr6 M (by omega) j (by omega) w3 _ _ _ _ _ _ _ _ _ _ _ _ _ h R hR
  simp only [zbps, simprocAttr, *]
theorem zbpu (q : Nat) (zbr7 : zbpr q) : zbpq (q + 1) := by
 intro M hM j hj w3 h0_0 h0_1 h0_2 h0_3 h0_5 h0_6 h1_0z h1_0l h1_1 h2_0 h3l h4_0 r h R hR fr H hc
 obtain ⟨j, rfl⟩ : ∃ i, j = i + 1 := ⟨j - 1, by omega⟩
 rw [zho, hc]; clear hc
 rw [zml] at h
 replace h := ob h; obtain ⟨r2, h1, h⟩ := h
 replace h1 := zbmj q (M + 5) (by omega) _ _ h1
 try simp only [kf, simprocAttr] at h1
 replace h := bb h; rcases h with ⟨h2', h2, h⟩ | ⟨h2', h2, h⟩
 ·replace h := bn h; obtain ⟨h3, h⟩ := h
  replace h := bn h; obtain ⟨h4, h⟩ := h
  replace h := zbr7 M (by omega) j (by omega) w3 _ _ _ _ _ _ _ _ _ _ _ _ _ _ h R hR
  simp only [zbps, simprocAttr, *]
 ·replace h := bn h; obtain ⟨h5, h⟩ := h
  replace h := bn h; obtain ⟨h6, h⟩ := h
  replace h := zbr7 M (by omega) j (by omega) w3 _ _ _ _ _ _ _ _ _ _ _ _ _ _ h R hR
  simp only [zbps, simprocAttr, *]
theorem zbpv (q : Nat) : zbpr (q + 1) := by
 intro M hM j hj w3 h0_0 h0_1 h0_2 h0_3 h0_5 h0_6 h1_0z h1_0l h1_1 h2_0 h3l h4_0 h4_1 r h R hR fr H hc
 obtain ⟨j, rfl⟩ : ∃ i, j = i + 1 := ⟨j - 1, by omega⟩
 rw [zho, hc]; clear hc
 rw [zmk] at h
 cases h; subst hR; simp only [zbps, simprocAttr, *]
theorem zbpw : ∀ q, zbpp q ∧ zbpq q ∧ zbpr q
 | 0 => by refine ⟨?_, ?_, ?_⟩ <;> (intro M hM j hj; intros; rename_i h _ _ _ _ _; cases h)
 | q + 1 => by have ⟨i0, i1, i2⟩ := zbpw q; exact ⟨zbpt q i1, zbpu q i2, zbpv q⟩
theorem zbpx : ∀ (q M : Nat), 8 * q ≤ M → ∀ (w3 : Nat), ∀ (h0_0 h0_1 h0_2 h0_3 : Int), ∀ (h0_5 : Bool), ∀ (h0_6 : Int), ∀ (h1_0z : Bool), ∀ (h1_0l : List Int), ∀ (h1_1 : Bool), ∀ (h2_0 : Int), ∀ (h3l : List zjq), ∀ (r : Nat × (List Int) × Bool × Int × Int), zmn q h0_0 h0_1 h0_2 h0_3 h0_5 h0_6 h1_0z h1_0l h1_1 h2_0 h3l = some r → (orc T (M + 7)).inl F.zn2 [(.ptr 1 0), (.psl [(.ptr 4 0), (.ptr 4 1)])] [(.box [(.int .i64 h0_0), (.int .i64 h0_1), (.int .i64 h0_2), (.int .i64 h0_3), (.sl true []), (.bool h0_5), (.int .i64 h0_6), (.vw 3 w3 0 h3l.length 1)]), (.box [(.sl h1_0z (List.map (V.int .u8) h1_0l)), (.bool h1_1)]), (.box [(.int .i64 h2_0)]), (.row w3 false 3 (List.map zjq.enc h3l) true), (.box [(.int .i64 0), (.int .i64 0), (.int .i64 0)])] = (some ([], [(.box [(.int .i64 h0_0), (.int .i64 h0_1), (.int .i64 h0_2), (.int .i64 h0_3), (.sl true []), (.bool h0_5), (.int .i64 h0_6), (.vw 3 w3 0 r.1 1)]), (.box [(.sl h1_0z (List.map (V.int .u8) r.2.1)), (.bool r.2.2.1)]), (.box [(.int .i64 h2_0)]), (.row w3 false 3 (List.map zjq.enc h3l) true), (.box [(.int .i64 r.2.2.2.1), (.int .i64 r.2.2.2.2), (.int .i64 0)])]) : Option (List V × Hp)) := by
 intro q M hM w3 h0_0 h0_1 h0_2 h0_3 h0_5 h0_6 h1_0z h1_0l h1_1 h2_0 h3l r h
 rcases q with _ | q
 ·cases h
 have ih_delta_read_s5_l0 := (zbpw q).1
 generalize hR : (some ([], [(.box [(.int .i64 h0_0), (.int .i64 h0_1), (.int .i64 h0_2), (.int .i64 h0_3), (.sl true []), (.bool h0_5), (.int .i64 h0_6), (.vw 3 w3 0 r.1 1)]), (.box [(.sl h1_0z (List.map (V.int .u8) r.2.1)), (.bool r.2.2.1)]), (.box [(.int .i64 h2_0)]), (.row w3 false 3 (List.map zjq.enc h3l) true), (.box [(.int .i64 r.2.2.2.1), (.int .i64 r.2.2.2.2), (.int .i64 0)])]) : Option (List V × Hp)) = R
 rw [zbey (n := M + 6)]
 rw [zmn] at h
 replace h := ih_delta_read_s5_l0 M (by omega) (M + 6) (by omega) w3 _ _ _ _ _ _ _ _ _ _ _ _ h R hR
 simp only [zbps, simprocAttr, *]
def zbpy (q : Nat) : Prop := ∀ (M : Nat) (hM : 8 * q ≤ M) (j : Nat) (hj : q ≤ j) (w3 w4 : Nat) (h0_0 h0_1 h0_2 h0_3 : Int) (h0_4len : Nat) (h0_5 : Bool) (h0_6 : Int) (h1_0z : Bool) (h1_0l : List Int) (h1_1 : Bool) (h2_0 : Int) (h3l : List Int) (h4l : List zjq) (r : Nat × (List Int) × Bool × Int × Int) (_ : zmq q h0_0 h0_1 h0_2 h0_3 h0_4len h0_5 h0_6 h1_0z h1_0l h1_1 h2_0 h3l h4l = some r) (R : Option (List V × Hp)) (_ : (some ([], [(.box [(.int .i64 h0_0), (.int .i64 h0_1), (.int .i64 h0_2), (.int .i64 h0_3), (.vw 3 w3 0 h0_4len 1), (.bool h0_5), (.int .i64 h0_6), (.vw 4 w4 0 r.1 1)]), (.box [(.sl h1_0z (List.map (V.int .u8) r.2.1)), (.bool r.2.2.1)]), (.box [(.int .i64 h2_0)]), (.row w3 false 1 (List.map (V.int .i64) h3l) true), (.row w4 false 3 (List.map zjq.enc h4l) true), (.box [(.int .i64 r.2.2.2.1), (.int .i64 r.2.2.2.2), (.int .i64 0)])]) : Option (List V × Hp)) = R) (fr : Fr) (H : Hp) (_ : canon 6 [0, 6, 7, 8] fr H = ([(0, (.ptr 1 0)), (6, (.psl [(.ptr 5 0), (.ptr 5 1)])), (7, (.int .i64 2)), (8, (.int .i64 0))], [(.box [(.int .i64 h0_0), (.int .i64 h0_1), (.int .i64 h0_2), (.int .i64 h0_3), (.vw 3 w3 0 h0_4len 1), (.bool h0_5), (.int .i64 h0_6), (.vw 4 w4 0 h4l.length 1)]), (.box [(.sl h1_0z (List.map (V.int .u8) h1_0l)), (.bool h1_1)]), (.box [(.int .i64 h2_0)]), (.row w3 false 1 (List.map (V.int .i64) h3l) true), (.row w4 false 3 (List.map zjq.enc h4l) true), (.box [(.int .i64 0), (.int .i64 0), (.int .i64 0)])])), finI 6 false [] (unw T (orc T (M + 6)) (M + 6) 6 [.blk 0] (iter 6 [0, 6, 7, 8] (exec T (orc T (M + 6)) (M + 6) 6 z1c) j fr H)) = R
def zbpz (q : Nat) : Prop := ∀ (M : Nat) (hM : 8 * q ≤ M) (j : Nat) (hj : q ≤ j) (w3 w4 : Nat) (h0_0 h0_1 h0_2 h0_3 : Int) (h0_4len : Nat) (h0_5 : Bool) (h0_6 : Int) (h1_0z : Bool) (h1_0l : List Int) (h1_1 : Bool) (h2_0 : Int) (h3l : List Int) (h4l : List zjq) (h5_0 : Int) (r : Nat × (List Int) × Bool × Int × Int) (_ : zmp q h0_0 h0_1 h0_2 h0_3 h0_4len h0_5 h0_6 h1_0z h1_0l h1_1 h2_0 h3l h4l h5_0 = some r) (R : Option (List V × Hp)) (_ : (some ([], [(.box [(.int .i64 h0_0), (.int .i64 h0_1), (.int .i64 h0_2), (.int .i64 h0_3), (.vw 3 w3 0 h0_4len 1), (.bool h0_5), (.int .i64 h0_6), (.vw 4 w4 0 r.1 1)]), (.box [(.sl h1_0z (List.map (V.int .u8) r.2.1)), (.bool r.2.2.1)]), (.box [(.int .i64 h2_0)]), (.row w3 false 1 (List.map (V.int .i64) h3l) true), (.row w4 false 3 (List.map zjq.enc h4l) true), (.box [(.int .i64 r.2.2.2.1), (.int .i64 r.2.2.2.2), (.int .i64 0)])]) : Option (List V × Hp)) = R) (fr : Fr) (H : Hp) (_ : canon 6 [0, 6, 7, 8] fr H = ([(0, (.ptr 1 0)), (6, (.psl [(.ptr 5 0), (.ptr 5 1)])), (7, (.int .i64 2)), (8, (.int .i64 1))], [(.box [(.int .i64 h0_0), (.int .i64 h0_1), (.int .i64 h0_2), (.int .i64 h0_3), (.vw 3 w3 0 h0_4len 1), (.bool h0_5), (.int .i64 h0_6), (.vw 4 w4 0 h4l.length 1)]), (.box [(.sl h1_0z (List.map (V.int .u8) h1_0l)), (.bool h1_1)]), (.box [(.int .i64 h2_0)]), (.row w3 false 1 (List.map (V.int .i64) h3l) true), (.row w4 false 3 (List.map zjq.enc h4l) true), (.box [(.int .i64 h5_0), (.int .i64 0), (.int .i64 0)])])), finI 6 false [] (unw T (orc T (M + 6)) (M + 6) 6 [.blk 0] (iter 6 [0, 6, 7, 8] (exec T (orc T (M + 6)) (M + 6) 6 z1c) j fr H)) = R
def zbp0 (q : Nat) : Prop := ∀ (M : Nat) (hM : 8 * q ≤ M) (j : Nat) (hj : q ≤ j) (w3 w4 : Nat) (h0_0 h0_1 h0_2 h0_3 : Int) (h0_4len : Nat) (h0_5 : Bool) (h0_6 : Int) (h1_0z : Bool) (h1_0l : List Int) (h1_1 : Bool) (h2_0 : Int) (h3l : List Int) (h4l : List zjq) (h5_0 h5_1 : Int) (r : Nat × (List Int) × Bool × Int × Int) (_ : zmo q h0_0 h0_1 h0_2 h0_3 h0_4len h0_5 h0_6 h1_0z h1_0l h1_1 h2_0 h3l h4l h5_0 h5_1 = some r) (R : Option (List V × Hp)) (_ : (some ([], [(.box [(.int .i64 h0_0), (.int .i64 h0_1), (.int .i64 h0_2), (.int .i64 h0_3), (.vw 3 w3 0 h0_4len 1), (.bool h0_5), (.int .i64 h0_6), (.vw 4 w4 0 r.1 1)]), (.box [(.sl h1_0z (List.map (V.int .u8) r.2.1)), (.bool r.2.2.1)]), (.box [(.int .i64 h2_0)]), (.row w3 false 1 (List.map (V.int .i64) h3l) true), (.row w4 false 3 (List.map zjq.enc h4l) true), (.box [(.int .i64 r.2.2.2.1), (.int .i64 r.2.2.2.2), (.int .i64 0)])]) : Option (List V × Hp)) = R) (fr : Fr) (H : Hp) (_ : canon 6 [0, 6, 7, 8] fr H = ([(0, (.ptr 1 0)), (6, (.psl [(.ptr 5 0), (.ptr 5 1)])), (7, (.int .i64 2)), (8, (.int .i64 2))], [(.box [(.int .i64 h0_0), (.int .i64 h0_1), (.int .i64 h0_2), (.int .i64 h0_3), (.vw 3 w3 0 h0_4len 1), (.bool h0_5), (.int .i64 h0_6), (.vw 4 w4 0 h4l.length 1)]), (.box [(.sl h1_0z (List.map (V.int .u8) h1_0l)), (.bool h1_1)]), (.box [(.int .i64 h2_0)]), (.row w3 false 1 (List.map (V.int .i64) h3l) true), (.row w4 false 3 (List.map zjq.enc h4l) true), (.box [(.int .i64 h5_0), (.int .i64 h5_1), (.int .i64 0)])])), finI 6 false [] (unw T (orc T (M + 6)) (M + 6) 6 [.blk 0] (iter 6 [0, 6, 7, 8] (exec T (orc T (M + 6)) (M + 6) 6 z1c) j fr H)) = R
def zbp1 := And.intro @kk <| And.intro @ke <| And.intro @kn <| And.intro @wl <| And.intro @zbew <| And.intro @zbf2 <| And.intro @zbf5 <| And.intro @zbel <| And.intro @zbf3 <| And.intro @zbf4 <| And.intro @zbf6 <| @zbf7
theorem zbp2 (q : Nat) (zbr8 : zbpz q) : zbpy (q + 1) := by
 intro M hM j hj w3 w4 h0_0 h0_1 h0_2 h0_3 h0_4len h0_5 h0_6 h1_0z h1_0l h1_1 h2_0 h3l h4l r h R hR fr H hc
 obtain ⟨j, rfl⟩ : ∃ i, j = i + 1 := ⟨j - 1, by omega⟩
 rw [zho, hc]; clear hc
 rw [zmq] at h
 replace h := ob h; obtain ⟨r1, h1, h⟩ := h
 replace h1 := zbmj q (M + 5) (by omega) _ _ h1
 try simp only [kf, simprocAttr] at h1
 replace h := bb h; rcases h with ⟨h2', h2, h⟩ | ⟨h2', h2, h⟩
 ·replace h := bn h; obtain ⟨h3, h⟩ := h
  replace h := bn h; obtain ⟨h4, h⟩ := h
  replace h := zbr8 M (by omega) j (by omega) w3 w4 _ _ _ _ _ _ _ _ _ _ _ _ _ _ _ h R hR
  simp only [zbp1, simprocAttr, *]
 ·replace h := bn h; obtain ⟨h5, h⟩ := h
  replace h := bn h; obtain ⟨h6, h⟩ := h
  replace h := zbr8 M (by omega) j (by omega) w3 w4 _ _ _ _ _ _ _ _ _ _ _ _ _ _ _ h R hR
  simp only [zbp1, simprocAttr, *]
theorem zbp3 (q : Nat) (zbr9 : zbp0 q) : zbpz (q + 1) := by
 intro M hM j hj w3 w4 h0_0 h0_1 h0_2 h0_3 h0_4len h0_5 h0_6 h1_0z h1_0l h1_1 h2_0 h3l h4l h5_0 r h R hR fr H hc
 obtain ⟨j, rfl⟩ : ∃ i, j = i + 1 := ⟨j - 1, by omega⟩
 rw [zho, hc]; clear hc
 rw [zmp] at h
 replace h := ob h; obtain ⟨r2, h1, h⟩ := h
 replace h1 := zbmj q (M + 5) (by omega) _ _ h1
 try simp only [kf, simprocAttr] at h1
 replace h := bb h; rcases h with ⟨h2', h2, h⟩ | ⟨h2', h2, h⟩
 ·replace h := bn h; obtain ⟨h3, h⟩ := h
  replace h := bn h; obtain ⟨h4, h⟩ := h
  replace h := zbr9 M (by omega) j (by omega) w3 w4 _ _ _ _ _ _ _ _ _ _ _ _ _ _ _ _ h R hR
  simp only [zbp1, simprocAttr, *]
 ·replace h := bn h; obtain ⟨h5, h⟩ := h
  replace h := bn h; obtain ⟨h6, h⟩ := h
  replace h := zbr9 M (by omega) j (by omega) w3 w4 _ _ _ _ _ _ _ _ _ _ _ _ _ _ _ _ h R hR
  simp only [zbp1, simprocAttr, *]
theorem zbp4 (q : Nat) : zbp0 (q + 1) := by
 intro M hM j hj w3 w4 h0_0 h0_1 h0_2 h0_3 h0_4len h0_5 h0_6 h1_0z h1_0l h1_1 h2_0 h3l h4l h5_0 h5_1 r h R hR fr H hc
 obtain ⟨j, rfl⟩ : ∃ i, j = i + 1 := ⟨j - 1, by omega⟩
 rw [zho, hc]; clear hc
 rw [zmo] at h
 cases h; subst hR; simp only [zbp1, simprocAttr, *]
theorem zbp5 : ∀ q, zbpy q ∧ zbpz q ∧ zbp0 q
 | 0 => by refine ⟨?_, ?_, ?_⟩ <;> (intro M hM j hj; intros; rename_i h _ _ _ _ _; cases h)
 | q + 1 => by have ⟨i0, i1, i2⟩ := zbp5 q; exact ⟨zbp2 q i1, zbp3 q i2, zbp4 q⟩
theorem zbp6 : ∀ (q M : Nat), 8 * q ≤ M → ∀ (w3 w4 : Nat), ∀ (h0_0 h0_1 h0_2 h0_3 : Int), ∀ (h0_4len : Nat), ∀ (h0_5 : Bool), ∀ (h0_6 : Int), ∀ (h1_0z : Bool), ∀ (h1_0l : List Int), ∀ (h1_1 : Bool), ∀ (h2_0 : Int), ∀ (h3l : List Int), ∀ (h4l : List zjq), ∀ (r : Nat × (List Int) × Bool × Int × Int), zmr q h0_0 h0_1 h0_2 h0_3 h0_4len h0_5 h0_6 h1_0z h1_0l h1_1 h2_0 h3l h4l = some r → (orc T (M + 7)).inl F.zn2 [(.ptr 1 0), (.psl [(.ptr 5 0), (.ptr 5 1)])] [(.box [(.int .i64 h0_0), (.int .i64 h0_1), (.int .i64 h0_2), (.int .i64 h0_3), (.vw 3 w3 0 h0_4len 1), (.bool h0_5), (.int .i64 h0_6), (.vw 4 w4 0 h4l.length 1)]), (.box [(.sl h1_0z (List.map (V.int .u8) h1_0l)), (.bool h1_1)]), (.box [(.int .i64 h2_0)]), (.row w3 false 1 (List.map (V.int .i64) h3l) true), (.row w4 false 3 (List.map zjq.enc h4l) true), (.box [(.int .i64 0), (.int .i64 0), (.int .i64 0)])] = (some ([], [(.box [(.int .i64 h0_0), (.int .i64 h0_1), (.int .i64 h0_2), (.int .i64 h0_3), (.vw 3 w3 0 h0_4len 1), (.bool h0_5), (.int .i64 h0_6), (.vw 4 w4 0 r.1 1)]), (.box [(.sl h1_0z (List.map (V.int .u8) r.2.1)), (.bool r.2.2.1)]), (.box [(.int .i64 h2_0)]), (.row w3 false 1 (List.map (V.int .i64) h3l) true), (.row w4 false 3 (List.map zjq.enc h4l) true), (.box [(.int .i64 r.2.2.2.1), (.int .i64 r.2.2.2.2), (.int .i64 0)])]) : Option (List V × Hp)) := by
 intro q M hM w3 w4 h0_0 h0_1 h0_2 h0_3 h0_4len h0_5 h0_6 h1_0z h1_0l h1_1 h2_0 h3l h4l r h
 rcases q with _ | q
 ·cases h
 have ih_delta_read_s6_l0 := (zbp5 q).1
 generalize hR : (some ([], [(.box [(.int .i64 h0_0), (.int .i64 h0_1), (.int .i64 h0_2), (.int .i64 h0_3), (.vw 3 w3 0 h0_4len 1), (.bool h0_5), (.int .i64 h0_6), (.vw 4 w4 0 r.1 1)]), (.box [(.sl h1_0z (List.map (V.int .u8) r.2.1)), (.bool r.2.2.1)]), (.box [(.int .i64 h2_0)]), (.row w3 false 1 (List.map (V.int .i64) h3l) true), (.row w4 false 3 (List.map zjq.enc h4l) true), (.box [(.int .i64 r.2.2.2.1), (.int .i64 r.2.2.2.2), (.int .i64 0)])]) : Option (List V × Hp)) = R
 rw [zbey (n := M + 6)]
 rw [zmr] at h
 replace h := ih_delta_read_s6_l0 M (by omega) (M + 6) (by omega) w3 w4 _ _ _ _ _ _ _ _ _ _ _ _ _ _ h R hR
 simp only [zbp1, simprocAttr, *]
def zbp7 (q : Nat) : Prop := ∀ (M : Nat) (hM : 8 * q ≤ M) (j : Nat) (hj : q ≤ j) (v23 h0_0 h0_1 h0_2 h0_3 : Int) (h1_0z : Bool) (h1_0l : List Int) (h1_1 : Bool) (r : zjs × Bool) (_ : zmx q v23 h0_0 h0_1 h0_2 h0_3 h1_0z h1_0l h1_1 = some r) (R : Option (List V)) (_ : some [zjs.enc r.1, V.bool r.2] = R) (fr : Fr) (H : Hp) (_ : canon 0 [2, 4, 6, 7, 23, 24] fr H = ([(2, (.ptr 0 0)), (4, (.ptr 1 0)), (6, (.ptr 2 0)), (7, (.ptr 3 0)), (23, (.int .i64 v23)), (24, (.int .i64 0))], [(.box [(.int .i64 h0_0), (.int .i64 h0_1), (.int .i64 h0_2), (.int .i64 h0_3), (.sl true []), (.bool false), (.int .i64 0), (.sl true [])]), (.box [(.sl h1_0z (List.map (V.int .u8) h1_0l)), (.bool h1_1)]), (.box [(.int .i64 0)]), (.box [(.int .i64 0)])])), fin zvv (unw T (orc T (M + 7)) (M + 7) 0 [.blk 0, .code zvo] (iter 0 [2, 4, 6, 7, 23, 24] (exec T (orc T (M + 7)) (M + 7) 0 zux) j fr H)) = R
def zbp8 (q : Nat) : Prop := ∀ (M : Nat) (hM : 8 * q ≤ M) (j : Nat) (hj : q ≤ j) (v23 v24 h0_0 h0_1 h0_2 h0_3 : Int) (h1_0z : Bool) (h1_0l : List Int) (h1_1 : Bool) (h4l : List Int) (r : zjs × Bool) (_ : zmu q v23 v24 h0_0 h0_1 h0_2 h0_3 h1_0z h1_0l h1_1 h4l = some r) (R : Option (List V)) (_ : some [zjs.enc r.1, V.bool r.2] = R) (fr : Fr) (H : Hp) (_ : canon 0 [2, 4, 6, 7, 23, 24] fr H = ([(2, (.ptr 0 0)), (4, (.ptr 1 0)), (6, (.ptr 2 0)), (7, (.ptr 3 0)), (23, (.int .i64 v23)), (24, (.int .i64 v24))], [(.box [(.int .i64 h0_0), (.int .i64 h0_1), (.int .i64 h0_2), (.int .i64 h0_3), (.vw 4 0 0 h4l.length 1), (.bool false), (.int .i64 0), (.sl true [])]), (.box [(.sl h1_0z (List.map (V.int .u8) h1_0l)), (.bool h1_1)]), (.box [(.int .i64 0)]), (.box [(.int .i64 0)]), (.row 0 false 1 (List.map (V.int .i64) h4l) true)])), fin zvv (unw T (orc T (M + 7)) (M + 7) 0 [.blk 0, .code zvo] (iter 0 [2, 4, 6, 7, 23, 24] (exec T (orc T (M + 7)) (M + 7) 0 zux) j fr H)) = R
def zbp9 (q : Nat) : Prop := ∀ (M : Nat) (hM : 8 * q ≤ M) (j : Nat) (hj : q ≤ j) (h0_0 h0_1 h0_2 h0_3 : Int) (h0_5 : Bool) (h0_6 : Int) (h1_0z : Bool) (h1_0l : List Int) (h1_1 : Bool) (h2_0 : Int) (r : zjs × Bool) (_ : zmw q h0_0 h0_1 h0_2 h0_3 h0_5 h0_6 h1_0z h1_0l h1_1 h2_0 = some r) (R : Option (List V)) (_ : some [zjs.enc r.1, V.bool r.2] = R) (fr : Fr) (H : Hp) (_ : canon 0 [2, 4, 7, 8] fr H = ([(2, (.ptr 0 0)), (4, (.ptr 1 0)), (7, (.ptr 2 0)), (8, (.int .i64 0))], [(.box [(.int .i64 h0_0), (.int .i64 h0_1), (.int .i64 h0_2), (.int .i64 h0_3), (.sl true []), (.bool h0_5), (.int .i64 h0_6), (.sl true [])]), (.box [(.sl h1_0z (List.map (V.int .u8) h1_0l)), (.bool h1_1)]), (.box [(.int .i64 h2_0)])])), fin zvv (unw T (orc T (M + 7)) (M + 7) 0 [.blk 2, .code zvk] (iter 0 [2, 4, 7, 8] (exec T (orc T (M + 7)) (M + 7) 0 zvh) j fr H)) = R
def zbqa (q : Nat) : Prop := ∀ (M : Nat) (hM : 8 * q ≤ M) (j : Nat) (hj : q ≤ j) (h0_0 h0_1 h0_2 h0_3 : Int) (h0_4len : Nat) (h0_5 : Bool) (h0_6 : Int) (h1_0z : Bool) (h1_0l : List Int) (h1_1 : Bool) (h2_0 : Int) (h3l : List Int) (r : zjs × Bool) (_ : zmt q h0_0 h0_1 h0_2 h0_3 h0_4len h0_5 h0_6 h1_0z h1_0l h1_1 h2_0 h3l = some r) (R : Option (List V)) (_ : some [zjs.enc r.1, V.bool r.2] = R) (fr : Fr) (H : Hp) (_ : canon 0 [2, 4, 7, 8] fr H = ([(2, (.ptr 0 0)), (4, (.ptr 1 0)), (7, (.ptr 2 0)), (8, (.int .i64 0))], [(.box [(.int .i64 h0_0), (.int .i64 h0_1), (.int .i64 h0_2), (.int .i64 h0_3), (.vw 3 0 0 h0_4len 1), (.bool h0_5), (.int .i64 h0_6), (.sl true [])]), (.box [(.sl h1_0z (List.map (V.int .u8) h1_0l)), (.bool h1_1)]), (.box [(.int .i64 h2_0)]), (.row 0 false 1 (List.map (V.int .i64) h3l) true)])), fin zvv (unw T (orc T (M + 7)) (M + 7) 0 [.blk 2, .code zvk] (iter 0 [2, 4, 7, 8] (exec T (orc T (M + 7)) (M + 7) 0 zvh) j fr H)) = R
def zbqb (q : Nat) : Prop := ∀ (M : Nat) (hM : 8 * q ≤ M) (j : Nat) (hj : q ≤ j) (v8 h0_0 h0_1 h0_2 h0_3 : Int) (h0_5 : Bool) (h0_6 : Int) (h1_0z : Bool) (h1_0l : List Int) (h1_1 : Bool) (h2_0 : Int) (h3l : List zjq) (r : zjs × Bool) (_ : zmv q v8 h0_0 h0_1 h0_2 h0_3 h0_5 h0_6 h1_0z h1_0l h1_1 h2_0 h3l = some r) (R : Option (List V)) (_ : some [zjs.enc r.1, V.bool r.2] = R) (fr : Fr) (H : Hp) (_ : canon 0 [2, 4, 7, 8] fr H = ([(2, (.ptr 0 0)), (4, (.ptr 1 0)), (7, (.ptr 2 0)), (8, (.int .i64 v8))], [(.box [(.int .i64 h0_0), (.int .i64 h0_1), (.int .i64 h0_2), (.int .i64 h0_3), (.sl true []), (.bool h0_5), (.int .i64 h0_6), (.vw 3 0 0 h3l.length 1)]), (.box [(.sl h1_0z (List.map (V.int .u8) h1_0l)), (.bool h1_1)]), (.box [(.int .i64 h2_0)]), (.row 0 false 3 (List.map zjq.enc h3l) true)])), fin zvv (unw T (orc T (M + 7)) (M + 7) 0 [.blk 2, .code zvk] (iter 0 [2, 4, 7, 8] (exec T (orc T (M + 7)) (M + 7) 0 zvh) j fr H)) = R
def zbqc (q : Nat) : Prop := ∀ (M : Nat) (hM : 8 * q ≤ M) (j : Nat) (hj : q ≤ j) (v8 h0_0 h0_1 h0_2 h0_3 : Int) (h0_4len : Nat) (h0_5 : Bool) (h0_6 : Int) (h1_0z : Bool) (h1_0l : List Int) (h1_1 : Bool) (h2_0 : Int) (h3l : List Int) (h4l : List zjq) (r : zjs × Bool) (_ : zms q v8 h0_0 h0_1 h0_2 h0_3 h0_4len h0_5 h0_6 h1_0z h1_0l h1_1 h2_0 h3l h4l = some r) (R : Option (List V)) (_ : some [zjs.enc r.1, V.bool r.2] = R) (fr : Fr) (H : Hp) (_ : canon 0 [2, 4, 7, 8] fr H = ([(2, (.ptr 0 0)), (4, (.ptr 1 0)), (7, (.ptr 2 0)), (8, (.int .i64 v8))], [(.box [(.int .i64 h0_0), (.int .i64 h0_1), (.int .i64 h0_2), (.int .i64 h0_3), (.vw 3 0 0 h0_4len 1), (.bool h0_5), (.int .i64 h0_6), (.vw 4 0 0 h4l.length 1)]), (.box [(.sl h1_0z (List.map (V.int .u8) h1_0l)), (.bool h1_1)]), (.box [(.int .i64 h2_0)]), (.row 0 false 1 (List.map (V.int .i64) h3l) true), (.row 0 false 3 (List.map zjq.enc h4l) true)])), fin zvv (unw T (orc T (M + 7)) (M + 7) 0 [.blk 2, .code zvk] (iter 0 [2, 4, 7, 8] (exec T (orc T (M + 7)) (M + 7) 0 zvh) j fr H)) = R
def zbqd := And.intro @kk <| And.intro @ke <| And.intro @kn <| And.intro @zbcl <| And.intro @zbez <| And.intro @zbf5 <| And.intro @zbex <| And.intro @zbf9 <| And.intro @zbe0 <| And.intro @zbe1 <| And.intro @zbf6 <| And.intro @zbf7 <| @zbcn
theorem zbqe (q : Nat) (zbsa : zbp8 q) (zbsb : zbp9 q) : zbp7 (q + 1) := by
 intro M hM j hj v23 h0_0 h0_1 h0_2 h0_3 h1_0z h1_0l h1_1 r h R hR fr H hc
 obtain ⟨j, rfl⟩ : ∃ i, j = i + 1 := ⟨j - 1, by omega⟩
 rw [zho, hc]; clear hc
 rw [zmx] at h
 replace h := br h; rcases h with ⟨h1, h⟩ | ⟨h1, h⟩
 ·replace h := ob h; obtain ⟨r2, h2, h⟩ := h
  replace h2 := zbn9 q (M + 6) (by omega) _ _ h2
  try simp only [kf, simprocAttr] at h2
  replace h := bb h; rcases h with ⟨h3', h3, h⟩ | ⟨h3', h3, h⟩
  ·replace h := bn h; obtain ⟨h4, h⟩ := h
   replace h := bn h; obtain ⟨h5, h⟩ := h
   replace h := zbsa M (by omega) j (by omega) _ _ _ _ _ _ _ _ _ _ _ h R hR
   simp only [zbqd, simprocAttr, *]
  ·replace h := bn h; obtain ⟨h6, h⟩ := h
   replace h := bn h; obtain ⟨h7, h⟩ := h
   replace h := zbsa M (by omega) j (by omega) _ _ _ _ _ _ _ _ _ _ _ h R hR
   simp only [zbqd, simprocAttr, *]
 ·replace h := ob h; obtain ⟨r3, h8, h⟩ := h
  replace h8 := zbox q M (by omega) _ _ _ _ _ _ _ _ h8
  try simp only [kf, simprocAttr] at h8
  replace h := br h; rcases h with ⟨h9, h⟩ | ⟨h9, h⟩
  ·cases h; subst hR; simp only [zbqd, simprocAttr, *]
  ·replace h := zbsb M (by omega) (M + 7) (by omega) _ _ _ _ _ _ _ _ _ _ _ h R hR
   simp only [zbqd, simprocAttr, *]
theorem zbqf (q : Nat) (zbsa : zbp8 q) (zbsc : zbqa q) : zbp8 (q + 1) := by
 intro M hM j hj v23 v24 h0_0 h0_1 h0_2 h0_3 h1_0z h1_0l h1_1 h4l r h R hR fr H hc
 obtain ⟨j, rfl⟩ : ∃ i, j = i + 1 := ⟨j - 1, by omega⟩
 rw [zho, hc]; clear hc
 rw [zmu] at h
 replace h := br h; rcases h with ⟨h1, h⟩ | ⟨h1, h⟩
 ·replace h := ob h; obtain ⟨r4, h2, h⟩ := h
  replace h2 := zbn9 q (M + 6) (by omega) _ _ h2
  try simp only [kf, simprocAttr] at h2
  replace h := bb h; rcases h with ⟨h3', h3, h⟩ | ⟨h3', h3, h⟩
  ·replace h := bn h; obtain ⟨h4, h⟩ := h
   replace h := bn h; obtain ⟨h5, h⟩ := h
   replace h := bn h; obtain ⟨h6, h⟩ := h
   replace h := zbsa M (by omega) j (by omega) _ _ _ _ _ _ _ _ _ _ _ h R hR
   simp only [zbqd, simprocAttr, *]
  ·replace h := bn h; obtain ⟨h7, h⟩ := h
   replace h := bn h; obtain ⟨h8, h⟩ := h
   replace h := bn h; obtain ⟨h9, h⟩ := h
   replace h := zbsa M (by omega) j (by omega) _ _ _ _ _ _ _ _ _ _ _ h R hR
   simp only [zbqd, simprocAttr, *]
 ·replace h := ob h; obtain ⟨r5, h10, h⟩ := h
  replace h10 := zbo6 q M (by omega) 0 _ _ _ _ _ _ _ _ _ h10
  try simp only [kf, simprocAttr] at h10
  replace h := br h; rcases h with ⟨h11, h⟩ | ⟨h11, h⟩
  ·cases h; subst hR; simp only [zbqd, simprocAttr, *]
  ·replace h := zbsc M (by omega) (M + 7) (by omega) _ _ _ _ _ _ _ _ _ _ _ _ _ h R hR
   simp only [zbqd, simprocAttr, *]
theorem zbqg (q : Nat) (zbsd : zbqb q) : zbp9 (q + 1) := by
 intro M hM j hj h0_0 h0_1 h0_2 h0_3 h0_5 h0_6 h1_0z h1_0l h1_1 h2_0 r h R hR fr H hc
 obtain ⟨j, rfl⟩ : ∃ i, j = i + 1 := ⟨j - 1, by omega⟩
 rw [zho, hc]; clear hc
 rw [zmw] at h
 replace h := br h; rcases h with ⟨h1, h⟩ | ⟨h1, h⟩
 ·replace h := bb h; rcases h with ⟨h2', h2, h⟩ | ⟨h2', h2, h⟩
  ·replace h := ob h; obtain ⟨r6, h3, h⟩ := h
   replace h3 := zbpf q M (by omega) _ _ _ _ _ _ _ _ _ _ _ h3
   try simp only [kf, simprocAttr] at h3
   replace h := ob h; obtain ⟨r7, h4, h⟩ := h
   replace h4 := zbn9 q (M + 6) (by omega) _ _ h4
   try simp only [kf, simprocAttr] at h4
   replace h := bb h; rcases h with ⟨h5', h5, h⟩ | ⟨h5', h5, h⟩
   ·replace h := bn h; obtain ⟨h6, h⟩ := h
    replace h := bn h; obtain ⟨h7, h⟩ := h
    replace h := zbsd M (by omega) j (by omega) _ _ _ _ _ _ _ _ _ _ _ _ _ h R hR
    simp only [zbqd, simprocAttr, *]
   ·replace h := bn h; obtain ⟨h8, h⟩ := h
    replace h := bn h; obtain ⟨h9, h⟩ := h
    replace h := zbsd M (by omega) j (by omega) _ _ _ _ _ _ _ _ _ _ _ _ _ h R hR
    simp only [zbqd, simprocAttr, *]
  ·cases h; subst hR; simp only [zbqd, simprocAttr, *]
 ·replace h := bb h; rcases h with ⟨h10', h10, h⟩ | ⟨h10', h10, h⟩
  ·cases h; subst hR; simp only [zbqd, simprocAttr, *]
  ·cases h; subst hR; simp only [zbqd, simprocAttr, *]
theorem zbqh (q : Nat) (zbse : zbqc q) : zbqa (q + 1) := by
 intro M hM j hj h0_0 h0_1 h0_2 h0_3 h0_4len h0_5 h0_6 h1_0z h1_0l h1_1 h2_0 h3l r h R hR fr H hc
 obtain ⟨j, rfl⟩ : ∃ i, j = i + 1 := ⟨j - 1, by omega⟩
 rw [zho, hc]; clear hc
 rw [zmt] at h
 replace h := br h; rcases h with ⟨h1, h⟩ | ⟨h1, h⟩
 ·replace h := bb h; rcases h with ⟨h2', h2, h⟩ | ⟨h2', h2, h⟩
  ·replace h := ob h; obtain ⟨r8, h3, h⟩ := h
   replace h3 := zbpo q M (by omega) 0 _ _ _ _ _ _ _ _ _ _ _ _ _ h3
   try simp only [kf, simprocAttr] at h3
   replace h := ob h; obtain ⟨r9, h4, h⟩ := h
   replace h4 := zbn9 q (M + 6) (by omega) _ _ h4
   try simp only [kf, simprocAttr] at h4
   replace h := bb h; rcases h with ⟨h5', h5, h⟩ | ⟨h5', h5, h⟩
   ·replace h := bn h; obtain ⟨h6, h⟩ := h
    replace h := bn h; obtain ⟨h7, h⟩ := h
    replace h := zbse M (by omega) j (by omega) _ _ _ _ _ _ _ _ _ _ _ _ _ _ _ h R hR
    simp only [zbqd, simprocAttr, *]
   ·replace h := bn h; obtain ⟨h8, h⟩ := h
    replace h := bn h; obtain ⟨h9, h⟩ := h
    replace h := zbse M (by omega) j (by omega) _ _ _ _ _ _ _ _ _ _ _ _ _ _ _ h R hR
    simp only [zbqd, simprocAttr, *]
  ·cases h; subst hR; simp only [zbqd, simprocAttr, *]
 ·replace h := bb h; rcases h with ⟨h10', h10, h⟩ | ⟨h10', h10, h⟩
  ·cases h; subst hR; simp only [zbqd, simprocAttr, *]
  ·cases h; subst hR; simp only [zbqd, simprocAttr, *]
theorem zbqi (q : Nat) (zbsd : zbqb q) : zbqb (q + 1) := by
 intro M hM j hj v8 h0_0 h0_1 h0_2 h0_3 h0_5 h0_6 h1_0z h1_0l h1_1 h2_0 h3l r h R hR fr H hc
 obtain ⟨j, rfl⟩ : ∃ i, j = i + 1 := ⟨j - 1, by omega⟩
 rw [zho, hc]; clear hc
 rw [zmv] at h
 replace h := br h; rcases h with ⟨h1, h⟩ | ⟨h1, h⟩
 ·replace h := bb h; rcases h with ⟨h2', h2, h⟩ | ⟨h2', h2, h⟩
  ·replace h := ob h; obtain ⟨r10, h3, h⟩ := h
   replace h3 := zbpx q M (by omega) 0 _ _ _ _ _ _ _ _ _ _ _ _ h3
   try simp only [kf, simprocAttr] at h3
   replace h := ob h; obtain ⟨r11, h4, h⟩ := h
   replace h4 := zbn9 q (M + 6) (by omega) _ _ h4
   try simp only [kf, simprocAttr] at h4
   replace h := bb h; rcases h with ⟨h5', h5, h⟩ | ⟨h5', h5, h⟩
   ·replace h := bn h; obtain ⟨h6, h⟩ := h
    replace h := bn h; obtain ⟨h7, h⟩ := h
    replace h := bn h; obtain ⟨h8, h⟩ := h
    replace h := zbsd M (by omega) j (by omega) _ _ _ _ _ _ _ _ _ _ _ _ _ h R hR
    simp only [zbqd, simprocAttr, *]
   ·replace h := bn h; obtain ⟨h9, h⟩ := h
    replace h := bn h; obtain ⟨h10, h⟩ := h
    replace h := bn h; obtain ⟨h11, h⟩ := h
    replace h := zbsd M (by omega) j (by omega) _ _ _ _ _ _ _ _ _ _ _ _ _ h R hR
    simp only [zbqd, simprocAttr, *]
  ·cases h; subst hR; simp only [zbqd, simprocAttr, *]
 ·replace h := bb h; rcases h with ⟨h12', h12, h⟩ | ⟨h12', h12, h⟩
  ·cases h; subst hR; simp only [zbqd, simprocAttr, *]
  ·cases h; subst hR; simp only [zbqd, simprocAttr, *]
theorem zbqj (q : Nat) (zbse : zbqc q) : zbqc (q + 1) := by
 intro M hM j hj v8 h0_0 h0_1 h0_2 h0_3 h0_4len h0_5 h0_6 h1_0z h1_0l h1_1 h2_0 h3l h4l r h R hR fr H hc
 obtain ⟨j, rfl⟩ : ∃ i, j = i + 1 := ⟨j - 1, by omega⟩
 rw [zho, hc]; clear hc
 rw [zms] at h
 replace h := br h; rcases h with ⟨h1, h⟩ | ⟨h1, h⟩
 ·replace h := bb h; rcases h with ⟨h2', h2, h⟩ | ⟨h2', h2, h⟩
  ·replace h := ob h; obtain ⟨r12, h3, h⟩ := h
   replace h3 := zbp6 q M (by omega) 0 0 _ _ _ _ _ _ _ _ _ _ _ _ _ _ h3
   try simp only [kf, simprocAttr] at h3
   replace h := ob h; obtain ⟨r13, h4, h⟩ := h
   replace h4 := zbn9 q (M + 6) (by omega) _ _ h4
   try simp only [kf, simprocAttr] at h4
   replace h := bb h; rcases h with ⟨h5', h5, h⟩ | ⟨h5', h5, h⟩
   ·replace h := bn h; obtain ⟨h6, h⟩ := h
    replace h := bn h; obtain ⟨h7, h⟩ := h
    replace h := bn h; obtain ⟨h8, h⟩ := h
    replace h := zbse M (by omega) j (by omega) _ _ _ _ _ _ _ _ _ _ _ _ _ _ _ h R hR
    simp only [zbqd, simprocAttr, *]
   ·replace h := bn h; obtain ⟨h9, h⟩ := h
    replace h := bn h; obtain ⟨h10, h⟩ := h
    replace h := bn h; obtain ⟨h11, h⟩ := h
    replace h := zbse M (by omega) j (by omega) _ _ _ _ _ _ _ _ _ _ _ _ _ _ _ h R hR
    simp only [zbqd, simprocAttr, *]
  ·cases h; subst hR; simp only [zbqd, simprocAttr, *]
 ·replace h := bb h; rcases h with ⟨h12', h12, h⟩ | ⟨h12', h12, h⟩
  ·cases h; subst hR; simp only [zbqd, simprocAttr, *]
  ·cases h; subst hR; simp only [zbqd, simprocAttr, *]
theorem zbqk : ∀ q, zbp7 q ∧ zbp8 q ∧ zbp9 q ∧ zbqa q ∧ zbqb q ∧ zbqc q
 | 0 => by refine ⟨?_, ?_, ?_, ?_, ?_, ?_⟩ <;> (intro M hM j hj; intros; rename_i h _ _ _ _ _; cases h)
 | q + 1 => by have ⟨i0, i1, i2, i3, i4, i5⟩ := zbqk q; exact ⟨zbqe q i1 i2, zbqf q i1 i3, zbqg q i4, zbqh q i5, zbqi q i4, zbqj q i5⟩
theorem zbql : ∀ (q N : Nat), 8 * q ≤ N → ∀ (a0 : (Sl Int)), ∀ (r : zjs × Bool), zmy q a0 = some r → (orc T N).deep F.zmy [(Sl.enc (V.int .u8)) a0] = some [zjs.enc r.1, V.bool r.2] := by
 intro q N hM a0 r h
 rcases q with _ | q
 ·cases h
 obtain ⟨M, rfl⟩ : ∃ M, N = M + 8 := ⟨N - 8, by omega⟩
 have ih_delta_read_l0 := (zbqk q).1
 generalize hR : some [zjs.enc r.1, V.bool r.2] = R
 rw [zhy, z88, y6, zhw zvv rfl]
 rw [zmy] at h
 replace h := ob h; obtain ⟨r1, h1, h⟩ := h
 replace h1 := zboo q M (by omega) _ _ _ h1
 try simp only [kf, simprocAttr] at h1
 replace h := br h; rcases h with ⟨h2, h⟩ | ⟨h2, h⟩
 ·cases h; subst hR; simp only [zbqd, simprocAttr, *]
 ·replace h := ih_delta_read_l0 M (by omega) (M + 7) (by omega) _ _ _ _ _ _ _ _ _ h R hR
  simp only [zbqd, simprocAttr, *]
def zbqm := And.intro @kk <| And.intro @ke <| And.intro @kn <| And.intro @zbgb <| @zbgd
theorem zbqn : ∀ (q N : Nat), 8 * q ≤ N → ∀ (a0 : Int), ∀ (r : Bool), zmz q a0 = some r → (orc T N).deep F.zmz [(V.int .i64) a0] = some [V.bool r] := by
 intro q N hM a0 r h
 rcases q with _ | q
 ·cases h
 obtain ⟨M, rfl⟩ : ∃ M, N = M + 8 := ⟨N - 8, by omega⟩
 generalize hR : some [V.bool r] = R
 rw [zhy, zbah, y6, zhw z6y rfl]
 rw [zmz] at h
 replace h := br h; rcases h with ⟨h1, h⟩ | ⟨h1, h⟩
 ·cases h; subst hR; simp only [zbqm, simprocAttr, *]
 ·cases h; subst hR; simp only [zbqm, simprocAttr, *]
def zbqo (q : Nat) : Prop := ∀ (M : Nat) (hM : 8 * q ≤ M) (j : Nat) (hj : q ≤ j) (v0z : Bool) (v0l : List Int) (v7 v8 r : Int) (_ : zm0 q v0z v0l v7 v8 = some r) (R : Option (List V × Hp)) (_ : (some ([(.int .i64 r)], []) : Option (List V × Hp)) = R) (fr : Fr) (H : Hp) (_ : canon 0 [0, 1, 7, 8] fr H = ([(0, (.sl v0z (List.map (V.int .i64) v0l))), (1, (.fn F.zmz [])), (7, (.int .i64 v7)), (8, (.int .i64 v8))], [])), finI 0 false [.tmp 4] (unw T (orc T (M + 5)) (M + 5) 0 [.blk 0, .code z4t] (iter 0 [0, 1, 7, 8] (exec T (orc T (M + 5)) (M + 5) 0 z4q) j fr H)) = R
def zbqp := And.intro @kk <| And.intro @ke <| And.intro @kn <| And.intro @zbfq <| @zbgc
theorem zbqq (q : Nat) (zbsf : zbqo q) : zbqo (q + 1) := by
 intro M hM j hj v0z v0l v7 v8 r h R hR fr H hc
 obtain ⟨j, rfl⟩ : ∃ i, j = i + 1 := ⟨j - 1, by omega⟩
 rw [zho, hc]; clear hc
 rw [zm0] at h
 replace h := br h; rcases h with ⟨h1, h⟩ | ⟨h1, h⟩
 ·replace h := bn h; obtain ⟨h2, h⟩ := h
  replace h := ob h; obtain ⟨e1, h3, h⟩ := h
  replace h := ob h; obtain ⟨r2, h4, h⟩ := h
  replace h4 := zbqn q (M + 5) (by omega) _ _ h4
  replace h := bb h; rcases h with ⟨h5', h5, h⟩ | ⟨h5', h5, h⟩
  ·cases h; subst hR; simp only [zbqp, simprocAttr, *]
  ·replace h := zbsf M (by omega) j (by omega) _ _ _ _ _ h R hR
   simp only [zbqp, simprocAttr, *]
 ·cases h; subst hR; simp only [zbqp, simprocAttr, *]
theorem zbqr : ∀ q, zbqo q
 | 0 => by intro M hM j hj; intros; rename_i h _ _ _ _ _; cases h
 | q + 1 => by have i0 := zbqr q; exact zbqq q i0
theorem zbqs : ∀ (q M : Nat), 8 * q ≤ M → ∀ (v0z : Bool), ∀ (v0l : List Int), ∀ (r : Int), zm1 q v0z v0l = some r → (orc T (M + 6)).inl F.zn5 [(.sl v0z (List.map (V.int .i64) v0l)), (.fn F.zmz [])] [] = (some ([(.int .i64 r)], []) : Option (List V × Hp)) := by
 intro q M hM v0z v0l r h
 rcases q with _ | q
 ·cases h
 have zbsf := (zbqr q)
 generalize hR : (some ([(.int .i64 r)], []) : Option (List V × Hp)) = R
 rw [zbfs (n := M + 5)]
 rw [zm1] at h
 replace h := zbsf M (by omega) (M + 5) (by omega) _ _ _ _ _ h R hR
 simp only [zbqp, simprocAttr, *]
def zbqt := And.intro @kk <| And.intro @ke <| And.intro @kn <| And.intro @zbdz <| And.intro @zbe5 <| And.intro @zbfr <| And.intro @zbd0 <| And.intro @zbd1 <| @zbe7
theorem zbqu : ∀ (q N : Nat), 8 * q ≤ N → ∀ (a0 : (Sl Int)), ∀ (r : Bool), zm2 q a0 = some r → (orc T N).deep F.zm2 [(Sl.enc (V.int .i64)) a0] = some [V.bool r] := by
 intro q N hM a0 r h
 rcases q with _ | q
 ·cases h
 obtain ⟨M, rfl⟩ : ∃ M, N = M + 8 := ⟨N - 8, by omega⟩
 generalize hR : some [V.bool r] = R
 rw [zhy, z93, y6, zhw z1u rfl]
 rw [zm2] at h
 replace h := ob h; obtain ⟨r1, h1, h⟩ := h
 replace h1 := zbqs q M (by omega) _ _ _ h1
 try simp only [kf, simprocAttr] at h1
 cases h; subst hR; simp only [zbqt, simprocAttr, *]
def zbqv := And.intro @kk <| And.intro @ke <| And.intro @kn <| And.intro @zbe2 <| @zbe4
theorem zbqw : ∀ (q N : Nat), 8 * q ≤ N → ∀ (a0 : Int), ∀ (r : Bool), zm3 q a0 = some r → (orc T N).deep F.zm3 [(V.int .i64) a0] = some [V.bool r] := by
 intro q N hM a0 r h
 rcases q with _ | q
 ·cases h
 obtain ⟨M, rfl⟩ : ∃ M, N = M + 8 := ⟨N - 8, by omega⟩
 generalize hR : some [V.bool r] = R
 rw [zhy, z92, y6, zhw z1p rfl]
 rw [zm3] at h
 replace h := br h; rcases h with ⟨h1, h⟩ | ⟨h1, h⟩
 ·cases h; subst hR; simp only [zbqv, simprocAttr, *]
 ·cases h; subst hR; simp only [zbqv, simprocAttr, *]
def zbqx (q : Nat) : Prop := ∀ (M : Nat) (hM : 8 * q ≤ M) (j : Nat) (hj : q ≤ j) (v0z : Bool) (v0l : List zjq) (v5z : Bool) (v5l : List zjq) (v6 v7 : Int) (r : Bool) (_ : zm4 q v0z v0l v5z v5l v6 v7 = some r) (R : Option (List V)) (_ : some [V.bool r] = R) (fr : Fr) (H : Hp) (_ : canon 0 [0, 5, 6, 7] fr H = ([(0, (.sl v0z (List.map zjq.enc v0l))), (5, (.sl v5z (List.map zjq.enc v5l))), (6, (.int .i64 v6)), (7, (.int .i64 v7))], [])), fin z2d (unw T (orc T (M + 7)) (M + 7) 0 [.blk 0, .code z2a] (iter 0 [0, 5, 6, 7] (exec T (orc T (M + 7)) (M + 7) 0 z17) j fr H)) = R
def zbqy := And.intro @kk <| And.intro @ke <| And.intro @kn <| And.intro @zbe8 <| And.intro @zbe6 <| @zbfa
theorem zbqz (q : Nat) (zbsg : zbqx q) : zbqx (q + 1) := by
 intro M hM j hj v0z v0l v5z v5l v6 v7 r h R hR fr H hc
 obtain ⟨j, rfl⟩ : ∃ i, j = i + 1 := ⟨j - 1, by omega⟩
 rw [zho, hc]; clear hc
 rw [zm4] at h
 replace h := br h; rcases h with ⟨h1, h⟩ | ⟨h1, h⟩
 ·replace h := bn h; obtain ⟨h2, h⟩ := h
  replace h := ob h; obtain ⟨e1, h3, h⟩ := h
  replace h := ob h; obtain ⟨r2, h4, h⟩ := h
  replace h4 := zbqu q (M + 7) (by omega) _ _ h4
  try simp only [kf, simprocAttr] at h4
  replace h := bb h; rcases h with ⟨h5', h5, h⟩ | ⟨h5', h5, h⟩
  ·replace h := br h; rcases h with ⟨h6, h⟩ | ⟨h6, h⟩
   ·cases h; subst hR; simp only [zbqy, simprocAttr, *]
   ·replace h := br h; rcases h with ⟨h7, h⟩ | ⟨h7, h⟩
    ·cases h; subst hR; simp only [zbqy, simprocAttr, *]
    ·replace h := br h; rcases h with ⟨h8, h⟩ | ⟨h8, h⟩
     ·cases h; subst hR; simp only [zbqy, simprocAttr, *]
     ·replace h := br h; rcases h with ⟨h9, h⟩ | ⟨h9, h⟩
      ·replace h := bn h; obtain ⟨h10, h⟩ := h
       replace h := ob h; obtain ⟨e3, h11, h⟩ := h
       replace h := br h; rcases h with ⟨h12, h⟩ | ⟨h12, h⟩
       ·cases h; subst hR; simp only [zbqy, simprocAttr, *]
       ·replace h := zbsg M (by omega) j (by omega) _ _ _ _ _ _ _ h R hR
        simp only [zbqy, simprocAttr, *]
      ·replace h := zbsg M (by omega) j (by omega) _ _ _ _ _ _ _ h R hR
       simp only [zbqy, simprocAttr, *]
  ·cases h; subst hR; simp only [zbqy, simprocAttr, *]
 ·cases h; subst hR; simp only [zbqy, simprocAttr, *]
theorem zbq0 : ∀ q, zbqx q
 | 0 => by intro M hM j hj; intros; rename_i h _ _ _ _ _; cases h
 | q + 1 => by have i0 := zbq0 q; exact zbqz q i0
theorem zbq1 : ∀ (q N : Nat), 8 * q ≤ N → ∀ (a0 : (Sl zjq)), ∀ (r : Bool), zm5 q a0 = some r → (orc T N).deep F.zm5 [(Sl.enc zjq.enc) a0] = some [V.bool r] := by
 intro q N hM a0 r h
 rcases q with _ | q
 ·cases h
 obtain ⟨M, rfl⟩ : ∃ M, N = M + 8 := ⟨N - 8, by omega⟩
 have zbsg := (zbq0 q)
 generalize hR : some [V.bool r] = R
 rw [zhy, z94, y6, zhw z2d rfl]
 rw [zm5] at h
 replace h := zbsg M (by omega) (M + 7) (by omega) _ _ _ _ _ _ _ h R hR
 simp only [zbqy, simprocAttr, *]
def zbq2 (q : Nat) : Prop := ∀ (M : Nat) (hM : 8 * q ≤ M) (j : Nat) (hj : q ≤ j) (w1 : Nat) (v0z : Bool) (v0l : List Int) (v7 v8 h0_0 h0_1 h0_2 h0_3 : Int) (h0_4z : Bool) (h0_4l : List Int) (h0_5 : Bool) (h0_6 : Int) (h0_7z : Bool) (h0_7l : List zjq) (h1l : List Int) (r : Int) (_ : zm6 q v0z v0l v7 v8 h0_0 h0_1 h0_2 h0_3 h0_4z h0_4l h0_5 h0_6 h0_7z h0_7l h1l = some r) (R : Option (List V × Hp)) (_ : (some ([(.int .i64 r)], [(.box [(.int .i64 h0_0), (.int .i64 h0_1), (.int .i64 h0_2), (.int .i64 h0_3), (.sl h0_4z (List.map (V.int .i64) h0_4l)), (.bool h0_5), (.int .i64 h0_6), (.sl h0_7z (List.map zjq.enc h0_7l))]), (.row w1 false 1 (List.map (V.int .i64) h1l) true)]) : Option (List V × Hp)) = R) (fr : Fr) (H : Hp) (_ : canon 2 [0, 1, 7, 8] fr H = ([(0, (.sl v0z (List.map (V.int .i64) v0l))), (1, (.fn F.zm3 [])), (7, (.int .i64 v7)), (8, (.int .i64 v8))], [(.box [(.int .i64 h0_0), (.int .i64 h0_1), (.int .i64 h0_2), (.int .i64 h0_3), (.sl h0_4z (List.map (V.int .i64) h0_4l)), (.bool h0_5), (.int .i64 h0_6), (.sl h0_7z (List.map zjq.enc h0_7l))]), (.row w1 false 1 (List.map (V.int .i64) h1l) true)])), finI 2 false [.tmp 4] (unw T (orc T (M + 5)) (M + 5) 2 [.blk 0, .code z4t] (iter 2 [0, 1, 7, 8] (exec T (orc T (M + 5)) (M + 5) 2 z4q) j fr H)) = R
def zbq3 := And.intro @kk <| And.intro @ke <| And.intro @kn <| And.intro @zbfq <| @zbe3
theorem zbq4 (q : Nat) (zbsh : zbq2 q) : zbq2 (q + 1) := by
 intro M hM j hj w1 v0z v0l v7 v8 h0_0 h0_1 h0_2 h0_3 h0_4z h0_4l h0_5 h0_6 h0_7z h0_7l h1l r h R hR fr H hc
 obtain ⟨j, rfl⟩ : ∃ i, j = i + 1 := ⟨j - 1, by omega⟩
 rw [zho, hc]; clear hc
 rw [zm6] at h
 replace h := br h; rcases h with ⟨h1, h⟩ | ⟨h1, h⟩
 ·replace h := bn h; obtain ⟨h2, h⟩ := h
  replace h := ob h; obtain ⟨e1, h3, h⟩ := h
  replace h := ob h; obtain ⟨r2, h4, h⟩ := h
  replace h4 := zbqw q (M + 5) (by omega) _ _ h4
  replace h := bb h; rcases h with ⟨h5', h5, h⟩ | ⟨h5', h5, h⟩
  ·cases h; subst hR; simp only [zbq3, simprocAttr, *]
  ·replace h := zbsh M (by omega) j (by omega) w1 _ _ _ _ _ _ _ _ _ _ _ _ _ _ _ _ h R hR
   simp only [zbq3, simprocAttr, *]
 ·cases h; subst hR; simp only [zbq3, simprocAttr, *]
theorem zbq5 : ∀ q, zbq2 q
 | 0 => by intro M hM j hj; intros; rename_i h _ _ _ _ _; cases h
 | q + 1 => by have i0 := zbq5 q; exact zbq4 q i0
theorem zbq6 : ∀ (q M : Nat), 8 * q ≤ M → ∀ (w1 : Nat), ∀ (v0z : Bool), ∀ (v0l : List Int), ∀ (h0_0 h0_1 h0_2 h0_3 : Int), ∀ (h0_4z : Bool), ∀ (h0_4l : List Int), ∀ (h0_5 : Bool), ∀ (h0_6 : Int), ∀ (h0_7z : Bool), ∀ (h0_7l : List zjq), ∀ (h1l : List Int), ∀ (r : Int), zm7 q v0z v0l h0_0 h0_1 h0_2 h0_3 h0_4z h0_4l h0_5 h0_6 h0_7z h0_7l h1l = some r → (orc T (M + 6)).inl F.zn5 [(.sl v0z (List.map (V.int .i64) v0l)), (.fn F.zm3 [])] [(.box [(.int .i64 h0_0), (.int .i64 h0_1), (.int .i64 h0_2), (.int .i64 h0_3), (.sl h0_4z (List.map (V.int .i64) h0_4l)), (.bool h0_5), (.int .i64 h0_6), (.sl h0_7z (List.map zjq.enc h0_7l))]), (.row w1 false 1 (List.map (V.int .i64) h1l) true)] = (some ([(.int .i64 r)], [(.box [(.int .i64 h0_0), (.int .i64 h0_1), (.int .i64 h0_2), (.int .i64 h0_3), (.sl h0_4z (List.map (V.int .i64) h0_4l)), (.bool h0_5), (.int .i64 h0_6), (.sl h0_7z (List.map zjq.enc h0_7l))]), (.row w1 false 1 (List.map (V.int .i64) h1l) true)]) : Option (List V × Hp)) := by
 intro q M hM w1 v0z v0l h0_0 h0_1 h0_2 h0_3 h0_4z h0_4l h0_5 h0_6 h0_7z h0_7l h1l r h
 rcases q with _ | q
 ·cases h
 have zbsh := (zbq5 q)
 generalize hR : (some ([(.int .i64 r)], [(.box [(.int .i64 h0_0), (.int .i64 h0_1), (.int .i64 h0_2), (.int .i64 h0_3), (.sl h0_4z (List.map (V.int .i64) h0_4l)), (.bool h0_5), (.int .i64 h0_6), (.sl h0_7z (List.map zjq.enc h0_7l))]), (.row w1 false 1 (List.map (V.int .i64) h1l) true)]) : Option (List V × Hp)) = R
 rw [zbfs (n := M + 5)]
 rw [zm7] at h
 replace h := zbsh M (by omega) (M + 5) (by omega) w1 _ _ _ _ _ _ _ _ _ _ _ _ _ _ _ _ h R hR
 simp only [zbq3, simprocAttr, *]
def zbq7 := And.intro @kk <| And.intro @ke <| And.intro @kn <| And.intro @zbco <| And.intro @zbdz <| And.intro @zbe6 <| And.intro @zbe9 <| And.intro @zbfr <| And.intro @zbd0 <| And.intro @zbd1 <| @zbcq
theorem zbq8 : ∀ (q N : Nat), 8 * q ≤ N → ∀ (a0 : zjs), ∀ (r : Bool), zm8 q a0 = some r → (orc T N).deep F.zm8 [zjs.enc a0] = some [V.bool r] := by
 intro q N hM a0 r h
 rcases q with _ | q
 ·cases h
 obtain ⟨M, rfl⟩ : ∃ M, N = M + 8 := ⟨N - 8, by omega⟩
 generalize hR : some [V.bool r] = R
 rw [zhy, z89, y6, zhw zvx rfl]
 rw [zm8] at h
 replace h := ob h; obtain ⟨r1, h1, h⟩ := h
 replace h1 := zbqu q (M + 7) (by omega) _ _ h1
 try simp only [kf, simprocAttr] at h1
 replace h := bb h; rcases h with ⟨h2', h2, h⟩ | ⟨h2', h2, h⟩
 ·replace h := br h; rcases h with ⟨h3, h⟩ | ⟨h3, h⟩
  ·replace h := ob h; obtain ⟨r2, h4, h⟩ := h
   replace h4 := zbq6 q M (by omega) 0 _ _ _ _ _ _ _ _ _ _ _ _ _ _ h4
   try simp only [kf, simprocAttr] at h4
   replace h := br h; rcases h with ⟨h5, h⟩ | ⟨h5, h⟩
   ·cases h; subst hR; simp only [zbq7, simprocAttr, *]
   ·replace h := br h; rcases h with ⟨h6, h⟩ | ⟨h6, h⟩
    ·replace h := br h; rcases h with ⟨h7, h⟩ | ⟨h7, h⟩
     ·replace h := bb h; rcases h with ⟨h8', h8, h⟩ | ⟨h8', h8, h⟩
      ·replace h := ob h; obtain ⟨r3, h9, h⟩ := h
       replace h9 := zbq1 q (M + 7) (by omega) _ _ h9
       try simp only [kf, simprocAttr] at h9
       cases h; subst hR; simp only [zbq7, simprocAttr, *]
      ·replace h := br h; rcases h with ⟨h10, h⟩ | ⟨h10, h⟩
       ·replace h := ob h; obtain ⟨r4, h11, h⟩ := h
        replace h11 := zbq1 q (M + 7) (by omega) _ _ h11
        try simp only [kf, simprocAttr] at h11
        cases h; subst hR; simp only [zbq7, simprocAttr, *]
       ·cases h; subst hR; simp only [zbq7, simprocAttr, *]
     ·cases h; subst hR; simp only [zbq7, simprocAttr, *]
    ·cases h; subst hR; simp only [zbq7, simprocAttr, *]
  ·cases h; subst hR; simp only [zbq7, simprocAttr, *]
 ·cases h; subst hR; simp only [zbq7, simprocAttr, *]
def zbq9 := And.intro @kk <| And.intro @ke <| And.intro @kn <| And.intro @zba6 <| And.intro @zbcj <| And.intro @zbcm <| And.intro @zbcp <| @zba8
theorem zbra : ∀ (q N : Nat), 8 * q ≤ N → ∀ (a0 : (Sl Int)), ∀ (r : zjs × Int), zm9 q a0 = some r → (orc T N).deep F.zm9 [(Sl.enc (V.int .u8)) a0] = some [zjs.enc r.1, (V.int .i64) r.2] := by
 intro q N hM a0 r h
 rcases q with _ | q
 ·cases h
 obtain ⟨M, rfl⟩ : ∃ M, N = M + 8 := ⟨N - 8, by omega⟩
 generalize hR : some [zjs.enc r.1, (V.int .i64) r.2] = R
 rw [zhy, z8r, y6, zhw zql rfl]
 rw [zm9] at h
 replace h := ob h; obtain ⟨r1, h1, h⟩ := h
 replace h1 := zbnf q (M + 7) (by omega) _ _ h1
 try simp only [kf, simprocAttr] at h1
 replace h := br h; rcases h with ⟨h2, h⟩ | ⟨h2, h⟩
 ·replace h := br h; rcases h with ⟨h3, h⟩ | ⟨h3, h⟩
  ·replace h := ob h; obtain ⟨r2, h4, h⟩ := h
   replace h4 := zbql q (M + 7) (by omega) _ _ h4
   try simp only [kf, simprocAttr] at h4
   replace h := bb h; rcases h with ⟨h5', h5, h⟩ | ⟨h5', h5, h⟩
   ·replace h := ob h; obtain ⟨r3, h6, h⟩ := h
    replace h6 := zbq8 q (M + 7) (by omega) _ _ h6
    try simp only [kf, simprocAttr] at h6
    replace h := bb h; rcases h with ⟨h7', h7, h⟩ | ⟨h7', h7, h⟩
    ·cases h; subst hR; simp only [zbq9, simprocAttr, *]
    ·cases h; subst hR; simp only [zbq9, simprocAttr, *]
   ·cases h; subst hR; simp only [zbq9, simprocAttr, *]
  ·cases h; subst hR; simp only [zbq9, simprocAttr, *]
 ·cases h; subst hR; simp only [zbq9, simprocAttr, *]
def zbrb (q : Nat) : Prop := ∀ (M : Nat) (hM : 8 * q ≤ M) (j : Nat) (hj : q ≤ j) (w0 : Nat) (v1 : Int) (h0z : Bool) (h0l : List Int) (h0x : Bool) (r : (Ow Int)) (_ : zna q v1 h0z h0l h0x = some r) (R : Option (List V)) (_ : some [(Ow.enc 1 (V.int .u8)) r] = R) (fr : Fr) (H : Hp) (_ : canon 1 [0, 1] fr H = ([(0, (.vw 0 w0 0 h0l.length 1)), (1, (.int .u64 v1))], [(.row w0 h0z 1 (List.map (V.int .u8) h0l) h0x)])), fin z2q (unw T (orc T (M + 7)) (M + 7) 1 [.blk 0, .code z2n] (iter 1 [0, 1] (exec T (orc T (M + 7)) (M + 7) 1 z2l) j fr H)) = R
def zbrc := And.intro @kk <| And.intro @ke <| And.intro @kn <| And.intro @zbfb <| @zbfd
theorem zbrd (q : Nat) (zbsi : zbrb q) : zbrb (q + 1) := by
 intro M hM j hj w0 v1 h0z h0l h0x r h R hR fr H hc
 obtain ⟨j, rfl⟩ : ∃ i, j = i + 1 := ⟨j - 1, by omega⟩
 rw [zho, hc]; clear hc
 rw [zna] at h
 replace h := br h; rcases h with ⟨h1, h⟩ | ⟨h1, h⟩
 ·replace h := bn h; obtain ⟨h2, h⟩ := h
  replace h := zbsi M (by omega) j (by omega) (w0 + 1) _ _ _ _ _ h R hR
  simp only [zbrc, simprocAttr, *]
 ·replace h := bn h; obtain ⟨h3, h⟩ := h
  cases h; subst hR; simp only [zbrc, simprocAttr, *]
theorem zbre : ∀ q, zbrb q
 | 0 => by intro M hM j hj; intros; rename_i h _ _ _ _ _; cases h
 | q + 1 => by have i0 := zbre q; exact zbrd q i0
theorem zbrf : ∀ (q N : Nat), 8 * q ≤ N → ∀ (a0 : (Ow Int)) (a1 : Int), ∀ (r : (Ow Int)), znb q a0 a1 = some r → (orc T N).deep F.znb [(Ow.enc 1 (V.int .u8)) a0, (V.int .u64) a1] = some [(Ow.enc 1 (V.int .u8)) r] := by
 intro q N hM a0 a1 r h
 rcases q with _ | q
 ·cases h
 obtain ⟨M, rfl⟩ : ∃ M, N = M + 8 := ⟨N - 8, by omega⟩
 have zbsi := (zbre q)
 generalize hR : some [(Ow.enc 1 (V.int .u8)) r] = R
 rw [zhy, z95, y6, zhw z2q rfl]
 rw [znb] at h
 replace h := zbsi M (by omega) (M + 7) (by omega) 0 _ _ _ _ _ h R hR
 simp only [zbrc, simprocAttr, *]
def zbrg := And.intro @kk <| And.intro @ke <| And.intro @kn <| And.intro @zbdk <| And.intro @zbfc <| @zbdm
theorem zbrh : ∀ (q N : Nat), 8 * q ≤ N → ∀ (a0 : (Ow Int)) (a1 : Int), ∀ (r : (Ow Int)), znc q a0 a1 = some r → (orc T N).deep F.znc [(Ow.enc 1 (V.int .u8)) a0, (V.int .i64) a1] = some [(Ow.enc 1 (V.int .u8)) r] := by
 intro q N hM a0 a1 r h
 rcases q with _ | q
 ·cases h
 obtain ⟨M, rfl⟩ : ∃ M, N = M + 8 := ⟨N - 8, by omega⟩
 generalize hR : some [(Ow.enc 1 (V.int .u8)) r] = R
 rw [zhy, z9k, y6, zhw zxq rfl]
 rw [znc] at h
 replace h := br h; rcases h with ⟨h1, h⟩ | ⟨h1, h⟩
 ·cases h; subst hR; simp only [zbrg, simprocAttr, *]
 ·replace h := br h; rcases h with ⟨h2, h⟩ | ⟨h2, h⟩
  ·cases h; subst hR; simp only [zbrg, simprocAttr, *]
  ·replace h := ob h; obtain ⟨r1, h3, h⟩ := h
   replace h3 := zbrf q (M + 7) (by omega) _ _ _ h3
   try simp only [kf, simprocAttr] at h3
   cases h; subst hR; simp only [zbrg, simprocAttr, *]
def zbri (q : Nat) : Prop := ∀ (M : Nat) (hM : 8 * q ≤ M) (j : Nat) (hj : q ≤ j) (w0 : Nat) (v7z : Bool) (v7l : List Int) (v8 : Int) (h0z : Bool) (h0l : List Int) (h0x : Bool) (r : (Ow Int)) (_ : zne q v7z v7l v8 h0z h0l h0x = some r) (R : Option (List V)) (_ : some [(Ow.enc 1 (V.int .u8)) r] = R) (fr : Fr) (H : Hp) (_ : canon 1 [0, 7, 8, 9] fr H = ([(0, (.vw 0 w0 0 h0l.length 1)), (7, (.sl v7z (List.map (V.int .i64) v7l))), (8, (.int .i64 v8)), (9, (.int .i64 0))], [(.row w0 h0z 1 (List.map (V.int .u8) h0l) h0x)])), fin zv5 (unw T (orc T (M + 7)) (M + 7) 1 [.blk 0, .code zv2] (iter 1 [0, 7, 8, 9] (exec T (orc T (M + 7)) (M + 7) 1 zvz) j fr H)) = R
def zbrj (q : Nat) : Prop := ∀ (M : Nat) (hM : 8 * q ≤ M) (j : Nat) (hj : q ≤ j) (v7z : Bool) (v7l : List Int) (v8 v9 : Int) (h1z : Bool) (h1l : List Int) (h1x : Bool) (r : (Ow Int)) (_ : znd q v7z v7l v8 v9 h1z h1l h1x = some r) (R : Option (List V)) (_ : some [(Ow.enc 1 (V.int .u8)) r] = R) (fr : Fr) (H : Hp) (_ : canon 1 [0, 7, 8, 9] fr H = ([(0, (.vw 1 0 0 h1l.length 1)), (7, (.sl v7z (List.map (V.int .i64) v7l))), (8, (.int .i64 v8)), (9, (.int .i64 v9))], [.dead, (.row 0 h1z 1 (List.map (V.int .u8) h1l) h1x)])), fin zv5 (unw T (orc T (M + 7)) (M + 7) 1 [.blk 0, .code zv2] (iter 1 [0, 7, 8, 9] (exec T (orc T (M + 7)) (M + 7) 1 zvz) j fr H)) = R
def zbrk := And.intro @kk <| And.intro @ke <| And.intro @kn <| And.intro @zbcr <| And.intro @zbdl <| @zbct
theorem zbrl (q : Nat) (zbsj : zbrj q) : zbri (q + 1) := by
 intro M hM j hj w0 v7z v7l v8 h0z h0l h0x r h R hR fr H hc
 obtain ⟨j, rfl⟩ : ∃ i, j = i + 1 := ⟨j - 1, by omega⟩
 rw [zho, hc]; clear hc
 rw [zne] at h
 replace h := br h; rcases h with ⟨h1, h⟩ | ⟨h1, h⟩
 ·replace h := ob h; obtain ⟨e1, h2, h⟩ := h
  replace h := ob h; obtain ⟨r2, h3, h⟩ := h
  replace h3 := zbrh q (M + 7) (by omega) _ _ _ h3
  try simp only [kf, simprocAttr] at h3
  replace h := zbsj M (by omega) j (by omega) _ _ _ _ _ _ _ _ h R hR
  simp only [zbrk, simprocAttr, *]
 ·cases h; subst hR; simp only [zbrk, simprocAttr, *]
theorem zbrm (q : Nat) (zbsj : zbrj q) : zbrj (q + 1) := by
 intro M hM j hj v7z v7l v8 v9 h1z h1l h1x r h R hR fr H hc
 obtain ⟨j, rfl⟩ : ∃ i, j = i + 1 := ⟨j - 1, by omega⟩
 rw [zho, hc]; clear hc
 rw [znd] at h
 replace h := br h; rcases h with ⟨h1, h⟩ | ⟨h1, h⟩
 ·replace h := bn h; obtain ⟨h2, h⟩ := h
  replace h := ob h; obtain ⟨e3, h3, h⟩ := h
  replace h := ob h; obtain ⟨r4, h4, h⟩ := h
  replace h4 := zbrh q (M + 7) (by omega) _ _ _ h4
  try simp only [kf, simprocAttr] at h4
  replace h := zbsj M (by omega) j (by omega) _ _ _ _ _ _ _ _ h R hR
  simp only [zbrk, simprocAttr, *]
 ·cases h; subst hR; simp only [zbrk, simprocAttr, *]
theorem zbrn : ∀ q, zbri q ∧ zbrj q
 | 0 => by refine ⟨?_, ?_⟩ <;> (intro M hM j hj; intros; rename_i h _ _ _ _ _; cases h)
 | q + 1 => by have ⟨i0, i1⟩ := zbrn q; exact ⟨zbrl q i1, zbrm q i1⟩
theorem zbro : ∀ (q N : Nat), 8 * q ≤ N → ∀ (a0 : (Ow Int)) (a1 : (Sl Int)), ∀ (r : (Ow Int)), znf q a0 a1 = some r → (orc T N).deep F.znf [(Ow.enc 1 (V.int .u8)) a0, (Sl.enc (V.int .i64)) a1] = some [(Ow.enc 1 (V.int .u8)) r] := by
 intro q N hM a0 a1 r h
 rcases q with _ | q
 ·cases h
 obtain ⟨M, rfl⟩ : ∃ M, N = M + 8 := ⟨N - 8, by omega⟩
 have ih_delta_puts_l0 := (zbrn q).1
 generalize hR : some [(Ow.enc 1 (V.int .u8)) r] = R
 rw [zhy, z9a, y6, zhw zv5 rfl]
 rw [znf] at h
 replace h := ih_delta_puts_l0 M (by omega) (M + 7) (by omega) 0 _ _ _ _ _ _ _ h R hR
 simp only [zbrk, simprocAttr, *]
def zbrp := And.intro @kk <| And.intro @ke <| And.intro @kn <| And.intro @zbfe <| @zbfg
theorem zbrq : ∀ (q N : Nat), 8 * q ≤ N → ∀ (a0 r : Int), zng q a0 = some r → (orc T N).deep F.zng [(V.int .i64) a0] = some [(V.int .u64) r] := by
 intro q N hM a0 r h
 rcases q with _ | q
 ·cases h
 obtain ⟨M, rfl⟩ : ∃ M, N = M + 8 := ⟨N - 8, by omega⟩
 generalize hR : some [(V.int .u64) r] = R
 rw [zhy, z96, y6, zhw z2v rfl]
 rw [zng] at h
 cases h; subst hR; simp only [zbrp, simprocAttr, *]
def zbrr := And.intro @kk <| And.intro @ke <| And.intro @kn <| And.intro @zbcu <| And.intro @zbfc <| And.intro @zbff <| @zbcw
theorem zbrs : ∀ (q N : Nat), 8 * q ≤ N → ∀ (a0 : (Ow Int)) (a1 : Int), ∀ (r : (Ow Int)), znh q a0 a1 = some r → (orc T N).deep F.znh [(Ow.enc 1 (V.int .u8)) a0, (V.int .i64) a1] = some [(Ow.enc 1 (V.int .u8)) r] := by
 intro q N hM a0 a1 r h
 rcases q with _ | q
 ·cases h
 obtain ⟨M, rfl⟩ : ∃ M, N = M + 8 := ⟨N - 8, by omega⟩
 generalize hR : some [(Ow.enc 1 (V.int .u8)) r] = R
 rw [zhy, z9b, y6, zhw zv7 rfl]
 rw [znh] at h
 replace h := ob h; obtain ⟨r1, h1, h⟩ := h
 replace h1 := zbrq q (M + 7) (by omega) _ _ h1
 replace h := ob h; obtain ⟨r2, h2, h⟩ := h
 replace h2 := zbrf q (M + 7) (by omega) _ _ _ h2
 try simp only [kf, simprocAttr] at h2
 cases h; subst hR; simp only [zbrr, simprocAttr, *]
end Go.Dvm.C
