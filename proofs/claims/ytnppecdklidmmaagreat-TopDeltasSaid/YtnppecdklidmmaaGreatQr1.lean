/- The machine comes to these answers: part 2. -/
import Derived.Test.YtnppecdklidmmaaGreatQl0
import Derived.Test.YtnppecdklidmmaaGreatQr0
set_option linter.all false
set_option maxRecDepth 100000
set_option maxHeartbeats 4000000
namespace Go.Dvm.C
open Go Go.Dvm Go.Dvm.I
def zb0b (q : Nat) : Prop := ∀ M, 8 * q ≤ M → ∀ j, q ≤ j → ∀ (w6 : Nat) (h6l : List zj6) (r : Nat), zma q h6l = some r → LS T (M + 1) 8 [0, 1, 7, 8] [.blk 0, .code (.seq (.reg z7r) .ret)] z7q j (finI 8 false [.tmp 4]) ((some ([(.int .i64 (-1))], [(.box [(.int .i64 10000), (.mp 1), (.mp 2), (.sl true []), (.bool false), (.bool false), (.int .i64 0)]), (.pmap []), (.pmap []), (.box [(.sl true [])]), (.box [(.int .i64 0), (.ptr 0 0), .nilp, (.ptr 3 0), (.sl true []), .any]), (.box [(.ptr 0 0), (.int .i64 0), (.vw 6 w6 0 r 1), (.sl true []), (.sl true []), (.int .i64 0), (.int .i64 0), (.int .i64 0), (.int .i64 0), (.sl true []), (.bool false), (.int .i64 0), (.sl true []), (.int .i64 0), (.bool false)]), (.row w6 false 6 (List.map zj6.enc h6l) true), (.box [(.int .i64 3)])]) : Option (List V × Hp))) [(0, (.sl true [])), (1, (.fn F.zqt [(.ptr 7 0)])), (7, (.int .i64 0)), (8, (.int .i64 0))] [(.box [(.int .i64 10000), (.mp 1), (.mp 2), (.sl true []), (.bool false), (.bool false), (.int .i64 0)]), (.pmap []), (.pmap []), (.box [(.sl true [])]), (.box [(.int .i64 0), (.ptr 0 0), .nilp, (.ptr 3 0), (.sl true []), .any]), (.box [(.ptr 0 0), (.int .i64 0), (.vw 6 w6 0 h6l.length 1), (.sl true []), (.sl true []), (.int .i64 0), (.int .i64 0), (.int .i64 0), (.int .i64 0), (.sl true []), (.bool false), (.int .i64 0), (.sl true []), (.int .i64 0), (.bool false)]), (.row w6 false 6 (List.map zj6.enc h6l) true), (.box [(.int .i64 3)])]
def zb0c := y5 @kk <| y5 @ke <| y5 @kn <| y5 @wl <| @zbo8
theorem zb0d (q : Nat) : zb0b (q + 1) := by
 intro M hM j hj w6 h6l r h R hR fr H hc
 obtain ⟨j, rfl⟩ : ∃ i, j = i + 1 := ⟨j - 1, by omega⟩
 rw [zhy, hc]; clear hc
 rw [zma] at h
 cases h; subst hR; simp only [zb0c, simprocAttr, *]
theorem zb0e : ∀ q, zb0b q
 | 0 => by intro M hM j hj; intros; rename_i h; cases h
 | q + 1 => by have i0 := zb0e q; exact zb0d q
theorem zb0f : ∀ (q M : Nat), 8 * q ≤ M → ∀ (w6 : Nat), ∀ (h6l : List zj6), ∀ (r : Nat), zmb q h6l = some r → (orc T (M + 2)).inl F.zqh [(.sl true []), (.fn F.zqt [(.ptr 7 0)])] [(.box [(.int .i64 10000), (.mp 1), (.mp 2), (.sl true []), (.bool false), (.bool false), (.int .i64 0)]), (.pmap []), (.pmap []), (.box [(.sl true [])]), (.box [(.int .i64 0), (.ptr 0 0), .nilp, (.ptr 3 0), (.sl true []), .any]), (.box [(.ptr 0 0), (.int .i64 0), (.vw 6 w6 0 h6l.length 1), (.sl true []), (.sl true []), (.int .i64 0), (.int .i64 0), (.int .i64 0), (.int .i64 0), (.sl true []), (.bool false), (.int .i64 0), (.sl true []), (.int .i64 0), (.bool false)]), (.row w6 false 6 (List.map zj6.enc h6l) true), (.box [(.int .i64 3)])] = (some ([(.int .i64 (-1))], [(.box [(.int .i64 10000), (.mp 1), (.mp 2), (.sl true []), (.bool false), (.bool false), (.int .i64 0)]), (.pmap []), (.pmap []), (.box [(.sl true [])]), (.box [(.int .i64 0), (.ptr 0 0), .nilp, (.ptr 3 0), (.sl true []), .any]), (.box [(.ptr 0 0), (.int .i64 0), (.vw 6 w6 0 r 1), (.sl true []), (.sl true []), (.int .i64 0), (.int .i64 0), (.int .i64 0), (.int .i64 0), (.sl true []), (.bool false), (.int .i64 0), (.sl true []), (.int .i64 0), (.bool false)]), (.row w6 false 6 (List.map zj6.enc h6l) true), (.box [(.int .i64 3)])]) : Option (List V × Hp)) := by
 intro q M hM w6 h6l r h
 rcases q with _ | q
 ·cases h
 have ih_ferrymantop_awake_s0_s0_s0_s0_l0 := (zb0e q)
 refine byR fun R hR => ?_
 rw [zbpa (n := M + 1)]
 rw [zmb] at h
 replace h := ih_ferrymantop_awake_s0_s0_s0_s0_l0 M (by omega) (M + 1) (by omega) w6 _ _ h R hR
 simp only [zb0c, simprocAttr, *]
def zb0g := y5 @kk <| y5 @ke <| y5 @kn <| y5 @wl <| y5 @zbrp <| @zbo9
theorem zb0h : ∀ (q M : Nat), 8 * q ≤ M → ∀ (w6 : Nat), ∀ (h6l : List zj6), ∀ (r : Nat), zmc q h6l = some r → (orc T (M + 3)).inl F.zqu [(.sl true []), (.fn F.zqt [(.ptr 7 0)])] [(.box [(.int .i64 10000), (.mp 1), (.mp 2), (.sl true []), (.bool false), (.bool false), (.int .i64 0)]), (.pmap []), (.pmap []), (.box [(.sl true [])]), (.box [(.int .i64 0), (.ptr 0 0), .nilp, (.ptr 3 0), (.sl true []), .any]), (.box [(.ptr 0 0), (.int .i64 0), (.vw 6 w6 0 h6l.length 1), (.sl true []), (.sl true []), (.int .i64 0), (.int .i64 0), (.int .i64 0), (.int .i64 0), (.sl true []), (.bool false), (.int .i64 0), (.sl true []), (.int .i64 0), (.bool false)]), (.row w6 false 6 (List.map zj6.enc h6l) true), (.box [(.int .i64 3)])] = (some ([(.sl true [])], [(.box [(.int .i64 10000), (.mp 1), (.mp 2), (.sl true []), (.bool false), (.bool false), (.int .i64 0)]), (.pmap []), (.pmap []), (.box [(.sl true [])]), (.box [(.int .i64 0), (.ptr 0 0), .nilp, (.ptr 3 0), (.sl true []), .any]), (.box [(.ptr 0 0), (.int .i64 0), (.vw 6 w6 0 r 1), (.sl true []), (.sl true []), (.int .i64 0), (.int .i64 0), (.int .i64 0), (.int .i64 0), (.sl true []), (.bool false), (.int .i64 0), (.sl true []), (.int .i64 0), (.bool false)]), (.row w6 false 6 (List.map zj6.enc h6l) true), (.box [(.int .i64 3)])]) : Option (List V × Hp)) := by
 intro q M hM w6 h6l r h
 rcases q with _ | q
 ·cases h
 refine byR fun R hR => ?_
 rw [zbrr (n := M + 2)]
 rw [zmc] at h
 replace h := ob h; obtain ⟨r1, h1, h⟩ := h
 replace h1 := zb0f q M (by omega) w6 _ _ h1
 try simp only [kf, simprocAttr] at h1
 cases h; subst hR; simp only [zb0g, simprocAttr, *]
def zb0i (q : Nat) : Prop := ∀ M, 8 * q ≤ M → ∀ j, q ≤ j → ∀ (w6 h5_2len : Nat) (h5_5 : Int) (h6l : List zj6) (r : Unit), zmd q h5_2len h5_5 h6l = some r → LS T (M + 1) 8 [0, 1, 7, 8] [.blk 0, .code (.seq (.reg z7r) .ret)] z7q j (finI 8 false [.tmp 4]) ((some ([(.int .i64 (-1))], [(.box [(.int .i64 10000), (.mp 1), (.mp 2), (.sl true []), (.bool false), (.bool false), (.int .i64 0)]), (.pmap []), (.pmap []), (.box [(.sl true [])]), (.box [(.int .i64 0), (.ptr 0 0), .nilp, (.ptr 3 0), (.sl true []), .any]), (.box [(.ptr 0 0), (.int .i64 0), (.vw 6 w6 0 h5_2len 1), (.sl true []), (.sl true []), (.int .i64 h5_5), (.int .i64 0), (.int .i64 0), (.int .i64 0), (.sl true []), (.bool false), (.int .i64 0), (.sl true []), (.int .i64 0), (.bool false)]), (.row w6 false 6 (List.map zj6.enc h6l) false), (.box [(.int .i64 2)])]) : Option (List V × Hp))) [(0, (.sl true [])), (1, (.fn F.zqt [(.ptr 7 0)])), (7, (.int .i64 0)), (8, (.int .i64 0))] [(.box [(.int .i64 10000), (.mp 1), (.mp 2), (.sl true []), (.bool false), (.bool false), (.int .i64 0)]), (.pmap []), (.pmap []), (.box [(.sl true [])]), (.box [(.int .i64 0), (.ptr 0 0), .nilp, (.ptr 3 0), (.sl true []), .any]), (.box [(.ptr 0 0), (.int .i64 0), (.vw 6 w6 0 h5_2len 1), (.sl true []), (.sl true []), (.int .i64 h5_5), (.int .i64 0), (.int .i64 0), (.int .i64 0), (.sl true []), (.bool false), (.int .i64 0), (.sl true []), (.int .i64 0), (.bool false)]), (.row w6 false 6 (List.map zj6.enc h6l) false), (.box [(.int .i64 2)])]
def zb0j := y5 @kk <| y5 @ke <| y5 @kn <| y5 @wl <| @zbo8
theorem zb0k (q : Nat) : zb0i (q + 1) := by
 intro M hM j hj w6 h5_2len h5_5 h6l r h R hR fr H hc
 obtain ⟨j, rfl⟩ : ∃ i, j = i + 1 := ⟨j - 1, by omega⟩
 rw [zhy, hc]; clear hc
 rw [zmd] at h
 cases h; subst hR; simp only [zb0j, simprocAttr, *]
theorem zb0l : ∀ q, zb0i q
 | 0 => by intro M hM j hj; intros; rename_i h; cases h
 | q + 1 => by have i0 := zb0l q; exact zb0k q
theorem zb0m : ∀ (q M : Nat), 8 * q ≤ M → ∀ (w6 h5_2len : Nat), ∀ (h5_5 : Int), ∀ (h6l : List zj6), ∀ (r : Unit), zme q h5_2len h5_5 h6l = some r → (orc T (M + 2)).inl F.zqh [(.sl true []), (.fn F.zqt [(.ptr 7 0)])] [(.box [(.int .i64 10000), (.mp 1), (.mp 2), (.sl true []), (.bool false), (.bool false), (.int .i64 0)]), (.pmap []), (.pmap []), (.box [(.sl true [])]), (.box [(.int .i64 0), (.ptr 0 0), .nilp, (.ptr 3 0), (.sl true []), .any]), (.box [(.ptr 0 0), (.int .i64 0), (.vw 6 w6 0 h5_2len 1), (.sl true []), (.sl true []), (.int .i64 h5_5), (.int .i64 0), (.int .i64 0), (.int .i64 0), (.sl true []), (.bool false), (.int .i64 0), (.sl true []), (.int .i64 0), (.bool false)]), (.row w6 false 6 (List.map zj6.enc h6l) false), (.box [(.int .i64 2)])] = (some ([(.int .i64 (-1))], [(.box [(.int .i64 10000), (.mp 1), (.mp 2), (.sl true []), (.bool false), (.bool false), (.int .i64 0)]), (.pmap []), (.pmap []), (.box [(.sl true [])]), (.box [(.int .i64 0), (.ptr 0 0), .nilp, (.ptr 3 0), (.sl true []), .any]), (.box [(.ptr 0 0), (.int .i64 0), (.vw 6 w6 0 h5_2len 1), (.sl true []), (.sl true []), (.int .i64 h5_5), (.int .i64 0), (.int .i64 0), (.int .i64 0), (.sl true []), (.bool false), (.int .i64 0), (.sl true []), (.int .i64 0), (.bool false)]), (.row w6 false 6 (List.map zj6.enc h6l) false), (.box [(.int .i64 2)])]) : Option (List V × Hp)) := by
 intro q M hM w6 h5_2len h5_5 h6l r h
 rcases q with _ | q
 ·cases h
 have ih_ferrymantop_awake_s0_s0_s1_s0_l0 := (zb0l q)
 refine byR fun R hR => ?_
 rw [zbpa (n := M + 1)]
 rw [zme] at h
 replace h := ih_ferrymantop_awake_s0_s0_s1_s0_l0 M (by omega) (M + 1) (by omega) w6 _ _ _ _ h R hR
 simp only [zb0j, simprocAttr, *]
def zb0n := y5 @kk <| y5 @ke <| y5 @kn <| y5 @wl <| y5 @zbrp <| @zbo9
theorem zb0o : ∀ (q M : Nat), 8 * q ≤ M → ∀ (w6 h5_2len : Nat), ∀ (h5_5 : Int), ∀ (h6l : List zj6), ∀ (r : Unit), zmf q h5_2len h5_5 h6l = some r → (orc T (M + 3)).inl F.zqu [(.sl true []), (.fn F.zqt [(.ptr 7 0)])] [(.box [(.int .i64 10000), (.mp 1), (.mp 2), (.sl true []), (.bool false), (.bool false), (.int .i64 0)]), (.pmap []), (.pmap []), (.box [(.sl true [])]), (.box [(.int .i64 0), (.ptr 0 0), .nilp, (.ptr 3 0), (.sl true []), .any]), (.box [(.ptr 0 0), (.int .i64 0), (.vw 6 w6 0 h5_2len 1), (.sl true []), (.sl true []), (.int .i64 h5_5), (.int .i64 0), (.int .i64 0), (.int .i64 0), (.sl true []), (.bool false), (.int .i64 0), (.sl true []), (.int .i64 0), (.bool false)]), (.row w6 false 6 (List.map zj6.enc h6l) false), (.box [(.int .i64 2)])] = (some ([(.sl true [])], [(.box [(.int .i64 10000), (.mp 1), (.mp 2), (.sl true []), (.bool false), (.bool false), (.int .i64 0)]), (.pmap []), (.pmap []), (.box [(.sl true [])]), (.box [(.int .i64 0), (.ptr 0 0), .nilp, (.ptr 3 0), (.sl true []), .any]), (.box [(.ptr 0 0), (.int .i64 0), (.vw 6 w6 0 h5_2len 1), (.sl true []), (.sl true []), (.int .i64 h5_5), (.int .i64 0), (.int .i64 0), (.int .i64 0), (.sl true []), (.bool false), (.int .i64 0), (.sl true []), (.int .i64 0), (.bool false)]), (.row w6 false 6 (List.map zj6.enc h6l) false), (.box [(.int .i64 2)])]) : Option (List V × Hp)) := by
 intro q M hM w6 h5_2len h5_5 h6l r h
 rcases q with _ | q
 ·cases h
 refine byR fun R hR => ?_
 rw [zbrr (n := M + 2)]
 rw [zmf] at h
 replace h := ob h; obtain ⟨r1, h1, h⟩ := h
 replace h1 := zb0m q M (by omega) w6 _ _ _ _ h1
 try simp only [kf, simprocAttr] at h1
 cases h; subst hR; simp only [zb0n, simprocAttr, *]
def zb0p (q : Nat) : Prop := ∀ M, 8 * q ≤ M → ∀ j, q ≤ j → ∀ (h5_2len : Nat) (h6l : List zj6) (r : Nat × Int × (List zj6)), zmh q h5_2len h6l = some r → LS T (M + 4) 6 [0, 29, 30, 31] [.blk 0, .code (.seq (.reg z44) (.seq (.reg z45) (.blk 2 (.loop [0, 82, 83, 84] z49))))] z43 j (finI 6 false []) ((some ([], [(.box [(.int .i64 10000), (.mp 1), (.mp 2), (.sl true []), (.bool false), (.bool false), (.int .i64 0)]), (.pmap []), (.pmap []), (.box [(.sl true [])]), (.box [(.int .i64 0), (.ptr 0 0), .nilp, (.ptr 3 0), (.sl true []), .any]), (.box [(.ptr 0 0), (.int .i64 0), (.vw 6 0 0 r.1 1), (.sl true []), (.sl true []), (.int .i64 r.2.1), (.int .i64 0), (.int .i64 0), (.int .i64 0), (.sl true []), (.bool false), (.int .i64 0), (.sl true []), (.int .i64 0), (.bool false)]), (.row 0 false 6 (List.map zj6.enc r.2.2) false)]) : Option (List V × Hp))) [(0, (.ptr 5 0)), (29, (.sl true [])), (30, (.int .i64 0)), (31, (.int .i64 0))] [(.box [(.int .i64 10000), (.mp 1), (.mp 2), (.sl true []), (.bool false), (.bool false), (.int .i64 0)]), (.pmap []), (.pmap []), (.box [(.sl true [])]), (.box [(.int .i64 0), (.ptr 0 0), .nilp, (.ptr 3 0), (.sl true []), .any]), (.box [(.ptr 0 0), (.int .i64 0), (.vw 6 0 0 h5_2len 1), (.sl true []), (.sl true []), (.int .i64 0), (.int .i64 0), (.int .i64 0), (.int .i64 0), (.sl true []), (.bool false), (.int .i64 0), (.sl true []), (.int .i64 0), (.bool false)]), (.row 0 false 6 (List.map zj6.enc h6l) true)]
def zb0q (q : Nat) : Prop := ∀ M, 8 * q ≤ M → ∀ j, q ≤ j → ∀ (h5_2len : Nat) (h5_5 : Int) (h6l : List zj6) (r : Nat × Int × (List zj6)), zmg q h5_2len h5_5 h6l = some r → LS T (M + 4) 6 [0, 82, 83, 84] [.blk 2] z49 j (finI 6 false []) ((some ([], [(.box [(.int .i64 10000), (.mp 1), (.mp 2), (.sl true []), (.bool false), (.bool false), (.int .i64 0)]), (.pmap []), (.pmap []), (.box [(.sl true [])]), (.box [(.int .i64 0), (.ptr 0 0), .nilp, (.ptr 3 0), (.sl true []), .any]), (.box [(.ptr 0 0), (.int .i64 0), (.vw 6 0 0 r.1 1), (.sl true []), (.sl true []), (.int .i64 r.2.1), (.int .i64 0), (.int .i64 0), (.int .i64 0), (.sl true []), (.bool false), (.int .i64 0), (.sl true []), (.int .i64 0), (.bool false)]), (.row 0 false 6 (List.map zj6.enc r.2.2) false)]) : Option (List V × Hp))) [(0, (.ptr 5 0)), (82, (.sl true [])), (83, (.int .i64 0)), (84, (.int .i64 0))] [(.box [(.int .i64 10000), (.mp 1), (.mp 2), (.sl true []), (.bool false), (.bool false), (.int .i64 0)]), (.pmap []), (.pmap []), (.box [(.sl true [])]), (.box [(.int .i64 0), (.ptr 0 0), .nilp, (.ptr 3 0), (.sl true []), .any]), (.box [(.ptr 0 0), (.int .i64 0), (.vw 6 0 0 h5_2len 1), (.sl true []), (.sl true []), (.int .i64 h5_5), (.int .i64 0), (.int .i64 0), (.int .i64 0), (.sl true []), (.bool false), (.int .i64 0), (.sl true []), (.int .i64 0), (.bool false)]), (.row 0 false 6 (List.map zj6.enc h6l) false)]
def zb0r := y5 @kk <| y5 @ke <| y5 @kn <| y5 @wl <| y5 @zboe <| y5 @zbok <| y5 @zbqn <| y5 @zbkm <| y5 @zbor <| y5 @zbq6 <| y5 @zbrq <| y5 @zbof <| y5 @zbog <| y5 @zbqo <| y5 @zbqp <| y5 @zbq8 <| @zbra
theorem zb0s (q : Nat) (zb4r : zb0q q) : zb0p (q + 1) := by
 intro M hM j hj h5_2len h6l r h R hR fr H hc
 obtain ⟨j, rfl⟩ : ∃ i, j = i + 1 := ⟨j - 1, by omega⟩
 rw [zhy, hc]; clear hc
 rw [zmh] at h
 repeat' (first | (cases h; done) | (replace h := ob h; obtain ⟨_, g, h⟩ := h; first | ((first | replace g := zbvs q (M + 3) (by omega) _ _ g | replace g := zbvy q (M + 3) (by omega) _ _ g | replace g := zb0o q M (by omega) 0 _ _ _ _ g); try simp only [kf, simprocAttr] at g) | skip))
 all_goals (replace h := zb4r M (by omega) (M + 4) (by omega) _ _ _ _ h R hR; simp only [zb0r, simprocAttr, *])
theorem zb0t (q : Nat) : zb0q (q + 1) := by
 intro M hM j hj h5_2len h5_5 h6l r h R hR fr H hc
 obtain ⟨j, rfl⟩ : ∃ i, j = i + 1 := ⟨j - 1, by omega⟩
 rw [zhy, hc]; clear hc
 rw [zmg] at h
 cases h; subst hR; simp only [zb0r, simprocAttr, *]
theorem zb0u : ∀ q, zb0p q ∧ zb0q q
 | 0 => by refine ⟨?_, ?_⟩ <;> (intro M hM j hj; intros; rename_i h; cases h)
 | q + 1 => by have ⟨i0, i1⟩ := zb0u q; exact ⟨zb0s q i1, zb0t q⟩
theorem zb0v : ∀ (q M : Nat), 8 * q ≤ M → ∀ (r : Nat × Int × (List zj6)), zmi q = some r → (orc T (M + 5)).inl F.zqf [(.ptr 5 0)] [(.box [(.int .i64 10000), (.mp 1), (.mp 2), (.sl true []), (.bool false), (.bool false), (.int .i64 0)]), (.pmap []), (.pmap []), (.box [(.sl true [])]), (.box [(.int .i64 0), (.ptr 0 0), .nilp, (.ptr 3 0), (.sl true []), .any]), (.box [(.ptr 0 0), (.int .i64 0), (.sl true []), (.sl true []), (.sl true []), (.int .i64 0), (.int .i64 0), (.int .i64 0), (.int .i64 0), (.sl true []), (.bool false), (.int .i64 0), (.sl true []), (.int .i64 0), (.bool false)])] = (some ([], [(.box [(.int .i64 10000), (.mp 1), (.mp 2), (.sl true []), (.bool false), (.bool false), (.int .i64 0)]), (.pmap []), (.pmap []), (.box [(.sl true [])]), (.box [(.int .i64 0), (.ptr 0 0), .nilp, (.ptr 3 0), (.sl true []), .any]), (.box [(.ptr 0 0), (.int .i64 0), (.vw 6 0 0 r.1 1), (.sl true []), (.sl true []), (.int .i64 r.2.1), (.int .i64 0), (.int .i64 0), (.int .i64 0), (.sl true []), (.bool false), (.int .i64 0), (.sl true []), (.int .i64 0), (.bool false)]), (.row 0 false 6 (List.map zj6.enc r.2.2) false)]) : Option (List V × Hp)) := by
 intro q M hM r h
 rcases q with _ | q
 ·cases h
 have ih_ferrymantop_awake_s0_s0_l0 := (zb0u q).1
 refine byR fun R hR => ?_
 rw [zbom (n := M + 4)]
 rw [zmi] at h
 replace h := ob h; obtain ⟨r1, h1, h⟩ := h
 replace h1 := zbvq q (M + 4) (by omega) _ _ h1
 try simp only [kf, simprocAttr] at h1
 replace h := ob h; obtain ⟨r2, h2, h⟩ := h
 replace h2 := zb0h q M (by omega) 0 _ _ h2
 try simp only [kf, simprocAttr] at h2
 replace h := ih_ferrymantop_awake_s0_s0_l0 M (by omega) (M + 4) (by omega) _ _ _ h R hR
 simp only [zb0r, simprocAttr, *]
def zb0w (q : Nat) : Prop := ∀ M, 8 * q ≤ M → ∀ j, q ≤ j → ∀ (h2_2len : Nat) (h2_5 h2_6 h2_7 h2_8 : Int) (h2_9z : Bool) (h2_9l : List Int) (h2_10 : Bool) (h2_11 : Int) (h2_12z : Bool) (h2_12l : List zj5) (h6l : List zj6) (r : Nat × Int × Int × Int × Int × Bool × (List Int) × Bool × Int × Bool × (List zj5) × (List zj6)), zmk q h2_2len h2_5 h2_6 h2_7 h2_8 h2_9z h2_9l h2_10 h2_11 h2_12z h2_12l h6l = some r → LS T (M + 6) 0 [0, 8, 46, 47] [.blk 0, .code (.seq (.reg zs2) .ret)] zs1 j (finI 0 false [.tmp 6, .tmp 7]) ((some ([(.ptr 0 0), (.int .i64 0)], [(.box [(.int .i64 0), (.ptr 1 0), (.ptr 2 0), (.ptr 3 0), .any, .any]), (.box [(.int .i64 10000), (.mp 4), (.mp 5), (.sl true []), (.bool false), (.bool false), (.int .i64 0)]), (.box [(.ptr 1 0), (.int .i64 0), (.vw 6 0 0 r.1 1), (.sl true []), (.sl true []), (.int .i64 r.2.1), (.int .i64 r.2.2.1), (.int .i64 r.2.2.2.1), (.int .i64 r.2.2.2.2.1), (.sl r.2.2.2.2.2.1 (List.map (V.int .i64) r.2.2.2.2.2.2.1)), (.bool r.2.2.2.2.2.2.2.1), (.int .i64 r.2.2.2.2.2.2.2.2.1), (.sl r.2.2.2.2.2.2.2.2.2.1 (List.map zj5.enc r.2.2.2.2.2.2.2.2.2.2.1)), (.int .i64 0), (.bool false)]), (.box [(.sl true [])]), (.pmap []), (.pmap []), (.row 0 false 6 (List.map zj6.enc r.2.2.2.2.2.2.2.2.2.2.2) false)]) : Option (List V × Hp))) [(0, (.int .i64 0)), (8, (.ptr 0 0)), (46, (.int .i64 1)), (47, (.int .i64 0))] [(.box [(.int .i64 0), (.ptr 1 0), (.ptr 2 0), (.ptr 3 0), (.sl true []), .any]), (.box [(.int .i64 10000), (.mp 4), (.mp 5), (.sl true []), (.bool false), (.bool false), (.int .i64 0)]), (.box [(.ptr 1 0), (.int .i64 0), (.vw 6 0 0 h2_2len 1), (.sl true []), (.sl true []), (.int .i64 h2_5), (.int .i64 h2_6), (.int .i64 h2_7), (.int .i64 h2_8), (.sl h2_9z (List.map (V.int .i64) h2_9l)), (.bool h2_10), (.int .i64 h2_11), (.sl h2_12z (List.map zj5.enc h2_12l)), (.int .i64 0), (.bool false)]), (.box [(.sl true [])]), (.pmap []), (.pmap []), (.row 0 false 6 (List.map zj6.enc h6l) false)]
def zb0x (q : Nat) : Prop := ∀ M, 8 * q ≤ M → ∀ j, q ≤ j → ∀ (h2_2len : Nat) (h2_5 h2_6 h2_7 h2_8 : Int) (h2_9z : Bool) (h2_9l : List Int) (h2_10 : Bool) (h2_11 : Int) (h2_12z : Bool) (h2_12l : List zj5) (h6l : List zj6) (r : Nat × Int × Int × Int × Int × Bool × (List Int) × Bool × Int × Bool × (List zj5) × (List zj6)), zmj q h2_2len h2_5 h2_6 h2_7 h2_8 h2_9z h2_9l h2_10 h2_11 h2_12z h2_12l h6l = some r → LS T (M + 6) 0 [0, 8, 46, 47] [.blk 0, .code (.seq (.reg zs2) .ret)] zs1 j (finI 0 false [.tmp 6, .tmp 7]) ((some ([(.ptr 0 0), (.int .i64 0)], [(.box [(.int .i64 0), (.ptr 1 0), (.ptr 2 0), (.ptr 3 0), .any, .any]), (.box [(.int .i64 10000), (.mp 4), (.mp 5), (.sl true []), (.bool false), (.bool false), (.int .i64 0)]), (.box [(.ptr 1 0), (.int .i64 0), (.vw 6 0 0 r.1 1), (.sl true []), (.sl true []), (.int .i64 r.2.1), (.int .i64 r.2.2.1), (.int .i64 r.2.2.2.1), (.int .i64 r.2.2.2.2.1), (.sl r.2.2.2.2.2.1 (List.map (V.int .i64) r.2.2.2.2.2.2.1)), (.bool r.2.2.2.2.2.2.2.1), (.int .i64 r.2.2.2.2.2.2.2.2.1), (.sl r.2.2.2.2.2.2.2.2.2.1 (List.map zj5.enc r.2.2.2.2.2.2.2.2.2.2.1)), (.int .i64 0), (.bool false)]), (.box [(.sl true [])]), (.pmap []), (.pmap []), (.row 0 false 6 (List.map zj6.enc r.2.2.2.2.2.2.2.2.2.2.2) false)]) : Option (List V × Hp))) [(0, (.int .i64 0)), (8, (.ptr 0 0)), (46, (.int .i64 1)), (47, (.int .i64 1))] [(.box [(.int .i64 0), (.ptr 1 0), (.ptr 2 0), (.ptr 3 0), .any, .any]), (.box [(.int .i64 10000), (.mp 4), (.mp 5), (.sl true []), (.bool false), (.bool false), (.int .i64 0)]), (.box [(.ptr 1 0), (.int .i64 0), (.vw 6 0 0 h2_2len 1), (.sl true []), (.sl true []), (.int .i64 h2_5), (.int .i64 h2_6), (.int .i64 h2_7), (.int .i64 h2_8), (.sl h2_9z (List.map (V.int .i64) h2_9l)), (.bool h2_10), (.int .i64 h2_11), (.sl h2_12z (List.map zj5.enc h2_12l)), (.int .i64 0), (.bool false)]), (.box [(.sl true [])]), (.pmap []), (.pmap []), (.row 0 false 6 (List.map zj6.enc h6l) false)]
def zb0y := y5 @kk <| y5 @ke <| y5 @kn <| y5 @wl <| y5 @zbic <| y5 @zbif <| y5 @zbkr <| y5 @zbku <| y5 @zbkx <| y5 @zbn2 <| y5 @zboe <| y5 @zboh <| y5 @zbon <| y5 @zbhs <| y5 @zbkm <| y5 @zbol <| y5 @zbor <| y5 @zbq6 <| y5 @zbid <| y5 @zbie <| y5 @zbks <| y5 @zbkt <| y5 @zbkv <| y5 @zbkw <| y5 @zbky <| y5 @zbkz <| y5 @zbn3 <| y5 @zbn4 <| y5 @zbof <| y5 @zbog <| y5 @zboi <| y5 @zboj <| y5 @zboo <| @zbop
theorem zb0z (q : Nat) (zb4s : zb0x q) : zb0w (q + 1) := by
 intro M hM j hj h2_2len h2_5 h2_6 h2_7 h2_8 h2_9z h2_9l h2_10 h2_11 h2_12z h2_12l h6l r h R hR fr H hc
 obtain ⟨j, rfl⟩ : ∃ i, j = i + 1 := ⟨j - 1, by omega⟩
 rw [zhy, hc]; clear hc
 rw [zmk] at h
 replace h := ob h; obtain ⟨r5, h1, h⟩ := h
 replace h1 := zbvq q (M + 5) (by omega) _ _ h1
 try simp only [kf, simprocAttr] at h1
 replace h := zb4s M (by omega) j (by omega) _ _ _ _ _ _ _ _ _ _ _ _ _ h R hR
 simp only [zb0y, simprocAttr, *]
theorem zb00 (q : Nat) : zb0x (q + 1) := by
 intro M hM j hj h2_2len h2_5 h2_6 h2_7 h2_8 h2_9z h2_9l h2_10 h2_11 h2_12z h2_12l h6l r h R hR fr H hc
 obtain ⟨j, rfl⟩ : ∃ i, j = i + 1 := ⟨j - 1, by omega⟩
 rw [zhy, hc]; clear hc
 rw [zmj] at h
 cases h; subst hR; simp only [zb0y, simprocAttr, *]
theorem zb01 : ∀ q, zb0w q ∧ zb0x q
 | 0 => by refine ⟨?_, ?_⟩ <;> (intro M hM j hj; intros; rename_i h; cases h)
 | q + 1 => by have ⟨i0, i1⟩ := zb01 q; exact ⟨zb0z q i1, zb00 q⟩
theorem zb02 : ∀ (q M : Nat), 8 * q ≤ M → ∀ (r : Nat × Int × Int × Int × Int × Bool × (List Int) × Bool × Int × Bool × (List zj5) × (List zj6)), zml q = some r → (orc T (M + 7)).inl F.zpq [(.int .i64 0), (.int .i64 1), (.int .i64 10000)] [] = (some ([(.ptr 0 0), (.int .i64 0)], [(.box [(.int .i64 0), (.ptr 1 0), (.ptr 2 0), (.ptr 3 0), .any, .any]), (.box [(.int .i64 10000), (.mp 4), (.mp 5), (.sl true []), (.bool false), (.bool false), (.int .i64 0)]), (.box [(.ptr 1 0), (.int .i64 0), (.vw 6 0 0 r.1 1), (.sl true []), (.sl true []), (.int .i64 r.2.1), (.int .i64 r.2.2.1), (.int .i64 r.2.2.2.1), (.int .i64 r.2.2.2.2.1), (.sl r.2.2.2.2.2.1 (List.map (V.int .i64) r.2.2.2.2.2.2.1)), (.bool r.2.2.2.2.2.2.2.1), (.int .i64 r.2.2.2.2.2.2.2.2.1), (.sl r.2.2.2.2.2.2.2.2.2.1 (List.map zj5.enc r.2.2.2.2.2.2.2.2.2.2.1)), (.int .i64 0), (.bool false)]), (.box [(.sl true [])]), (.pmap []), (.pmap []), (.row 0 false 6 (List.map zj6.enc r.2.2.2.2.2.2.2.2.2.2.2) false)]) : Option (List V × Hp)) := by
 intro q M hM r h
 rcases q with _ | q
 ·cases h
 have ih_ferrymantop_awake_s0_l0 := (zb01 q).1
 refine byR fun R hR => ?_
 rw [zbih (n := M + 6)]
 rw [zml] at h
 repeat' (first | (cases h; done) | (replace h := bn h; obtain ⟨_, h⟩ := h) | (replace h := bm h; obtain ⟨_, h⟩ := h) | (replace h := ob h; obtain ⟨_, g, h⟩ := h; first | ((first | replace g := zb0v q M (by omega)  _ g | replace g := zbvs q (M + 3) (by omega) _ _ g | replace g := zbvy q (M + 3) (by omega) _ _ g | replace g := zbxv q (M + 4) (by omega) _ _ _ g); try simp only [kf, simprocAttr] at g) | skip))
 all_goals (replace h := ih_ferrymantop_awake_s0_l0 M (by omega) (M + 6) (by omega) _ _ _ _ _ _ _ _ _ _ _ _ _ h R hR; simp only [zb0y, simprocAttr, *])
def zb03 (q : Nat) : Prop := ∀ M, 8 * q ≤ M → ∀ j, q ≤ j → ∀ (w10 w11 w12 w6 w9 h2_2len : Nat) (h2_5 h2_6 h2_7 h2_8 : Int) (h2_9z : Bool) (h2_9l : List Int) (h2_10 : Bool) (h2_11 : Int) (h2_12z : Bool) (h2_12l : List zj5) (h6l : List zj6) (h9l : List zj8) (h10z : Bool) (h10l : List Int) (h11z : Bool) (h11l : List Int) (h11x h12z : Bool) (h12l : List Int) (h12x : Bool) (r : Unit), zmm q h2_2len h2_5 h2_6 h2_7 h2_8 h2_9z h2_9l h2_10 h2_11 h2_12z h2_12l h6l h9l h10z h10l h11z h11l h11x h12z h12l h12x = some r → LS T M 14 [0, 1, 7, 8] [.blk 0, .code (.seq (.reg z7r) .ret)] z7q j (finI 14 false [.tmp 4]) ((some ([(.int .i64 (-1))], [(.box [(.int .i64 0), (.ptr 1 0), (.ptr 2 0), (.ptr 3 0), .any, .any]), (.box [(.int .i64 10000), (.mp 4), (.mp 5), (.sl true []), (.bool false), (.bool false), (.int .i64 0)]), (.box [(.ptr 1 0), (.int .i64 0), (.vw 6 w6 0 h2_2len 1), (.sl true []), (.sl true []), (.int .i64 h2_5), (.int .i64 h2_6), (.int .i64 h2_7), (.int .i64 h2_8), (.sl h2_9z (List.map (V.int .i64) h2_9l)), (.bool h2_10), (.int .i64 h2_11), (.sl h2_12z (List.map zj5.enc h2_12l)), (.int .i64 0), (.bool false)]), (.box [(.sl true [])]), (.pmap []), (.pmap []), (.row w6 false 6 (List.map zj6.enc h6l) false), (.box [(.int .i64 0), (.int .i64 1), (.int .i64 5), (.int .i64 0)]), (.box [(.int .i64 1), (.int .i64 5), (.int .i64 0)]), (.row w9 false 7 (List.map zj8.enc h9l) false), (.row w10 h10z 1 (List.map (V.int .u8) h10l) false), (.row w11 h11z 1 (List.map (V.int .u8) h11l) h11x), (.row w12 h12z 1 (List.map (V.int .u8) h12l) h12x), (.box [(.int .i64 2)])]) : Option (List V × Hp))) [(0, (.sl true [])), (1, (.fn F.zqt [(.ptr 13 0)])), (7, (.int .i64 0)), (8, (.int .i64 0))] [(.box [(.int .i64 0), (.ptr 1 0), (.ptr 2 0), (.ptr 3 0), .any, .any]), (.box [(.int .i64 10000), (.mp 4), (.mp 5), (.sl true []), (.bool false), (.bool false), (.int .i64 0)]), (.box [(.ptr 1 0), (.int .i64 0), (.vw 6 w6 0 h2_2len 1), (.sl true []), (.sl true []), (.int .i64 h2_5), (.int .i64 h2_6), (.int .i64 h2_7), (.int .i64 h2_8), (.sl h2_9z (List.map (V.int .i64) h2_9l)), (.bool h2_10), (.int .i64 h2_11), (.sl h2_12z (List.map zj5.enc h2_12l)), (.int .i64 0), (.bool false)]), (.box [(.sl true [])]), (.pmap []), (.pmap []), (.row w6 false 6 (List.map zj6.enc h6l) false), (.box [(.int .i64 0), (.int .i64 1), (.int .i64 5), (.int .i64 0)]), (.box [(.int .i64 1), (.int .i64 5), (.int .i64 0)]), (.row w9 false 7 (List.map zj8.enc h9l) false), (.row w10 h10z 1 (List.map (V.int .u8) h10l) false), (.row w11 h11z 1 (List.map (V.int .u8) h11l) h11x), (.row w12 h12z 1 (List.map (V.int .u8) h12l) h12x), (.box [(.int .i64 2)])]
def zb04 := y5 @kk <| y5 @ke <| y5 @kn <| y5 @wl <| @zbo8
theorem zb05 (q : Nat) : zb03 (q + 1) := by
 intro M hM j hj w10 w11 w12 w6 w9 h2_2len h2_5 h2_6 h2_7 h2_8 h2_9z h2_9l h2_10 h2_11 h2_12z h2_12l h6l h9l h10z h10l h11z h11l h11x h12z h12l h12x r h R hR fr H hc
 obtain ⟨j, rfl⟩ : ∃ i, j = i + 1 := ⟨j - 1, by omega⟩
 rw [zhy, hc]; clear hc
 rw [zmm] at h
 cases h; subst hR; simp only [zb04, simprocAttr, *]
theorem zb06 : ∀ q, zb03 q
 | 0 => by intro M hM j hj; intros; rename_i h; cases h
 | q + 1 => by have i0 := zb06 q; exact zb05 q
theorem zb07 : ∀ (q M : Nat), 8 * q ≤ M → ∀ (w10 w11 w12 w6 w9 h2_2len : Nat), ∀ (h2_5 h2_6 h2_7 h2_8 : Int), ∀ (h2_9z : Bool), ∀ (h2_9l : List Int), ∀ (h2_10 : Bool), ∀ (h2_11 : Int), ∀ (h2_12z : Bool), ∀ (h2_12l : List zj5), ∀ (h6l : List zj6), ∀ (h9l : List zj8), ∀ (h10z : Bool), ∀ (h10l : List Int), ∀ (h11z : Bool), ∀ (h11l : List Int), ∀ (h11x h12z : Bool), ∀ (h12l : List Int), ∀ (h12x : Bool), ∀ (r : Unit), zmn q h2_2len h2_5 h2_6 h2_7 h2_8 h2_9z h2_9l h2_10 h2_11 h2_12z h2_12l h6l h9l h10z h10l h11z h11l h11x h12z h12l h12x = some r → (orc T (M + 1)).inl F.zqh [(.sl true []), (.fn F.zqt [(.ptr 13 0)])] [(.box [(.int .i64 0), (.ptr 1 0), (.ptr 2 0), (.ptr 3 0), .any, .any]), (.box [(.int .i64 10000), (.mp 4), (.mp 5), (.sl true []), (.bool false), (.bool false), (.int .i64 0)]), (.box [(.ptr 1 0), (.int .i64 0), (.vw 6 w6 0 h2_2len 1), (.sl true []), (.sl true []), (.int .i64 h2_5), (.int .i64 h2_6), (.int .i64 h2_7), (.int .i64 h2_8), (.sl h2_9z (List.map (V.int .i64) h2_9l)), (.bool h2_10), (.int .i64 h2_11), (.sl h2_12z (List.map zj5.enc h2_12l)), (.int .i64 0), (.bool false)]), (.box [(.sl true [])]), (.pmap []), (.pmap []), (.row w6 false 6 (List.map zj6.enc h6l) false), (.box [(.int .i64 0), (.int .i64 1), (.int .i64 5), (.int .i64 0)]), (.box [(.int .i64 1), (.int .i64 5), (.int .i64 0)]), (.row w9 false 7 (List.map zj8.enc h9l) false), (.row w10 h10z 1 (List.map (V.int .u8) h10l) false), (.row w11 h11z 1 (List.map (V.int .u8) h11l) h11x), (.row w12 h12z 1 (List.map (V.int .u8) h12l) h12x), (.box [(.int .i64 2)])] = (some ([(.int .i64 (-1))], [(.box [(.int .i64 0), (.ptr 1 0), (.ptr 2 0), (.ptr 3 0), .any, .any]), (.box [(.int .i64 10000), (.mp 4), (.mp 5), (.sl true []), (.bool false), (.bool false), (.int .i64 0)]), (.box [(.ptr 1 0), (.int .i64 0), (.vw 6 w6 0 h2_2len 1), (.sl true []), (.sl true []), (.int .i64 h2_5), (.int .i64 h2_6), (.int .i64 h2_7), (.int .i64 h2_8), (.sl h2_9z (List.map (V.int .i64) h2_9l)), (.bool h2_10), (.int .i64 h2_11), (.sl h2_12z (List.map zj5.enc h2_12l)), (.int .i64 0), (.bool false)]), (.box [(.sl true [])]), (.pmap []), (.pmap []), (.row w6 false 6 (List.map zj6.enc h6l) false), (.box [(.int .i64 0), (.int .i64 1), (.int .i64 5), (.int .i64 0)]), (.box [(.int .i64 1), (.int .i64 5), (.int .i64 0)]), (.row w9 false 7 (List.map zj8.enc h9l) false), (.row w10 h10z 1 (List.map (V.int .u8) h10l) false), (.row w11 h11z 1 (List.map (V.int .u8) h11l) h11x), (.row w12 h12z 1 (List.map (V.int .u8) h12l) h12x), (.box [(.int .i64 2)])]) : Option (List V × Hp)) := by
 intro q M hM w10 w11 w12 w6 w9 h2_2len h2_5 h2_6 h2_7 h2_8 h2_9z h2_9l h2_10 h2_11 h2_12z h2_12l h6l h9l h10z h10l h11z h11l h11x h12z h12l h12x r h
 rcases q with _ | q
 ·cases h
 have ih_ferrymantop_awake_s1_s0_l0 := (zb06 q)
 refine byR fun R hR => ?_
 rw [zbpa (n := M)]
 rw [zmn] at h
 replace h := ih_ferrymantop_awake_s1_s0_l0 M (by omega) M (by omega) w10 w11 w12 w6 w9 _ _ _ _ _ _ _ _ _ _ _ _ _ _ _ _ _ _ _ _ _ _ h R hR
 simp only [zb04, simprocAttr, *]
def zb08 := y5 @kk <| y5 @ke <| y5 @kn <| y5 @wl <| y5 @zbrp <| @zbo9
theorem zb09 : ∀ (q M : Nat), 8 * q ≤ M → ∀ (w10 w11 w12 w6 w9 h2_2len : Nat), ∀ (h2_5 h2_6 h2_7 h2_8 : Int), ∀ (h2_9z : Bool), ∀ (h2_9l : List Int), ∀ (h2_10 : Bool), ∀ (h2_11 : Int), ∀ (h2_12z : Bool), ∀ (h2_12l : List zj5), ∀ (h6l : List zj6), ∀ (h9l : List zj8), ∀ (h10z : Bool), ∀ (h10l : List Int), ∀ (h11z : Bool), ∀ (h11l : List Int), ∀ (h11x h12z : Bool), ∀ (h12l : List Int), ∀ (h12x : Bool), ∀ (r : Unit), zmo q h2_2len h2_5 h2_6 h2_7 h2_8 h2_9z h2_9l h2_10 h2_11 h2_12z h2_12l h6l h9l h10z h10l h11z h11l h11x h12z h12l h12x = some r → (orc T (M + 2)).inl F.zqu [(.sl true []), (.fn F.zqt [(.ptr 13 0)])] [(.box [(.int .i64 0), (.ptr 1 0), (.ptr 2 0), (.ptr 3 0), .any, .any]), (.box [(.int .i64 10000), (.mp 4), (.mp 5), (.sl true []), (.bool false), (.bool false), (.int .i64 0)]), (.box [(.ptr 1 0), (.int .i64 0), (.vw 6 w6 0 h2_2len 1), (.sl true []), (.sl true []), (.int .i64 h2_5), (.int .i64 h2_6), (.int .i64 h2_7), (.int .i64 h2_8), (.sl h2_9z (List.map (V.int .i64) h2_9l)), (.bool h2_10), (.int .i64 h2_11), (.sl h2_12z (List.map zj5.enc h2_12l)), (.int .i64 0), (.bool false)]), (.box [(.sl true [])]), (.pmap []), (.pmap []), (.row w6 false 6 (List.map zj6.enc h6l) false), (.box [(.int .i64 0), (.int .i64 1), (.int .i64 5), (.int .i64 0)]), (.box [(.int .i64 1), (.int .i64 5), (.int .i64 0)]), (.row w9 false 7 (List.map zj8.enc h9l) false), (.row w10 h10z 1 (List.map (V.int .u8) h10l) false), (.row w11 h11z 1 (List.map (V.int .u8) h11l) h11x), (.row w12 h12z 1 (List.map (V.int .u8) h12l) h12x), (.box [(.int .i64 2)])] = (some ([(.sl true [])], [(.box [(.int .i64 0), (.ptr 1 0), (.ptr 2 0), (.ptr 3 0), .any, .any]), (.box [(.int .i64 10000), (.mp 4), (.mp 5), (.sl true []), (.bool false), (.bool false), (.int .i64 0)]), (.box [(.ptr 1 0), (.int .i64 0), (.vw 6 w6 0 h2_2len 1), (.sl true []), (.sl true []), (.int .i64 h2_5), (.int .i64 h2_6), (.int .i64 h2_7), (.int .i64 h2_8), (.sl h2_9z (List.map (V.int .i64) h2_9l)), (.bool h2_10), (.int .i64 h2_11), (.sl h2_12z (List.map zj5.enc h2_12l)), (.int .i64 0), (.bool false)]), (.box [(.sl true [])]), (.pmap []), (.pmap []), (.row w6 false 6 (List.map zj6.enc h6l) false), (.box [(.int .i64 0), (.int .i64 1), (.int .i64 5), (.int .i64 0)]), (.box [(.int .i64 1), (.int .i64 5), (.int .i64 0)]), (.row w9 false 7 (List.map zj8.enc h9l) false), (.row w10 h10z 1 (List.map (V.int .u8) h10l) false), (.row w11 h11z 1 (List.map (V.int .u8) h11l) h11x), (.row w12 h12z 1 (List.map (V.int .u8) h12l) h12x), (.box [(.int .i64 2)])]) : Option (List V × Hp)) := by
 intro q M hM w10 w11 w12 w6 w9 h2_2len h2_5 h2_6 h2_7 h2_8 h2_9z h2_9l h2_10 h2_11 h2_12z h2_12l h6l h9l h10z h10l h11z h11l h11x h12z h12l h12x r h
 rcases q with _ | q
 ·cases h
 refine byR fun R hR => ?_
 rw [zbrr (n := M + 1)]
 rw [zmo] at h
 replace h := ob h; obtain ⟨r1, h1, h⟩ := h
 replace h1 := zb07 q M (by omega) w10 w11 w12 w6 w9 _ _ _ _ _ _ _ _ _ _ _ _ _ _ _ _ _ _ _ _ _ _ h1
 try simp only [kf, simprocAttr] at h1
 cases h; subst hR; simp only [zb08, simprocAttr, *]
def zb1a := y5 @kk <| y5 @ke <| y5 @kn <| y5 @wl <| y5 @zbhl <| y5 @zbii <| y5 @zbil <| y5 @zbki <| y5 @zbk0 <| y5 @zbk3 <| y5 @zbn2 <| y5 @zbn8 <| y5 @zbob <| y5 @zbqn <| y5 @zbqw <| y5 @zbqz <| y5 @zbq2 <| y5 @zbhs <| y5 @zbig <| y5 @zbj1 <| y5 @zbn0 <| y5 @zbn6 <| y5 @zbor <| y5 @zbql <| y5 @zbqr <| y5 @zbrq <| y5 @zbij <| y5 @zbik <| y5 @zbim <| y5 @zbin <| y5 @zbkj <| y5 @zbkk <| y5 @zbk1 <| y5 @zbk2 <| y5 @zbk4 <| y5 @zbk5 <| y5 @zbn3 <| y5 @zbn4 <| y5 @zbn9 <| y5 @zboa <| y5 @zboc <| y5 @zbod <| y5 @zbqo <| y5 @zbqp <| y5 @zbqt <| y5 @zbqv <| y5 @zbqx <| y5 @zbqy <| y5 @zbq0 <| y5 @zbq1 <| y5 @zbq3 <| y5 @zbq4 <| y5 @zbq8 <| y5 @zbra <| @zbhn
theorem zb1b : ∀ (q N : Nat), 8 * q ≤ N → ∀ (r : Bool), zmp q = some r → (orc T N).deep F.zmp [] = some [V.bool r] := by
 intro q N hM r h
 rcases q with _ | q
 ·cases h
 obtain ⟨M, rfl⟩ : ∃ M, N = M + 8 := ⟨N - 8, by omega⟩
 refine byR fun R hR => ?_
 rw [zh9, zbd3, y7, zh6 zqy rfl]
 rw [zmp] at h
 repeat' (first | (cases h; done) | (replace h := bb h; rcases h with ⟨_, _, h⟩ | ⟨_, _, h⟩) | (replace h := bn h; obtain ⟨_, h⟩ := h) | (replace h := bm h; obtain ⟨_, h⟩ := h) | (replace h := ob h; obtain ⟨_, g, h⟩ := h; first | ((first | replace g := zb02 q M (by omega)  _ g | replace g := zbyi q (M + 4) (by omega) _ _ g | replace g := zbzi q (M + 4) (by omega) _ _ g | replace g := zbzo q (M + 4) (by omega) _ _ _ _ g | replace g := zb09 q M (by omega) 0 0 0 0 0 _ _ _ _ _ _ _ _ _ _ _ _ _ _ _ _ _ _ _ _ _ _ g | replace g := zbzq q (M + 3) (by omega) _ _ g | replace g := zbzs q (M + 3) (by omega) _ _ g | replace g := zbxv q (M + 4) (by omega) _ _ _ g | replace g := zbvy q (M + 5) (by omega) _ _ g); try simp only [kf, simprocAttr] at g) | skip))
 all_goals (cases h; subst hR; simp only [zb1a, simprocAttr, *])
def zb1c (q : Nat) : Prop := ∀ M, 8 * q ≤ M → ∀ j, q ≤ j → ∀ (v0z : Bool) (v0l : List Int) (v1 v5 : Int) (r : Bool), zmq q v0z v0l v1 v5 = some r → LS T (M + 7) 0 [0, 1, 5] [.blk 0, .code (.seq (.reg zx0) .ret)] zxz j (fin zx3) (some [V.bool r]) [(0, (.sl v0z (List.map (V.int .i64) v0l))), (1, (.int .i64 v1)), (5, (.int .i64 v5))] []
def zb1d := y5 @kk <| y5 @ke <| y5 @kn <| y5 @zbk6 <| @zbk8
theorem zb1e (q : Nat) (zb4t : zb1c q) : zb1c (q + 1) := by
 intro M hM j hj v0z v0l v1 v5 r h R hR fr H hc
 obtain ⟨j, rfl⟩ : ∃ i, j = i + 1 := ⟨j - 1, by omega⟩
 rw [zhy, hc]; clear hc
 rw [zmq] at h
 repeat' (first | (cases h; done) | (replace h := bn h; obtain ⟨_, h⟩ := h) | (replace h := br h; rcases h with ⟨_, h⟩ | ⟨_, h⟩) | (replace h := ob h; obtain ⟨_, g, h⟩ := h))
 all_goals (first | (cases h; subst hR; simp only [zb1d, simprocAttr, *]) | (replace h := zb4t M (by omega) j (by omega) _ _ _ _ _ h R hR; simp only [zb1d, simprocAttr, *]))
theorem zb1f : ∀ q, zb1c q
 | 0 => by intro M hM j hj; intros; rename_i h; cases h
 | q + 1 => by have i0 := zb1f q; exact zb1e q i0
theorem zb1g : ∀ (q N : Nat), 8 * q ≤ N → ∀ (a0 : (Sl Int)) (a1 : Int), ∀ (r : Bool), zmr q a0 a1 = some r → (orc T N).deep F.zmr [(Sl.enc (V.int .i64)) a0, (V.int .i64) a1] = some [V.bool r] := by
 intro q N hM a0 a1 r h
 rcases q with _ | q
 ·cases h
 obtain ⟨M, rfl⟩ : ∃ M, N = M + 8 := ⟨N - 8, by omega⟩
 have zb4t := (zb1f q)
 refine byR fun R hR => ?_
 rw [zh9, zbfa, y7, zh6 zx3 rfl]
 rw [zmr] at h
 replace h := br h; rcases h with ⟨h1, h⟩ | ⟨h1, h⟩
 ·replace h := br h; rcases h with ⟨h2, h⟩ | ⟨h2, h⟩
  ·cases h; subst hR; simp only [zb1d, simprocAttr, *]
  ·replace h := zb4t M (by omega) (M + 7) (by omega) _ _ _ _ _ h R hR
   simp only [zb1d, simprocAttr, *]
 ·cases h; subst hR; simp only [zb1d, simprocAttr, *]
def zb1h := y5 @kk <| y5 @ke <| y5 @kn <| y5 @zbk9 <| @zblb
theorem zb1i : ∀ (q N : Nat), 8 * q ≤ N → ∀ (a0 r : Int), zms q a0 = some r → (orc T N).deep F.zms [(V.int .i64) a0] = some [(V.int .i64) r] := by
 intro q N hM a0 r h
 rcases q with _ | q
 ·cases h
 obtain ⟨M, rfl⟩ : ∃ M, N = M + 8 := ⟨N - 8, by omega⟩
 refine byR fun R hR => ?_
 rw [zh9, zbfb, y7, zh6 zx5 rfl]
 rw [zms] at h
 replace h := br h; rcases h with ⟨h1, h⟩ | ⟨h1, h⟩
 ·cases h; subst hR; simp only [zb1h, simprocAttr, *]
 ·replace h := br h; rcases h with ⟨h2, h⟩ | ⟨h2, h⟩
  ·cases h; subst hR; simp only [zb1h, simprocAttr, *]
  ·cases h; subst hR; simp only [zb1h, simprocAttr, *]
def zb1j (q : Nat) : Prop := ∀ M, 8 * q ≤ M → ∀ j, q ≤ j → ∀ (v3 h0_0 : Int) (h0_1z : Bool) (h0_1l : List Int) (h0_2 : Bool) (h0_3 : Int) (r : Bool), zmt q v3 h0_0 h0_1z h0_1l h0_2 h0_3 = some r → LS T (M + 7) 0 [1, 3] [.blk 0, .code (.seq (.reg zti) .ret)] zth j (fin ztm) (some [V.bool r]) [(1, (.ptr 0 0)), (3, (.int .i64 v3))] [(.box [(.int .i64 h0_0), (.sl h0_1z (List.map (V.int .i64) h0_1l)), (.bool h0_2), (.int .i64 h0_3)])]
def zb1k := y5 @kk <| y5 @ke <| y5 @kn <| y5 @zbio <| y5 @zbk7 <| y5 @zbla <| @zbiq
theorem zb1l (q : Nat) (zb4u : zb1j q) : zb1j (q + 1) := by
 intro M hM j hj v3 h0_0 h0_1z h0_1l h0_2 h0_3 r h R hR fr H hc
 obtain ⟨j, rfl⟩ : ∃ i, j = i + 1 := ⟨j - 1, by omega⟩
 rw [zhy, hc]; clear hc
 rw [zmt] at h
 replace h := br h; rcases h with ⟨h1, h⟩ | ⟨h1, h⟩
 ·replace h := bn h; obtain ⟨h2, h⟩ := h
  replace h := ob h; obtain ⟨e5, h3, h⟩ := h
  replace h := ob h; obtain ⟨r6, h4, h⟩ := h
  replace h4 := zb1i q (M + 7) (by omega) _ _ h4
  replace h := br h; rcases h with ⟨h5, h⟩ | ⟨h5, h⟩
  ·replace h := zb4u M (by omega) j (by omega) _ _ _ _ _ _ _ h R hR
   simp only [zb1k, simprocAttr, *]
  ·cases h; subst hR; simp only [zb1k, simprocAttr, *]
 ·cases h; subst hR; simp only [zb1k, simprocAttr, *]
theorem zb1m : ∀ q, zb1j q
 | 0 => by intro M hM j hj; intros; rename_i h; cases h
 | q + 1 => by have i0 := zb1m q; exact zb1l q i0
theorem zb1n : ∀ (q N : Nat), 8 * q ≤ N → ∀ (a0 : zj4), ∀ (r : Bool), zmu q a0 = some r → (orc T N).deep F.zmu [zj4.enc a0] = some [V.bool r] := by
 intro q N hM a0 r h
 rcases q with _ | q
 ·cases h
 obtain ⟨M, rfl⟩ : ∃ M, N = M + 8 := ⟨N - 8, by omega⟩
 have zb4u := (zb1m q)
 refine byR fun R hR => ?_
 rw [zh9, zbeg, y7, zh6 ztm rfl]
 rw [zmu] at h
 repeat' (first | (cases h; done) | (replace h := bb h; rcases h with ⟨_, _, h⟩ | ⟨_, _, h⟩) | (replace h := br h; rcases h with ⟨_, h⟩ | ⟨_, h⟩) | (replace h := ob h; obtain ⟨_, g, h⟩ := h; first | (replace g := zb1g q (M + 7) (by omega) _ _ _ g; try simp only [kf, simprocAttr] at g) | skip))
 all_goals (first | (cases h; subst hR; simp only [zb1k, simprocAttr, *]) | (replace h := zb4u M (by omega) (M + 7) (by omega) _ _ _ _ _ _ _ h R hR; simp only [zb1k, simprocAttr, *]))
def zb1o (q : Nat) : Prop := ∀ M, 8 * q ≤ M → ∀ j, q ≤ j → ∀ (v0z : Bool) (v0l : List zj5) (v3 : Int) (r : Bool), zmv q v0z v0l v3 = some r → LS T (M + 7) 0 [0, 3] [.blk 0, .code (.seq (.reg ztn) .ret)] c_27_9 j (fin ztp) (some [V.bool r]) [(0, (.sl v0z (List.map zj5.enc v0l))), (3, (.int .i64 v3))] []
def zb1p := y5 @kk <| y5 @ke <| y5 @kn <| y5 @zbir <| @zbit
theorem zb1q (q : Nat) (zb4v : zb1o q) : zb1o (q + 1) := by
 intro M hM j hj v0z v0l v3 r h R hR fr H hc
 obtain ⟨j, rfl⟩ : ∃ i, j = i + 1 := ⟨j - 1, by omega⟩
 rw [zhy, hc]; clear hc
 rw [zmv] at h
 repeat' (first | (cases h; done) | (replace h := bn h; obtain ⟨_, h⟩ := h) | (replace h := br h; rcases h with ⟨_, h⟩ | ⟨_, h⟩) | (replace h := ob h; obtain ⟨_, g, h⟩ := h))
 all_goals (first | (cases h; subst hR; simp only [zb1p, simprocAttr, *]) | (replace h := zb4v M (by omega) j (by omega) _ _ _ _ h R hR; simp only [zb1p, simprocAttr, *]))
theorem zb1r : ∀ q, zb1o q
 | 0 => by intro M hM j hj; intros; rename_i h; cases h
 | q + 1 => by have i0 := zb1r q; exact zb1q q i0
theorem zb1s : ∀ (q N : Nat), 8 * q ≤ N → ∀ (a0 : (Sl zj5)), ∀ (r : Bool), zmw q a0 = some r → (orc T N).deep F.zmw [(Sl.enc zj5.enc) a0] = some [V.bool r] := by
 intro q N hM a0 r h
 rcases q with _ | q
 ·cases h
 obtain ⟨M, rfl⟩ : ∃ M, N = M + 8 := ⟨N - 8, by omega⟩
 have zb4v := (zb1r q)
 refine byR fun R hR => ?_
 rw [zh9, zbeh, y7, zh6 ztp rfl]
 rw [zmw] at h
 replace h := zb4v M (by omega) (M + 7) (by omega) _ _ _ _ h R hR
 simp only [zb1p, simprocAttr, *]
def zb1t := y5 @kk <| y5 @ke <| y5 @kn <| y5 @zbho <| y5 @zbip <| y5 @zbis <| @zbhq
theorem zb1u : ∀ (q N : Nat), 8 * q ≤ N → ∀ (a0 : zj6), ∀ (r : Bool), zmx q a0 = some r → (orc T N).deep F.zmx [zj6.enc a0] = some [V.bool r] := by
 intro q N hM a0 r h
 rcases q with _ | q
 ·cases h
 obtain ⟨M, rfl⟩ : ∃ M, N = M + 8 := ⟨N - 8, by omega⟩
 refine byR fun R hR => ?_
 rw [zh9, zbd4, y7, zh6 zq0 rfl]
 rw [zmx] at h
 repeat' (first | (cases h; done) | (replace h := bb h; rcases h with ⟨_, _, h⟩ | ⟨_, _, h⟩) | (replace h := br h; rcases h with ⟨_, h⟩ | ⟨_, h⟩) | (replace h := ob h; obtain ⟨_, g, h⟩ := h; first | ((first | replace g := zb1n q (M + 7) (by omega) _ _ g | replace g := zb1s q (M + 7) (by omega) _ _ g); try simp only [kf, simprocAttr] at g) | skip))
 all_goals (cases h; subst hR; simp only [zb1t, simprocAttr, *])
def zb1v := y5 @kk <| y5 @ke <| y5 @kn <| y5 @zbmh <| @zbmj
theorem zb1w : ∀ (q N : Nat), 8 * q ≤ N → ∀ (a0 : zj5), ∀ (r : Bool), zmy q a0 = some r → (orc T N).deep F.zmy [zj5.enc a0] = some [V.bool r] := by
 intro q N hM a0 r h
 rcases q with _ | q
 ·cases h
 obtain ⟨M, rfl⟩ : ∃ M, N = M + 8 := ⟨N - 8, by omega⟩
 refine byR fun R hR => ?_
 rw [zh9, zbfq, y7, zh6 z0i rfl]
 rw [zmy] at h
 repeat' (first | (cases h; done) | (replace h := br h; rcases h with ⟨_, h⟩ | ⟨_, h⟩))
 all_goals (cases h; subst hR; simp only [zb1v, simprocAttr, *])
def zb1x (q : Nat) : Prop := ∀ M, 8 * q ≤ M → ∀ j, q ≤ j → ∀ (v0z : Bool) (v0l : List zj5) (v5z : Bool) (v5l : List zj5) (v6 v7 : Int) (r : Bool), zmz q v0z v0l v5z v5l v6 v7 = some r → LS T (M + 7) 0 [0, 5, 6, 7] [.blk 0, .code (.seq (.reg zup) .ret)] c_32_9 j (fin zus) (some [V.bool r]) [(0, (.sl v0z (List.map zj5.enc v0l))), (5, (.sl v5z (List.map zj5.enc v5l))), (6, (.int .i64 v6)), (7, (.int .i64 v7))] []
def zb1y := y5 @kk <| y5 @ke <| y5 @kn <| y5 @zbi6 <| y5 @zbmi <| @zbi8
theorem zb1z (q : Nat) (zb4w : zb1x q) : zb1x (q + 1) := by
 intro M hM j hj v0z v0l v5z v5l v6 v7 r h R hR fr H hc
 obtain ⟨j, rfl⟩ : ∃ i, j = i + 1 := ⟨j - 1, by omega⟩
 rw [zhy, hc]; clear hc
 rw [zmz] at h
 repeat' (first | (cases h; done) | (replace h := bb h; rcases h with ⟨_, _, h⟩ | ⟨_, _, h⟩) | (replace h := bn h; obtain ⟨_, h⟩ := h) | (replace h := br h; rcases h with ⟨_, h⟩ | ⟨_, h⟩) | (replace h := ob h; obtain ⟨_, g, h⟩ := h; first | (replace g := zb1w q (M + 7) (by omega) _ _ g; try simp only [kf, simprocAttr] at g) | skip))
 all_goals (first | (cases h; subst hR; simp only [zb1y, simprocAttr, *]) | (replace h := zb4w M (by omega) j (by omega) _ _ _ _ _ _ _ h R hR; simp only [zb1y, simprocAttr, *]))
theorem zb10 : ∀ q, zb1x q
 | 0 => by intro M hM j hj; intros; rename_i h; cases h
 | q + 1 => by have i0 := zb10 q; exact zb1z q i0
theorem zb11 : ∀ (q N : Nat), 8 * q ≤ N → ∀ (a0 : (Sl zj5)), ∀ (r : Bool), zm0 q a0 = some r → (orc T N).deep F.zm0 [(Sl.enc zj5.enc) a0] = some [V.bool r] := by
 intro q N hM a0 r h
 rcases q with _ | q
 ·cases h
 obtain ⟨M, rfl⟩ : ∃ M, N = M + 8 := ⟨N - 8, by omega⟩
 have zb4w := (zb10 q)
 refine byR fun R hR => ?_
 rw [zh9, zbem, y7, zh6 zus rfl]
 rw [zm0] at h
 replace h := zb4w M (by omega) (M + 7) (by omega) _ _ _ _ _ _ _ h R hR
 simp only [zb1y, simprocAttr, *]
def zb12 := y5 @kk <| y5 @ke <| y5 @kn <| y5 @zbhu <| y5 @zbi4 <| y5 @zbi7 <| @zbhw
theorem zb13 : ∀ (q N : Nat), 8 * q ≤ N → ∀ (a0 : zj6), ∀ (r : Bool), zm1 q a0 = some r → (orc T N).deep F.zm1 [zj6.enc a0] = some [V.bool r] := by
 intro q N hM a0 r h
 rcases q with _ | q
 ·cases h
 obtain ⟨M, rfl⟩ : ∃ M, N = M + 8 := ⟨N - 8, by omega⟩
 refine byR fun R hR => ?_
 rw [zh9, zbd6, y7, zh6 zq4 rfl]
 rw [zm1] at h
 repeat' (first | (cases h; done) | (replace h := bb h; rcases h with ⟨_, _, h⟩ | ⟨_, _, h⟩) | (replace h := br h; rcases h with ⟨_, h⟩ | ⟨_, h⟩) | (replace h := ob h; obtain ⟨_, g, h⟩ := h; first | ((first | replace g := zbwi q (M + 7) (by omega) _ _ g | replace g := zb11 q (M + 7) (by omega) _ _ g); try simp only [kf, simprocAttr] at g) | skip))
 all_goals (cases h; subst hR; simp only [zb12, simprocAttr, *])
def zb14 (q : Nat) : Prop := ∀ M, 8 * q ≤ M → ∀ j, q ≤ j → ∀ (v0z : Bool) (v0l : List zj5) (v7 v8 h0_0 r : Int), zm2 q v0z v0l v7 v8 h0_0 = some r → LS T (M + 6) 1 [0, 1, 7, 8] [.blk 0, .code (.seq (.reg zzz) .ret)] c_81_9 j (finI 1 false [.tmp 4]) ((some ([(.int .i64 r)], [(.box [(.int .i64 h0_0)])]) : Option (List V × Hp))) [(0, (.sl v0z (List.map zj5.enc v0l))), (1, (.fn F.zp6 [(.ptr 0 0)])), (7, (.int .i64 v7)), (8, (.int .i64 v8))] [(.box [(.int .i64 h0_0)])]
def zb15 := y5 @kk <| y5 @ke <| y5 @kn <| y5 @zblx <| y5 @zbmk <| y5 @zbml <| @zbmm
theorem zb16 (q : Nat) (zb4x : zb14 q) : zb14 (q + 1) := by
 intro M hM j hj v0z v0l v7 v8 h0_0 r h R hR fr H hc
 obtain ⟨j, rfl⟩ : ∃ i, j = i + 1 := ⟨j - 1, by omega⟩
 rw [zhy, hc]; clear hc
 rw [zm2] at h
 replace h := br h; rcases h with ⟨h1, h⟩ | ⟨h1, h⟩
 ·replace h := bn h; obtain ⟨h2, h⟩ := h
  replace h := ob h; obtain ⟨e1, h3, h⟩ := h
  replace h := br h; rcases h with ⟨h4, h⟩ | ⟨h4, h⟩
  ·cases h; subst hR; simp only [zb15, simprocAttr, *]
  ·replace h := zb4x M (by omega) j (by omega) _ _ _ _ _ _ h R hR
   simp only [zb15, simprocAttr, *]
 ·cases h; subst hR; simp only [zb15, simprocAttr, *]
theorem zb17 : ∀ q, zb14 q
 | 0 => by intro M hM j hj; intros; rename_i h; cases h
 | q + 1 => by have i0 := zb17 q; exact zb16 q i0
theorem zb18 : ∀ (q M : Nat), 8 * q ≤ M → ∀ (v0z : Bool), ∀ (v0l : List zj5), ∀ (h0_0 r : Int), zm3 q v0z v0l h0_0 = some r → (orc T (M + 7)).inl F.zp3 [(.sl v0z (List.map zj5.enc v0l)), (.fn F.zp6 [(.ptr 0 0)])] [(.box [(.int .i64 h0_0)])] = (some ([(.int .i64 r)], [(.box [(.int .i64 h0_0)])]) : Option (List V × Hp)) := by
 intro q M hM v0z v0l h0_0 r h
 rcases q with _ | q
 ·cases h
 have zb4x := (zb17 q)
 refine byR fun R hR => ?_
 rw [zblz (n := M + 6)]
 rw [zm3] at h
 replace h := zb4x M (by omega) (M + 6) (by omega) _ _ _ _ _ _ h R hR
 simp only [zb15, simprocAttr, *]
def zb19 := y5 @kk <| y5 @ke <| y5 @kn <| y5 @zbjc <| y5 @zbly <| @zbje
theorem zb2a : ∀ (q N : Nat), 8 * q ≤ N → ∀ (a0 : (Sl zj5)) (a1 : Int), ∀ (r : Int), zm4 q a0 a1 = some r → (orc T N).deep F.zm4 [(Sl.enc zj5.enc) a0, (V.int .i64) a1] = some [(V.int .i64) r] := by
 intro q N hM a0 a1 r h
 rcases q with _ | q
 ·cases h
 obtain ⟨M, rfl⟩ : ∃ M, N = M + 8 := ⟨N - 8, by omega⟩
 refine byR fun R hR => ?_
 rw [zh9, zbeo, y7, zh6 zuw rfl]
 rw [zm4] at h
 replace h := ob h; obtain ⟨r1, h1, h⟩ := h
 replace h1 := zb18 q M (by omega) _ _ _ _ h1
 try simp only [kf, simprocAttr] at h1
 cases h; subst hR; simp only [zb19, simprocAttr, *]
def zb2b (q : Nat) : Prop := ∀ M, 8 * q ≤ M → ∀ j, q ≤ j → ∀ (v0z : Bool) (v0l : List Int) (v1z : Bool) (v1l : List Int) (v5 r : Int), zm5 q v0z v0l v1z v1l v5 = some r → LS T (M + 7) 0 [0, 1, 5] [.blk 0, .code (.seq (.reg o_36_6) .ret)] c_36_5 j (fin zu0) (some [(V.int .i64) r]) [(0, (.sl v0z (List.map (V.int .i64) v0l))), (1, (.sl v1z (List.map (V.int .i64) v1l))), (5, (.int .i64 v5))] []
def zb2c := y5 @kk <| y5 @ke <| y5 @kn <| y5 @zbji <| @zbjk
theorem zb2d (q : Nat) (zb4y : zb2b q) : zb2b (q + 1) := by
 intro M hM j hj v0z v0l v1z v1l v5 r h R hR fr H hc
 obtain ⟨j, rfl⟩ : ∃ i, j = i + 1 := ⟨j - 1, by omega⟩
 rw [zhy, hc]; clear hc
 rw [zm5] at h
 repeat' (first | (cases h; done) | (replace h := bn h; obtain ⟨_, h⟩ := h) | (replace h := br h; rcases h with ⟨_, h⟩ | ⟨_, h⟩) | (replace h := ob h; obtain ⟨_, g, h⟩ := h))
 all_goals (first | (cases h; subst hR; simp only [zb2c, simprocAttr, *]) | (replace h := zb4y M (by omega) j (by omega) _ _ _ _ _ _ h R hR; simp only [zb2c, simprocAttr, *]))
theorem zb2e : ∀ q, zb2b q
 | 0 => by intro M hM j hj; intros; rename_i h; cases h
 | q + 1 => by have i0 := zb2e q; exact zb2d q i0
theorem zb2f : ∀ (q N : Nat), 8 * q ≤ N → ∀ (a0 a1 : (Sl Int)), ∀ (r : Int), zm6 q a0 a1 = some r → (orc T N).deep F.zm6 [(Sl.enc (V.int .i64)) a0, (Sl.enc (V.int .i64)) a1] = some [(V.int .i64) r] := by
 intro q N hM a0 a1 r h
 rcases q with _ | q
 ·cases h
 obtain ⟨M, rfl⟩ : ∃ M, N = M + 8 := ⟨N - 8, by omega⟩
 have zb4y := (zb2e q)
 refine byR fun R hR => ?_
 rw [zh9, zbeq, y7, zh6 zu0 rfl]
 rw [zm6] at h
 replace h := zb4y M (by omega) (M + 7) (by omega) _ _ _ _ _ _ h R hR
 simp only [zb2c, simprocAttr, *]
def zb2g (q : Nat) : Prop := ∀ M, 8 * q ≤ M → ∀ j, q ≤ j → ∀ (v0z : Bool) (v0l : List Int) (v1z : Bool) (v1l : List Int) (v5 r : Int), zm7 q v0z v0l v1z v1l v5 = some r → LS T (M + 7) 0 [0, 1, 5] [.blk 0, .code (.seq (.reg o_37_6) .ret)] c_37_5 j (fin zu2) (some [(V.int .i64) r]) [(0, (.sl v0z (List.map (V.int .i64) v0l))), (1, (.sl v1z (List.map (V.int .i64) v1l))), (5, (.int .i64 v5))] []
def zb2h := y5 @kk <| y5 @ke <| y5 @kn <| y5 @zbjl <| @zbjn
theorem zb2i (q : Nat) (zb4z : zb2g q) : zb2g (q + 1) := by
 intro M hM j hj v0z v0l v1z v1l v5 r h R hR fr H hc
 obtain ⟨j, rfl⟩ : ∃ i, j = i + 1 := ⟨j - 1, by omega⟩
 rw [zhy, hc]; clear hc
 rw [zm7] at h
 repeat' (first | (cases h; done) | (replace h := bn h; obtain ⟨_, h⟩ := h) | (replace h := br h; rcases h with ⟨_, h⟩ | ⟨_, h⟩) | (replace h := ob h; obtain ⟨_, g, h⟩ := h))
 all_goals (first | (cases h; subst hR; simp only [zb2h, simprocAttr, *]) | (replace h := zb4z M (by omega) j (by omega) _ _ _ _ _ _ h R hR; simp only [zb2h, simprocAttr, *]))
theorem zb2j : ∀ q, zb2g q
 | 0 => by intro M hM j hj; intros; rename_i h; cases h
 | q + 1 => by have i0 := zb2j q; exact zb2i q i0
theorem zb2k : ∀ (q N : Nat), 8 * q ≤ N → ∀ (a0 a1 : (Sl Int)), ∀ (r : Int), zm8 q a0 a1 = some r → (orc T N).deep F.zm8 [(Sl.enc (V.int .i64)) a0, (Sl.enc (V.int .i64)) a1] = some [(V.int .i64) r] := by
 intro q N hM a0 a1 r h
 rcases q with _ | q
 ·cases h
 obtain ⟨M, rfl⟩ : ∃ M, N = M + 8 := ⟨N - 8, by omega⟩
 have zb4z := (zb2j q)
 refine byR fun R hR => ?_
 rw [zh9, zber, y7, zh6 zu2 rfl]
 rw [zm8] at h
 replace h := zb4z M (by omega) (M + 7) (by omega) _ _ _ _ _ _ h R hR
 simp only [zb2h, simprocAttr, *]
def zb2l (q : Nat) : Prop := ∀ M, 8 * q ≤ M → ∀ j, q ≤ j → ∀ (v0z : Bool) (v0l : List zj5) (v7 v8 h0_0 h0_1 : Int) (h0_2z : Bool) (h0_2l : List Int) (h0_3 : Bool) (h0_4 : Int) (h0_5z : Bool) (h0_5l : List zj5) (h1_0 h1_1 : Int) (h1_2z : Bool) (h1_2l : List Int) (h1_3 : Bool) (h1_4 : Int) (h1_5z : Bool) (h1_5l : List zj5) (r : Int), zm9 q v0z v0l v7 v8 h0_0 h0_1 h0_2z h0_2l h0_3 h0_4 h0_5z h0_5l h1_0 h1_1 h1_2z h1_2l h1_3 h1_4 h1_5z h1_5l = some r → LS T (M + 5) 3 [0, 1, 7, 8] [.blk 0, .code (.seq (.reg zzz) .ret)] c_81_9 j (finI 3 false [.tmp 4]) ((some ([(.int .i64 r)], [(.box [(.int .i64 h0_0), (.int .i64 h0_1), (.sl h0_2z (List.map (V.int .i64) h0_2l)), (.bool h0_3), (.int .i64 h0_4), (.sl h0_5z (List.map zj5.enc h0_5l))]), (.box [(.int .i64 h1_0), (.int .i64 h1_1), (.sl h1_2z (List.map (V.int .i64) h1_2l)), (.bool h1_3), (.int .i64 h1_4), (.sl h1_5z (List.map zj5.enc h1_5l))]), (.box [(.int .i64 0), (.int .i64 0), (.int .i64 0), (.int .i64 0), (.sl true []), (.bool false), (.int .i64 0), (.sl true [])])]) : Option (List V × Hp))) [(0, (.sl v0z (List.map zj5.enc v0l))), (1, (.fn F.zpt [(.ptr 1 0)])), (7, (.int .i64 v7)), (8, (.int .i64 v8))] [(.box [(.int .i64 h0_0), (.int .i64 h0_1), (.sl h0_2z (List.map (V.int .i64) h0_2l)), (.bool h0_3), (.int .i64 h0_4), (.sl h0_5z (List.map zj5.enc h0_5l))]), (.box [(.int .i64 h1_0), (.int .i64 h1_1), (.sl h1_2z (List.map (V.int .i64) h1_2l)), (.bool h1_3), (.int .i64 h1_4), (.sl h1_5z (List.map zj5.enc h1_5l))]), (.box [(.int .i64 0), (.int .i64 0), (.int .i64 0), (.int .i64 0), (.sl true []), (.bool false), (.int .i64 0), (.sl true [])])]
def zb2m := y5 @kk <| y5 @ke <| y5 @kn <| y5 @zbi9 <| y5 @zblx <| y5 @zbjd <| y5 @zbja <| @zbjb
theorem zb2n (q : Nat) (zb40 : zb2l q) : zb2l (q + 1) := by
 intro M hM j hj v0z v0l v7 v8 h0_0 h0_1 h0_2z h0_2l h0_3 h0_4 h0_5z h0_5l h1_0 h1_1 h1_2z h1_2l h1_3 h1_4 h1_5z h1_5l r h R hR fr H hc
 obtain ⟨j, rfl⟩ : ∃ i, j = i + 1 := ⟨j - 1, by omega⟩
 rw [zhy, hc]; clear hc
 rw [zm9] at h
 replace h := br h; rcases h with ⟨h1, h⟩ | ⟨h1, h⟩
 ·replace h := bn h; obtain ⟨h2, h⟩ := h
  replace h := ob h; obtain ⟨e1, h3, h⟩ := h
  replace h := ob h; obtain ⟨r2, h4, h⟩ := h
  replace h4 := zb2a q (M + 4) (by omega) _ _ _ h4
  try simp only [kf, simprocAttr] at h4
  replace h := br h; rcases h with ⟨h5, h⟩ | ⟨h5, h⟩
  ·cases h; subst hR; simp only [zb2m, simprocAttr, *]
  ·replace h := zb40 M (by omega) j (by omega) _ _ _ _ _ _ _ _ _ _ _ _ _ _ _ _ _ _ _ _ _ h R hR
   simp only [zb2m, simprocAttr, *]
 ·cases h; subst hR; simp only [zb2m, simprocAttr, *]
theorem zb2o : ∀ q, zb2l q
 | 0 => by intro M hM j hj; intros; rename_i h; cases h
 | q + 1 => by have i0 := zb2o q; exact zb2n q i0
theorem zb2p : ∀ (q M : Nat), 8 * q ≤ M → ∀ (v0z : Bool), ∀ (v0l : List zj5), ∀ (h0_0 h0_1 : Int), ∀ (h0_2z : Bool), ∀ (h0_2l : List Int), ∀ (h0_3 : Bool), ∀ (h0_4 : Int), ∀ (h0_5z : Bool), ∀ (h0_5l : List zj5), ∀ (h1_0 h1_1 : Int), ∀ (h1_2z : Bool), ∀ (h1_2l : List Int), ∀ (h1_3 : Bool), ∀ (h1_4 : Int), ∀ (h1_5z : Bool), ∀ (h1_5l : List zj5), ∀ (r : Int), zna q v0z v0l h0_0 h0_1 h0_2z h0_2l h0_3 h0_4 h0_5z h0_5l h1_0 h1_1 h1_2z h1_2l h1_3 h1_4 h1_5z h1_5l = some r → (orc T (M + 6)).inl F.zp3 [(.sl v0z (List.map zj5.enc v0l)), (.fn F.zpt [(.ptr 1 0)])] [(.box [(.int .i64 h0_0), (.int .i64 h0_1), (.sl h0_2z (List.map (V.int .i64) h0_2l)), (.bool h0_3), (.int .i64 h0_4), (.sl h0_5z (List.map zj5.enc h0_5l))]), (.box [(.int .i64 h1_0), (.int .i64 h1_1), (.sl h1_2z (List.map (V.int .i64) h1_2l)), (.bool h1_3), (.int .i64 h1_4), (.sl h1_5z (List.map zj5.enc h1_5l))]), (.box [(.int .i64 0), (.int .i64 0), (.int .i64 0), (.int .i64 0), (.sl true []), (.bool false), (.int .i64 0), (.sl true [])])] = (some ([(.int .i64 r)], [(.box [(.int .i64 h0_0), (.int .i64 h0_1), (.sl h0_2z (List.map (V.int .i64) h0_2l)), (.bool h0_3), (.int .i64 h0_4), (.sl h0_5z (List.map zj5.enc h0_5l))]), (.box [(.int .i64 h1_0), (.int .i64 h1_1), (.sl h1_2z (List.map (V.int .i64) h1_2l)), (.bool h1_3), (.int .i64 h1_4), (.sl h1_5z (List.map zj5.enc h1_5l))]), (.box [(.int .i64 0), (.int .i64 0), (.int .i64 0), (.int .i64 0), (.sl true []), (.bool false), (.int .i64 0), (.sl true [])])]) : Option (List V × Hp)) := by
 intro q M hM v0z v0l h0_0 h0_1 h0_2z h0_2l h0_3 h0_4 h0_5z h0_5l h1_0 h1_1 h1_2z h1_2l h1_3 h1_4 h1_5z h1_5l r h
 rcases q with _ | q
 ·cases h
 have zb40 := (zb2o q)
 refine byR fun R hR => ?_
 rw [zblz (n := M + 5)]
 rw [zna] at h
 replace h := zb40 M (by omega) (M + 5) (by omega) _ _ _ _ _ _ _ _ _ _ _ _ _ _ _ _ _ _ _ _ _ h R hR
 simp only [zb2m, simprocAttr, *]
def zb2q (q : Nat) : Prop := ∀ M, 8 * q ≤ M → ∀ j, q ≤ j → ∀ (v89z : Bool) (v89l : List zj5) (v90 v91 h0_0 h0_1 : Int) (h0_2z : Bool) (h0_2l : List Int) (h0_3 : Bool) (h0_4 : Int) (h0_5z : Bool) (h0_5l : List zj5) (h2_0 h2_1 h2_2 h2_3 : Int) (h2_5 : Bool) (h2_6 : Int) (h3z : Bool) (h3l : List Int) (h3x : Bool) (r : zj9 × Int), znc q v89z v89l v90 v91 h0_0 h0_1 h0_2z h0_2l h0_3 h0_4 h0_5z h0_5l h2_0 h2_1 h2_2 h2_3 h2_5 h2_6 h3z h3l h3x = some r → LS T (M + 7) 0 [2, 4, 7, 89, 90, 91] [.blk 1, .code (.seq (.reg zri) .ret)] zrh j (fin zrn) (some [zj9.enc r.1, (V.int .i64) r.2]) [(2, (.ptr 0 0)), (4, (.ptr 1 0)), (7, (.ptr 2 0)), (89, (.sl v89z (List.map zj5.enc v89l))), (90, (.int .i64 v90)), (91, (.int .i64 v91))] [(.box [(.int .i64 h0_0), (.int .i64 h0_1), (.sl h0_2z (List.map (V.int .i64) h0_2l)), (.bool h0_3), (.int .i64 h0_4), (.sl h0_5z (List.map zj5.enc h0_5l))]), (.box [(.int .i64 0), (.int .i64 0), (.int .i64 0), (.int .i64 0), (.sl true []), (.bool false), (.int .i64 0), (.sl true [])]), (.box [(.int .i64 h2_0), (.int .i64 h2_1), (.int .i64 h2_2), (.int .i64 h2_3), (.vw 3 0 0 h3l.length 1), (.bool h2_5), (.int .i64 h2_6), (.sl true [])]), (.row 0 h3z 1 (List.map (V.int .i64) h3l) h3x)]
def zb2r (q : Nat) : Prop := ∀ M, 8 * q ≤ M → ∀ j, q ≤ j → ∀ (v89z : Bool) (v89l : List zj5) (v90 v91 h0_0 h0_1 : Int) (h0_2z : Bool) (h0_2l : List Int) (h0_3 : Bool) (h0_4 : Int) (h0_5z : Bool) (h0_5l : List zj5) (h2_0 h2_1 h2_2 h2_3 : Int) (h2_5 : Bool) (h2_6 : Int) (h3z : Bool) (h3l : List Int) (h3x : Bool) (h4l : List zj5) (r : zj9 × Int), znb q v89z v89l v90 v91 h0_0 h0_1 h0_2z h0_2l h0_3 h0_4 h0_5z h0_5l h2_0 h2_1 h2_2 h2_3 h2_5 h2_6 h3z h3l h3x h4l = some r → LS T (M + 7) 0 [2, 4, 7, 89, 90, 91] [.blk 1, .code (.seq (.reg zri) .ret)] zrh j (fin zrn) (some [zj9.enc r.1, (V.int .i64) r.2]) [(2, (.ptr 0 0)), (4, (.ptr 1 0)), (7, (.ptr 2 0)), (89, (.sl v89z (List.map zj5.enc v89l))), (90, (.int .i64 v90)), (91, (.int .i64 v91))] [(.box [(.int .i64 h0_0), (.int .i64 h0_1), (.sl h0_2z (List.map (V.int .i64) h0_2l)), (.bool h0_3), (.int .i64 h0_4), (.sl h0_5z (List.map zj5.enc h0_5l))]), (.box [(.int .i64 0), (.int .i64 0), (.int .i64 0), (.int .i64 0), (.sl true []), (.bool false), (.int .i64 0), (.sl true [])]), (.box [(.int .i64 h2_0), (.int .i64 h2_1), (.int .i64 h2_2), (.int .i64 h2_3), (.vw 3 0 0 h3l.length 1), (.bool h2_5), (.int .i64 h2_6), (.vw 4 0 0 h4l.length 1)]), (.row 0 h3z 1 (List.map (V.int .i64) h3l) h3x), (.row 0 false 3 (List.map zj5.enc h4l) true)]
def zb2s := y5 @kk <| y5 @ke <| y5 @kn <| y5 @zbhx <| y5 @zbjf <| y5 @zbhv <| y5 @zbjd <| y5 @zbjj <| y5 @zbjm <| y5 @zbjp <| y5 @zbly <| y5 @zbjg <| y5 @zbjh <| @zbhz
theorem zb2t (q : Nat) (zb41 : zb2q q) (zb42 : zb2r q) : zb2q (q + 1) := by
 intro M hM j hj v89z v89l v90 v91 h0_0 h0_1 h0_2z h0_2l h0_3 h0_4 h0_5z h0_5l h2_0 h2_1 h2_2 h2_3 h2_5 h2_6 h3z h3l h3x r h R hR fr H hc
 obtain ⟨j, rfl⟩ : ∃ i, j = i + 1 := ⟨j - 1, by omega⟩
 rw [zhy, hc]; clear hc
 rw [znc] at h
 repeat' (first | (cases h; done) | (replace h := bn h; obtain ⟨_, h⟩ := h) | (replace h := br h; rcases h with ⟨_, h⟩ | ⟨_, h⟩) | (replace h := ob h; obtain ⟨_, g, h⟩ := h; first | (replace g := zb2a q (M + 7) (by omega) _ _ _ g; try simp only [kf, simprocAttr] at g) | skip))
 all_goals (first | (cases h; subst hR; simp only [zb2s, simprocAttr, *]) | (replace h := zb42 M (by omega) j (by omega) _ _ _ _ _ _ _ _ _ _ _ _ _ _ _ _ _ _ _ _ _ _ _ h R hR; simp only [zb2s, simprocAttr, *]) | (replace h := zb41 M (by omega) j (by omega) _ _ _ _ _ _ _ _ _ _ _ _ _ _ _ _ _ _ _ _ _ _ h R hR; simp only [zb2s, simprocAttr, *]))
theorem zb2u (q : Nat) (zb42 : zb2r q) : zb2r (q + 1) := by
 intro M hM j hj v89z v89l v90 v91 h0_0 h0_1 h0_2z h0_2l h0_3 h0_4 h0_5z h0_5l h2_0 h2_1 h2_2 h2_3 h2_5 h2_6 h3z h3l h3x h4l r h R hR fr H hc
 obtain ⟨j, rfl⟩ : ∃ i, j = i + 1 := ⟨j - 1, by omega⟩
 rw [zhy, hc]; clear hc
 rw [znb] at h
 repeat' (first | (cases h; done) | (replace h := bn h; obtain ⟨_, h⟩ := h) | (replace h := br h; rcases h with ⟨_, h⟩ | ⟨_, h⟩) | (replace h := ob h; obtain ⟨_, g, h⟩ := h; first | (replace g := zb2a q (M + 7) (by omega) _ _ _ g; try simp only [kf, simprocAttr] at g) | skip))
 all_goals (first | (cases h; subst hR; simp only [zb2s, simprocAttr, *]) | (replace h := zb42 M (by omega) j (by omega) _ _ _ _ _ _ _ _ _ _ _ _ _ _ _ _ _ _ _ _ _ _ _ h R hR; simp only [zb2s, simprocAttr, *]))
theorem zb2v : ∀ q, zb2q q ∧ zb2r q
 | 0 => by refine ⟨?_, ?_⟩ <;> (intro M hM j hj; intros; rename_i h; cases h)
 | q + 1 => by have ⟨i0, i1⟩ := zb2v q; exact ⟨zb2t q i0 i1, zb2u q i1⟩
theorem zb2w : ∀ (q N : Nat), 8 * q ≤ N → ∀ (a0 a1 : zj6), ∀ (r : zj9 × Int), znd q a0 a1 = some r → (orc T N).deep F.znd [zj6.enc a0, zj6.enc a1] = some [zj9.enc r.1, (V.int .i64) r.2] := by
 intro q N hM a0 a1 r h
 rcases q with _ | q
 ·cases h
 obtain ⟨M, rfl⟩ : ∃ M, N = M + 8 := ⟨N - 8, by omega⟩
 have zb41 := (zb2v q).1
 refine byR fun R hR => ?_
 rw [zh9, zbd7, y7, zh6 zrn rfl]
 rw [znd] at h
 repeat' (first | (cases h; done) | (replace h := bb h; rcases h with ⟨_, _, h⟩ | ⟨_, _, h⟩) | (replace h := bn h; obtain ⟨_, h⟩ := h) | (replace h := br h; rcases h with ⟨_, h⟩ | ⟨_, h⟩) | (replace h := ob h; obtain ⟨_, g, h⟩ := h; first | ((first | replace g := zb13 q (M + 7) (by omega) _ _ g | replace g := zb2p q M (by omega) _ _ _ _ _ _ _ _ _ _ _ _ _ _ _ _ _ _ _ g | replace g := zb2f q (M + 7) (by omega) _ _ _ g | replace g := zb2k q (M + 7) (by omega) _ _ _ g | replace g := zbvu q (M + 7) (by omega) _ _ g); try simp only [kf, simprocAttr] at g) | skip))
 all_goals (first | (cases h; subst hR; simp only [zb2s, simprocAttr, *]) | (replace h := zb41 M (by omega) (M + 7) (by omega) _ _ _ _ _ _ _ _ _ _ _ _ _ _ _ _ _ _ _ _ _ _ h R hR; simp only [zb2s, simprocAttr, *]))
def zb2x := y5 @kk <| y5 @ke <| y5 @kn <| y5 @zbpb <| @zbpd
theorem zb2y : ∀ (q N : Nat), 8 * q ≤ N → ∀ (a0 : Int), ∀ (r : Bool), zne q a0 = some r → (orc T N).deep F.zne [(V.int .i64) a0] = some [V.bool r] := by
 intro q N hM a0 r h
 rcases q with _ | q
 ·cases h
 obtain ⟨M, rfl⟩ : ∃ M, N = M + 8 := ⟨N - 8, by omega⟩
 refine byR fun R hR => ?_
 rw [zh9, zbgo, y7, zh6 z7y rfl]
 rw [zne] at h
 replace h := br h; rcases h with ⟨h1, h⟩ | ⟨h1, h⟩
 ·cases h; subst hR; simp only [zb2x, simprocAttr, *]
 ·cases h; subst hR; simp only [zb2x, simprocAttr, *]
def zb2z (q : Nat) : Prop := ∀ M, 8 * q ≤ M → ∀ j, q ≤ j → ∀ (v0z : Bool) (v0l : List Int) (v7 v8 r : Int), znf q v0z v0l v7 v8 = some r → LS T (M + 5) 0 [0, 1, 7, 8] [.blk 0, .code (.seq (.reg z7r) .ret)] z7q j (finI 0 false [.tmp 4]) ((some ([(.int .i64 r)], []) : Option (List V × Hp))) [(0, (.sl v0z (List.map (V.int .i64) v0l))), (1, (.fn F.zne [])), (7, (.int .i64 v7)), (8, (.int .i64 v8))] []
def zb20 := y5 @kk <| y5 @ke <| y5 @kn <| y5 @zbo8 <| @zbpc
theorem zb21 (q : Nat) (zb43 : zb2z q) : zb2z (q + 1) := by
 intro M hM j hj v0z v0l v7 v8 r h R hR fr H hc
 obtain ⟨j, rfl⟩ : ∃ i, j = i + 1 := ⟨j - 1, by omega⟩
 rw [zhy, hc]; clear hc
 rw [znf] at h
 replace h := br h; rcases h with ⟨h1, h⟩ | ⟨h1, h⟩
 ·replace h := bn h; obtain ⟨h2, h⟩ := h
  replace h := ob h; obtain ⟨e1, h3, h⟩ := h
  replace h := ob h; obtain ⟨r2, h4, h⟩ := h
  replace h4 := zb2y q (M + 5) (by omega) _ _ h4
  replace h := bb h; rcases h with ⟨h5', h5, h⟩ | ⟨h5', h5, h⟩
  ·cases h; subst hR; simp only [zb20, simprocAttr, *]
  ·replace h := zb43 M (by omega) j (by omega) _ _ _ _ _ h R hR
   simp only [zb20, simprocAttr, *]
 ·cases h; subst hR; simp only [zb20, simprocAttr, *]
theorem zb22 : ∀ q, zb2z q
 | 0 => by intro M hM j hj; intros; rename_i h; cases h
 | q + 1 => by have i0 := zb22 q; exact zb21 q i0
theorem zb23 : ∀ (q M : Nat), 8 * q ≤ M → ∀ (v0z : Bool), ∀ (v0l : List Int), ∀ (r : Int), zng q v0z v0l = some r → (orc T (M + 6)).inl F.zqh [(.sl v0z (List.map (V.int .i64) v0l)), (.fn F.zne [])] [] = (some ([(.int .i64 r)], []) : Option (List V × Hp)) := by
 intro q M hM v0z v0l r h
 rcases q with _ | q
 ·cases h
 have zb43 := (zb22 q)
 refine byR fun R hR => ?_
 rw [zbpa (n := M + 5)]
 rw [zng] at h
 replace h := zb43 M (by omega) (M + 5) (by omega) _ _ _ _ _ h R hR
 simp only [zb20, simprocAttr, *]
def zb24 := y5 @kk <| y5 @ke <| y5 @kn <| y5 @zbl5 <| y5 @zbmq <| y5 @zbo9 <| y5 @zbl6 <| y5 @zbl7 <| @zbms
theorem zb25 : ∀ (q N : Nat), 8 * q ≤ N → ∀ (a0 : (Sl Int)), ∀ (r : Bool), znh q a0 = some r → (orc T N).deep F.znh [(Sl.enc (V.int .i64)) a0] = some [V.bool r] := by
 intro q N hM a0 r h
 rcases q with _ | q
 ·cases h
 obtain ⟨M, rfl⟩ : ∃ M, N = M + 8 := ⟨N - 8, by omega⟩
 refine byR fun R hR => ?_
 rw [zh9, zbft, y7, zh6 z0o rfl]
 rw [znh] at h
 replace h := ob h; obtain ⟨r1, h1, h⟩ := h
 replace h1 := zb23 q M (by omega) _ _ _ h1
 try simp only [kf, simprocAttr] at h1
 cases h; subst hR; simp only [zb24, simprocAttr, *]
def zb26 := y5 @kk <| y5 @ke <| y5 @kn <| y5 @zbmn <| @zbmp
theorem zb27 : ∀ (q N : Nat), 8 * q ≤ N → ∀ (a0 : Int), ∀ (r : Bool), zni q a0 = some r → (orc T N).deep F.zni [(V.int .i64) a0] = some [V.bool r] := by
 intro q N hM a0 r h
 rcases q with _ | q
 ·cases h
 obtain ⟨M, rfl⟩ : ∃ M, N = M + 8 := ⟨N - 8, by omega⟩
 refine byR fun R hR => ?_
 rw [zh9, zbfs, y7, zh6 z0m rfl]
 rw [zni] at h
 replace h := br h; rcases h with ⟨h1, h⟩ | ⟨h1, h⟩
 ·cases h; subst hR; simp only [zb26, simprocAttr, *]
 ·cases h; subst hR; simp only [zb26, simprocAttr, *]
def zb28 (q : Nat) : Prop := ∀ M, 8 * q ≤ M → ∀ j, q ≤ j → ∀ (v0z : Bool) (v0l : List zj5) (v5z : Bool) (v5l : List zj5) (v6 v7 : Int) (r : Bool), znj q v0z v0l v5z v5l v6 v7 = some r → LS T (M + 7) 0 [0, 5, 6, 7] [.blk 0, .code (.seq (.reg z0p) .ret)] c_92_9 j (fin z0s) (some [V.bool r]) [(0, (.sl v0z (List.map zj5.enc v0l))), (5, (.sl v5z (List.map zj5.enc v5l))), (6, (.int .i64 v6)), (7, (.int .i64 v7))] []
def zb29 := y5 @kk <| y5 @ke <| y5 @kn <| y5 @zbmt <| y5 @zbmr <| @zbmv
theorem zb3a (q : Nat) (zb44 : zb28 q) : zb28 (q + 1) := by
 intro M hM j hj v0z v0l v5z v5l v6 v7 r h R hR fr H hc
 obtain ⟨j, rfl⟩ : ∃ i, j = i + 1 := ⟨j - 1, by omega⟩
 rw [zhy, hc]; clear hc
 rw [znj] at h
 repeat' (first | (cases h; done) | (replace h := bb h; rcases h with ⟨_, _, h⟩ | ⟨_, _, h⟩) | (replace h := bn h; obtain ⟨_, h⟩ := h) | (replace h := br h; rcases h with ⟨_, h⟩ | ⟨_, h⟩) | (replace h := ob h; obtain ⟨_, g, h⟩ := h; first | (replace g := zb25 q (M + 7) (by omega) _ _ g; try simp only [kf, simprocAttr] at g) | skip))
 all_goals (first | (cases h; subst hR; simp only [zb29, simprocAttr, *]) | (replace h := zb44 M (by omega) j (by omega) _ _ _ _ _ _ _ h R hR; simp only [zb29, simprocAttr, *]))
theorem zb3b : ∀ q, zb28 q
 | 0 => by intro M hM j hj; intros; rename_i h; cases h
 | q + 1 => by have i0 := zb3b q; exact zb3a q i0
theorem zb3c : ∀ (q N : Nat), 8 * q ≤ N → ∀ (a0 : (Sl zj5)), ∀ (r : Bool), znk q a0 = some r → (orc T N).deep F.znk [(Sl.enc zj5.enc) a0] = some [V.bool r] := by
 intro q N hM a0 r h
 rcases q with _ | q
 ·cases h
 obtain ⟨M, rfl⟩ : ∃ M, N = M + 8 := ⟨N - 8, by omega⟩
 have zb44 := (zb3b q)
 refine byR fun R hR => ?_
 rw [zh9, zbfu, y7, zh6 z0s rfl]
 rw [znk] at h
 replace h := zb44 M (by omega) (M + 7) (by omega) _ _ _ _ _ _ _ h R hR
 simp only [zb29, simprocAttr, *]
def zb3d (q : Nat) : Prop := ∀ M, 8 * q ≤ M → ∀ j, q ≤ j → ∀ (w1 : Nat) (v0z : Bool) (v0l : List Int) (v7 v8 h0_0 h0_1 h0_2 h0_3 : Int) (h0_4z : Bool) (h0_4l : List Int) (h0_5 : Bool) (h0_6 : Int) (h0_7z : Bool) (h0_7l : List zj5) (h1l : List Int) (r : Int), znl q v0z v0l v7 v8 h0_0 h0_1 h0_2 h0_3 h0_4z h0_4l h0_5 h0_6 h0_7z h0_7l h1l = some r → LS T (M + 5) 2 [0, 1, 7, 8] [.blk 0, .code (.seq (.reg z7r) .ret)] z7q j (finI 2 false [.tmp 4]) ((some ([(.int .i64 r)], [(.box [(.int .i64 h0_0), (.int .i64 h0_1), (.int .i64 h0_2), (.int .i64 h0_3), (.sl h0_4z (List.map (V.int .i64) h0_4l)), (.bool h0_5), (.int .i64 h0_6), (.sl h0_7z (List.map zj5.enc h0_7l))]), (.row w1 false 1 (List.map (V.int .i64) h1l) true)]) : Option (List V × Hp))) [(0, (.sl v0z (List.map (V.int .i64) v0l))), (1, (.fn F.zni [])), (7, (.int .i64 v7)), (8, (.int .i64 v8))] [(.box [(.int .i64 h0_0), (.int .i64 h0_1), (.int .i64 h0_2), (.int .i64 h0_3), (.sl h0_4z (List.map (V.int .i64) h0_4l)), (.bool h0_5), (.int .i64 h0_6), (.sl h0_7z (List.map zj5.enc h0_7l))]), (.row w1 false 1 (List.map (V.int .i64) h1l) true)]
def zb3e := y5 @kk <| y5 @ke <| y5 @kn <| y5 @zbo8 <| @zbmo
theorem zb3f (q : Nat) (zb45 : zb3d q) : zb3d (q + 1) := by
 intro M hM j hj w1 v0z v0l v7 v8 h0_0 h0_1 h0_2 h0_3 h0_4z h0_4l h0_5 h0_6 h0_7z h0_7l h1l r h R hR fr H hc
 obtain ⟨j, rfl⟩ : ∃ i, j = i + 1 := ⟨j - 1, by omega⟩
 rw [zhy, hc]; clear hc
 rw [znl] at h
 replace h := br h; rcases h with ⟨h1, h⟩ | ⟨h1, h⟩
 ·replace h := bn h; obtain ⟨h2, h⟩ := h
  replace h := ob h; obtain ⟨e1, h3, h⟩ := h
  replace h := ob h; obtain ⟨r2, h4, h⟩ := h
  replace h4 := zb27 q (M + 5) (by omega) _ _ h4
  replace h := bb h; rcases h with ⟨h5', h5, h⟩ | ⟨h5', h5, h⟩
  ·cases h; subst hR; simp only [zb3e, simprocAttr, *]
  ·replace h := zb45 M (by omega) j (by omega) w1 _ _ _ _ _ _ _ _ _ _ _ _ _ _ _ _ h R hR
   simp only [zb3e, simprocAttr, *]
 ·cases h; subst hR; simp only [zb3e, simprocAttr, *]
theorem zb3g : ∀ q, zb3d q
 | 0 => by intro M hM j hj; intros; rename_i h; cases h
 | q + 1 => by have i0 := zb3g q; exact zb3f q i0
theorem zb3h : ∀ (q M : Nat), 8 * q ≤ M → ∀ (w1 : Nat), ∀ (v0z : Bool), ∀ (v0l : List Int), ∀ (h0_0 h0_1 h0_2 h0_3 : Int), ∀ (h0_4z : Bool), ∀ (h0_4l : List Int), ∀ (h0_5 : Bool), ∀ (h0_6 : Int), ∀ (h0_7z : Bool), ∀ (h0_7l : List zj5), ∀ (h1l : List Int), ∀ (r : Int), znm q v0z v0l h0_0 h0_1 h0_2 h0_3 h0_4z h0_4l h0_5 h0_6 h0_7z h0_7l h1l = some r → (orc T (M + 6)).inl F.zqh [(.sl v0z (List.map (V.int .i64) v0l)), (.fn F.zni [])] [(.box [(.int .i64 h0_0), (.int .i64 h0_1), (.int .i64 h0_2), (.int .i64 h0_3), (.sl h0_4z (List.map (V.int .i64) h0_4l)), (.bool h0_5), (.int .i64 h0_6), (.sl h0_7z (List.map zj5.enc h0_7l))]), (.row w1 false 1 (List.map (V.int .i64) h1l) true)] = (some ([(.int .i64 r)], [(.box [(.int .i64 h0_0), (.int .i64 h0_1), (.int .i64 h0_2), (.int .i64 h0_3), (.sl h0_4z (List.map (V.int .i64) h0_4l)), (.bool h0_5), (.int .i64 h0_6), (.sl h0_7z (List.map zj5.enc h0_7l))]), (.row w1 false 1 (List.map (V.int .i64) h1l) true)]) : Option (List V × Hp)) := by
 intro q M hM w1 v0z v0l h0_0 h0_1 h0_2 h0_3 h0_4z h0_4l h0_5 h0_6 h0_7z h0_7l h1l r h
 rcases q with _ | q
 ·cases h
 have zb45 := (zb3g q)
 refine byR fun R hR => ?_
 rw [zbpa (n := M + 5)]
 rw [znm] at h
 replace h := zb45 M (by omega) (M + 5) (by omega) w1 _ _ _ _ _ _ _ _ _ _ _ _ _ _ _ _ h R hR
 simp only [zb3e, simprocAttr, *]
def zb3i := y5 @kk <| y5 @ke <| y5 @kn <| y5 @zbjr <| y5 @zbl5 <| y5 @zbmr <| y5 @zbmu <| y5 @zbo9 <| y5 @zbl6 <| y5 @zbl7 <| @zbjt
theorem zb3j : ∀ (q N : Nat), 8 * q ≤ N → ∀ (a0 : zj9), ∀ (r : Bool), znn q a0 = some r → (orc T N).deep F.znn [zj9.enc a0] = some [V.bool r] := by
 intro q N hM a0 r h
 rcases q with _ | q
 ·cases h
 obtain ⟨M, rfl⟩ : ∃ M, N = M + 8 := ⟨N - 8, by omega⟩
 refine byR fun R hR => ?_
 rw [zh9, zbet, y7, zh6 zu6 rfl]
 rw [znn] at h
 repeat' (first | (cases h; done) | (replace h := bb h; rcases h with ⟨_, _, h⟩ | ⟨_, _, h⟩) | (replace h := br h; rcases h with ⟨_, h⟩ | ⟨_, h⟩) | (replace h := ob h; obtain ⟨_, g, h⟩ := h; first | ((first | replace g := zb25 q (M + 7) (by omega) _ _ g | replace g := zb3h q M (by omega) 0 _ _ _ _ _ _ _ _ _ _ _ _ _ _ g | replace g := zb3c q (M + 7) (by omega) _ _ g); try simp only [kf, simprocAttr] at g) | skip))
 all_goals (cases h; subst hR; simp only [zb3i, simprocAttr, *])
def zb3k (q : Nat) : Prop := ∀ M, 8 * q ≤ M → ∀ j, q ≤ j → ∀ (w0 : Nat) (v7z : Bool) (v7l : List Int) (v8 : Int) (h0z : Bool) (h0l : List Int) (h0x : Bool) (r : (Ow Int)), znp q v7z v7l v8 h0z h0l h0x = some r → LS T (M + 7) 1 [0, 7, 8, 9] [.blk 0, .code (.seq (.reg o_40_9) .ret)] c_40_8 j (fin zu8) (some [(Ow.enc 1 (V.int .u8)) r]) [(0, (.vw 0 w0 0 h0l.length 1)), (7, (.sl v7z (List.map (V.int .i64) v7l))), (8, (.int .i64 v8)), (9, (.int .i64 0))] [(.row w0 h0z 1 (List.map (V.int .u8) h0l) h0x)]
def zb3l (q : Nat) : Prop := ∀ M, 8 * q ≤ M → ∀ j, q ≤ j → ∀ (v7z : Bool) (v7l : List Int) (v8 v9 : Int) (h1z : Bool) (h1l : List Int) (h1x : Bool) (r : (Ow Int)), zno q v7z v7l v8 v9 h1z h1l h1x = some r → LS T (M + 7) 1 [0, 7, 8, 9] [.blk 0, .code (.seq (.reg o_40_9) .ret)] c_40_8 j (fin zu8) (some [(Ow.enc 1 (V.int .u8)) r]) [(0, (.vw 1 0 0 h1l.length 1)), (7, (.sl v7z (List.map (V.int .i64) v7l))), (8, (.int .i64 v8)), (9, (.int .i64 v9))] [.dead, (.row 0 h1z 1 (List.map (V.int .u8) h1l) h1x)]
def zb3m := y5 @kk <| y5 @ke <| y5 @kn <| y5 @zbju <| y5 @zbmx <| @zbjw
theorem zb3n (q : Nat) (zb46 : zb3l q) : zb3k (q + 1) := by
 intro M hM j hj w0 v7z v7l v8 h0z h0l h0x r h R hR fr H hc
 obtain ⟨j, rfl⟩ : ∃ i, j = i + 1 := ⟨j - 1, by omega⟩
 rw [zhy, hc]; clear hc
 rw [znp] at h
 replace h := br h; rcases h with ⟨h1, h⟩ | ⟨h1, h⟩
 ·replace h := ob h; obtain ⟨e1, h2, h⟩ := h
  replace h := ob h; obtain ⟨r2, h3, h⟩ := h
  replace h3 := zbx7 q (M + 7) (by omega) _ _ _ h3
  try simp only [kf, simprocAttr] at h3
  replace h := zb46 M (by omega) j (by omega) _ _ _ _ _ _ _ _ h R hR
  simp only [zb3m, simprocAttr, *]
 ·cases h; subst hR; simp only [zb3m, simprocAttr, *]
theorem zb3o (q : Nat) (zb46 : zb3l q) : zb3l (q + 1) := by
 intro M hM j hj v7z v7l v8 v9 h1z h1l h1x r h R hR fr H hc
 obtain ⟨j, rfl⟩ : ∃ i, j = i + 1 := ⟨j - 1, by omega⟩
 rw [zhy, hc]; clear hc
 rw [zno] at h
 replace h := br h; rcases h with ⟨h1, h⟩ | ⟨h1, h⟩
 ·replace h := bn h; obtain ⟨h2, h⟩ := h
  replace h := ob h; obtain ⟨e3, h3, h⟩ := h
  replace h := ob h; obtain ⟨r4, h4, h⟩ := h
  replace h4 := zbx7 q (M + 7) (by omega) _ _ _ h4
  try simp only [kf, simprocAttr] at h4
  replace h := zb46 M (by omega) j (by omega) _ _ _ _ _ _ _ _ h R hR
  simp only [zb3m, simprocAttr, *]
 ·cases h; subst hR; simp only [zb3m, simprocAttr, *]
theorem zb3p : ∀ q, zb3k q ∧ zb3l q
 | 0 => by refine ⟨?_, ?_⟩ <;> (intro M hM j hj; intros; rename_i h; cases h)
 | q + 1 => by have ⟨i0, i1⟩ := zb3p q; exact ⟨zb3n q i1, zb3o q i1⟩
theorem zb3q : ∀ (q N : Nat), 8 * q ≤ N → ∀ (a0 : (Ow Int)) (a1 : (Sl Int)), ∀ (r : (Ow Int)), znq q a0 a1 = some r → (orc T N).deep F.znq [(Ow.enc 1 (V.int .u8)) a0, (Sl.enc (V.int .i64)) a1] = some [(Ow.enc 1 (V.int .u8)) r] := by
 intro q N hM a0 a1 r h
 rcases q with _ | q
 ·cases h
 obtain ⟨M, rfl⟩ : ∃ M, N = M + 8 := ⟨N - 8, by omega⟩
 have ih_delta_puts_l0 := (zb3p q).1
 refine byR fun R hR => ?_
 rw [zh9, zbeu, y7, zh6 zu8 rfl]
 rw [znq] at h
 replace h := ih_delta_puts_l0 M (by omega) (M + 7) (by omega) 0 _ _ _ _ _ _ _ h R hR
 simp only [zb3m, simprocAttr, *]
def zb3r (q : Nat) : Prop := ∀ M, 8 * q ≤ M → ∀ j, q ≤ j → ∀ (v27z : Bool) (v27l : List Int) (v28 v29 h0_0 h0_1 h0_2 h0_3 : Int) (h0_4z : Bool) (h0_4l : List Int) (h0_5 : Bool) (h0_6 : Int) (h0_7z : Bool) (h0_7l : List zj5) (h1z : Bool) (h1l : List Int) (h1x : Bool) (r : (Ow Int) × Int), zns q v27z v27l v28 v29 h0_0 h0_1 h0_2 h0_3 h0_4z h0_4l h0_5 h0_6 h0_7z h0_7l h1z h1l h1x = some r → LS T (M + 7) 0 [1, 4, 27, 28, 29] [.blk 0, .code (.seq (.reg zrq) zr3)] zrp j (fin zr7) (some [(Ow.enc 1 (V.int .u8)) r.1, (V.int .i64) r.2]) [(1, (.ptr 0 0)), (4, (.vw 1 0 0 h1l.length 1)), (27, (.sl v27z (List.map (V.int .i64) v27l))), (28, (.int .i64 v28)), (29, (.int .i64 v29))] [(.box [(.int .i64 h0_0), (.int .i64 h0_1), (.int .i64 h0_2), (.int .i64 h0_3), (.sl h0_4z (List.map (V.int .i64) h0_4l)), (.bool h0_5), (.int .i64 h0_6), (.sl h0_7z (List.map zj5.enc h0_7l))]), (.row 0 h1z 1 (List.map (V.int .u8) h1l) h1x)]
def zb3s (q : Nat) : Prop := ∀ M, 8 * q ≤ M → ∀ j, q ≤ j → ∀ (v50z : Bool) (v50l : List zj5) (v51 v52 : Int) (h0z : Bool) (h0l : List Int) (h0x : Bool) (r : (Ow Int) × Int), znr q v50z v50l v51 v52 h0z h0l h0x = some r → LS T (M + 7) 0 [4, 50, 51, 52] [.blk 2, .code (.seq (.reg zr1) .ret)] zr0 j (fin zr7) (some [(Ow.enc 1 (V.int .u8)) r.1, (V.int .i64) r.2]) [(4, (.vw 0 0 0 h0l.length 1)), (50, (.sl v50z (List.map zj5.enc v50l))), (51, (.int .i64 v51)), (52, (.int .i64 v52))] [(.row 0 h0z 1 (List.map (V.int .u8) h0l) h0x)]
def zb3t := y5 @kk <| y5 @ke <| y5 @kn <| y5 @zbh0 <| y5 @zbjs <| y5 @zbjv <| y5 @zbjy <| y5 @zbj1 <| @zbh2
theorem zb3u (q : Nat) (zb47 : zb3r q) (zb48 : zb3s q) : zb3r (q + 1) := by
 intro M hM j hj v27z v27l v28 v29 h0_0 h0_1 h0_2 h0_3 h0_4z h0_4l h0_5 h0_6 h0_7z h0_7l h1z h1l h1x r h R hR fr H hc
 obtain ⟨j, rfl⟩ : ∃ i, j = i + 1 := ⟨j - 1, by omega⟩
 rw [zhy, hc]; clear hc
 rw [zns] at h
 repeat' (first | (cases h; done) | (replace h := bb h; rcases h with ⟨_, _, h⟩ | ⟨_, _, h⟩) | (replace h := bn h; obtain ⟨_, h⟩ := h) | (replace h := br h; rcases h with ⟨_, h⟩ | ⟨_, h⟩) | (replace h := ob h; obtain ⟨_, g, h⟩ := h; first | ((first | replace g := zbyb q (M + 7) (by omega) _ _ _ g | replace g := zb3q q (M + 7) (by omega) _ _ _ g); try simp only [kf, simprocAttr] at g) | skip))
 all_goals (first | (replace h := zb47 M (by omega) j (by omega) _ _ _ _ _ _ _ _ _ _ _ _ _ _ _ _ _ _ h R hR; simp only [zb3t, simprocAttr, *]) | (replace h := zb48 M (by omega) (M + 7) (by omega) _ _ _ _ _ _ _ _ h R hR; simp only [zb3t, simprocAttr, *]))
theorem zb3v (q : Nat) (zb48 : zb3s q) : zb3s (q + 1) := by
 intro M hM j hj v50z v50l v51 v52 h0z h0l h0x r h R hR fr H hc
 obtain ⟨j, rfl⟩ : ∃ i, j = i + 1 := ⟨j - 1, by omega⟩
 rw [zhy, hc]; clear hc
 rw [znr] at h
 repeat' (first | (cases h; done) | (replace h := bn h; obtain ⟨_, h⟩ := h) | (replace h := br h; rcases h with ⟨_, h⟩ | ⟨_, h⟩) | (replace h := ob h; obtain ⟨_, g, h⟩ := h; first | ((first | replace g := zb3q q (M + 7) (by omega) _ _ _ g | replace g := zbyb q (M + 7) (by omega) _ _ _ g | replace g := zbzi q (M + 7) (by omega) _ _ g); try simp only [kf, simprocAttr] at g) | skip))
 all_goals (first | (cases h; subst hR; simp only [zb3t, simprocAttr, *]) | (replace h := zb48 M (by omega) j (by omega) _ _ _ _ _ _ _ _ h R hR; simp only [zb3t, simprocAttr, *]))
theorem zb3w : ∀ q, zb3r q ∧ zb3s q
 | 0 => by refine ⟨?_, ?_⟩ <;> (intro M hM j hj; intros; rename_i h; cases h)
 | q + 1 => by have ⟨i0, i1⟩ := zb3w q; exact ⟨zb3u q i0 i1, zb3v q i1⟩
theorem zb3x : ∀ (q N : Nat), 8 * q ≤ N → ∀ (a0 : zj9), ∀ (r : (Ow Int) × Int), znt q a0 = some r → (orc T N).deep F.znt [zj9.enc a0] = some [(Ow.enc 1 (V.int .u8)) r.1, (V.int .i64) r.2] := by
 intro q N hM a0 r h
 rcases q with _ | q
 ·cases h
 obtain ⟨M, rfl⟩ : ∃ M, N = M + 8 := ⟨N - 8, by omega⟩
 have zb47 := (zb3w q).1
 refine byR fun R hR => ?_
 rw [zh9, zbd8, y7, zh6 zr7 rfl]
 rw [znt] at h
 replace h := ob h; obtain ⟨r1, h1, h⟩ := h
 replace h1 := zb3j q (M + 7) (by omega) _ _ h1
 try simp only [kf, simprocAttr] at h1
 replace h := bb h; rcases h with ⟨h2', h2, h⟩ | ⟨h2', h2, h⟩
 ·replace h := ob h; obtain ⟨r2, h3, h⟩ := h
  replace h3 := zb3q q (M + 7) (by omega) _ _ _ h3
  try simp only [kf, simprocAttr] at h3
  replace h := zb47 M (by omega) (M + 7) (by omega) _ _ _ _ _ _ _ _ _ _ _ _ _ _ _ _ _ _ h R hR
  simp only [zb3t, simprocAttr, *]
 ·cases h; subst hR; simp only [zb3t, simprocAttr, *]
def zb3y := y5 @kk <| y5 @ke <| y5 @kn <| y5 @zbpt <| @zbpv
theorem zb3z : ∀ (q N : Nat), 8 * q ≤ N → ∀ (a0 : Int), ∀ (r : Bool), znu q a0 = some r → (orc T N).deep F.znu [(V.int .u8) a0] = some [V.bool r] := by
 intro q N hM a0 r h
 rcases q with _ | q
 ·cases h
 obtain ⟨M, rfl⟩ : ∃ M, N = M + 8 := ⟨N - 8, by omega⟩
 refine byR fun R hR => ?_
 rw [zh9, zbgu, y7, zh6 z81 rfl]
 rw [znu] at h
 cases h; subst hR; simp only [zb3y, simprocAttr, *]
def zb30 (q : Nat) : Prop := ∀ M, 8 * q ≤ M → ∀ j, q ≤ j → ∀ (v0z : Bool) (v0l : List Int) (v7 v8 r : Int), znv q v0z v0l v7 v8 = some r → LS T (M + 5) 0 [0, 1, 7, 8] [.blk 0, .code (.seq (.reg zbdb) .ret)] zbda j (finI 0 false [.tmp 4]) ((some ([(.int .i64 r)], []) : Option (List V × Hp))) [(0, (.sl v0z (List.map (V.int .u8) v0l))), (1, (.fn F.znu [])), (7, (.int .i64 v7)), (8, (.int .i64 v8))] []
def zb31 := y5 @kk <| y5 @ke <| y5 @kn <| y5 @zbrj <| @zbpu
theorem zb32 (q : Nat) (zb49 : zb30 q) : zb30 (q + 1) := by
 intro M hM j hj v0z v0l v7 v8 r h R hR fr H hc
 obtain ⟨j, rfl⟩ : ∃ i, j = i + 1 := ⟨j - 1, by omega⟩
 rw [zhy, hc]; clear hc
 rw [znv] at h
 replace h := br h; rcases h with ⟨h1, h⟩ | ⟨h1, h⟩
 ·replace h := bn h; obtain ⟨h2, h⟩ := h
  replace h := ob h; obtain ⟨e1, h3, h⟩ := h
  replace h := ob h; obtain ⟨r2, h4, h⟩ := h
  replace h4 := zb3z q (M + 5) (by omega) _ _ h4
  replace h := bb h; rcases h with ⟨h5', h5, h⟩ | ⟨h5', h5, h⟩
  ·cases h; subst hR; simp only [zb31, simprocAttr, *]
  ·replace h := zb49 M (by omega) j (by omega) _ _ _ _ _ h R hR
   simp only [zb31, simprocAttr, *]
 ·cases h; subst hR; simp only [zb31, simprocAttr, *]
theorem zb33 : ∀ q, zb30 q
 | 0 => by intro M hM j hj; intros; rename_i h; cases h
 | q + 1 => by have i0 := zb33 q; exact zb32 q i0
theorem zb34 : ∀ (q M : Nat), 8 * q ≤ M → ∀ (v0z : Bool), ∀ (v0l : List Int), ∀ (r : Int), znw q v0z v0l = some r → (orc T (M + 6)).inl F.zqs [(.sl v0z (List.map (V.int .u8) v0l)), (.fn F.znu [])] [] = (some ([(.int .i64 r)], []) : Option (List V × Hp)) := by
 intro q M hM v0z v0l r h
 rcases q with _ | q
 ·cases h
 have zb49 := (zb33 q)
 refine byR fun R hR => ?_
 rw [zbrl (n := M + 5)]
 rw [znw] at h
 replace h := zb49 M (by omega) (M + 5) (by omega) _ _ _ _ _ h R hR
 simp only [zb31, simprocAttr, *]
def zb35 := y5 @kk <| y5 @ke <| y5 @kn <| y5 @zbnb <| y5 @zbpq <| y5 @zbrk <| y5 @zbpr <| y5 @zbps <| @zbnd
theorem zb36 : ∀ (q N : Nat), 8 * q ≤ N → ∀ (a0 : (Sl Int)), ∀ (r : Bool), znx q a0 = some r → (orc T N).deep F.znx [(Sl.enc (V.int .u8)) a0] = some [V.bool r] := by
 intro q N hM a0 r h
 rcases q with _ | q
 ·cases h
 obtain ⟨M, rfl⟩ : ∃ M, N = M + 8 := ⟨N - 8, by omega⟩
 refine byR fun R hR => ?_
 rw [zh9, zbf0, y7, zh6 z1g rfl]
 rw [znx] at h
 replace h := br h; rcases h with ⟨h1, h⟩ | ⟨h1, h⟩
 ·replace h := ob h; obtain ⟨r1, h2, h⟩ := h
  replace h2 := zb34 q M (by omega) _ _ _ h2
  try simp only [kf, simprocAttr] at h2
  cases h; subst hR; simp only [zb35, simprocAttr, *]
 ·cases h; subst hR; simp only [zb35, simprocAttr, *]
def zb37 (q : Nat) : Prop := ∀ M, 8 * q ≤ M → ∀ j, q ≤ j → ∀ (v0z : Bool) (v0l : List Int) (v4 v9 v10 : Int) (r : Int × Int), zny q v0z v0l v4 v9 v10 = some r → LS T (M + 7) 0 [0, 4, 9, 10] [.blk 0, .code (.seq (.reg z9j) .ret)] z9i j (fin z9m) (some [(V.int .u64) r.1, (V.int .i64) r.2]) [(0, (.sl v0z (List.map (V.int .u8) v0l))), (4, (.int .u64 v4)), (9, (.int .i64 v9)), (10, (.int .i64 v10))] []
def zb38 := y5 @kk <| y5 @ke <| y5 @kn <| y5 @zbpw <| @zbpy
theorem zb39 (q : Nat) (zb5a : zb37 q) : zb37 (q + 1) := by
 intro M hM j hj v0z v0l v4 v9 v10 r h R hR fr H hc
 obtain ⟨j, rfl⟩ : ∃ i, j = i + 1 := ⟨j - 1, by omega⟩
 rw [zhy, hc]; clear hc
 rw [zny] at h
 repeat' (first | (cases h; done) | (replace h := bn h; obtain ⟨_, h⟩ := h) | (replace h := bm h; obtain ⟨_, h⟩ := h) | (replace h := br h; rcases h with ⟨_, h⟩ | ⟨_, h⟩) | (replace h := ob h; obtain ⟨_, g, h⟩ := h))
 all_goals (first | (cases h; subst hR; simp only [zb38, simprocAttr, *]) | (replace h := zb5a M (by omega) j (by omega) _ _ _ _ _ _ h R hR; simp only [zb38, simprocAttr, *]))
theorem zb4a : ∀ q, zb37 q
 | 0 => by intro M hM j hj; intros; rename_i h; cases h
 | q + 1 => by have i0 := zb4a q; exact zb39 q i0
theorem zb4b : ∀ (q N : Nat), 8 * q ≤ N → ∀ (a0 : (Sl Int)), ∀ (r : Int × Int), znz q a0 = some r → (orc T N).deep F.znz [(Sl.enc (V.int .u8)) a0] = some [(V.int .u64) r.1, (V.int .i64) r.2] := by
 intro q N hM a0 r h
 rcases q with _ | q
 ·cases h
 obtain ⟨M, rfl⟩ : ∃ M, N = M + 8 := ⟨N - 8, by omega⟩
 have zb5a := (zb4a q)
 refine byR fun R hR => ?_
 rw [zh9, zbgv, y7, zh6 z9m rfl]
 rw [znz] at h
 replace h := zb5a M (by omega) (M + 7) (by omega) _ _ _ _ _ _ h R hR
 simp only [zb38, simprocAttr, *]
def zb4c := y5 @kk <| y5 @ke <| y5 @kn <| y5 @zbne <| y5 @zbpx <| @zbng
theorem zb4d : ∀ (q N : Nat), 8 * q ≤ N → ∀ (a0 : (Sl Int)), ∀ (r : Int × Int), zn0 q a0 = some r → (orc T N).deep F.zn0 [(Sl.enc (V.int .u8)) a0] = some [(V.int .i64) r.1, (V.int .i64) r.2] := by
 intro q N hM a0 r h
 rcases q with _ | q
 ·cases h
 obtain ⟨M, rfl⟩ : ∃ M, N = M + 8 := ⟨N - 8, by omega⟩
 refine byR fun R hR => ?_
 rw [zh9, zbf1, y7, zh6 z1i rfl]
 rw [zn0] at h
 replace h := ob h; obtain ⟨r1, h1, h⟩ := h
 replace h1 := zb4b q (M + 7) (by omega) _ _ h1
 try simp only [kf, simprocAttr] at h1
 replace h := br h; rcases h with ⟨h2, h⟩ | ⟨h2, h⟩
 ·cases h; subst hR; simp only [zb4c, simprocAttr, *]
 ·cases h; subst hR; simp only [zb4c, simprocAttr, *]
def zb4e (q : Nat) : Prop := ∀ M, 8 * q ≤ M → ∀ j, q ≤ j → ∀ (v0z : Bool) (v0l : List Int) (v1z : Bool) (v1l : List Int) (v12 v13 : Int) (r : Bool), zn1 q v0z v0l v1z v1l v12 v13 = some r → LS T (M + 7) 0 [0, 1, 12, 13] [.blk 0, .code (.seq (.reg z1u) .ret)] z1t j (fin z1x) (some [V.bool r]) [(0, (.sl v0z (List.map (V.int .u8) v0l))), (1, (.sl v1z (List.map (V.int .u8) v1l))), (12, (.int .i64 v12)), (13, (.int .i64 v13))] []
def zb4f := y5 @kk <| y5 @ke <| y5 @kn <| y5 @zbnh <| @zbnj
theorem zb4g (q : Nat) (zb5b : zb4e q) : zb4e (q + 1) := by
 intro M hM j hj v0z v0l v1z v1l v12 v13 r h R hR fr H hc
 obtain ⟨j, rfl⟩ : ∃ i, j = i + 1 := ⟨j - 1, by omega⟩
 rw [zhy, hc]; clear hc
 rw [zn1] at h
 replace h := br h; rcases h with ⟨h1, h⟩ | ⟨h1, h⟩
 ·replace h := bn h; obtain ⟨h2, h⟩ := h
  replace h := ob h; obtain ⟨e1, h3, h⟩ := h
  replace h := ob h; obtain ⟨e2, h4, h⟩ := h
  replace h := br h; rcases h with ⟨h5, h⟩ | ⟨h5, h⟩
  ·replace h := zb5b M (by omega) j (by omega) _ _ _ _ _ _ _ h R hR
   simp only [zb4f, simprocAttr, *]
  ·cases h; subst hR; simp only [zb4f, simprocAttr, *]
 ·cases h; subst hR; simp only [zb4f, simprocAttr, *]
theorem zb4h : ∀ q, zb4e q
 | 0 => by intro M hM j hj; intros; rename_i h; cases h
 | q + 1 => by have i0 := zb4h q; exact zb4g q i0
theorem zb4i : ∀ (q N : Nat), 8 * q ≤ N → ∀ (a0 a1 : (Sl Int)), ∀ (r : Bool), zn2 q a0 a1 = some r → (orc T N).deep F.zn2 [(Sl.enc (V.int .u8)) a0, (Sl.enc (V.int .u8)) a1] = some [V.bool r] := by
 intro q N hM a0 a1 r h
 rcases q with _ | q
 ·cases h
 obtain ⟨M, rfl⟩ : ∃ M, N = M + 8 := ⟨N - 8, by omega⟩
 have zb5b := (zb4h q)
 refine byR fun R hR => ?_
 rw [zh9, zbf2, y7, zh6 z1x rfl]
 rw [zn2] at h
 replace h := br h; rcases h with ⟨h1, h⟩ | ⟨h1, h⟩
 ·replace h := zb5b M (by omega) (M + 7) (by omega) _ _ _ _ _ _ _ h R hR
  simp only [zb4f, simprocAttr, *]
 ·cases h; subst hR; simp only [zb4f, simprocAttr, *]
def zb4j := y5 @kk <| y5 @ke <| y5 @kn <| y5 @zbnk <| @zbnm
theorem zb4k : ∀ (q N : Nat), 8 * q ≤ N → ∀ (a0 : (Sl Int)), ∀ (r : (Ow Int)), zn3 q a0 = some r → (orc T N).deep F.zn3 [(Sl.enc (V.int .u8)) a0] = some [(Ow.enc 1 (V.int .u8)) r] := by
 intro q N hM a0 r h
 rcases q with _ | q
 ·cases h
 obtain ⟨M, rfl⟩ : ∃ M, N = M + 8 := ⟨N - 8, by omega⟩
 refine byR fun R hR => ?_
 rw [zh9, zbf3, y7, zh6 z14 rfl]
 rw [zn3] at h
 replace h := bb h; rcases h with ⟨h1', h1, h⟩ | ⟨h1', h1, h⟩
 ·cases h; subst hR; simp only [zb4j, simprocAttr, *]
 ·replace h := bn h; obtain ⟨h2, h⟩ := h
  cases h; subst hR; simp only [zb4j, simprocAttr, *]
def zb4l := y5 @kk <| y5 @ke <| y5 @kn <| y5 @zbj3 <| y5 @zbm9 <| y5 @zbnc <| y5 @zbnf <| y5 @zbni <| y5 @zbnl <| @zbj5
theorem zb4m : ∀ (q N : Nat), 8 * q ≤ N → ∀ (a0 : (Sl Int)), ∀ (r : (Ow Int) × Int × Int), zn4 q a0 = some r → (orc T N).deep F.zn4 [(Sl.enc (V.int .u8)) a0] = some [(Ow.enc 1 (V.int .u8)) r.1, (V.int .i64) r.2.1, (V.int .i64) r.2.2] := by
 intro q N hM a0 r h
 rcases q with _ | q
 ·cases h
 obtain ⟨M, rfl⟩ : ∃ M, N = M + 8 := ⟨N - 8, by omega⟩
 refine byR fun R hR => ?_
 rw [zh9, zbex, y7, zh6 zvn rfl]
 rw [zn4] at h
 repeat' (first | (cases h; done) | (replace h := bb h; rcases h with ⟨_, _, h⟩ | ⟨_, _, h⟩) | (replace h := bn h; obtain ⟨_, h⟩ := h) | (replace h := br h; rcases h with ⟨_, h⟩ | ⟨_, h⟩) | (replace h := ob h; obtain ⟨_, g, h⟩ := h; first | ((first | replace g := zb36 q (M + 7) (by omega) _ _ g | replace g := zb4d q (M + 7) (by omega) _ _ g | replace g := zby5 q (M + 7) (by omega) _ _ _ g | replace g := zb4i q (M + 7) (by omega) _ _ _ g | replace g := zb4k q (M + 7) (by omega) _ _ g); try simp only [kf, simprocAttr] at g) | skip))
 all_goals (cases h; subst hR; simp only [zb4l, simprocAttr, *])
def zb4n := y5 @kk <| y5 @ke <| y5 @kn <| y5 @zbrm <| @zbro
theorem zb4o : ∀ (q N : Nat), 8 * q ≤ N → ∀ (a0 r : Int), zn5 q a0 = some r → (orc T N).deep F.zn5 [(V.int .u64) a0] = some [(V.int .i64) r] := by
 intro q N hM a0 r h
 rcases q with _ | q
 ·cases h
 obtain ⟨M, rfl⟩ : ∃ M, N = M + 8 := ⟨N - 8, by omega⟩
 refine byR fun R hR => ?_
 rw [zh9, zbhg, y7, zh6 zbdi rfl]
 rw [zn5] at h
 cases h; subst hR; simp only [zb4n, simprocAttr, *]
def zb4p := y5 @kk <| y5 @ke <| y5 @kn <| y5 @zbp5 <| y5 @zbpx <| y5 @zbrn <| @zbp7
theorem zb4q : ∀ (q N : Nat), 8 * q ≤ N → ∀ (a0 : (Sl Int)), ∀ (r : Int × Int), zn6 q a0 = some r → (orc T N).deep F.zn6 [(Sl.enc (V.int .u8)) a0] = some [(V.int .i64) r.1, (V.int .i64) r.2] := by
 intro q N hM a0 r h
 rcases q with _ | q
 ·cases h
 obtain ⟨M, rfl⟩ : ∃ M, N = M + 8 := ⟨N - 8, by omega⟩
 refine byR fun R hR => ?_
 rw [zh9, zbgy, y7, zh6 z94 rfl]
 rw [zn6] at h
 replace h := ob h; obtain ⟨r1, h1, h⟩ := h
 replace h1 := zb4b q (M + 7) (by omega) _ _ h1
 try simp only [kf, simprocAttr] at h1
 replace h := br h; rcases h with ⟨h2, h⟩ | ⟨h2, h⟩
 ·cases h; subst hR; simp only [zb4p, simprocAttr, *]
 ·replace h := ob h; obtain ⟨r2, h3, h⟩ := h
  replace h3 := zb4o q (M + 7) (by omega) _ _ h3
  cases h; subst hR; simp only [zb4p, simprocAttr, *]
end Go.Dvm.C
