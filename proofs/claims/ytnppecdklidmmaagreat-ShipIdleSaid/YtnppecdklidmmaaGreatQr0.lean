/- The machine comes to these answers: part 1. -/
import Derived.Test.YtnppecdklidmmaaGreatQl0
import Derived.KernelRfl
set_option linter.all false
set_option maxRecDepth 100000
set_option maxHeartbeats 4000000
namespace Go.Dvm.C
open Go Go.Dvm Go.Dvm.I
def zb5r := And.intro @kk <| And.intro @ke <| And.intro @kn <| And.intro @zbvn <| @zbvp
theorem zb5s : ∀ (q N : Nat), 8 * q ≤ N → ∀ (a0 r : Int), zku q a0 = some r → (orc T N).deep F.zku [(V.int .i64) a0] = some [(V.int .i64) r] := by
 intro q N hM a0 r h
 rcases q with _ | q
 ·cases h
 obtain ⟨M, rfl⟩ : ∃ M, N = M + 8 := ⟨N - 8, by omega⟩
 refine byR fun R hR => ?_
 rw [zh8, zbp0, y4, zh6 zv8 rfl]
 rw [zku] at h
 cases h; subst hR; simp only [zb5r, simprocAttr, *]
def zb5t := And.intro @kk <| And.intro @ke <| And.intro @kn <| And.intro @zbuo <| And.intro @zbvo <| @zbuq
theorem zb5u : ∀ (q N : Nat), 8 * q ≤ N → ∀ (a0 : zkn), ∀ (r : Bool), zkv q a0 = some r → (orc T N).deep F.zkv [zkn.enc a0] = some [V.bool r] := by
 intro q N hM a0 r h
 rcases q with _ | q
 ·cases h
 obtain ⟨M, rfl⟩ : ∃ M, N = M + 8 := ⟨N - 8, by omega⟩
 refine byR fun R hR => ?_
 rw [zh8, zbpo, y4, zh6 zt4 rfl]
 rw [zkv] at h
 repeat' (first | (cases h; done) | (replace h := br h; rcases h with ⟨_, h⟩ | ⟨_, h⟩) | (replace h := ob h; obtain ⟨_, g, h⟩ := h; first | (replace g := zb5s q (M + 7) (by omega) _ _ g; try simp only [kf, simprocAttr] at g) | skip))
 all_goals (cases h; subst hR; simp only [zb5t, simprocAttr, *])
def zb5v := And.intro @kk <| And.intro @ke <| And.intro @kn <| And.intro @zbtf <| And.intro @zbup <| @zbth
theorem zb5w : ∀ (q N : Nat), 8 * q ≤ N → ∀ (a0 : zko), ∀ (r : Bool), zkw q a0 = some r → (orc T N).deep F.zkw [zko.enc a0] = some [V.bool r] := by
 intro q N hM a0 r h
 rcases q with _ | q
 ·cases h
 obtain ⟨M, rfl⟩ : ∃ M, N = M + 8 := ⟨N - 8, by omega⟩
 refine byR fun R hR => ?_
 rw [zh8, zbo3, y4, zh6 zqv rfl]
 rw [zkw] at h
 repeat' (first | (cases h; done) | (replace h := bb h; rcases h with ⟨_, _, h⟩ | ⟨_, _, h⟩) | (replace h := br h; rcases h with ⟨_, h⟩ | ⟨_, h⟩) | (replace h := ob h; obtain ⟨_, g, h⟩ := h; first | (replace g := zb5u q (M + 7) (by omega) _ _ g; try simp only [kf, simprocAttr] at g) | skip))
 all_goals (cases h; subst hR; simp only [zb5v, simprocAttr, *])
def zb5x := And.intro @kk <| And.intro @ke <| And.intro @kn <| And.intro @zbvk <| And.intro @zbvo <| @zbvm
theorem zb5y : ∀ (q N : Nat), 8 * q ≤ N → ∀ (a0 : Int), ∀ (r : Bool), zkx q a0 = some r → (orc T N).deep F.zkx [(V.int .i64) a0] = some [V.bool r] := by
 intro q N hM a0 r h
 rcases q with _ | q
 ·cases h
 obtain ⟨M, rfl⟩ : ∃ M, N = M + 8 := ⟨N - 8, by omega⟩
 refine byR fun R hR => ?_
 rw [zh8, zbpz, y4, zh6 zv6 rfl]
 rw [zkx] at h
 replace h := ob h; obtain ⟨r1, h1, h⟩ := h
 replace h1 := zb5s q (M + 7) (by omega) _ _ h1
 cases h; subst hR; simp only [zb5x, simprocAttr, *]
def zb5z (q : Nat) : Prop := ∀ M, 8 * q ≤ M → ∀ j, q ≤ j → ∀ (v0z : Bool) (v0l : List Int) (v1 v5 v6 : Int) (r : Bool), zky q v0z v0l v1 v5 v6 = some r → LS T (M + 7) 0 [0, 1, 5, 6] [.blk 0, .code (.seq (.reg zwa) .ret)] zv9 j (fin zwd) (some [V.bool r]) [(0, (.sl v0z (List.map (V.int .i64) v0l))), (1, (.int .i64 v1)), (5, (.int .i64 v5)), (6, (.int .i64 v6))] []
def zb50 := And.intro @kk <| And.intro @ke <| And.intro @kn <| And.intro @zbvq <| @zbvs
theorem zb51 (q : Nat) (zcbm : zb5z q) : zb5z (q + 1) := by
 intro M hM j hj v0z v0l v1 v5 v6 r h R hR fr H hc
 obtain ⟨j, rfl⟩ : ∃ i, j = i + 1 := ⟨j - 1, by omega⟩
 rw [zhy, hc]; clear hc
 rw [zky] at h
 repeat' (first | (cases h; done) | (replace h := bn h; obtain ⟨_, h⟩ := h) | (replace h := br h; rcases h with ⟨_, h⟩ | ⟨_, h⟩) | (replace h := ob h; obtain ⟨_, g, h⟩ := h))
 all_goals (first | (cases h; subst hR; simp only [zb50, simprocAttr, *]) | (replace h := zcbm M (by omega) j (by omega) _ _ _ _ _ _ h R hR; simp only [zb50, simprocAttr, *]))
theorem zb52 : ∀ q, zb5z q
 | 0 => by intro M hM j hj; intros; rename_i h; cases h
 | q + 1 => by have i0 := zb52 q; exact zb51 q i0
theorem zb53 : ∀ (q N : Nat), 8 * q ≤ N → ∀ (a0 : (Sl Int)) (a1 : Int), ∀ (r : Bool), zkz q a0 a1 = some r → (orc T N).deep F.zkz [(Sl.enc (V.int .i64)) a0, (V.int .i64) a1] = some [V.bool r] := by
 intro q N hM a0 a1 r h
 rcases q with _ | q
 ·cases h
 obtain ⟨M, rfl⟩ : ∃ M, N = M + 8 := ⟨N - 8, by omega⟩
 have zcbm := (zb52 q)
 refine byR fun R hR => ?_
 rw [zh8, zbp1, y4, zh6 zwd rfl]
 rw [zkz] at h
 replace h := zcbm M (by omega) (M + 7) (by omega) _ _ _ _ _ _ h R hR
 simp only [zb50, simprocAttr, *]
def zb54 (q : Nat) : Prop := ∀ M, 8 * q ≤ M → ∀ j, q ≤ j → ∀ (v0z : Bool) (v0l : List Int) (v7 v8 h0_0 : Int) (h0_1z : Bool) (h0_1l : List Int) (h0_2 : Bool) (h0_3 r : Int), zk0 q v0z v0l v7 v8 h0_0 h0_1z h0_1l h0_2 h0_3 = some r → LS T (M + 5) 1 [0, 1, 7, 8] [.blk 0, .code (.seq (.reg z42) .ret)] z41 j (finI 1 false [.tmp 4]) ((some ([(.int .i64 r)], [(.box [(.int .i64 h0_0), (.sl h0_1z (List.map (V.int .i64) h0_1l)), (.bool h0_2), (.int .i64 h0_3)])]) : Option (List V × Hp))) [(0, (.sl v0z (List.map (V.int .i64) v0l))), (1, (.fn F.zkx [])), (7, (.int .i64 v7)), (8, (.int .i64 v8))] [(.box [(.int .i64 h0_0), (.sl h0_1z (List.map (V.int .i64) h0_1l)), (.bool h0_2), (.int .i64 h0_3)])]
def zb55 := And.intro @kk <| And.intro @ke <| And.intro @kn <| And.intro @zbxe <| @zbvl
theorem zb56 (q : Nat) (zcbn : zb54 q) : zb54 (q + 1) := by
 intro M hM j hj v0z v0l v7 v8 h0_0 h0_1z h0_1l h0_2 h0_3 r h R hR fr H hc
 obtain ⟨j, rfl⟩ : ∃ i, j = i + 1 := ⟨j - 1, by omega⟩
 rw [zhy, hc]; clear hc
 rw [zk0] at h
 replace h := br h; rcases h with ⟨h1, h⟩ | ⟨h1, h⟩
 ·replace h := bn h; obtain ⟨h2, h⟩ := h
  replace h := ob h; obtain ⟨e1, h3, h⟩ := h
  replace h := ob h; obtain ⟨r2, h4, h⟩ := h
  replace h4 := zb5y q (M + 5) (by omega) _ _ h4
  replace h := bb h; rcases h with ⟨h5', h5, h⟩ | ⟨h5', h5, h⟩
  ·cases h; subst hR; simp only [zb55, simprocAttr, *]
  ·replace h := zcbn M (by omega) j (by omega) _ _ _ _ _ _ _ _ _ _ h R hR
   simp only [zb55, simprocAttr, *]
 ·cases h; subst hR; simp only [zb55, simprocAttr, *]
theorem zb57 : ∀ q, zb54 q
 | 0 => by intro M hM j hj; intros; rename_i h; cases h
 | q + 1 => by have i0 := zb57 q; exact zb56 q i0
theorem zb58 : ∀ (q M : Nat), 8 * q ≤ M → ∀ (v0z : Bool), ∀ (v0l : List Int), ∀ (h0_0 : Int), ∀ (h0_1z : Bool), ∀ (h0_1l : List Int), ∀ (h0_2 : Bool), ∀ (h0_3 r : Int), zk1 q v0z v0l h0_0 h0_1z h0_1l h0_2 h0_3 = some r → (orc T (M + 6)).inl F.zpk [(.sl v0z (List.map (V.int .i64) v0l)), (.fn F.zkx [])] [(.box [(.int .i64 h0_0), (.sl h0_1z (List.map (V.int .i64) h0_1l)), (.bool h0_2), (.int .i64 h0_3)])] = (some ([(.int .i64 r)], [(.box [(.int .i64 h0_0), (.sl h0_1z (List.map (V.int .i64) h0_1l)), (.bool h0_2), (.int .i64 h0_3)])]) : Option (List V × Hp)) := by
 intro q M hM v0z v0l h0_0 h0_1z h0_1l h0_2 h0_3 r h
 rcases q with _ | q
 ·cases h
 have zcbn := (zb57 q)
 refine byR fun R hR => ?_
 rw [zbxg (n := M + 5)]
 rw [zk1] at h
 replace h := zcbn M (by omega) (M + 5) (by omega) _ _ _ _ _ _ _ _ _ _ h R hR
 simp only [zb55, simprocAttr, *]
def zb59 := And.intro @kk <| And.intro @ke <| And.intro @kn <| And.intro @zbto <| And.intro @zbvh <| And.intro @zbvr <| And.intro @zbxf <| And.intro @zbvi <| And.intro @zbvj <| @zbtq
theorem zb6a : ∀ (q N : Nat), 8 * q ≤ N → ∀ (a0 : zkk), ∀ (r : Bool), zk2 q a0 = some r → (orc T N).deep F.zk2 [zkk.enc a0] = some [V.bool r] := by
 intro q N hM a0 r h
 rcases q with _ | q
 ·cases h
 obtain ⟨M, rfl⟩ : ∃ M, N = M + 8 := ⟨N - 8, by omega⟩
 refine byR fun R hR => ?_
 rw [zh8, zbo6, y4, zh6 zrs rfl]
 rw [zk2] at h
 repeat' (first | (cases h; done) | (replace h := bb h; rcases h with ⟨_, _, h⟩ | ⟨_, _, h⟩) | (replace h := br h; rcases h with ⟨_, h⟩ | ⟨_, h⟩) | (replace h := ob h; obtain ⟨_, g, h⟩ := h; first | (replace g := zb58 q M (by omega) _ _ _ _ _ _ _ _ g; try simp only [kf, simprocAttr] at g) | (replace g := zb53 q (M + 7) (by omega) _ _ _ g; try simp only [kf, simprocAttr] at g) | skip))
 all_goals (cases h; subst hR; simp only [zb59, simprocAttr, *])
def zb6b := And.intro @kk <| And.intro @ke <| And.intro @kn <| And.intro @zbur <| And.intro @zbvo <| @zbut
theorem zb6c : ∀ (q N : Nat), 8 * q ≤ N → ∀ (a0 : zkk) (a1 : zkn), ∀ (r : zkk × Int), zk3 q a0 a1 = some r → (orc T N).deep F.zk3 [zkk.enc a0, zkn.enc a1] = some [zkk.enc r.1, (V.int .i64) r.2] := by
 intro q N hM a0 a1 r h
 rcases q with _ | q
 ·cases h
 obtain ⟨M, rfl⟩ : ∃ M, N = M + 8 := ⟨N - 8, by omega⟩
 refine byR fun R hR => ?_
 rw [zh8, zbpp, y4, zh6 zua rfl]
 rw [zk3] at h
 repeat' (first | (cases h; done) | (replace h := br h; rcases h with ⟨_, h⟩ | ⟨_, h⟩) | (replace h := ob h; obtain ⟨_, g, h⟩ := h; first | (replace g := zb5s q (M + 7) (by omega) _ _ g; try simp only [kf, simprocAttr] at g) | skip))
 all_goals (cases h; subst hR; simp only [zb6b, simprocAttr, *])
def zb6d := And.intro @kk <| And.intro @ke <| And.intro @kn <| And.intro @zbtu <| @zbtw
theorem zb6e : ∀ (q N : Nat), 8 * q ≤ N → ∀ (a0 : (Sl Int)), ∀ (r : (Ow Int)), zk4 q a0 = some r → (orc T N).deep F.zk4 [(Sl.enc (V.int .i64)) a0] = some [(Ow.enc 1 (V.int .i64)) r] := by
 intro q N hM a0 r h
 rcases q with _ | q
 ·cases h
 obtain ⟨M, rfl⟩ : ∃ M, N = M + 8 := ⟨N - 8, by omega⟩
 refine byR fun R hR => ?_
 rw [zh8, zbo8, y4, zh6 zry rfl]
 rw [zk4] at h
 replace h := bb h; rcases h with ⟨h1', h1, h⟩ | ⟨h1', h1, h⟩
 ·cases h; subst hR; simp only [zb6d, simprocAttr, *]
 ·replace h := bn h; obtain ⟨h2, h⟩ := h
  cases h; subst hR; simp only [zb6d, simprocAttr, *]
def zb6f := And.intro @kk <| And.intro @ke <| And.intro @kn <| And.intro @zbwz <| @zbw1
theorem zb6g : ∀ (q N : Nat), 8 * q ≤ N → ∀ (a0 : (Ow Int)) (a1 a2 : Int), ∀ (r : (Ow Int)), zk5 q a0 a1 a2 = some r → (orc T N).deep F.zk5 [(Ow.enc 1 (V.int .i64)) a0, (V.int .i64) a1, (V.int .i64) a2] = some [(Ow.enc 1 (V.int .i64)) r] := by
 intro q N hM a0 a1 a2 r h
 rcases q with _ | q
 ·cases h
 obtain ⟨M, rfl⟩ : ∃ M, N = M + 8 := ⟨N - 8, by omega⟩
 refine byR fun R hR => ?_
 rw [zh8, zbqw, y4, zh6 z3e rfl]
 rw [zk5] at h
 repeat' (first | (cases h; done) | (replace h := bb h; rcases h with ⟨_, _, h⟩ | ⟨_, _, h⟩) | (replace h := bn h; obtain ⟨_, h⟩ := h) | (replace h := bm h; obtain ⟨_, h⟩ := h) | (replace h := br h; rcases h with ⟨_, h⟩ | ⟨_, h⟩))
 all_goals (cases h; subst hR; simp only [zb6f, simprocAttr, *])
def zb6h := And.intro @kk <| And.intro @ke <| And.intro @kn <| And.intro @zbuu <| And.intro @zbtv <| And.intro @zbvo <| And.intro @zbw0 <| @zbuw
theorem zb6i : ∀ (q N : Nat), 8 * q ≤ N → ∀ (a0 : zkk) (a1 : zkn), ∀ (r : zkk × Int), zk6 q a0 a1 = some r → (orc T N).deep F.zk6 [zkk.enc a0, zkn.enc a1] = some [zkk.enc r.1, (V.int .i64) r.2] := by
 intro q N hM a0 a1 r h
 rcases q with _ | q
 ·cases h
 obtain ⟨M, rfl⟩ : ∃ M, N = M + 8 := ⟨N - 8, by omega⟩
 refine byR fun R hR => ?_
 rw [zh8, zbpq, y4, zh6 zup rfl]
 rw [zk6] at h
 repeat' (first | (cases h; done) | (replace h := bn h; obtain ⟨_, h⟩ := h) | (replace h := br h; rcases h with ⟨_, h⟩ | ⟨_, h⟩) | (replace h := ob h; obtain ⟨_, g, h⟩ := h; first | (replace g := zb6e q (M + 7) (by omega) _ _ g; try simp only [kf, simprocAttr] at g) | (replace g := zb5s q (M + 7) (by omega) _ _ g; try simp only [kf, simprocAttr] at g) | (replace g := zb6g q (M + 7) (by omega) _ _ _ _ g; try simp only [kf, simprocAttr] at g) | skip))
 all_goals (cases h; subst hR; simp only [zb6h, simprocAttr, *])
def zb6j (q : Nat) : Prop := ∀ M, 8 * q ≤ M → ∀ j, q ≤ j → ∀ (v0z : Bool) (v0l : List Int) (v1 v6 : Int) (r : Int × Bool), zk7 q v0z v0l v1 v6 = some r → LS T (M + 7) 0 [0, 1, 6] [.blk 0, .code (.seq (.dreg z3s []) .ret)] z3r j (fin z3v) (some [(V.int .i64) r.1, V.bool r.2]) [(0, (.sl v0z (List.map (V.int .i64) v0l))), (1, (.int .i64 v1)), (6, (.int .i64 v6))] []
def zb6k := And.intro @kk <| And.intro @ke <| And.intro @kn <| And.intro @zbw5 <| @zbw7
theorem zb6l (q : Nat) (zcbo : zb6j q) : zb6j (q + 1) := by
 intro M hM j hj v0z v0l v1 v6 r h R hR fr H hc
 obtain ⟨j, rfl⟩ : ∃ i, j = i + 1 := ⟨j - 1, by omega⟩
 rw [zhy, hc]; clear hc
 rw [zk7] at h
 replace h := br h; rcases h with ⟨h1, h⟩ | ⟨h1, h⟩
 ·replace h := bn h; obtain ⟨h2, h⟩ := h
  replace h := ob h; obtain ⟨e1, h3, h⟩ := h
  replace h := br h; rcases h with ⟨h4, h⟩ | ⟨h4, h⟩
  ·replace h := zcbo M (by omega) j (by omega) _ _ _ _ _ h R hR
   simp only [zb6k, simprocAttr, *]
  ·cases h; subst hR; simp only [zb6k, simprocAttr, *]
 ·cases h; subst hR; simp only [zb6k, simprocAttr, *]
theorem zb6m : ∀ q, zb6j q
 | 0 => by intro M hM j hj; intros; rename_i h; cases h
 | q + 1 => by have i0 := zb6m q; exact zb6l q i0
theorem zb6n : ∀ (q N : Nat), 8 * q ≤ N → ∀ (a0 : (Sl Int)) (a1 : Int), ∀ (r : Int × Bool), zk8 q a0 a1 = some r → (orc T N).deep F.zk8 [(Sl.enc (V.int .i64)) a0, (V.int .i64) a1] = some [(V.int .i64) r.1, V.bool r.2] := by
 intro q N hM a0 a1 r h
 rcases q with _ | q
 ·cases h
 obtain ⟨M, rfl⟩ : ∃ M, N = M + 8 := ⟨N - 8, by omega⟩
 have zcbo := (zb6m q)
 refine byR fun R hR => ?_
 rw [zh8, zbqy, y4, zh6 z3v rfl]
 rw [zk8] at h
 replace h := zcbo M (by omega) (M + 7) (by omega) _ _ _ _ _ h R hR
 simp only [zb6k, simprocAttr, *]
def zb6o := And.intro @kk <| And.intro @ke <| And.intro @kn <| And.intro @zbw2 <| And.intro @zbw6 <| @zbw4
theorem zb6p : ∀ (q N : Nat), 8 * q ≤ N → ∀ (a0 : (Sl Int)) (a1 : Int), ∀ (r : Int), zk9 q a0 a1 = some r → (orc T N).deep F.zk9 [(Sl.enc (V.int .i64)) a0, (V.int .i64) a1] = some [(V.int .i64) r] := by
 intro q N hM a0 a1 r h
 rcases q with _ | q
 ·cases h
 obtain ⟨M, rfl⟩ : ∃ M, N = M + 8 := ⟨N - 8, by omega⟩
 refine byR fun R hR => ?_
 rw [zh8, zbqx, y4, zh6 z3m rfl]
 rw [zk9] at h
 replace h := ob h; obtain ⟨r1, h1, h⟩ := h
 replace h1 := zb6n q (M + 7) (by omega) _ _ _ h1
 try simp only [kf, simprocAttr] at h1
 replace h := bb h; rcases h with ⟨h2', h2, h⟩ | ⟨h2', h2, h⟩
 ·replace h := bn h; obtain ⟨h3, h⟩ := h
  replace h := ob h; obtain ⟨e2, h4, h⟩ := h
  cases h; subst hR; simp only [zb6o, simprocAttr, *]
 ·cases h; subst hR; simp only [zb6o, simprocAttr, *]
theorem zb6q : ∀ (q N : Nat), 8 * q ≤ N → ∀ (a0 : (Ow Int)) (a1 : Int) (a2 : (Ow Int)), ∀ (r : (Ow Int)), zla q a0 a1 a2 = some r → (orc T N).deep F.zla [(Ow.enc 1 (V.int .i64)) a0, (V.int .i64) a1, (Ow.enc 1 (V.int .i64)) a2] = some [(Ow.enc 1 (V.int .i64)) r] := by
 intro q N hM a0 a1 a2 r h
 rcases q with _ | q
 ·cases h
 obtain ⟨M, rfl⟩ : ∃ M, N = M + 8 := ⟨N - 8, by omega⟩
 rw [zh8, zbrx, y4, zh5 zbc0 rfl]
 rw [zla] at h
 by_cases c : insOk a0 a1 a2
 ·rw [if_pos c] at h; cases h; exact zje (V.int .i64) 1 c
 ·rw [if_neg c] at h; cases h
def zb6r := And.intro @kk <| And.intro @ke <| And.intro @kn <| And.intro @zbw8 <| And.intro @zbtv <| And.intro @zbw6 <| And.intro @zby2 <| @zbxa
theorem zb6s : ∀ (q N : Nat), 8 * q ≤ N → ∀ (a0 : (Sl Int)) (a1 a2 : Int), ∀ (r : (Sl Int) × Bool), zlb q a0 a1 a2 = some r → (orc T N).deep F.zlb [(Sl.enc (V.int .i64)) a0, (V.int .i64) a1, (V.int .i64) a2] = some [(Sl.enc (V.int .i64)) r.1, V.bool r.2] := by
 intro q N hM a0 a1 a2 r h
 rcases q with _ | q
 ·cases h
 obtain ⟨M, rfl⟩ : ∃ M, N = M + 8 := ⟨N - 8, by omega⟩
 refine byR fun R hR => ?_
 rw [zh8, zbqz, y4, zh6 z38 rfl]
 rw [zlb] at h
 repeat' (first | (cases h; done) | (replace h := bb h; rcases h with ⟨_, _, h⟩ | ⟨_, _, h⟩) | (replace h := bn h; obtain ⟨_, h⟩ := h) | (replace h := br h; rcases h with ⟨_, h⟩ | ⟨_, h⟩) | (replace h := ob h; obtain ⟨_, g, h⟩ := h; first | (replace g := zb6n q (M + 7) (by omega) _ _ _ g; try simp only [kf, simprocAttr] at g) | (replace g := zb6e q (M + 7) (by omega) _ _ g; try simp only [kf, simprocAttr] at g) | (replace g := zb6q q (M + 7) (by omega) _ _ _ _ g; try simp only [kf, simprocAttr] at g) | skip))
 all_goals (cases h; subst hR; simp only [zb6r, simprocAttr, *])
def zb6t := And.intro @kk <| And.intro @ke <| And.intro @kn <| And.intro @zbux <| And.intro @zbtv <| And.intro @zbvo <| And.intro @zbw0 <| And.intro @zbw3 <| And.intro @zbw6 <| And.intro @zbw9 <| @zbuz
theorem zb6u : ∀ (q N : Nat), 8 * q ≤ N → ∀ (a0 : zkk) (a1 : zkn), ∀ (r : zkk × Int), zlc q a0 a1 = some r → (orc T N).deep F.zlc [zkk.enc a0, zkn.enc a1] = some [zkk.enc r.1, (V.int .i64) r.2] := by
 intro q N hM a0 a1 r h
 rcases q with _ | q
 ·cases h
 obtain ⟨M, rfl⟩ : ∃ M, N = M + 8 := ⟨N - 8, by omega⟩
 refine byR fun R hR => ?_
 rw [zh8, zbpr, y4, zh6 zu5 rfl]
 rw [zlc] at h
 repeat' (first | (cases h; done) | (replace h := bb h; rcases h with ⟨_, _, h⟩ | ⟨_, _, h⟩) | (replace h := br h; rcases h with ⟨_, h⟩ | ⟨_, h⟩) | (replace h := ob h; obtain ⟨_, g, h⟩ := h; first | (replace g := zb6p q (M + 7) (by omega) _ _ _ g; try simp only [kf, simprocAttr] at g) | (replace g := zb6n q (M + 7) (by omega) _ _ _ g; try simp only [kf, simprocAttr] at g) | (replace g := zb6e q (M + 7) (by omega) _ _ g; try simp only [kf, simprocAttr] at g) | (replace g := zb6g q (M + 7) (by omega) _ _ _ _ g; try simp only [kf, simprocAttr] at g) | (replace g := zb5s q (M + 7) (by omega) _ _ g; try simp only [kf, simprocAttr] at g) | (replace g := zb6s q (M + 7) (by omega) _ _ _ _ g; try simp only [kf, simprocAttr] at g) | skip))
 all_goals (cases h; subst hR; simp only [zb6t, simprocAttr, *])
def zb6v := And.intro @kk <| And.intro @ke <| And.intro @kn <| And.intro @zbxb <| And.intro @zbw3 <| And.intro @zbw9 <| @zbxd
theorem zb6w : ∀ (q N : Nat), 8 * q ≤ N → ∀ (a0 : zkk) (a1 : zkn), ∀ (r : zkk × Int), zld q a0 a1 = some r → (orc T N).deep F.zld [zkk.enc a0, zkn.enc a1] = some [zkk.enc r.1, (V.int .i64) r.2] := by
 intro q N hM a0 a1 r h
 rcases q with _ | q
 ·cases h
 obtain ⟨M, rfl⟩ : ∃ M, N = M + 8 := ⟨N - 8, by omega⟩
 refine byR fun R hR => ?_
 rw [zh8, zbq0, y4, zh6 z4s rfl]
 rw [zld] at h
 repeat' (first | (cases h; done) | (replace h := bb h; rcases h with ⟨_, _, h⟩ | ⟨_, _, h⟩) | (replace h := br h; rcases h with ⟨_, h⟩ | ⟨_, h⟩) | (replace h := ob h; obtain ⟨_, g, h⟩ := h; first | (replace g := zb6p q (M + 7) (by omega) _ _ _ g; try simp only [kf, simprocAttr] at g) | (replace g := zb6s q (M + 7) (by omega) _ _ _ _ g; try simp only [kf, simprocAttr] at g) | skip))
 all_goals (cases h; subst hR; simp only [zb6v, simprocAttr, *])
def zb6x := And.intro @kk <| And.intro @ke <| And.intro @kn <| And.intro @zbu0 <| And.intro @zbvo <| And.intro @zbw3 <| And.intro @zbw9 <| And.intro @zbxc <| @zbu2
theorem zb6y : ∀ (q N : Nat), 8 * q ≤ N → ∀ (a0 : zkk) (a1 : zkn), ∀ (r : zkk × Int), zle q a0 a1 = some r → (orc T N).deep F.zle [zkk.enc a0, zkn.enc a1] = some [zkk.enc r.1, (V.int .i64) r.2] := by
 intro q N hM a0 a1 r h
 rcases q with _ | q
 ·cases h
 obtain ⟨M, rfl⟩ : ∃ M, N = M + 8 := ⟨N - 8, by omega⟩
 refine byR fun R hR => ?_
 rw [zh8, zbps, y4, zh6 zvj rfl]
 rw [zle] at h
 repeat' (first | (cases h; done) | (replace h := bb h; rcases h with ⟨_, _, h⟩ | ⟨_, _, h⟩) | (replace h := br h; rcases h with ⟨_, h⟩ | ⟨_, h⟩) | (replace h := ob h; obtain ⟨_, g, h⟩ := h; first | (replace g := zb6w q (M + 7) (by omega) _ _ _ g; try simp only [kf, simprocAttr] at g) | (replace g := zb6p q (M + 7) (by omega) _ _ _ g; try simp only [kf, simprocAttr] at g) | (replace g := zb5s q (M + 7) (by omega) _ _ g; try simp only [kf, simprocAttr] at g) | (replace g := zb6s q (M + 7) (by omega) _ _ _ _ g; try simp only [kf, simprocAttr] at g) | skip))
 all_goals (cases h; subst hR; simp only [zb6x, simprocAttr, *])
def zb6z := And.intro @kk <| And.intro @ke <| And.intro @kn <| And.intro @zbti <| And.intro @zbtp <| And.intro @zbus <| And.intro @zbuv <| And.intro @zbuy <| And.intro @zbu1 <| @zbtk
theorem zb60 : ∀ (q N : Nat), 8 * q ≤ N → ∀ (a0 : zkk) (a1 : zkn), ∀ (r : zkk × Int), zlf q a0 a1 = some r → (orc T N).deep F.zlf [zkk.enc a0, zkn.enc a1] = some [zkk.enc r.1, (V.int .i64) r.2] := by
 intro q N hM a0 a1 r h
 rcases q with _ | q
 ·cases h
 obtain ⟨M, rfl⟩ : ∃ M, N = M + 8 := ⟨N - 8, by omega⟩
 refine byR fun R hR => ?_
 rw [zh8, zbo4, y4, zh6 zrd rfl]
 rw [zlf] at h
 repeat' (first | (cases h; done) | (replace h := bb h; rcases h with ⟨_, _, h⟩ | ⟨_, _, h⟩) | (replace h := br h; rcases h with ⟨_, h⟩ | ⟨_, h⟩) | (replace h := ob h; obtain ⟨_, g, h⟩ := h; first | (replace g := zb6a q (M + 7) (by omega) _ _ g; try simp only [kf, simprocAttr] at g) | (replace g := zb6c q (M + 7) (by omega) _ _ _ g; try simp only [kf, simprocAttr] at g) | (replace g := zb6i q (M + 7) (by omega) _ _ _ g; try simp only [kf, simprocAttr] at g) | (replace g := zb6u q (M + 7) (by omega) _ _ _ g; try simp only [kf, simprocAttr] at g) | (replace g := zb6y q (M + 7) (by omega) _ _ _ g; try simp only [kf, simprocAttr] at g) | skip))
 all_goals (cases h; subst hR; simp only [zb6z, simprocAttr, *])
def zb61 := And.intro @kk <| And.intro @ke <| And.intro @kn <| And.intro @zbul <| @zbun
theorem zb62 : ∀ (q N : Nat), 8 * q ≤ N → ∀ (a0 : (Sl zkl)), ∀ (r : (Ow zkl)), zlg q a0 = some r → (orc T N).deep F.zlg [(Sl.enc zkl.enc) a0] = some [(Ow.enc 3 zkl.enc) r] := by
 intro q N hM a0 r h
 rcases q with _ | q
 ·cases h
 obtain ⟨M, rfl⟩ : ∃ M, N = M + 8 := ⟨N - 8, by omega⟩
 refine byR fun R hR => ?_
 rw [zh8, zbpl, y4, zh6 ztw rfl]
 rw [zlg] at h
 replace h := bb h; rcases h with ⟨h1', h1, h⟩ | ⟨h1', h1, h⟩
 ·cases h; subst hR; simp only [zb61, simprocAttr, *]
 ·replace h := bn h; obtain ⟨h2, h⟩ := h
  cases h; subst hR; simp only [zb61, simprocAttr, *]
theorem zb63 : ∀ (q N : Nat), 8 * q ≤ N → ∀ (a0 : (Ow zkl)) (a1 : Int) (a2 : (Ow zkl)), ∀ (r : (Ow zkl)), zlh q a0 a1 a2 = some r → (orc T N).deep F.zlh [(Ow.enc 3 zkl.enc) a0, (V.int .i64) a1, (Ow.enc 3 zkl.enc) a2] = some [(Ow.enc 3 zkl.enc) r] := by
 intro q N hM a0 a1 a2 r h
 rcases q with _ | q
 ·cases h
 obtain ⟨M, rfl⟩ : ∃ M, N = M + 8 := ⟨N - 8, by omega⟩
 rw [zh8, zbpx, y4, zh5 zv2 rfl]
 rw [zlh] at h
 by_cases c : insOk a0 a1 a2
 ·rw [if_pos c] at h; cases h; exact zje zkl.enc 3 c
 ·rw [if_neg c] at h; cases h
def zb64 (q : Nat) : Prop := ∀ M, 8 * q ≤ M → ∀ j, q ≤ j → ∀ (w1 : Nat) (v7 v8 h0_0 h0_1 h0_2 h0_3 h0_4 h0_5 h0_6 : Int) (h1z : Bool) (h1l : List zkl) (h1x : Bool) (r : Int), zli q v7 v8 h0_0 h0_1 h0_2 h0_3 h0_4 h0_5 h0_6 h1z h1l h1x = some r → LS T (M + 5) 2 [0, 1, 7, 8] [.blk 0, .code (.seq (.reg zvw) .ret)] c_81_9 j (finI 2 false [.tmp 4]) ((some ([(.int .i64 r)], [(.box [(.int .i64 h0_0), (.int .i64 h0_1), (.int .i64 h0_2), (.int .i64 h0_3), (.int .i64 h0_4), (.int .i64 h0_5), (.int .i64 h0_6)]), (.row w1 h1z 3 (List.map zkl.enc h1l) h1x)]) : Option (List V × Hp))) [(0, (.vw 1 w1 0 h1l.length 1)), (1, (.fn F.zo0 [(.ptr 0 0)])), (7, (.int .i64 v7)), (8, (.int .i64 v8))] [(.box [(.int .i64 h0_0), (.int .i64 h0_1), (.int .i64 h0_2), (.int .i64 h0_3), (.int .i64 h0_4), (.int .i64 h0_5), (.int .i64 h0_6)]), (.row w1 h1z 3 (List.map zkl.enc h1l) h1x)]
def zb65 := And.intro @kk <| And.intro @ke <| And.intro @kn <| And.intro @zbu6 <| And.intro @zbu9 <| And.intro @zbu7 <| @zbu8
theorem zb66 (q : Nat) (zcbp : zb64 q) : zb64 (q + 1) := by
 intro M hM j hj w1 v7 v8 h0_0 h0_1 h0_2 h0_3 h0_4 h0_5 h0_6 h1z h1l h1x r h R hR fr H hc
 obtain ⟨j, rfl⟩ : ∃ i, j = i + 1 := ⟨j - 1, by omega⟩
 rw [zhy, hc]; clear hc
 rw [zli] at h
 replace h := br h; rcases h with ⟨h1, h⟩ | ⟨h1, h⟩
 ·replace h := bn h; obtain ⟨h2, h⟩ := h
  replace h := bn h; obtain ⟨h3, h⟩ := h
  replace h := ob h; obtain ⟨e1, h4, h⟩ := h
  replace h := br h; rcases h with ⟨h5, h⟩ | ⟨h5, h⟩
  ·cases h; subst hR; simp only [zb65, simprocAttr, *]
  ·replace h := zcbp M (by omega) j (by omega) w1 _ _ _ _ _ _ _ _ _ _ _ _ _ h R hR
   simp only [zb65, simprocAttr, *]
 ·cases h; subst hR; simp only [zb65, simprocAttr, *]
theorem zb67 : ∀ q, zb64 q
 | 0 => by intro M hM j hj; intros; rename_i h; cases h
 | q + 1 => by have i0 := zb67 q; exact zb66 q i0
theorem zb68 : ∀ (q M : Nat), 8 * q ≤ M → ∀ (w1 : Nat), ∀ (h0_0 h0_1 h0_2 h0_3 h0_4 h0_5 h0_6 : Int), ∀ (h1z : Bool), ∀ (h1l : List zkl), ∀ (h1x : Bool), ∀ (r : Int), zlj q h0_0 h0_1 h0_2 h0_3 h0_4 h0_5 h0_6 h1z h1l h1x = some r → (orc T (M + 6)).inl F.zo1 [(.vw 1 w1 0 h1l.length 1), (.fn F.zo0 [(.ptr 0 0)])] [(.box [(.int .i64 h0_0), (.int .i64 h0_1), (.int .i64 h0_2), (.int .i64 h0_3), (.int .i64 h0_4), (.int .i64 h0_5), (.int .i64 h0_6)]), (.row w1 h1z 3 (List.map zkl.enc h1l) h1x)] = (some ([(.int .i64 r)], [(.box [(.int .i64 h0_0), (.int .i64 h0_1), (.int .i64 h0_2), (.int .i64 h0_3), (.int .i64 h0_4), (.int .i64 h0_5), (.int .i64 h0_6)]), (.row w1 h1z 3 (List.map zkl.enc h1l) h1x)]) : Option (List V × Hp)) := by
 intro q M hM w1 h0_0 h0_1 h0_2 h0_3 h0_4 h0_5 h0_6 h1z h1l h1x r h
 rcases q with _ | q
 ·cases h
 have zcbp := (zb67 q)
 refine byR fun R hR => ?_
 rw [zbvb (n := M + 5)]
 rw [zlj] at h
 replace h := zcbp M (by omega) (M + 5) (by omega) w1 _ _ _ _ _ _ _ _ _ _ _ _ _ h R hR
 simp only [zb65, simprocAttr, *]
def zb69 (q : Nat) : Prop := ∀ M, 8 * q ≤ M → ∀ j, q ≤ j → ∀ (w1 : Nat) (v5 v6 h0_0 h0_1 h0_2 h0_3 h0_4 h0_5 h0_6 : Int) (h1z : Bool) (h1l : List zkl) (h1x : Bool) (r : Nat × (List zkl) × Bool), zlk q v5 v6 h0_0 h0_1 h0_2 h0_3 h0_4 h0_5 h0_6 h1z h1l h1x = some r → LS T (M + 6) 2 [0, 1, 5, 6] [.blk 0, .code (.seq (.reg zvo) (.seq (.reg zvp) .ret))] zvn j (finI 2 true [.tmp 4]) ((some ([(.vw 1 w1 0 r.1 0)], [(.box [(.int .i64 h0_0), (.int .i64 h0_1), (.int .i64 h0_2), (.int .i64 h0_3), (.int .i64 h0_4), (.int .i64 h0_5), (.int .i64 h0_6)]), (.row w1 h1z 3 (List.map zkl.enc r.2.1) r.2.2)]) : Option (List V × Hp))) [(0, (.vw 1 w1 0 h1l.length 1)), (1, (.fn F.zo0 [(.ptr 0 0)])), (5, (.int .i64 v5)), (6, (.int .i64 v6))] [(.box [(.int .i64 h0_0), (.int .i64 h0_1), (.int .i64 h0_2), (.int .i64 h0_3), (.int .i64 h0_4), (.int .i64 h0_5), (.int .i64 h0_6)]), (.row w1 h1z 3 (List.map zkl.enc h1l) h1x)]
def zb7a := And.intro @kk <| And.intro @ke <| And.intro @kn <| And.intro @zbu3 <| And.intro @zbu6 <| And.intro @zbva <| And.intro @zbu7 <| @zbu8
theorem zb7b (q : Nat) (zcbq : zb69 q) : zb69 (q + 1) := by
 intro M hM j hj w1 v5 v6 h0_0 h0_1 h0_2 h0_3 h0_4 h0_5 h0_6 h1z h1l h1x r h R hR fr H hc
 obtain ⟨j, rfl⟩ : ∃ i, j = i + 1 := ⟨j - 1, by omega⟩
 rw [zhy, hc]; clear hc
 rw [zlk] at h
 repeat' (first | (cases h; done) | (replace h := bb h; rcases h with ⟨_, _, h⟩ | ⟨_, _, h⟩) | (replace h := bn h; obtain ⟨_, h⟩ := h) | (replace h := br h; rcases h with ⟨_, h⟩ | ⟨_, h⟩) | (replace h := ob h; obtain ⟨_, g, h⟩ := h))
 all_goals (first | (cases h; subst hR; simp only [zb7a, simprocAttr, *]) | (replace h := zcbq M (by omega) j (by omega) w1 _ _ _ _ _ _ _ _ _ _ _ _ _ h R hR; simp only [zb7a, simprocAttr, *]))
theorem zb7c : ∀ q, zb69 q
 | 0 => by intro M hM j hj; intros; rename_i h; cases h
 | q + 1 => by have i0 := zb7c q; exact zb7b q i0
theorem zb7d : ∀ (q M : Nat), 8 * q ≤ M → ∀ (w1 : Nat), ∀ (h0_0 h0_1 h0_2 h0_3 h0_4 h0_5 h0_6 : Int), ∀ (h1z : Bool), ∀ (h1l : List zkl), ∀ (h1x : Bool), ∀ (r : Nat × (List zkl) × Bool), zll q h0_0 h0_1 h0_2 h0_3 h0_4 h0_5 h0_6 h1z h1l h1x = some r → (orc T (M + 7)).inl F.zoz [(.vw 1 w1 0 h1l.length 1), (.fn F.zo0 [(.ptr 0 0)])] [(.box [(.int .i64 h0_0), (.int .i64 h0_1), (.int .i64 h0_2), (.int .i64 h0_3), (.int .i64 h0_4), (.int .i64 h0_5), (.int .i64 h0_6)]), (.row w1 h1z 3 (List.map zkl.enc h1l) h1x)] = (some ([(.vw 1 w1 0 r.1 0)], [(.box [(.int .i64 h0_0), (.int .i64 h0_1), (.int .i64 h0_2), (.int .i64 h0_3), (.int .i64 h0_4), (.int .i64 h0_5), (.int .i64 h0_6)]), (.row w1 h1z 3 (List.map zkl.enc r.2.1) r.2.2)]) : Option (List V × Hp)) := by
 intro q M hM w1 h0_0 h0_1 h0_2 h0_3 h0_4 h0_5 h0_6 h1z h1l h1x r h
 rcases q with _ | q
 ·cases h
 have zcbq := (zb7c q)
 refine byR fun R hR => ?_
 rw [zbu5 (n := M + 6)]
 rw [zll] at h
 replace h := ob h; obtain ⟨r1, h1, h⟩ := h
 replace h1 := zb68 q M (by omega) w1 _ _ _ _ _ _ _ _ _ _ _ h1
 try simp only [kf, simprocAttr] at h1
 replace h := br h; rcases h with ⟨h2, h⟩ | ⟨h2, h⟩
 ·cases h; subst hR; simp only [zb7a, simprocAttr, *]
 ·replace h := zcbq M (by omega) (M + 6) (by omega) w1 _ _ _ _ _ _ _ _ _ _ _ _ _ h R hR
  simp only [zb7a, simprocAttr, *]
def zb7e (q : Nat) : Prop := ∀ M, 8 * q ≤ M → ∀ j, q ≤ j → ∀ (w1 v0len : Nat) (v7 v8 h0_0 h0_1 h0_2 h0_3 h0_4 h0_5 h0_6 : Int) (h1z : Bool) (h1l : List zkl) (h1x : Bool) (r : Int), zlm q v0len v7 v8 h0_0 h0_1 h0_2 h0_3 h0_4 h0_5 h0_6 h1z h1l h1x = some r → LS T (M + 6) 2 [0, 1, 7, 8] [.blk 0, .code (.seq (.reg zvw) .ret)] c_81_9 j (finI 2 false [.tmp 4]) ((some ([(.int .i64 r)], [(.box [(.int .i64 h0_0), (.int .i64 h0_1), (.int .i64 h0_2), (.int .i64 h0_3), (.int .i64 h0_4), (.int .i64 h0_5), (.int .i64 h0_6)]), (.row w1 h1z 3 (List.map zkl.enc h1l) h1x)]) : Option (List V × Hp))) [(0, (.vw 1 w1 0 v0len 0)), (1, (.fn F.zo2 [(.ptr 0 0)])), (7, (.int .i64 v7)), (8, (.int .i64 v8))] [(.box [(.int .i64 h0_0), (.int .i64 h0_1), (.int .i64 h0_2), (.int .i64 h0_3), (.int .i64 h0_4), (.int .i64 h0_5), (.int .i64 h0_6)]), (.row w1 h1z 3 (List.map zkl.enc h1l) h1x)]
def zb7f := And.intro @kk <| And.intro @ke <| And.intro @kn <| And.intro @zbu9 <| And.intro @zbvc <| And.intro @zbvd <| @zbve
theorem zb7g (q : Nat) (zcbr : zb7e q) : zb7e (q + 1) := by
 intro M hM j hj w1 v0len v7 v8 h0_0 h0_1 h0_2 h0_3 h0_4 h0_5 h0_6 h1z h1l h1x r h R hR fr H hc
 obtain ⟨j, rfl⟩ : ∃ i, j = i + 1 := ⟨j - 1, by omega⟩
 rw [zhy, hc]; clear hc
 rw [zlm] at h
 replace h := br h; rcases h with ⟨h1, h⟩ | ⟨h1, h⟩
 ·replace h := bn h; obtain ⟨h2, h⟩ := h
  replace h := bn h; obtain ⟨h3, h⟩ := h
  replace h := ob h; obtain ⟨e1, h4, h⟩ := h
  replace h := br h; rcases h with ⟨h5, h⟩ | ⟨h5, h⟩
  ·cases h; subst hR; simp only [zb7f, simprocAttr, *]
  ·replace h := zcbr M (by omega) j (by omega) w1 _ _ _ _ _ _ _ _ _ _ _ _ _ _ h R hR
   simp only [zb7f, simprocAttr, *]
 ·cases h; subst hR; simp only [zb7f, simprocAttr, *]
theorem zb7h : ∀ q, zb7e q
 | 0 => by intro M hM j hj; intros; rename_i h; cases h
 | q + 1 => by have i0 := zb7h q; exact zb7g q i0
theorem zb7i : ∀ (q M : Nat), 8 * q ≤ M → ∀ (w1 v0len : Nat), ∀ (h0_0 h0_1 h0_2 h0_3 h0_4 h0_5 h0_6 : Int), ∀ (h1z : Bool), ∀ (h1l : List zkl), ∀ (h1x : Bool), ∀ (r : Int), zln q v0len h0_0 h0_1 h0_2 h0_3 h0_4 h0_5 h0_6 h1z h1l h1x = some r → (orc T (M + 7)).inl F.zo1 [(.vw 1 w1 0 v0len 0), (.fn F.zo2 [(.ptr 0 0)])] [(.box [(.int .i64 h0_0), (.int .i64 h0_1), (.int .i64 h0_2), (.int .i64 h0_3), (.int .i64 h0_4), (.int .i64 h0_5), (.int .i64 h0_6)]), (.row w1 h1z 3 (List.map zkl.enc h1l) h1x)] = (some ([(.int .i64 r)], [(.box [(.int .i64 h0_0), (.int .i64 h0_1), (.int .i64 h0_2), (.int .i64 h0_3), (.int .i64 h0_4), (.int .i64 h0_5), (.int .i64 h0_6)]), (.row w1 h1z 3 (List.map zkl.enc h1l) h1x)]) : Option (List V × Hp)) := by
 intro q M hM w1 v0len h0_0 h0_1 h0_2 h0_3 h0_4 h0_5 h0_6 h1z h1l h1x r h
 rcases q with _ | q
 ·cases h
 have zcbr := (zb7h q)
 refine byR fun R hR => ?_
 rw [zbvb (n := M + 6)]
 rw [zln] at h
 replace h := zcbr M (by omega) (M + 6) (by omega) w1 _ _ _ _ _ _ _ _ _ _ _ _ _ _ h R hR
 simp only [zb7f, simprocAttr, *]
def zb7j := And.intro @kk <| And.intro @ke <| And.intro @kn <| And.intro @zbtl <| And.intro @zbum <| And.intro @zbu4 <| And.intro @zbva <| And.intro @zbvf <| @zbtn
theorem zb7k : ∀ (q N : Nat), 8 * q ≤ N → ∀ (a0 : (Sl zkl)) (a1 : zko), ∀ (r : (Ow zkl)), zlo q a0 a1 = some r → (orc T N).deep F.zlo [(Sl.enc zkl.enc) a0, zko.enc a1] = some [(Ow.enc 3 zkl.enc) r] := by
 intro q N hM a0 a1 r h
 rcases q with _ | q
 ·cases h
 obtain ⟨M, rfl⟩ : ∃ M, N = M + 8 := ⟨N - 8, by omega⟩
 refine byR fun R hR => ?_
 rw [zh8, zbo5, y4, zh6 zrf rfl]
 rw [zlo] at h
 repeat' (first | (cases h; done) | (replace h := bb h; rcases h with ⟨_, _, h⟩ | ⟨_, _, h⟩) | (replace h := br h; rcases h with ⟨_, h⟩ | ⟨_, h⟩) | (replace h := ob h; obtain ⟨_, g, h⟩ := h; first | (replace g := zb62 q (M + 7) (by omega) _ _ g; try simp only [kf, simprocAttr] at g) | (replace g := zb7d q M (by omega) 0 _ _ _ _ _ _ _ _ _ _ _ g; try simp only [kf, simprocAttr] at g) | (replace g := zb7i q M (by omega) 0 _ _ _ _ _ _ _ _ _ _ _ _ g; try simp only [kf, simprocAttr] at g) | (replace g := zb63 q (M + 7) (by omega) _ _ _ _ g; try simp only [kf, simprocAttr] at g) | skip))
 all_goals (cases h; subst hR; simp only [zb7j, simprocAttr, *])
def zb7l (q : Nat) : Prop := ∀ M, 8 * q ≤ M → ∀ j, q ≤ j → ∀ (v8z : Bool) (v8l : List zko) (v9 h0_0 h0_1 : Int) (h0_2z : Bool) (h0_2l : List Int) (h0_3 : Bool) (h0_4 : Int) (h0_5z : Bool) (h0_5l : List zkl) (r : zkm × Int), zlq q v8z v8l v9 h0_0 h0_1 h0_2z h0_2l h0_3 h0_4 h0_5z h0_5l = some r → LS T (M + 7) 0 [2, 4, 8, 9, 10] [.blk 0, .code (.seq (.reg o_8_15) .ret)] c_8_14 j (fin zqe) (some [zkm.enc r.1, (V.int .i64) r.2]) [(2, (.ptr 0 0)), (4, (.ptr 1 0)), (8, (.sl v8z (List.map zko.enc v8l))), (9, (.int .i64 v9)), (10, (.int .i64 0))] [(.box [(.int .i64 h0_0), (.int .i64 h0_1), (.sl h0_2z (List.map (V.int .i64) h0_2l)), (.bool h0_3), (.int .i64 h0_4), (.sl h0_5z (List.map zkl.enc h0_5l))]), (.box [(.int .i64 0), (.int .i64 0), (.sl true []), (.bool false), (.int .i64 0), (.sl true [])])]
def zb7m (q : Nat) : Prop := ∀ M, 8 * q ≤ M → ∀ j, q ≤ j → ∀ (v8z : Bool) (v8l : List zko) (v9 v10 h0_0 h0_1 : Int) (h0_2z : Bool) (h0_2l : List Int) (h0_3 : Bool) (h0_4 : Int) (h2z : Bool) (h2l : List zkl) (h2x : Bool) (r : zkm × Int), zlp q v8z v8l v9 v10 h0_0 h0_1 h0_2z h0_2l h0_3 h0_4 h2z h2l h2x = some r → LS T (M + 7) 0 [2, 4, 8, 9, 10] [.blk 0, .code (.seq (.reg o_8_15) .ret)] c_8_14 j (fin zqe) (some [zkm.enc r.1, (V.int .i64) r.2]) [(2, (.ptr 0 0)), (4, (.ptr 1 0)), (8, (.sl v8z (List.map zko.enc v8l))), (9, (.int .i64 v9)), (10, (.int .i64 v10))] [(.box [(.int .i64 h0_0), (.int .i64 h0_1), (.sl h0_2z (List.map (V.int .i64) h0_2l)), (.bool h0_3), (.int .i64 h0_4), (.vw 2 0 0 h2l.length 1)]), (.box [(.int .i64 0), (.int .i64 0), (.sl true []), (.bool false), (.int .i64 0), (.sl true [])]), (.row 0 h2z 3 (List.map zkl.enc h2l) h2x)]
def zb7n := And.intro @kk <| And.intro @ke <| And.intro @kn <| And.intro @zbsu <| And.intro @zbtg <| And.intro @zbtj <| And.intro @zbtm <| @zbsw
theorem zb7o (q : Nat) (zcbs : zb7m q) : zb7l (q + 1) := by
 intro M hM j hj v8z v8l v9 h0_0 h0_1 h0_2z h0_2l h0_3 h0_4 h0_5z h0_5l r h R hR fr H hc
 obtain ⟨j, rfl⟩ : ∃ i, j = i + 1 := ⟨j - 1, by omega⟩
 rw [zhy, hc]; clear hc
 rw [zlq] at h
 repeat' (first | (cases h; done) | (replace h := bb h; rcases h with ⟨_, _, h⟩ | ⟨_, _, h⟩) | (replace h := br h; rcases h with ⟨_, h⟩ | ⟨_, h⟩) | (replace h := ob h; obtain ⟨_, g, h⟩ := h; first | (replace g := zb5w q (M + 7) (by omega) _ _ g; try simp only [kf, simprocAttr] at g) | (replace g := zb60 q (M + 7) (by omega) _ _ _ g; try simp only [kf, simprocAttr] at g) | (replace g := zb7k q (M + 7) (by omega) _ _ _ g; try simp only [kf, simprocAttr] at g) | skip))
 all_goals (first | (cases h; subst hR; simp only [zb7n, simprocAttr, *]) | (replace h := zcbs M (by omega) j (by omega) _ _ _ _ _ _ _ _ _ _ _ _ _ _ h R hR; simp only [zb7n, simprocAttr, *]))
theorem zb7p (q : Nat) (zcbs : zb7m q) : zb7m (q + 1) := by
 intro M hM j hj v8z v8l v9 v10 h0_0 h0_1 h0_2z h0_2l h0_3 h0_4 h2z h2l h2x r h R hR fr H hc
 obtain ⟨j, rfl⟩ : ∃ i, j = i + 1 := ⟨j - 1, by omega⟩
 rw [zhy, hc]; clear hc
 rw [zlp] at h
 repeat' (first | (cases h; done) | (replace h := bb h; rcases h with ⟨_, _, h⟩ | ⟨_, _, h⟩) | (replace h := bn h; obtain ⟨_, h⟩ := h) | (replace h := br h; rcases h with ⟨_, h⟩ | ⟨_, h⟩) | (replace h := ob h; obtain ⟨_, g, h⟩ := h; first | (replace g := zb5w q (M + 7) (by omega) _ _ g; try simp only [kf, simprocAttr] at g) | (replace g := zb60 q (M + 7) (by omega) _ _ _ g; try simp only [kf, simprocAttr] at g) | (replace g := zb7k q (M + 7) (by omega) _ _ _ g; try simp only [kf, simprocAttr] at g) | skip))
 all_goals (first | (cases h; subst hR; simp only [zb7n, simprocAttr, *]) | (replace h := zcbs M (by omega) j (by omega) _ _ _ _ _ _ _ _ _ _ _ _ _ _ h R hR; simp only [zb7n, simprocAttr, *]))
theorem zb7q : ∀ q, zb7l q ∧ zb7m q
 | 0 => by refine ⟨?_, ?_⟩ <;> (intro M hM j hj; intros; rename_i h; cases h)
 | q + 1 => by have ⟨i0, i1⟩ := zb7q q; exact ⟨zb7o q i1, zb7p q i1⟩
theorem zb7r : ∀ (q N : Nat), 8 * q ≤ N → ∀ (a0 : zkm) (a1 : (Sl zko)), ∀ (r : zkm × Int), zlr q a0 a1 = some r → (orc T N).deep F.zlr [zkm.enc a0, (Sl.enc zko.enc) a1] = some [zkm.enc r.1, (V.int .i64) r.2] := by
 intro q N hM a0 a1 r h
 rcases q with _ | q
 ·cases h
 obtain ⟨M, rfl⟩ : ∃ M, N = M + 8 := ⟨N - 8, by omega⟩
 have ih_snapshot_Take_l0 := (zb7q q).1
 refine byR fun R hR => ?_
 rw [zh8, zbow, y4, zh6 zqe rfl]
 rw [zlr] at h
 replace h := ih_snapshot_Take_l0 M (by omega) (M + 7) (by omega) _ _ _ _ _ _ _ _ _ _ _ _ h R hR
 simp only [zb7n, simprocAttr, *]
def zb7s := And.intro @kk <| And.intro @ke <| And.intro @kn <| And.intro @zbvt <| @zbvv
theorem zb7t : ∀ (q N : Nat), 8 * q ≤ N → ∀ (a0 : zkl), ∀ (r : Bool), zls q a0 = some r → (orc T N).deep F.zls [zkl.enc a0] = some [V.bool r] := by
 intro q N hM a0 r h
 rcases q with _ | q
 ·cases h
 obtain ⟨M, rfl⟩ : ∃ M, N = M + 8 := ⟨N - 8, by omega⟩
 refine byR fun R hR => ?_
 rw [zh8, zbp2, y4, zh6 zwf rfl]
 rw [zls] at h
 repeat' (first | (cases h; done) | (replace h := br h; rcases h with ⟨_, h⟩ | ⟨_, h⟩))
 all_goals (cases h; subst hR; simp only [zb7s, simprocAttr, *])
def zb7u (q : Nat) : Prop := ∀ M, 8 * q ≤ M → ∀ j, q ≤ j → ∀ (v0z : Bool) (v0l : List zkl) (v5z : Bool) (v5l : List zkl) (v6 v7 : Int) (r : Bool), zlt q v0z v0l v5z v5l v6 v7 = some r → LS T (M + 7) 0 [0, 5, 6, 7] [.blk 0, .code (.seq (.reg zrt) .ret)] c_32_9 j (fin zrw) (some [V.bool r]) [(0, (.sl v0z (List.map zkl.enc v0l))), (5, (.sl v5z (List.map zkl.enc v5l))), (6, (.int .i64 v6)), (7, (.int .i64 v7))] []
def zb7v := And.intro @kk <| And.intro @ke <| And.intro @kn <| And.intro @zbtr <| And.intro @zbvu <| @zbtt
theorem zb7w (q : Nat) (zcbt : zb7u q) : zb7u (q + 1) := by
 intro M hM j hj v0z v0l v5z v5l v6 v7 r h R hR fr H hc
 obtain ⟨j, rfl⟩ : ∃ i, j = i + 1 := ⟨j - 1, by omega⟩
 rw [zhy, hc]; clear hc
 rw [zlt] at h
 repeat' (first | (cases h; done) | (replace h := bb h; rcases h with ⟨_, _, h⟩ | ⟨_, _, h⟩) | (replace h := bn h; obtain ⟨_, h⟩ := h) | (replace h := br h; rcases h with ⟨_, h⟩ | ⟨_, h⟩) | (replace h := ob h; obtain ⟨_, g, h⟩ := h; first | (replace g := zb7t q (M + 7) (by omega) _ _ g; try simp only [kf, simprocAttr] at g) | skip))
 all_goals (first | (cases h; subst hR; simp only [zb7v, simprocAttr, *]) | (replace h := zcbt M (by omega) j (by omega) _ _ _ _ _ _ _ h R hR; simp only [zb7v, simprocAttr, *]))
theorem zb7x : ∀ q, zb7u q
 | 0 => by intro M hM j hj; intros; rename_i h; cases h
 | q + 1 => by have i0 := zb7x q; exact zb7w q i0
theorem zb7y : ∀ (q N : Nat), 8 * q ≤ N → ∀ (a0 : (Sl zkl)), ∀ (r : Bool), zlu q a0 = some r → (orc T N).deep F.zlu [(Sl.enc zkl.enc) a0] = some [V.bool r] := by
 intro q N hM a0 r h
 rcases q with _ | q
 ·cases h
 obtain ⟨M, rfl⟩ : ∃ M, N = M + 8 := ⟨N - 8, by omega⟩
 have zcbt := (zb7x q)
 refine byR fun R hR => ?_
 rw [zh8, zbo7, y4, zh6 zrw rfl]
 rw [zlu] at h
 replace h := zcbt M (by omega) (M + 7) (by omega) _ _ _ _ _ _ _ h R hR
 simp only [zb7v, simprocAttr, *]
def zb7z := And.intro @kk <| And.intro @ke <| And.intro @kn <| And.intro @zbsx <| And.intro @zbtp <| And.intro @zbts <| @zbsz
theorem zb70 : ∀ (q N : Nat), 8 * q ≤ N → ∀ (a0 : zkm), ∀ (r : Bool), zlv q a0 = some r → (orc T N).deep F.zlv [zkm.enc a0] = some [V.bool r] := by
 intro q N hM a0 r h
 rcases q with _ | q
 ·cases h
 obtain ⟨M, rfl⟩ : ∃ M, N = M + 8 := ⟨N - 8, by omega⟩
 refine byR fun R hR => ?_
 rw [zh8, zbox, y4, zh6 zqg rfl]
 rw [zlv] at h
 repeat' (first | (cases h; done) | (replace h := bb h; rcases h with ⟨_, _, h⟩ | ⟨_, _, h⟩) | (replace h := br h; rcases h with ⟨_, h⟩ | ⟨_, h⟩) | (replace h := ob h; obtain ⟨_, g, h⟩ := h; first | (replace g := zb6a q (M + 7) (by omega) _ _ g; try simp only [kf, simprocAttr] at g) | (replace g := zb7y q (M + 7) (by omega) _ _ g; try simp only [kf, simprocAttr] at g) | skip))
 all_goals (cases h; subst hR; simp only [zb7z, simprocAttr, *])
def zb71 (q : Nat) : Prop := ∀ M, 8 * q ≤ M → ∀ j, q ≤ j → ∀ (w0 : Nat) (v1 : Int) (h0z : Bool) (h0l : List Int) (h0x : Bool) (r : (Ow Int)), zlw q v1 h0z h0l h0x = some r → LS T (M + 7) 1 [0, 1] [.blk 0, .code (.seq (.reg o_94_6) .ret)] c_94_5 j (fin zwj) (some [(Ow.enc 1 (V.int .u8)) r]) [(0, (.vw 0 w0 0 h0l.length 1)), (1, (.int .u64 v1))] [(.row w0 h0z 1 (List.map (V.int .u8) h0l) h0x)]
def zb72 := And.intro @kk <| And.intro @ke <| And.intro @kn <| And.intro @zbvz <| @zbv1
theorem zb73 (q : Nat) (zcbu : zb71 q) : zb71 (q + 1) := by
 intro M hM j hj w0 v1 h0z h0l h0x r h R hR fr H hc
 obtain ⟨j, rfl⟩ : ∃ i, j = i + 1 := ⟨j - 1, by omega⟩
 rw [zhy, hc]; clear hc
 rw [zlw] at h
 replace h := br h; rcases h with ⟨h1, h⟩ | ⟨h1, h⟩
 ·replace h := bn h; obtain ⟨h2, h⟩ := h
  replace h := zcbu M (by omega) j (by omega) (w0 + 1) _ _ _ _ _ h R hR
  simp only [zb72, simprocAttr, *]
 ·replace h := bn h; obtain ⟨h3, h⟩ := h
  cases h; subst hR; simp only [zb72, simprocAttr, *]
theorem zb74 : ∀ q, zb71 q
 | 0 => by intro M hM j hj; intros; rename_i h; cases h
 | q + 1 => by have i0 := zb74 q; exact zb73 q i0
theorem zb75 : ∀ (q N : Nat), 8 * q ≤ N → ∀ (a0 : (Ow Int)) (a1 : Int), ∀ (r : (Ow Int)), zlx q a0 a1 = some r → (orc T N).deep F.zlx [(Ow.enc 1 (V.int .u8)) a0, (V.int .u64) a1] = some [(Ow.enc 1 (V.int .u8)) r] := by
 intro q N hM a0 a1 r h
 rcases q with _ | q
 ·cases h
 obtain ⟨M, rfl⟩ : ∃ M, N = M + 8 := ⟨N - 8, by omega⟩
 have zcbu := (zb74 q)
 refine byR fun R hR => ?_
 rw [zh8, zbp4, y4, zh6 zwj rfl]
 rw [zlx] at h
 replace h := zcbu M (by omega) (M + 7) (by omega) 0 _ _ _ _ _ h R hR
 simp only [zb72, simprocAttr, *]
def zb76 := And.intro @kk <| And.intro @ke <| And.intro @kn <| And.intro @zbvw <| And.intro @zbv0 <| @zbvy
theorem zb77 : ∀ (q N : Nat), 8 * q ≤ N → ∀ (a0 : (Ow Int)) (a1 : Int), ∀ (r : (Ow Int)), zly q a0 a1 = some r → (orc T N).deep F.zly [(Ow.enc 1 (V.int .u8)) a0, (V.int .i64) a1] = some [(Ow.enc 1 (V.int .u8)) r] := by
 intro q N hM a0 a1 r h
 rcases q with _ | q
 ·cases h
 obtain ⟨M, rfl⟩ : ∃ M, N = M + 8 := ⟨N - 8, by omega⟩
 refine byR fun R hR => ?_
 rw [zh8, zbp3, y4, zh6 zwh rfl]
 rw [zly] at h
 replace h := br h; rcases h with ⟨h1, h⟩ | ⟨h1, h⟩
 ·cases h; subst hR; simp only [zb76, simprocAttr, *]
 ·replace h := br h; rcases h with ⟨h2, h⟩ | ⟨h2, h⟩
  ·cases h; subst hR; simp only [zb76, simprocAttr, *]
  ·replace h := ob h; obtain ⟨r1, h3, h⟩ := h
   replace h3 := zb75 q (M + 7) (by omega) _ _ _ h3
   try simp only [kf, simprocAttr] at h3
   cases h; subst hR; simp only [zb76, simprocAttr, *]
def zb78 := And.intro @kk <| And.intro @ke <| And.intro @kn <| And.intro @zbv2 <| @zbv4
theorem zb79 : ∀ (q N : Nat), 8 * q ≤ N → ∀ (a0 r : Int), zlz q a0 = some r → (orc T N).deep F.zlz [(V.int .i64) a0] = some [(V.int .u64) r] := by
 intro q N hM a0 r h
 rcases q with _ | q
 ·cases h
 obtain ⟨M, rfl⟩ : ∃ M, N = M + 8 := ⟨N - 8, by omega⟩
 refine byR fun R hR => ?_
 rw [zh8, zbp5, y4, zh6 zwl rfl]
 rw [zlz] at h
 cases h; subst hR; simp only [zb78, simprocAttr, *]
def zb8a := And.intro @kk <| And.intro @ke <| And.intro @kn <| And.intro @zbtx <| And.intro @zbv0 <| And.intro @zbv3 <| @zbtz
theorem zb8b : ∀ (q N : Nat), 8 * q ≤ N → ∀ (a0 : (Ow Int)) (a1 : Int), ∀ (r : (Ow Int)), zl0 q a0 a1 = some r → (orc T N).deep F.zl0 [(Ow.enc 1 (V.int .u8)) a0, (V.int .i64) a1] = some [(Ow.enc 1 (V.int .u8)) r] := by
 intro q N hM a0 a1 r h
 rcases q with _ | q
 ·cases h
 obtain ⟨M, rfl⟩ : ∃ M, N = M + 8 := ⟨N - 8, by omega⟩
 refine byR fun R hR => ?_
 rw [zh8, zbo9, y4, zh6 zr0 rfl]
 rw [zl0] at h
 replace h := ob h; obtain ⟨r1, h1, h⟩ := h
 replace h1 := zb79 q (M + 7) (by omega) _ _ h1
 replace h := ob h; obtain ⟨r2, h2, h⟩ := h
 replace h2 := zb75 q (M + 7) (by omega) _ _ _ h2
 try simp only [kf, simprocAttr] at h2
 cases h; subst hR; simp only [zb8a, simprocAttr, *]
def zb8c (q : Nat) : Prop := ∀ M, 8 * q ≤ M → ∀ j, q ≤ j → ∀ (v5 : Int) (h0_0 h1_0 : List Int) (r : (List Int)), zl1 q v5 h0_0 h1_0 = some r → LS T (M + 7) 0 [0, 1, 5] [.blk 0, .code (.seq (.reg zbdw) .ret)] zbdv j (fin zbdz) (some [(arrEnc (V.int .u32)) r]) [(0, (.ptr 0 0)), (1, (.ptr 1 0)), (5, (.int .i64 v5))] [(.box (List.map (V.int .u32) h0_0)), (.box (List.map (V.int .u32) h1_0))]
def zb8d (q : Nat) : Prop := ∀ M, 8 * q ≤ M → ∀ j, q ≤ j → ∀ j1, q ≤ j1 → ∀ (v2 v3 v5 v10 : Int) (h0_0 h1_0 : List Int) (r : (List Int)), zl2 q v2 v3 v5 v10 h0_0 h1_0 = some r → LS T (M + 7) 0 [0, 1, 2, 3, 5, 10] [.blk 2, .code (.reg zbdr), .blk 1, .code (.reg zbdt), .rounds [0, 1, 5] zbdv j1, .blk 0, .code (.seq (.reg zbdw) .ret)] zbdq j (fin zbdz) (some [(arrEnc (V.int .u32)) r]) [(0, (.ptr 0 0)), (1, (.ptr 1 0)), (2, (.int .i64 v2)), (3, (.int .u32 v3)), (5, (.int .i64 v5)), (10, (.int .i64 v10))] [(.box (List.map (V.int .u32) h0_0)), (.box (List.map (V.int .u32) h1_0))]
def zb8e := And.intro @kk <| And.intro @ke <| And.intro @kn <| And.intro @zby7 <| @zby9
theorem zb8f (q : Nat) (zcbv : zb8d q) : zb8c (q + 1) := by
 intro M hM j hj v5 h0_0 h1_0 r h R hR fr H hc
 obtain ⟨j, rfl⟩ : ∃ i, j = i + 1 := ⟨j - 1, by omega⟩
 rw [zhy, hc]; clear hc
 rw [zl1] at h
 replace h := br h; rcases h with ⟨h1, h⟩ | ⟨h1, h⟩
 ·replace h := zcbv M (by omega) (M + 7) (by omega) j (by omega) _ _ _ _ _ _ _ h R hR
  simp (maxDischargeDepth := 12) only [zb8e, simprocAttr, arrEnc, *]
 ·replace h := bn h; obtain ⟨h2, h⟩ := h
  replace h := bc h; rcases h with ⟨h3, h⟩ | ⟨h3, h⟩
  ·replace h := bn h; obtain ⟨h4, h⟩ := h
   replace h := bn h; obtain ⟨h5, h⟩ := h
   cases h; subst hR; simp (maxDischargeDepth := 12) only [zb8e, simprocAttr, arrEnc, *]
  ·cases h
theorem zb8g (q : Nat) (zcbw : zb8c q) (zcbv : zb8d q) : zb8d (q + 1) := by
 intro M hM j hj j1 hj1 v2 v3 v5 v10 h0_0 h1_0 r h R hR fr H hc
 obtain ⟨j, rfl⟩ : ∃ i, j = i + 1 := ⟨j - 1, by omega⟩
 rw [zhy, hc]; clear hc
 rw [zl2] at h
 replace h := br h; rcases h with ⟨h1, h⟩ | ⟨h1, h⟩
 ·replace h := zcbv M (by omega) j (by omega) j1 (by omega) _ _ _ _ _ _ _ h R hR
  simp (maxDischargeDepth := 12) only [zb8e, simprocAttr, arrEnc, *]
 ·replace h := bn h; obtain ⟨h2, h⟩ := h
  replace h := bn h; obtain ⟨h3, h⟩ := h
  replace h := bn h; obtain ⟨h4, h⟩ := h
  replace h := zcbw M (by omega) j1 (by omega) _ _ _ _ h R hR
  simp (maxDischargeDepth := 12) only [zb8e, simprocAttr, arrEnc, *]
theorem zb8h : ∀ q, zb8c q ∧ zb8d q
 | 0 => by refine ⟨?_, ?_⟩ <;> (intro M hM j hj; intros; rename_i h; cases h)
 | q + 1 => by have ⟨i0, i1⟩ := zb8h q; exact ⟨zb8f q i1, zb8g q i0 i1⟩
theorem zb8i : ∀ (q N : Nat), 8 * q ≤ N → ∀ (r : (List Int)), zl3 q = some r → (orc T N).deep F.zl3 [] = some [(arrEnc (V.int .u32)) r] := by
 intro q N hM r h
 rcases q with _ | q
 ·cases h
 obtain ⟨M, rfl⟩ : ∃ M, N = M + 8 := ⟨N - 8, by omega⟩
 have zcbw := (zb8h q).1
 refine byR fun R hR => ?_
 rw [zh8, zbrz, y4, zh6 zbdz rfl]
 rw [zl3] at h
 replace h := zcbw M (by omega) (M + 7) (by omega) _ _ _ _ h R hR
 simp (maxDischargeDepth := 12) only [zb8e, simprocAttr, arrEnc, *]
def zb8j (q : Nat) : Prop := ∀ M, 8 * q ≤ M → ∀ j, q ≤ j → ∀ (v6 : Int) (v12z : Bool) (v12l : List Int) (v13 v14 : Int) (h0_0 : List Int) (r : Int), zl4 q v6 v12z v12l v13 v14 h0_0 = some r → LS T (M + 7) 0 [5, 6, 12, 13, 14] [.blk 0, .code (.seq (.reg z5t) .ret)] z5s j (fin z5w) (some [(V.int .u32) r]) [(5, (.ptr 0 0)), (6, (.int .u32 v6)), (12, (.sl v12z (List.map (V.int .u8) v12l))), (13, (.int .i64 v13)), (14, (.int .i64 v14))] [(.box (List.map (V.int .u32) h0_0))]
def zb8k := And.intro @kk <| And.intro @ke <| And.intro @kn <| And.intro @zbxn <| And.intro @zby8 <| @zbxp
theorem zb8l (q : Nat) (zcbx : zb8j q) : zb8j (q + 1) := by
 intro M hM j hj v6 v12z v12l v13 v14 h0_0 r h R hR fr H hc
 obtain ⟨j, rfl⟩ : ∃ i, j = i + 1 := ⟨j - 1, by omega⟩
 rw [zhy, hc]; clear hc
 rw [zl4] at h
 replace h := br h; rcases h with ⟨h1, h⟩ | ⟨h1, h⟩
 ·replace h := bn h; obtain ⟨h2, h⟩ := h
  replace h := ob h; obtain ⟨e2, h3, h⟩ := h
  replace h := bn h; obtain ⟨h4, h⟩ := h
  replace h := bn h; obtain ⟨h5, h⟩ := h
  replace h := ob h; obtain ⟨e3, h6, h⟩ := h
  replace h := zcbx M (by omega) j (by omega) _ _ _ _ _ _ _ h R hR
  simp only [zb8k, simprocAttr, arrEnc, *]
 ·cases h; subst hR; simp only [zb8k, simprocAttr, arrEnc, *]
theorem zb8m : ∀ q, zb8j q
 | 0 => by intro M hM j hj; intros; rename_i h; cases h
 | q + 1 => by have i0 := zb8m q; exact zb8l q i0
theorem zb8n : ∀ (q N : Nat), 8 * q ≤ N → ∀ (a0 : Int) (a1 : (Sl Int)), ∀ (r : Int), zl5 q a0 a1 = some r → (orc T N).deep F.zl5 [(V.int .u32) a0, (Sl.enc (V.int .u8)) a1] = some [(V.int .u32) r] := by
 intro q N hM a0 a1 r h
 rcases q with _ | q
 ·cases h
 obtain ⟨M, rfl⟩ : ∃ M, N = M + 8 := ⟨N - 8, by omega⟩
 have zcbx := (zb8m q)
 refine byR fun R hR => ?_
 rw [zh8, zbq4, y4, zh6 z5w rfl]
 rw [zl5] at h
 replace h := ob h; obtain ⟨r1, h1, h⟩ := h
 replace h1 := zb8i q (M + 7) (by omega)  _ h1
 try simp only [kf, simprocAttr] at h1
 replace h := bc h; rcases h with ⟨h2, h⟩ | ⟨h2, h⟩
 ·replace h := zcbx M (by omega) (M + 7) (by omega) _ _ _ _ _ _ _ h R hR
  simp only [zb8k, simprocAttr, arrEnc, *]
 ·cases h
def zb8o := And.intro @kk <| And.intro @ke <| And.intro @kn <| And.intro @zbxq <| And.intro @zbxo <| @zbxs
theorem zb8p : ∀ (q N : Nat), 8 * q ≤ N → ∀ (a0 : (Sl Int)), ∀ (r : Int), zl6 q a0 = some r → (orc T N).deep F.zl6 [(Sl.enc (V.int .u8)) a0] = some [(V.int .u32) r] := by
 intro q N hM a0 r h
 rcases q with _ | q
 ·cases h
 obtain ⟨M, rfl⟩ : ∃ M, N = M + 8 := ⟨N - 8, by omega⟩
 refine byR fun R hR => ?_
 rw [zh8, zbq5, y4, zh6 z50 rfl]
 rw [zl6] at h
 replace h := ob h; obtain ⟨r1, h1, h⟩ := h
 replace h1 := zb8n q (M + 7) (by omega) _ _ _ h1
 try simp only [kf, simprocAttr] at h1
 cases h; subst hR; simp only [zb8o, simprocAttr, *]
def zb8q (q : Nat) : Prop := ∀ M, 8 * q ≤ M → ∀ j, q ≤ j → ∀ (v0 v7 v8 : Int) (h0z : Bool) (h0l : List Int) (r : (Ow Int)), zl7 q v0 v7 v8 h0z h0l = some r → LS T (M + 7) 0 [0, 5, 7, 8] [.blk 0, .code (.seq (.reg zbda) .ret)] zbc9 j (fin zbdd) (some [(Ow.enc 1 (V.int .u8)) r]) [(0, (.int .u64 v0)), (5, (.vw 0 0 0 h0l.length 1)), (7, (.int .i64 v7)), (8, (.int .i64 v8))] [(.row 0 h0z 1 (List.map (V.int .u8) h0l) true)]
def zb8r := And.intro @kk <| And.intro @ke <| And.intro @kn <| And.intro @zby4 <| @zby6
theorem zb8s (q : Nat) (zcby : zb8q q) : zb8q (q + 1) := by
 intro M hM j hj v0 v7 v8 h0z h0l r h R hR fr H hc
 obtain ⟨j, rfl⟩ : ∃ i, j = i + 1 := ⟨j - 1, by omega⟩
 rw [zhy, hc]; clear hc
 rw [zl7] at h
 replace h := br h; rcases h with ⟨h1, h⟩ | ⟨h1, h⟩
 ·replace h := bm h; obtain ⟨h2, h⟩ := h
  replace h := bn h; obtain ⟨h3, h⟩ := h
  replace h := zcby M (by omega) j (by omega) _ _ _ _ _ _ h R hR
  simp only [zb8r, simprocAttr, *]
 ·cases h; subst hR; simp only [zb8r, simprocAttr, *]
theorem zb8t : ∀ q, zb8q q
 | 0 => by intro M hM j hj; intros; rename_i h; cases h
 | q + 1 => by have i0 := zb8t q; exact zb8s q i0
theorem zb8u : ∀ (q N : Nat), 8 * q ≤ N → ∀ (a0 a1 : Int), ∀ (r : (Ow Int)), zl8 q a0 a1 = some r → (orc T N).deep F.zl8 [(V.int .u64) a0, (V.int .i64) a1] = some [(Ow.enc 1 (V.int .u8)) r] := by
 intro q N hM a0 a1 r h
 rcases q with _ | q
 ·cases h
 obtain ⟨M, rfl⟩ : ∃ M, N = M + 8 := ⟨N - 8, by omega⟩
 have zcby := (zb8t q)
 refine byR fun R hR => ?_
 rw [zh8, zbry, y4, zh6 zbdd rfl]
 rw [zl8] at h
 replace h := zcby M (by omega) (M + 7) (by omega) _ _ _ _ _ _ h R hR
 simp only [zb8r, simprocAttr, *]
def zb8v := And.intro @kk <| And.intro @ke <| And.intro @kn <| And.intro @zbxk <| And.intro @zby5 <| @zbxm
theorem zb8w : ∀ (q N : Nat), 8 * q ≤ N → ∀ (a0 : Int), ∀ (r : (Ow Int)), zl9 q a0 = some r → (orc T N).deep F.zl9 [(V.int .u32) a0] = some [(Ow.enc 1 (V.int .u8)) r] := by
 intro q N hM a0 r h
 rcases q with _ | q
 ·cases h
 obtain ⟨M, rfl⟩ : ∃ M, N = M + 8 := ⟨N - 8, by omega⟩
 refine byR fun R hR => ?_
 rw [zh8, zbq3, y4, zh6 z5i rfl]
 rw [zl9] at h
 replace h := ob h; obtain ⟨r1, h1, h⟩ := h
 replace h1 := zb8u q (M + 7) (by omega) _ _ _ h1
 try simp only [kf, simprocAttr] at h1
 cases h; subst hR; simp only [zb8v, simprocAttr, *]
def zb8x := And.intro @kk <| And.intro @ke <| And.intro @kn <| And.intro @zbv8 <| And.intro @zbxl <| And.intro @zbxo <| And.intro @zbxr <| @zbwa
theorem zb8y : ∀ (q N : Nat), 8 * q ≤ N → ∀ (a0 a1 : (Sl Int)), ∀ (r : (Ow Int)), zma q a0 a1 = some r → (orc T N).deep F.zma [(Sl.enc (V.int .u8)) a0, (Sl.enc (V.int .u8)) a1] = some [(Ow.enc 1 (V.int .u8)) r] := by
 intro q N hM a0 a1 r h
 rcases q with _ | q
 ·cases h
 obtain ⟨M, rfl⟩ : ∃ M, N = M + 8 := ⟨N - 8, by omega⟩
 refine byR fun R hR => ?_
 rw [zh8, zbp7, y4, zh6 zw1 rfl]
 rw [zma] at h
 replace h := ob h; obtain ⟨r1, h1, h⟩ := h
 replace h1 := zb8p q (M + 7) (by omega) _ _ h1
 try simp only [kf, simprocAttr] at h1
 replace h := ob h; obtain ⟨r2, h2, h⟩ := h
 replace h2 := zb8n q (M + 7) (by omega) _ _ _ h2
 try simp only [kf, simprocAttr] at h2
 replace h := ob h; obtain ⟨r3, h3, h⟩ := h
 replace h3 := zb8w q (M + 7) (by omega) _ _ h3
 try simp only [kf, simprocAttr] at h3
 cases h; subst hR; simp only [zb8x, simprocAttr, *]
def zb8z (q : Nat) : Prop := ∀ M, 8 * q ≤ M → ∀ j, q ≤ j → ∀ (v0z : Bool) (v0l : List (Sl Int)) (v3 : Int) (v9z : Bool) (v9l : List (Sl Int)) (v10 v11 : Int) (r : (Ow Int)), zme q v0z v0l v3 v9z v9l v10 v11 = some r → LS T (M + 7) 0 [0, 3, 9, 10, 11] [.blk 0, .code (.seq (.reg zwn) zww)] zwm j (fin zwz) (some [(Ow.enc 1 (V.int .u8)) r]) [(0, (.sl v0z (List.map (Sl.enc (V.int .u8)) v0l))), (3, (.int .i64 v3)), (9, (.sl v9z (List.map (Sl.enc (V.int .u8)) v9l))), (10, (.int .i64 v10)), (11, (.int .i64 v11))] []
def zb80 (q : Nat) : Prop := ∀ M, 8 * q ≤ M → ∀ j, q ≤ j → ∀ (v6len : Nat) (v25z : Bool) (v25l : List (Sl Int)) (v26 v27 : Int) (h0z : Bool) (h0l : List Int) (r : (Ow Int)), zmb q v6len v25z v25l v26 v27 h0z h0l = some r → LS T (M + 7) 0 [6, 25, 26, 27] [.blk 2, .code (.seq (.reg zwv) .ret)] zwu j (fin zwz) (some [(Ow.enc 1 (V.int .u8)) r]) [(6, (.vw 0 0 0 v6len 0)), (25, (.sl v25z (List.map (Sl.enc (V.int .u8)) v25l))), (26, (.int .i64 v26)), (27, (.int .i64 v27))] [(.row 0 h0z 1 (List.map (V.int .u8) h0l) true)]
def zb81 (q : Nat) : Prop := ∀ M, 8 * q ≤ M → ∀ j, q ≤ j → ∀ (v25z : Bool) (v25l : List (Sl Int)) (v26 : Int) (r : (Ow Int)), zmd q v25z v25l v26 = some r → LS T (M + 7) 0 [6, 25, 26, 27] [.blk 2, .code (.seq (.reg zwv) .ret)] zwu j (fin zwz) (some [(Ow.enc 1 (V.int .u8)) r]) [(6, (.sl true [])), (25, (.sl v25z (List.map (Sl.enc (V.int .u8)) v25l))), (26, (.int .i64 v26)), (27, (.int .i64 0))] []
def zb82 (q : Nat) : Prop := ∀ M, 8 * q ≤ M → ∀ j, q ≤ j → ∀ (v25z : Bool) (v25l : List (Sl Int)) (v26 v27 : Int) (h0z : Bool) (h0l : List Int) (r : (Ow Int)), zmc q v25z v25l v26 v27 h0z h0l = some r → LS T (M + 7) 0 [6, 25, 26, 27] [.blk 2, .code (.seq (.reg zwv) .ret)] zwu j (fin zwz) (some [(Ow.enc 1 (V.int .u8)) r]) [(6, (.vw 0 0 0 h0l.length 1)), (25, (.sl v25z (List.map (Sl.enc (V.int .u8)) v25l))), (26, (.int .i64 v26)), (27, (.int .i64 v27))] [(.row 0 h0z 1 (List.map (V.int .u8) h0l) true)]
def zb83 := And.intro @kk <| And.intro @ke <| And.intro @kn <| And.intro @zbv5 <| And.intro @zbxh <| And.intro @zbxi <| And.intro @zbxj <| @zbv7
theorem zb84 (q : Nat) (zcbz : zb8z q) (zcb0 : zb80 q) (zcb1 : zb81 q) : zb8z (q + 1) := by
 intro M hM j hj v0z v0l v3 v9z v9l v10 v11 r h R hR fr H hc
 obtain ⟨j, rfl⟩ : ∃ i, j = i + 1 := ⟨j - 1, by omega⟩
 rw [zhy, hc]; clear hc
 rw [zme] at h
 repeat' (first | (cases h; done) | (replace h := bn h; obtain ⟨_, h⟩ := h) | (replace h := bm h; obtain ⟨_, h⟩ := h) | (replace h := br h; rcases h with ⟨_, h⟩ | ⟨_, h⟩) | (replace h := ob h; obtain ⟨_, g, h⟩ := h))
 all_goals (first | (replace h := zcbz M (by omega) j (by omega) _ _ _ _ _ _ _ _ h R hR; simp only [zb83, simprocAttr, *]) | (replace h := zcb0 M (by omega) (M + 7) (by omega) _ _ _ _ _ _ _ _ h R hR; simp only [zb83, simprocAttr, *]) | (replace h := zcb1 M (by omega) (M + 7) (by omega) _ _ _ _ h R hR; simp only [zb83, simprocAttr, *]))
theorem zb85 (q : Nat) (zcb0 : zb80 q) : zb80 (q + 1) := by
 intro M hM j hj v6len v25z v25l v26 v27 h0z h0l r h R hR fr H hc
 obtain ⟨j, rfl⟩ : ∃ i, j = i + 1 := ⟨j - 1, by omega⟩
 rw [zhy, hc]; clear hc
 rw [zmb] at h
 replace h := br h; rcases h with ⟨h1, h⟩ | ⟨h1, h⟩
 ·replace h := bn h; obtain ⟨h2, h⟩ := h
  replace h := ob h; obtain ⟨e2, h3, h⟩ := h
  replace h := bn h; obtain ⟨h4, h⟩ := h
  replace h := zcb0 M (by omega) j (by omega) _ _ _ _ _ _ _ _ h R hR
  simp only [zb83, simprocAttr, *]
 ·cases h; subst hR; simp only [zb83, simprocAttr, *]
theorem zb86 (q : Nat) (zcb2 : zb82 q) : zb81 (q + 1) := by
 intro M hM j hj v25z v25l v26 r h R hR fr H hc
 obtain ⟨j, rfl⟩ : ∃ i, j = i + 1 := ⟨j - 1, by omega⟩
 rw [zhy, hc]; clear hc
 rw [zmd] at h
 replace h := br h; rcases h with ⟨h1, h⟩ | ⟨h1, h⟩
 ·replace h := ob h; obtain ⟨e3, h2, h⟩ := h
  replace h := bn h; obtain ⟨h3, h⟩ := h
  replace h := zcb2 M (by omega) j (by omega) _ _ _ _ _ _ _ h R hR
  simp only [zb83, simprocAttr, *]
 ·cases h; subst hR; simp only [zb83, simprocAttr, *]
theorem zb87 (q : Nat) (zcb2 : zb82 q) : zb82 (q + 1) := by
 intro M hM j hj v25z v25l v26 v27 h0z h0l r h R hR fr H hc
 obtain ⟨j, rfl⟩ : ∃ i, j = i + 1 := ⟨j - 1, by omega⟩
 rw [zhy, hc]; clear hc
 rw [zmc] at h
 replace h := br h; rcases h with ⟨h1, h⟩ | ⟨h1, h⟩
 ·replace h := bn h; obtain ⟨h2, h⟩ := h
  replace h := ob h; obtain ⟨e4, h3, h⟩ := h
  replace h := bn h; obtain ⟨h4, h⟩ := h
  replace h := zcb2 M (by omega) j (by omega) _ _ _ _ _ _ _ h R hR
  simp only [zb83, simprocAttr, *]
 ·cases h; subst hR; simp only [zb83, simprocAttr, *]
theorem zb88 : ∀ q, zb8z q ∧ zb80 q ∧ zb81 q ∧ zb82 q
 | 0 => by refine ⟨?_, ?_, ?_, ?_⟩ <;> (intro M hM j hj; intros; rename_i h; cases h)
 | q + 1 => by have ⟨i0, i1, i2, i3⟩ := zb88 q; exact ⟨zb84 q i0 i1 i2, zb85 q i1, zb86 q i3, zb87 q i3⟩
theorem zb89 : ∀ (q N : Nat), 8 * q ≤ N → ∀ (a0 : (Sl (Sl Int))), ∀ (r : (Ow Int)), zmf q a0 = some r → (orc T N).deep F.zmf [(Sl.enc (Sl.enc (V.int .u8))) a0] = some [(Ow.enc 1 (V.int .u8)) r] := by
 intro q N hM a0 r h
 rcases q with _ | q
 ·cases h
 obtain ⟨M, rfl⟩ : ∃ M, N = M + 8 := ⟨N - 8, by omega⟩
 have zcbz := (zb88 q).1
 refine byR fun R hR => ?_
 rw [zh8, zbp6, y4, zh6 zwz rfl]
 rw [zmf] at h
 replace h := zcbz M (by omega) (M + 7) (by omega) _ _ _ _ _ _ _ _ h R hR
 simp only [zb83, simprocAttr, *]
def zb9a := And.intro @kk <| And.intro @ke <| And.intro @kn <| And.intro @zbt0 <| And.intro @zbvx <| And.intro @zbv6 <| And.intro @zbv9 <| @zbt2
theorem zb9b : ∀ (q N : Nat), 8 * q ≤ N → ∀ (a0 : (Sl Int)), ∀ (r : (Ow Int) × Int), zmg q a0 = some r → (orc T N).deep F.zmg [(Sl.enc (V.int .u8)) a0] = some [(Ow.enc 1 (V.int .u8)) r.1, (V.int .i64) r.2] := by
 intro q N hM a0 r h
 rcases q with _ | q
 ·cases h
 obtain ⟨M, rfl⟩ : ∃ M, N = M + 8 := ⟨N - 8, by omega⟩
 refine byR fun R hR => ?_
 rw [zh8, zbpa, y4, zh6 zr2 rfl]
 rw [zmg] at h
 replace h := br h; rcases h with ⟨h1, h⟩ | ⟨h1, h⟩
 ·cases h; subst hR; simp only [zb9a, simprocAttr, *]
 ·replace h := ob h; obtain ⟨r1, h2, h⟩ := h
  replace h2 := zb77 q (M + 7) (by omega) _ _ _ h2
  try simp only [kf, simprocAttr] at h2
  replace h := ob h; obtain ⟨r2, h3, h⟩ := h
  replace h3 := zb8y q (M + 7) (by omega) _ _ _ h3
  try simp only [kf, simprocAttr] at h3
  replace h := ob h; obtain ⟨r3, h4, h⟩ := h
  replace h4 := zb89 q (M + 7) (by omega) _ _ h4
  try simp only [kf, simprocAttr] at h4
  cases h; subst hR; simp only [zb9a, simprocAttr, *]
def zb9c := And.intro @kk <| And.intro @ke <| And.intro @kn <| And.intro @zbxw <| @zbxy
theorem zb9d : ∀ (q N : Nat), 8 * q ≤ N → ∀ (a0 : Int), ∀ (r : Bool), zmh q a0 = some r → (orc T N).deep F.zmh [(V.int .u8) a0] = some [V.bool r] := by
 intro q N hM a0 r h
 rcases q with _ | q
 ·cases h
 obtain ⟨M, rfl⟩ : ∃ M, N = M + 8 := ⟨N - 8, by omega⟩
 refine byR fun R hR => ?_
 rw [zh8, zbq7, y4, zh6 z58 rfl]
 rw [zmh] at h
 cases h; subst hR; simp only [zb9c, simprocAttr, *]
def zb9e (q : Nat) : Prop := ∀ M, 8 * q ≤ M → ∀ j, q ≤ j → ∀ (v0z : Bool) (v0l : List Int) (v7 v8 r : Int), zmi q v0z v0l v7 v8 = some r → LS T (M + 5) 0 [0, 1, 7, 8] [.blk 0, .code (.seq (.reg zbd9) .ret)] zbd8 j (finI 0 false [.tmp 4]) ((some ([(.int .i64 r)], []) : Option (List V × Hp))) [(0, (.sl v0z (List.map (V.int .u8) v0l))), (1, (.fn F.zmh [])), (7, (.int .i64 v7)), (8, (.int .i64 v8))] []
def zb9f := And.intro @kk <| And.intro @ke <| And.intro @kn <| And.intro @zbza <| @zbxx
theorem zb9g (q : Nat) (zcb3 : zb9e q) : zb9e (q + 1) := by
 intro M hM j hj v0z v0l v7 v8 r h R hR fr H hc
 obtain ⟨j, rfl⟩ : ∃ i, j = i + 1 := ⟨j - 1, by omega⟩
 rw [zhy, hc]; clear hc
 rw [zmi] at h
 replace h := br h; rcases h with ⟨h1, h⟩ | ⟨h1, h⟩
 ·replace h := bn h; obtain ⟨h2, h⟩ := h
  replace h := ob h; obtain ⟨e1, h3, h⟩ := h
  replace h := ob h; obtain ⟨r2, h4, h⟩ := h
  replace h4 := zb9d q (M + 5) (by omega) _ _ h4
  replace h := bb h; rcases h with ⟨h5', h5, h⟩ | ⟨h5', h5, h⟩
  ·cases h; subst hR; simp only [zb9f, simprocAttr, *]
  ·replace h := zcb3 M (by omega) j (by omega) _ _ _ _ _ h R hR
   simp only [zb9f, simprocAttr, *]
 ·cases h; subst hR; simp only [zb9f, simprocAttr, *]
theorem zb9h : ∀ q, zb9e q
 | 0 => by intro M hM j hj; intros; rename_i h; cases h
 | q + 1 => by have i0 := zb9h q; exact zb9g q i0
theorem zb9i : ∀ (q M : Nat), 8 * q ≤ M → ∀ (v0z : Bool), ∀ (v0l : List Int), ∀ (r : Int), zmj q v0z v0l = some r → (orc T (M + 6)).inl F.zpz [(.sl v0z (List.map (V.int .u8) v0l)), (.fn F.zmh [])] [] = (some ([(.int .i64 r)], []) : Option (List V × Hp)) := by
 intro q M hM v0z v0l r h
 rcases q with _ | q
 ·cases h
 have zcb3 := (zb9h q)
 refine byR fun R hR => ?_
 rw [zbzc (n := M + 5)]
 rw [zmj] at h
 replace h := zcb3 M (by omega) (M + 5) (by omega) _ _ _ _ _ h R hR
 simp only [zb9f, simprocAttr, *]
def zb9j := And.intro @kk <| And.intro @ke <| And.intro @kn <| And.intro @zbwb <| And.intro @zbxt <| And.intro @zbzb <| And.intro @zbxu <| And.intro @zbxv <| @zbwd
theorem zb9k : ∀ (q N : Nat), 8 * q ≤ N → ∀ (a0 : (Sl Int)), ∀ (r : Bool), zmk q a0 = some r → (orc T N).deep F.zmk [(Sl.enc (V.int .u8)) a0] = some [V.bool r] := by
 intro q N hM a0 r h
 rcases q with _ | q
 ·cases h
 obtain ⟨M, rfl⟩ : ∃ M, N = M + 8 := ⟨N - 8, by omega⟩
 refine byR fun R hR => ?_
 rw [zh8, zbp8, y4, zh6 zw3 rfl]
 rw [zmk] at h
 replace h := br h; rcases h with ⟨h1, h⟩ | ⟨h1, h⟩
 ·replace h := ob h; obtain ⟨r1, h2, h⟩ := h
  replace h2 := zb9i q M (by omega) _ _ _ h2
  try simp only [kf, simprocAttr] at h2
  cases h; subst hR; simp only [zb9j, simprocAttr, *]
 ·cases h; subst hR; simp only [zb9j, simprocAttr, *]
def zb9l (q : Nat) : Prop := ∀ M, 8 * q ≤ M → ∀ j, q ≤ j → ∀ (v0z : Bool) (v0l : List Int) (v4 v9 v10 : Int) (r : Int × Int), zml q v0z v0l v4 v9 v10 = some r → LS T (M + 7) 0 [0, 4, 9, 10] [.blk 0, .code (.seq (.reg z6q) .ret)] z6p j (fin z6t) (some [(V.int .u64) r.1, (V.int .i64) r.2]) [(0, (.sl v0z (List.map (V.int .u8) v0l))), (4, (.int .u64 v4)), (9, (.int .i64 v9)), (10, (.int .i64 v10))] []
def zb9m := And.intro @kk <| And.intro @ke <| And.intro @kn <| And.intro @zbxz <| @zbx1
theorem zb9n (q : Nat) (zcb4 : zb9l q) : zb9l (q + 1) := by
 intro M hM j hj v0z v0l v4 v9 v10 r h R hR fr H hc
 obtain ⟨j, rfl⟩ : ∃ i, j = i + 1 := ⟨j - 1, by omega⟩
 rw [zhy, hc]; clear hc
 rw [zml] at h
 repeat' (first | (cases h; done) | (replace h := bn h; obtain ⟨_, h⟩ := h) | (replace h := bm h; obtain ⟨_, h⟩ := h) | (replace h := br h; rcases h with ⟨_, h⟩ | ⟨_, h⟩) | (replace h := ob h; obtain ⟨_, g, h⟩ := h))
 all_goals (first | (cases h; subst hR; simp only [zb9m, simprocAttr, *]) | (replace h := zcb4 M (by omega) j (by omega) _ _ _ _ _ _ h R hR; simp only [zb9m, simprocAttr, *]))
theorem zb9o : ∀ q, zb9l q
 | 0 => by intro M hM j hj; intros; rename_i h; cases h
 | q + 1 => by have i0 := zb9o q; exact zb9n q i0
theorem zb9p : ∀ (q N : Nat), 8 * q ≤ N → ∀ (a0 : (Sl Int)), ∀ (r : Int × Int), zmm q a0 = some r → (orc T N).deep F.zmm [(Sl.enc (V.int .u8)) a0] = some [(V.int .u64) r.1, (V.int .i64) r.2] := by
 intro q N hM a0 r h
 rcases q with _ | q
 ·cases h
 obtain ⟨M, rfl⟩ : ∃ M, N = M + 8 := ⟨N - 8, by omega⟩
 have zcb4 := (zb9o q)
 refine byR fun R hR => ?_
 rw [zh8, zbq8, y4, zh6 z6t rfl]
 rw [zmm] at h
 replace h := zcb4 M (by omega) (M + 7) (by omega) _ _ _ _ _ _ h R hR
 simp only [zb9m, simprocAttr, *]
def zb9q := And.intro @kk <| And.intro @ke <| And.intro @kn <| And.intro @zbwe <| And.intro @zbx0 <| @zbwg
theorem zb9r : ∀ (q N : Nat), 8 * q ≤ N → ∀ (a0 : (Sl Int)), ∀ (r : Int × Int), zmn q a0 = some r → (orc T N).deep F.zmn [(Sl.enc (V.int .u8)) a0] = some [(V.int .i64) r.1, (V.int .i64) r.2] := by
 intro q N hM a0 r h
 rcases q with _ | q
 ·cases h
 obtain ⟨M, rfl⟩ : ∃ M, N = M + 8 := ⟨N - 8, by omega⟩
 refine byR fun R hR => ?_
 rw [zh8, zbp9, y4, zh6 zw5 rfl]
 rw [zmn] at h
 replace h := ob h; obtain ⟨r1, h1, h⟩ := h
 replace h1 := zb9p q (M + 7) (by omega) _ _ h1
 try simp only [kf, simprocAttr] at h1
 replace h := br h; rcases h with ⟨h2, h⟩ | ⟨h2, h⟩
 ·cases h; subst hR; simp only [zb9q, simprocAttr, *]
 ·cases h; subst hR; simp only [zb9q, simprocAttr, *]
def zb9s (q : Nat) : Prop := ∀ M, 8 * q ≤ M → ∀ j, q ≤ j → ∀ (v0z : Bool) (v0l : List Int) (v1z : Bool) (v1l : List Int) (v12 v13 : Int) (r : Bool), zmo q v0z v0l v1z v1l v12 v13 = some r → LS T (M + 7) 0 [0, 1, 12, 13] [.blk 0, .code (.seq (.reg zxh) .ret)] zxg j (fin zxk) (some [V.bool r]) [(0, (.sl v0z (List.map (V.int .u8) v0l))), (1, (.sl v1z (List.map (V.int .u8) v1l))), (12, (.int .i64 v12)), (13, (.int .i64 v13))] []
def zb9t := And.intro @kk <| And.intro @ke <| And.intro @kn <| And.intro @zbwh <| @zbwj
theorem zb9u (q : Nat) (zcb5 : zb9s q) : zb9s (q + 1) := by
 intro M hM j hj v0z v0l v1z v1l v12 v13 r h R hR fr H hc
 obtain ⟨j, rfl⟩ : ∃ i, j = i + 1 := ⟨j - 1, by omega⟩
 rw [zhy, hc]; clear hc
 rw [zmo] at h
 replace h := br h; rcases h with ⟨h1, h⟩ | ⟨h1, h⟩
 ·replace h := bn h; obtain ⟨h2, h⟩ := h
  replace h := ob h; obtain ⟨e1, h3, h⟩ := h
  replace h := ob h; obtain ⟨e2, h4, h⟩ := h
  replace h := br h; rcases h with ⟨h5, h⟩ | ⟨h5, h⟩
  ·replace h := zcb5 M (by omega) j (by omega) _ _ _ _ _ _ _ h R hR
   simp only [zb9t, simprocAttr, *]
  ·cases h; subst hR; simp only [zb9t, simprocAttr, *]
 ·cases h; subst hR; simp only [zb9t, simprocAttr, *]
theorem zb9v : ∀ q, zb9s q
 | 0 => by intro M hM j hj; intros; rename_i h; cases h
 | q + 1 => by have i0 := zb9v q; exact zb9u q i0
theorem zb9w : ∀ (q N : Nat), 8 * q ≤ N → ∀ (a0 a1 : (Sl Int)), ∀ (r : Bool), zmp q a0 a1 = some r → (orc T N).deep F.zmp [(Sl.enc (V.int .u8)) a0, (Sl.enc (V.int .u8)) a1] = some [V.bool r] := by
 intro q N hM a0 a1 r h
 rcases q with _ | q
 ·cases h
 obtain ⟨M, rfl⟩ : ∃ M, N = M + 8 := ⟨N - 8, by omega⟩
 have zcb5 := (zb9v q)
 refine byR fun R hR => ?_
 rw [zh8, zbqa, y4, zh6 zxk rfl]
 rw [zmp] at h
 replace h := br h; rcases h with ⟨h1, h⟩ | ⟨h1, h⟩
 ·replace h := zcb5 M (by omega) (M + 7) (by omega) _ _ _ _ _ _ _ h R hR
  simp only [zb9t, simprocAttr, *]
 ·cases h; subst hR; simp only [zb9t, simprocAttr, *]
def zb9x := And.intro @kk <| And.intro @ke <| And.intro @kn <| And.intro @zbwk <| @zbwm
theorem zb9y : ∀ (q N : Nat), 8 * q ≤ N → ∀ (a0 : (Sl Int)), ∀ (r : (Ow Int)), zmq q a0 = some r → (orc T N).deep F.zmq [(Sl.enc (V.int .u8)) a0] = some [(Ow.enc 1 (V.int .u8)) r] := by
 intro q N hM a0 r h
 rcases q with _ | q
 ·cases h
 obtain ⟨M, rfl⟩ : ∃ M, N = M + 8 := ⟨N - 8, by omega⟩
 refine byR fun R hR => ?_
 rw [zh8, zbqb, y4, zh6 zxr rfl]
 rw [zmq] at h
 replace h := bb h; rcases h with ⟨h1', h1, h⟩ | ⟨h1', h1, h⟩
 ·cases h; subst hR; simp only [zb9x, simprocAttr, *]
 ·replace h := bn h; obtain ⟨h2, h⟩ := h
  cases h; subst hR; simp only [zb9x, simprocAttr, *]
def zb9z := And.intro @kk <| And.intro @ke <| And.intro @kn <| And.intro @zbt3 <| And.intro @zbv9 <| And.intro @zbwc <| And.intro @zbwf <| And.intro @zbwi <| And.intro @zbwl <| @zbt5
theorem zb90 : ∀ (q N : Nat), 8 * q ≤ N → ∀ (a0 : (Sl Int)), ∀ (r : (Ow Int) × Int × Int), zmr q a0 = some r → (orc T N).deep F.zmr [(Sl.enc (V.int .u8)) a0] = some [(Ow.enc 1 (V.int .u8)) r.1, (V.int .i64) r.2.1, (V.int .i64) r.2.2] := by
 intro q N hM a0 r h
 rcases q with _ | q
 ·cases h
 obtain ⟨M, rfl⟩ : ∃ M, N = M + 8 := ⟨N - 8, by omega⟩
 refine byR fun R hR => ?_
 rw [zh8, zbpb, y4, zh6 zsd rfl]
 rw [zmr] at h
 repeat' (first | (cases h; done) | (replace h := bb h; rcases h with ⟨_, _, h⟩ | ⟨_, _, h⟩) | (replace h := bn h; obtain ⟨_, h⟩ := h) | (replace h := br h; rcases h with ⟨_, h⟩ | ⟨_, h⟩) | (replace h := ob h; obtain ⟨_, g, h⟩ := h; first | (replace g := zb9k q (M + 7) (by omega) _ _ g; try simp only [kf, simprocAttr] at g) | (replace g := zb9r q (M + 7) (by omega) _ _ g; try simp only [kf, simprocAttr] at g) | (replace g := zb8y q (M + 7) (by omega) _ _ _ g; try simp only [kf, simprocAttr] at g) | (replace g := zb9w q (M + 7) (by omega) _ _ _ g; try simp only [kf, simprocAttr] at g) | (replace g := zb9y q (M + 7) (by omega) _ _ g; try simp only [kf, simprocAttr] at g) | skip))
 all_goals (cases h; subst hR; simp only [zb9z, simprocAttr, *])
def zb91 := And.intro @kk <| And.intro @ke <| And.intro @kn <| And.intro @zbzd <| @zbzf
theorem zb92 : ∀ (q N : Nat), 8 * q ≤ N → ∀ (a0 r : Int), zms q a0 = some r → (orc T N).deep F.zms [(V.int .u64) a0] = some [(V.int .i64) r] := by
 intro q N hM a0 r h
 rcases q with _ | q
 ·cases h
 obtain ⟨M, rfl⟩ : ∃ M, N = M + 8 := ⟨N - 8, by omega⟩
 refine byR fun R hR => ?_
 rw [zh8, zbr1, y4, zh6 zbeg rfl]
 rw [zms] at h
 cases h; subst hR; simp only [zb91, simprocAttr, *]
def zb93 := And.intro @kk <| And.intro @ke <| And.intro @kn <| And.intro @zbx2 <| And.intro @zbx0 <| And.intro @zbze <| @zbx4
theorem zb94 : ∀ (q N : Nat), 8 * q ≤ N → ∀ (a0 : (Sl Int)), ∀ (r : Int × Int), zmt q a0 = some r → (orc T N).deep F.zmt [(Sl.enc (V.int .u8)) a0] = some [(V.int .i64) r.1, (V.int .i64) r.2] := by
 intro q N hM a0 r h
 rcases q with _ | q
 ·cases h
 obtain ⟨M, rfl⟩ : ∃ M, N = M + 8 := ⟨N - 8, by omega⟩
 refine byR fun R hR => ?_
 rw [zh8, zbq9, y4, zh6 z61 rfl]
 rw [zmt] at h
 replace h := ob h; obtain ⟨r1, h1, h⟩ := h
 replace h1 := zb9p q (M + 7) (by omega) _ _ h1
 try simp only [kf, simprocAttr] at h1
 replace h := br h; rcases h with ⟨h2, h⟩ | ⟨h2, h⟩
 ·cases h; subst hR; simp only [zb93, simprocAttr, *]
 ·replace h := ob h; obtain ⟨r2, h3, h⟩ := h
  replace h3 := zb92 q (M + 7) (by omega) _ _ h3
  cases h; subst hR; simp only [zb93, simprocAttr, *]
def zb95 (q : Nat) : Prop := ∀ M, 8 * q ≤ M → ∀ j, q ≤ j → ∀ (v0z : Bool) (v0l : List Int) (v1z : Bool) (v1l : List Int) (v12 v13 : Int) (r : Bool), zmu q v0z v0l v1z v1l v12 v13 = some r → LS T (M + 7) 0 [0, 1, 12, 13] [.blk 0, .code (.seq (.reg zx3) .ret)] zx2 j (fin zx6) (some [V.bool r]) [(0, (.sl v0z (List.map (V.int .i64) v0l))), (1, (.sl v1z (List.map (V.int .i64) v1l))), (12, (.int .i64 v12)), (13, (.int .i64 v13))] []
def zb96 := And.intro @kk <| And.intro @ke <| And.intro @kn <| And.intro @zbwn <| @zbwp
theorem zb97 (q : Nat) (zcb6 : zb95 q) : zb95 (q + 1) := by
 intro M hM j hj v0z v0l v1z v1l v12 v13 r h R hR fr H hc
 obtain ⟨j, rfl⟩ : ∃ i, j = i + 1 := ⟨j - 1, by omega⟩
 rw [zhy, hc]; clear hc
 rw [zmu] at h
 replace h := br h; rcases h with ⟨h1, h⟩ | ⟨h1, h⟩
 ·replace h := bn h; obtain ⟨h2, h⟩ := h
  replace h := ob h; obtain ⟨e1, h3, h⟩ := h
  replace h := ob h; obtain ⟨e2, h4, h⟩ := h
  replace h := br h; rcases h with ⟨h5, h⟩ | ⟨h5, h⟩
  ·replace h := zcb6 M (by omega) j (by omega) _ _ _ _ _ _ _ h R hR
   simp only [zb96, simprocAttr, *]
  ·cases h; subst hR; simp only [zb96, simprocAttr, *]
 ·cases h; subst hR; simp only [zb96, simprocAttr, *]
theorem zb98 : ∀ q, zb95 q
 | 0 => by intro M hM j hj; intros; rename_i h; cases h
 | q + 1 => by have i0 := zb98 q; exact zb97 q i0
theorem zb99 : ∀ (q N : Nat), 8 * q ≤ N → ∀ (a0 a1 : (Sl Int)), ∀ (r : Bool), zmv q a0 a1 = some r → (orc T N).deep F.zmv [(Sl.enc (V.int .i64)) a0, (Sl.enc (V.int .i64)) a1] = some [V.bool r] := by
 intro q N hM a0 a1 r h
 rcases q with _ | q
 ·cases h
 obtain ⟨M, rfl⟩ : ∃ M, N = M + 8 := ⟨N - 8, by omega⟩
 have zcb6 := (zb98 q)
 refine byR fun R hR => ?_
 rw [zh8, zbqc, y4, zh6 zx6 rfl]
 rw [zmv] at h
 replace h := br h; rcases h with ⟨h1, h⟩ | ⟨h1, h⟩
 ·replace h := zcb6 M (by omega) (M + 7) (by omega) _ _ _ _ _ _ _ h R hR
  simp only [zb96, simprocAttr, *]
 ·cases h; subst hR; simp only [zb96, simprocAttr, *]
def zcaa := And.intro @kk <| And.intro @ke <| And.intro @kn <| And.intro @zbt6 <| And.intro @zbwo <| @zbt8
theorem zcab : ∀ (q N : Nat), 8 * q ≤ N → ∀ (a0 a1 : zkk), ∀ (r : Bool), zmw q a0 a1 = some r → (orc T N).deep F.zmw [zkk.enc a0, zkk.enc a1] = some [V.bool r] := by
 intro q N hM a0 a1 r h
 rcases q with _ | q
 ·cases h
 obtain ⟨M, rfl⟩ : ∃ M, N = M + 8 := ⟨N - 8, by omega⟩
 refine byR fun R hR => ?_
 rw [zh8, zbpc, y4, zh6 zsf rfl]
 rw [zmw] at h
 repeat' (first | (cases h; done) | (replace h := bb h; rcases h with ⟨_, _, h⟩ | ⟨_, _, h⟩) | (replace h := br h; rcases h with ⟨_, h⟩ | ⟨_, h⟩) | (replace h := ob h; obtain ⟨_, g, h⟩ := h; first | (replace g := zb99 q (M + 7) (by omega) _ _ _ g; try simp only [kf, simprocAttr] at g) | skip))
 all_goals (cases h; subst hR; simp only [zcaa, simprocAttr, *])
def zcac (q : Nat) : Prop := ∀ M, 8 * q ≤ M → ∀ j, q ≤ j → ∀ (v0z : Bool) (v0l : List zkl) (v1z : Bool) (v1l : List zkl) (v12 v13 : Int) (r : Bool), zmx q v0z v0l v1z v1l v12 v13 = some r → LS T (M + 7) 0 [0, 1, 12, 13] [.blk 0, .code (.seq (.reg zsi) .ret)] zsh j (fin zsl) (some [V.bool r]) [(0, (.sl v0z (List.map zkl.enc v0l))), (1, (.sl v1z (List.map zkl.enc v1l))), (12, (.int .i64 v12)), (13, (.int .i64 v13))] []
def zcad := And.intro @kk <| And.intro @ke <| And.intro @kn <| And.intro @zbt9 <| @zbub
theorem zcae (q : Nat) (zcb7 : zcac q) : zcac (q + 1) := by
 intro M hM j hj v0z v0l v1z v1l v12 v13 r h R hR fr H hc
 obtain ⟨j, rfl⟩ : ∃ i, j = i + 1 := ⟨j - 1, by omega⟩
 rw [zhy, hc]; clear hc
 rw [zmx] at h
 repeat' (first | (cases h; done) | (replace h := bn h; obtain ⟨_, h⟩ := h) | (replace h := br h; rcases h with ⟨_, h⟩ | ⟨_, h⟩) | (replace h := ob h; obtain ⟨_, g, h⟩ := h))
 all_goals (first | (cases h; subst hR; simp only [zcad, simprocAttr, *]) | (replace h := zcb7 M (by omega) j (by omega) _ _ _ _ _ _ _ h R hR; simp only [zcad, simprocAttr, *]))
theorem zcaf : ∀ q, zcac q
 | 0 => by intro M hM j hj; intros; rename_i h; cases h
 | q + 1 => by have i0 := zcaf q; exact zcae q i0
theorem zcag : ∀ (q N : Nat), 8 * q ≤ N → ∀ (a0 a1 : (Sl zkl)), ∀ (r : Bool), zmy q a0 a1 = some r → (orc T N).deep F.zmy [(Sl.enc zkl.enc) a0, (Sl.enc zkl.enc) a1] = some [V.bool r] := by
 intro q N hM a0 a1 r h
 rcases q with _ | q
 ·cases h
 obtain ⟨M, rfl⟩ : ∃ M, N = M + 8 := ⟨N - 8, by omega⟩
 have zcb7 := (zcaf q)
 refine byR fun R hR => ?_
 rw [zh8, zbpd, y4, zh6 zsl rfl]
 rw [zmy] at h
 replace h := br h; rcases h with ⟨h1, h⟩ | ⟨h1, h⟩
 ·replace h := zcb7 M (by omega) (M + 7) (by omega) _ _ _ _ _ _ _ h R hR
  simp only [zcad, simprocAttr, *]
 ·cases h; subst hR; simp only [zcad, simprocAttr, *]
def zcah := And.intro @kk <| And.intro @ke <| And.intro @kn <| And.intro @zbs0 <| And.intro @zbt7 <| And.intro @zbua <| @zbs2
theorem zcai : ∀ (q N : Nat), 8 * q ≤ N → ∀ (a0 a1 : zkm), ∀ (r : Bool), zmz q a0 a1 = some r → (orc T N).deep F.zmz [zkm.enc a0, zkm.enc a1] = some [V.bool r] := by
 intro q N hM a0 a1 r h
 rcases q with _ | q
 ·cases h
 obtain ⟨M, rfl⟩ : ∃ M, N = M + 8 := ⟨N - 8, by omega⟩
 refine byR fun R hR => ?_
 rw [zh8, zboy, y4, zh6 zqi rfl]
 rw [zmz] at h
 replace h := br h; rcases h with ⟨h1, h⟩ | ⟨h1, h⟩
 ·replace h := ob h; obtain ⟨r1, h2, h⟩ := h
  replace h2 := zcab q (M + 7) (by omega) _ _ _ h2
  try simp only [kf, simprocAttr] at h2
  replace h := bb h; rcases h with ⟨h3', h3, h⟩ | ⟨h3', h3, h⟩
  ·replace h := ob h; obtain ⟨r2, h4, h⟩ := h
   replace h4 := zcag q (M + 7) (by omega) _ _ _ h4
   try simp only [kf, simprocAttr] at h4
   cases h; subst hR; simp only [zcah, simprocAttr, *]
  ·cases h; subst hR; simp only [zcah, simprocAttr, *]
 ·cases h; subst hR; simp only [zcah, simprocAttr, *]
def FS : Nat → List V → Option (List V)
 | 212, [] => (I.zl3 2570).map fun r => [.agg (r.map (V.int .u32))]
 | _, _ => none
theorem fs_ok : ∀ f ds r, FS f ds = some r → ∀ M, 20560 ≤ M → (orc T M).deep f ds = some r := by
 intro f ds r h M hM
 unfold FS at h
 split at h
 ·obtain ⟨x, hx, rfl⟩ := Option.map_eq_some_iff.1 h; exact zb8i 2570 M hM x hx
 ·cases h
theorem zcaj : (orcE T FS 800).deep F.zm0 [] = some [.bool true] := by kernel_rfl
theorem zcak : ∀ (q N : Nat), 8 * q ≤ N → ∀ (r : Bool), zm0 q = some r → (orc T N).deep F.zm0 [] = some [V.bool r] := by
 intro q N hM r h
 unfold I.zm0 at h
 split at h
 ·cases h; exact closed fs_ok zcaj (by omega)
 ·cases h
def zcal := And.intro @kk <| And.intro @ke <| And.intro @kn <| And.intro @zbuc <| @zbue
theorem zcam : ∀ (q N : Nat), 8 * q ≤ N → ∀ (a0 : Int), ∀ (r : zkk), zm1 q a0 = some r → (orc T N).deep F.zm1 [(V.int .i64) a0] = some [zkk.enc r] := by
 intro q N hM a0 r h
 rcases q with _ | q
 ·cases h
 obtain ⟨M, rfl⟩ : ∃ M, N = M + 8 := ⟨N - 8, by omega⟩
 refine byR fun R hR => ?_
 rw [zh8, zbpi, y4, zh6 zth rfl]
 rw [zm1] at h
 repeat' (first | (cases h; done) | (replace h := br h; rcases h with ⟨_, h⟩ | ⟨_, h⟩))
 all_goals (cases h; subst hR; simp only [zcal, simprocAttr, *])
def zcan (q : Nat) : Prop := ∀ M, 8 * q ≤ M → ∀ j, q ≤ j → ∀ (v0z : Bool) (v0l : List Int) (v3 : Int) (h0z : Bool) (h0l : List (Sl Int)) (r : (Ow (Sl Int)) × Int × Int), zm2 q v0z v0l v3 h0z h0l = some r → LS T (M + 7) 0 [0, 2, 3] [.blk 0, .code (.seq (.reg zbf8) .ret)] zbf7 j (fin zbga) (some [(Ow.enc 1 (Sl.enc (V.int .u8))) r.1, (V.int .i64) r.2.1, (V.int .i64) r.2.2]) [(0, (.sl v0z (List.map (V.int .u8) v0l))), (2, (.vw 0 0 0 h0l.length 1)), (3, (.int .i64 v3))] [(.row 0 h0z 1 (List.map (Sl.enc (V.int .u8)) h0l) true)]
def zcao := And.intro @kk <| And.intro @ke <| And.intro @kn <| And.intro @zbzp <| And.intro @zbt4 <| @zbzr
theorem zcap (q : Nat) (zcb8 : zcan q) : zcan (q + 1) := by
 intro M hM j hj v0z v0l v3 h0z h0l r h R hR fr H hc
 obtain ⟨j, rfl⟩ : ∃ i, j = i + 1 := ⟨j - 1, by omega⟩
 rw [zhy, hc]; clear hc
 rw [zm2] at h
 repeat' (first | (cases h; done) | (replace h := bn h; obtain ⟨_, h⟩ := h) | (replace h := br h; rcases h with ⟨_, h⟩ | ⟨_, h⟩) | (replace h := ob h; obtain ⟨_, g, h⟩ := h; first | (replace g := zb90 q (M + 7) (by omega) _ _ g; try simp only [kf, simprocAttr] at g) | skip))
 all_goals (first | (cases h; subst hR; simp only [zcao, simprocAttr, *]) | (replace h := zcb8 M (by omega) j (by omega) _ _ _ _ _ _ h R hR; simp only [zcao, simprocAttr, *]))
theorem zcaq : ∀ q, zcan q
 | 0 => by intro M hM j hj; intros; rename_i h; cases h
 | q + 1 => by have i0 := zcaq q; exact zcap q i0
theorem zcar : ∀ (q N : Nat), 8 * q ≤ N → ∀ (a0 : (Sl Int)), ∀ (r : (Ow (Sl Int)) × Int × Int), zm3 q a0 = some r → (orc T N).deep F.zm3 [(Sl.enc (V.int .u8)) a0] = some [(Ow.enc 1 (Sl.enc (V.int .u8))) r.1, (V.int .i64) r.2.1, (V.int .i64) r.2.2] := by
 intro q N hM a0 r h
 rcases q with _ | q
 ·cases h
 obtain ⟨M, rfl⟩ : ∃ M, N = M + 8 := ⟨N - 8, by omega⟩
 have zcb8 := (zcaq q)
 refine byR fun R hR => ?_
 rw [zh8, zbr7, y4, zh6 zbga rfl]
 rw [zm3] at h
 replace h := zcb8 M (by omega) (M + 7) (by omega) _ _ _ _ _ _ h R hR
 simp only [zcao, simprocAttr, *]
def zcas := And.intro @kk <| And.intro @ke <| And.intro @kn <| And.intro @zbyq <| And.intro @zbzq <| @zbys
theorem zcat : ∀ (q N : Nat), 8 * q ≤ N → ∀ (a0 : (Sl Int)), ∀ (r : (Ow (Sl Int)) × Int), zm4 q a0 = some r → (orc T N).deep F.zm4 [(Sl.enc (V.int .u8)) a0] = some [(Ow.enc 1 (Sl.enc (V.int .u8))) r.1, (V.int .i64) r.2] := by
 intro q N hM a0 r h
 rcases q with _ | q
 ·cases h
 obtain ⟨M, rfl⟩ : ∃ M, N = M + 8 := ⟨N - 8, by omega⟩
 refine byR fun R hR => ?_
 rw [zh8, zbrs, y4, zh6 zbay rfl]
 rw [zm4] at h
 replace h := ob h; obtain ⟨r1, h1, h⟩ := h
 replace h1 := zcar q (M + 7) (by omega) _ _ h1
 try simp only [kf, simprocAttr] at h1
 replace h := br h; rcases h with ⟨h2, h⟩ | ⟨h2, h⟩
 ·cases h; subst hR; simp only [zcas, simprocAttr, *]
 ·cases h; subst hR; simp only [zcas, simprocAttr, *]
def zcau := And.intro @kk <| And.intro @ke <| And.intro @kn <| And.intro @zbyb <| @zbyd
theorem zcav : ∀ (q N : Nat), 8 * q ≤ N → ∀ (a0 : Int), ∀ (r : Bool), zm5 q a0 = some r → (orc T N).deep F.zm5 [(V.int .i64) a0] = some [V.bool r] := by
 intro q N hM a0 r h
 rcases q with _ | q
 ·cases h
 obtain ⟨M, rfl⟩ : ∃ M, N = M + 8 := ⟨N - 8, by omega⟩
 refine byR fun R hR => ?_
 rw [zh8, zbrc, y4, zh6 z7p rfl]
 rw [zm5] at h
 replace h := br h; rcases h with ⟨h1, h⟩ | ⟨h1, h⟩
 ·cases h; subst hR; simp only [zcau, simprocAttr, *]
 ·cases h; subst hR; simp only [zcau, simprocAttr, *]
def zcaw := And.intro @kk <| And.intro @ke <| And.intro @kn <| And.intro @zb0a <| And.intro @zb0m <| And.intro @zb0p <| And.intro @zb0s <| And.intro @zb0v <| And.intro @zbup <| And.intro @zbwf <| And.intro @zbx3 <| And.intro @zb0b <| And.intro @zb0c <| And.intro @zb0n <| And.intro @zb0o <| And.intro @zb0q <| And.intro @zb0r <| And.intro @zb0t <| And.intro @zb0u <| @zb0x
theorem zcax : ∀ (q N : Nat), 8 * q ≤ N → ∀ (a0 : (Sl Int)), ∀ (r : zkn × Int), zm6 q a0 = some r → (orc T N).deep F.zm6 [(Sl.enc (V.int .u8)) a0] = some [zkn.enc r.1, (V.int .i64) r.2] := by
 intro q N hM a0 r h
 rcases q with _ | q
 ·cases h
 obtain ⟨M, rfl⟩ : ∃ M, N = M + 8 := ⟨N - 8, by omega⟩
 refine byR fun R hR => ?_
 rw [zh8, zbsl, y4, zh6 zbmd rfl]
 rw [zm6] at h
 repeat' (first | (cases h; done) | (replace h := bb h; rcases h with ⟨_, _, h⟩ | ⟨_, _, h⟩) | (replace h := bn h; obtain ⟨_, h⟩ := h) | (replace h := br h; rcases h with ⟨_, h⟩ | ⟨_, h⟩) | (replace h := ob h; obtain ⟨_, g, h⟩ := h; first | (replace g := zb9r q (M + 6) (by omega) _ _ g; try simp only [kf, simprocAttr] at g) | (replace g := zb94 q (M + 6) (by omega) _ _ g; try simp only [kf, simprocAttr] at g) | (replace g := zb5u q (M + 7) (by omega) _ _ g; try simp only [kf, simprocAttr] at g) | skip))
 all_goals (cases h; subst hR; simp only [zcaw, simprocAttr, *])
def zcay (q : Nat) : Prop := ∀ M, 8 * q ≤ M → ∀ j, q ≤ j → ∀ (v3 v47_0 v47_1 v47_2 v47_3 v48 h0_1 h0_2 h0_3 h0_4 h0_5 h0_6 : Int) (r : zko × Int), zm7 q v3 v47_0 v47_1 v47_2 v47_3 v48 h0_1 h0_2 h0_3 h0_4 h0_5 h0_6 = some r → LS T (M + 7) 0 [2, 3, 47, 48] [.blk 0, .code (.seq (.reg zbkq) .ret)] zbkp j (fin zbkv) (some [zko.enc r.1, (V.int .i64) r.2]) [(2, (.ptr 0 0)), (3, (.int .i64 v3)), (47, (.agg [(.int .i64 v47_0), (.int .i64 v47_1), (.int .i64 v47_2), (.int .i64 v47_3)])), (48, (.int .i64 v48))] [(.box [(.int .i64 0), (.int .i64 h0_1), (.int .i64 h0_2), (.int .i64 h0_3), (.int .i64 h0_4), (.int .i64 h0_5), (.int .i64 h0_6)])]
def zcaz := And.intro @kk <| And.intro @ke <| And.intro @kn <| And.intro @zb0d <| And.intro @zbwf <| And.intro @zbx3 <| And.intro @zb0w <| @zb0f
theorem zca0 (q : Nat) (zcb9 : zcay q) : zcay (q + 1) := by
 intro M hM j hj v3 v47_0 v47_1 v47_2 v47_3 v48 h0_1 h0_2 h0_3 h0_4 h0_5 h0_6 r h R hR fr H hc
 obtain ⟨j, rfl⟩ : ∃ i, j = i + 1 := ⟨j - 1, by omega⟩
 rw [zhy, hc]; clear hc
 rw [zm7] at h
 replace h := br h; rcases h with ⟨h1, h⟩ | ⟨h1, h⟩
 ·replace h := bn h; obtain ⟨h2, h⟩ := h
  replace h := bn h; obtain ⟨h3, h⟩ := h
  replace h := bc h; rcases h with ⟨h4, h⟩ | ⟨h4, h⟩
  ·replace h := br h; rcases h with ⟨h5, h⟩ | ⟨h5, h⟩
   ·cases h; subst hR; simp only [zcaz, simprocAttr, *]
   ·replace h := zcb9 M (by omega) j (by omega) _ _ _ _ _ _ _ _ _ _ _ _ _ h R hR
    simp only [zcaz, simprocAttr, *]
  ·replace h := bc h; rcases h with ⟨h6, h⟩ | ⟨h6, h⟩
   ·replace h := br h; rcases h with ⟨h7, h⟩ | ⟨h7, h⟩
    ·cases h; subst hR; simp only [zcaz, simprocAttr, *]
    ·replace h := zcb9 M (by omega) j (by omega) _ _ _ _ _ _ _ _ _ _ _ _ _ h R hR
     simp only [zcaz, simprocAttr, *]
   ·replace h := bc h; rcases h with ⟨h8, h⟩ | ⟨h8, h⟩
    ·replace h := br h; rcases h with ⟨h9, h⟩ | ⟨h9, h⟩
     ·cases h; subst hR; simp only [zcaz, simprocAttr, *]
     ·replace h := zcb9 M (by omega) j (by omega) _ _ _ _ _ _ _ _ _ _ _ _ _ h R hR
      simp only [zcaz, simprocAttr, *]
    ·replace h := bc h; rcases h with ⟨h10, h⟩ | ⟨h10, h⟩
     ·replace h := br h; rcases h with ⟨h11, h⟩ | ⟨h11, h⟩
      ·cases h; subst hR; simp only [zcaz, simprocAttr, *]
      ·replace h := zcb9 M (by omega) j (by omega) _ _ _ _ _ _ _ _ _ _ _ _ _ h R hR
       simp only [zcaz, simprocAttr, *]
     ·cases h
 ·cases h; subst hR; simp only [zcaz, simprocAttr, *]
theorem zca1 : ∀ q, zcay q
 | 0 => by intro M hM j hj; intros; rename_i h; cases h
 | q + 1 => by have i0 := zca1 q; exact zca0 q i0
theorem zca2 : ∀ (q N : Nat), 8 * q ≤ N → ∀ (a0 : (Sl Int)), ∀ (r : zko × Int), zm8 q a0 = some r → (orc T N).deep F.zm8 [(Sl.enc (V.int .u8)) a0] = some [zko.enc r.1, (V.int .i64) r.2] := by
 intro q N hM a0 r h
 rcases q with _ | q
 ·cases h
 obtain ⟨M, rfl⟩ : ∃ M, N = M + 8 := ⟨N - 8, by omega⟩
 have zcb9 := (zca1 q)
 refine byR fun R hR => ?_
 rw [zh8, zbsf, y4, zh6 zbkv rfl]
 rw [zm8] at h
 repeat' (first | (cases h; done) | (replace h := bn h; obtain ⟨_, h⟩ := h) | (replace h := ob h; obtain ⟨_, g, h⟩ := h; first | (replace g := zb9r q (M + 7) (by omega) _ _ g; try simp only [kf, simprocAttr] at g) | (replace g := zb94 q (M + 7) (by omega) _ _ g; try simp only [kf, simprocAttr] at g) | (replace g := zcax q (M + 7) (by omega) _ _ g; try simp only [kf, simprocAttr] at g) | skip))
 all_goals (replace h := zcb9 M (by omega) (M + 7) (by omega) _ _ _ _ _ _ _ _ _ _ _ _ _ h R hR; simp only [zcaz, simprocAttr, *])
def zca3 (q : Nat) : Prop := ∀ M, 8 * q ≤ M → ∀ j, q ≤ j → ∀ (v0z : Bool) (v0l : List zko) (v5z : Bool) (v5l : List zko) (v6 v7 : Int) (r : Bool), zm9 q v0z v0l v5z v5l v6 v7 = some r → LS T (M + 7) 0 [0, 5, 6, 7] [.blk 0, .code (.seq (.reg z7b) .ret)] z7a j (fin z7e) (some [V.bool r]) [(0, (.sl v0z (List.map zko.enc v0l))), (5, (.sl v5z (List.map zko.enc v5l))), (6, (.int .i64 v6)), (7, (.int .i64 v7))] []
def zca4 := And.intro @kk <| And.intro @ke <| And.intro @kn <| And.intro @zbx5 <| And.intro @zbtg <| @zbx7
theorem zca5 (q : Nat) (zcca : zca3 q) : zca3 (q + 1) := by
 intro M hM j hj v0z v0l v5z v5l v6 v7 r h R hR fr H hc
 obtain ⟨j, rfl⟩ : ∃ i, j = i + 1 := ⟨j - 1, by omega⟩
 rw [zhy, hc]; clear hc
 rw [zm9] at h
 repeat' (first | (cases h; done) | (replace h := bb h; rcases h with ⟨_, _, h⟩ | ⟨_, _, h⟩) | (replace h := bn h; obtain ⟨_, h⟩ := h) | (replace h := br h; rcases h with ⟨_, h⟩ | ⟨_, h⟩) | (replace h := ob h; obtain ⟨_, g, h⟩ := h; first | (replace g := zb5w q (M + 7) (by omega) _ _ g; try simp only [kf, simprocAttr] at g) | skip))
 all_goals (first | (cases h; subst hR; simp only [zca4, simprocAttr, *]) | (replace h := zcca M (by omega) j (by omega) _ _ _ _ _ _ _ h R hR; simp only [zca4, simprocAttr, *]))
theorem zca6 : ∀ q, zca3 q
 | 0 => by intro M hM j hj; intros; rename_i h; cases h
 | q + 1 => by have i0 := zca6 q; exact zca5 q i0
theorem zca7 : ∀ (q N : Nat), 8 * q ≤ N → ∀ (a0 : (Sl zko)), ∀ (r : Bool), zna q a0 = some r → (orc T N).deep F.zna [(Sl.enc zko.enc) a0] = some [V.bool r] := by
 intro q N hM a0 r h
 rcases q with _ | q
 ·cases h
 obtain ⟨M, rfl⟩ : ∃ M, N = M + 8 := ⟨N - 8, by omega⟩
 have zcca := (zca6 q)
 refine byR fun R hR => ?_
 rw [zh8, zbra, y4, zh6 z7e rfl]
 rw [zna] at h
 replace h := zcca M (by omega) (M + 7) (by omega) _ _ _ _ _ _ _ h R hR
 simp only [zca4, simprocAttr, *]
def zca8 := And.intro @kk <| And.intro @ke <| And.intro @kn <| And.intro @zbx8 <| And.intro @zbty <| And.intro @zbup <| And.intro @zbvx <| @zbya
theorem zca9 : ∀ (q N : Nat), 8 * q ≤ N → ∀ (a0 : (Ow Int)) (a1 : zkn), ∀ (r : (Ow Int) × Int), znb q a0 a1 = some r → (orc T N).deep F.znb [(Ow.enc 1 (V.int .u8)) a0, zkn.enc a1] = some [(Ow.enc 1 (V.int .u8)) r.1, (V.int .i64) r.2] := by
 intro q N hM a0 a1 r h
 rcases q with _ | q
 ·cases h
 obtain ⟨M, rfl⟩ : ∃ M, N = M + 8 := ⟨N - 8, by omega⟩
 refine byR fun R hR => ?_
 rw [zh8, zbrb, y4, zh6 z7l rfl]
 rw [znb] at h
 repeat' (first | (cases h; done) | (replace h := bb h; rcases h with ⟨_, _, h⟩ | ⟨_, _, h⟩) | (replace h := ob h; obtain ⟨_, g, h⟩ := h; first | (replace g := zb5u q (M + 7) (by omega) _ _ g; try simp only [kf, simprocAttr] at g) | (replace g := zb77 q (M + 7) (by omega) _ _ _ g; try simp only [kf, simprocAttr] at g) | (replace g := zb8b q (M + 7) (by omega) _ _ _ g; try simp only [kf, simprocAttr] at g) | skip))
 all_goals (cases h; subst hR; simp only [zca8, simprocAttr, *])
def zcba (q : Nat) : Prop := ∀ M, 8 * q ≤ M → ∀ j, q ≤ j → ∀ (v20z : Bool) (v20l : List zko) (v21 v22 : Int) (h0m : List (Int × Int)) (h1z : Bool) (h1l : List Int) (h1x : Bool) (r : (Ow Int) × Int), znc q v20z v20l v21 v22 h0m h1z h1l h1x = some r → LS T (M + 7) 0 [4, 5, 20, 21, 22] [.blk 0, .code (.seq (.reg zyn) .ret)] zym j (fin zyr) (some [(Ow.enc 1 (V.int .u8)) r.1, (V.int .i64) r.2]) [(4, (.mp 0)), (5, (.vw 1 0 0 h1l.length 1)), (20, (.sl v20z (List.map zko.enc v20l))), (21, (.int .i64 v21)), (22, (.int .i64 v22))] [(.map h0m), (.row 0 h1z 1 (List.map (V.int .u8) h1l) h1x)]
def zcbb := And.intro @kk <| And.intro @ke <| And.intro @kn <| And.intro @zbwq <| And.intro @zbty <| And.intro @zbvx <| And.intro @zbx6 <| And.intro @zbx9 <| @zbws
theorem zcbc (q : Nat) (zccb : zcba q) : zcba (q + 1) := by
 intro M hM j hj v20z v20l v21 v22 h0m h1z h1l h1x r h R hR fr H hc
 obtain ⟨j, rfl⟩ : ∃ i, j = i + 1 := ⟨j - 1, by omega⟩
 rw [zhy, hc]; clear hc
 rw [znc] at h
 repeat' (first | (cases h; done) | (replace h := bn h; obtain ⟨_, h⟩ := h) | (replace h := br h; rcases h with ⟨_, h⟩ | ⟨_, h⟩) | (replace h := ob h; obtain ⟨_, g, h⟩ := h; first | (replace g := zb77 q (M + 7) (by omega) _ _ _ g; try simp only [kf, simprocAttr] at g) | (replace g := zb8b q (M + 7) (by omega) _ _ _ g; try simp only [kf, simprocAttr] at g) | (replace g := zca9 q (M + 7) (by omega) _ _ _ g; try simp only [kf, simprocAttr] at g) | skip))
 all_goals (first | (cases h; subst hR; simp only [zcbb, simprocAttr, *]) | (replace h := zccb M (by omega) j (by omega) _ _ _ _ _ _ _ _ _ h R hR; simp only [zcbb, simprocAttr, *]))
theorem zcbd : ∀ q, zcba q
 | 0 => by intro M hM j hj; intros; rename_i h; cases h
 | q + 1 => by have i0 := zcbd q; exact zcbc q i0
theorem zcbe : ∀ (q N : Nat), 8 * q ≤ N → ∀ (a0 : (Sl zko)), ∀ (r : (Ow Int) × Int), znd q a0 = some r → (orc T N).deep F.znd [(Sl.enc zko.enc) a0] = some [(Ow.enc 1 (V.int .u8)) r.1, (V.int .i64) r.2] := by
 intro q N hM a0 r h
 rcases q with _ | q
 ·cases h
 obtain ⟨M, rfl⟩ : ∃ M, N = M + 8 := ⟨N - 8, by omega⟩
 have zccb := (zcbd q)
 refine byR fun R hR => ?_
 rw [zh8, zbqd, y4, zh6 zyr rfl]
 rw [znd] at h
 repeat' (first | (cases h; done) | (replace h := bb h; rcases h with ⟨_, _, h⟩ | ⟨_, _, h⟩) | (replace h := ob h; obtain ⟨_, g, h⟩ := h; first | (replace g := zca7 q (M + 7) (by omega) _ _ g; try simp only [kf, simprocAttr] at g) | (replace g := zb77 q (M + 7) (by omega) _ _ _ g; try simp only [kf, simprocAttr] at g) | skip))
 all_goals (first | (cases h; subst hR; simp only [zcbb, simprocAttr, *]) | (replace h := zccb M (by omega) (M + 7) (by omega) _ _ _ _ _ _ _ _ _ h R hR; simp only [zcbb, simprocAttr, *]))
def zcbf := And.intro @kk <| And.intro @ke <| And.intro @kn <| And.intro @zbzm <| @zbzo
theorem zcbg : ∀ (q N : Nat), 8 * q ≤ N → ∀ (a0 a1 : (Sl Int)), ∀ (r : Bool), zne q a0 a1 = some r → (orc T N).deep F.zne [(Sl.enc (V.int .u8)) a0, (Sl.enc (V.int .u8)) a1] = some [V.bool r] := by
 intro q N hM a0 a1 r h
 rcases q with _ | q
 ·cases h
 obtain ⟨M, rfl⟩ : ∃ M, N = M + 8 := ⟨N - 8, by omega⟩
 refine byR fun R hR => ?_
 rw [zh8, zbr6, y4, zh6 zbfy rfl]
 rw [zne] at h
 cases h; subst hR; simp only [zcbf, simprocAttr, *]
def zcbh (q : Nat) : Prop := ∀ M, 8 * q ≤ M → ∀ j, q ≤ j → ∀ (v0z : Bool) (v0l : List Int) (v4 : Int) (v10z : Bool) (v10l : List Int) (v44 v45 : Int) (h0m : List (Int × Int)) (h1z : Bool) (h1l : List zko) (r : (Ow zko) × Int), znf q v0z v0l v4 v10z v10l v44 v45 h0m h1z h1l = some r → LS T (M + 7) 0 [0, 4, 8, 9, 10, 44, 45] [.blk 0, .code zbii] zbid j (fin zbim) (some [(Ow.enc 7 zko.enc) r.1, (V.int .i64) r.2]) [(0, (.sl v0z (List.map (V.int .u8) v0l))), (4, (.int .i64 v4)), (8, (.mp 0)), (9, (.vw 1 0 0 h1l.length 1)), (10, (.sl v10z (List.map (V.int .u8) v10l))), (44, (.int .i64 v44)), (45, (.int .i64 v45))] [(.map h0m), (.row 0 h1z 7 (List.map zko.enc h1l) true)]
def zcbi := And.intro @kk <| And.intro @ke <| And.intro @kn <| And.intro @zbz1 <| And.intro @zbwf <| And.intro @zbwr <| And.intro @zbzn <| And.intro @zb0e <| @zbz3
theorem zcbj (q : Nat) (zccc : zcbh q) : zcbh (q + 1) := by
 intro M hM j hj v0z v0l v4 v10z v10l v44 v45 h0m h1z h1l r h R hR fr H hc
 obtain ⟨j, rfl⟩ : ∃ i, j = i + 1 := ⟨j - 1, by omega⟩
 rw [zhy, hc]; clear hc
 rw [znf] at h
 repeat' (first | (cases h; done) | (replace h := bb h; rcases h with ⟨_, _, h⟩ | ⟨_, _, h⟩) | (replace h := bn h; obtain ⟨_, h⟩ := h) | (replace h := br h; rcases h with ⟨_, h⟩ | ⟨_, h⟩) | (replace h := ob h; obtain ⟨_, g, h⟩ := h; first | (replace g := zca2 q (M + 7) (by omega) _ _ g; try simp only [kf, simprocAttr] at g) | (replace g := zcbe q (M + 7) (by omega) _ _ g; try simp only [kf, simprocAttr] at g) | (replace g := zcbg q (M + 7) (by omega) _ _ _ g; try simp only [kf, simprocAttr] at g) | skip))
 all_goals (first | (cases h; subst hR; simp only [zcbi, simprocAttr, *]) | (replace h := zccc M (by omega) j (by omega) _ _ _ _ _ _ _ _ _ _ _ h R hR; simp only [zcbi, simprocAttr, *]))
theorem zcbk : ∀ q, zcbh q
 | 0 => by intro M hM j hj; intros; rename_i h; cases h
 | q + 1 => by have i0 := zcbk q; exact zcbj q i0
theorem zcbl : ∀ (q N : Nat), 8 * q ≤ N → ∀ (a0 : (Sl Int)), ∀ (r : (Ow zko) × Int), zng q a0 = some r → (orc T N).deep F.zng [(Sl.enc (V.int .u8)) a0] = some [(Ow.enc 7 zko.enc) r.1, (V.int .i64) r.2] := by
 intro q N hM a0 r h
 rcases q with _ | q
 ·cases h
 obtain ⟨M, rfl⟩ : ∃ M, N = M + 8 := ⟨N - 8, by omega⟩
 have zccc := (zcbk q)
 refine byR fun R hR => ?_
 rw [zh8, zbsb, y4, zh6 zbim rfl]
 rw [zng] at h
 repeat' (first | (cases h; done) | (replace h := bn h; obtain ⟨_, h⟩ := h) | (replace h := br h; rcases h with ⟨_, h⟩ | ⟨_, h⟩) | (replace h := ob h; obtain ⟨_, g, h⟩ := h; first | (replace g := zb9r q (M + 7) (by omega) _ _ g; try simp only [kf, simprocAttr] at g) | skip))
 all_goals (first | (cases h; subst hR; simp only [zcbi, simprocAttr, *]) | (replace h := zccc M (by omega) (M + 7) (by omega) _ _ _ _ _ _ _ _ _ _ _ h R hR; simp only [zcbi, simprocAttr, *]))
end Go.Dvm.C
