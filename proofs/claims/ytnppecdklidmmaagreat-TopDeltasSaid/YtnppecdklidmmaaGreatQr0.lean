/- The machine comes to these answers: part 1. -/
import Derived.Test.YtnppecdklidmmaaGreatQl0
set_option linter.all false
set_option maxRecDepth 100000
set_option maxHeartbeats 4000000
namespace Go.Dvm.C
open Go Go.Dvm Go.Dvm.I
def zbvp := y5 @kk <| y5 @ke <| y5 @kn <| y5 @zbkl <| @zbkn
theorem zbvq : ∀ (q N : Nat), 8 * q ≤ N → ∀ (a0 : Int), ∀ (r : zj4), zke q a0 = some r → (orc T N).deep F.zke [(V.int .i64) a0] = some [zj4.enc r] := by
 intro q N hM a0 r h
 rcases q with _ | q
 ·cases h
 obtain ⟨M, rfl⟩ : ∃ M, N = M + 8 := ⟨N - 8, by omega⟩
 refine byR fun R hR => ?_
 rw [zh9, zbe3, y7, zh6 zxk rfl]
 rw [zke] at h
 repeat' (first | (cases h; done) | (replace h := br h; rcases h with ⟨_, h⟩ | ⟨_, h⟩))
 all_goals (cases h; subst hR; simp only [zbvp, simprocAttr, *])
def zbvr := y5 @kk <| y5 @ke <| y5 @kn <| y5 @zbq5 <| @zbq7
theorem zbvs : ∀ (q N : Nat), 8 * q ≤ N → ∀ (a0 : (Sl zj6)), ∀ (r : zj6 × Bool), zkf q a0 = some r → (orc T N).deep F.zkf [(Sl.enc zj6.enc) a0] = some [zj6.enc r.1, V.bool r.2] := by
 intro q N hM a0 r h
 rcases q with _ | q
 ·cases h
 obtain ⟨M, rfl⟩ : ∃ M, N = M + 8 := ⟨N - 8, by omega⟩
 refine byR fun R hR => ?_
 rw [zh9, zbha, y7, zh6 zbbz rfl]
 rw [zkf] at h
 replace h := br h; rcases h with ⟨h1, h⟩ | ⟨h1, h⟩
 ·cases h; subst hR; simp only [zbvr, simprocAttr, *]
 ·replace h := bn h; obtain ⟨h2, h⟩ := h
  replace h := ob h; obtain ⟨e1, h3, h⟩ := h
  cases h; subst hR; simp only [zbvr, simprocAttr, *]
def zbvt := y5 @kk <| y5 @ke <| y5 @kn <| y5 @zbjo <| @zbjq
theorem zbvu : ∀ (q N : Nat), 8 * q ≤ N → ∀ (a0 : (Sl Int)), ∀ (r : (Ow Int)), zkg q a0 = some r → (orc T N).deep F.zkg [(Sl.enc (V.int .i64)) a0] = some [(Ow.enc 1 (V.int .i64)) r] := by
 intro q N hM a0 r h
 rcases q with _ | q
 ·cases h
 obtain ⟨M, rfl⟩ : ∃ M, N = M + 8 := ⟨N - 8, by omega⟩
 refine byR fun R hR => ?_
 rw [zh9, zbes, y7, zh6 zu4 rfl]
 rw [zkg] at h
 replace h := bb h; rcases h with ⟨h1', h1, h⟩ | ⟨h1', h1, h⟩
 ·cases h; subst hR; simp only [zbvt, simprocAttr, *]
 ·replace h := bn h; obtain ⟨h2, h⟩ := h
  cases h; subst hR; simp only [zbvt, simprocAttr, *]
def zbvv := y5 @kk <| y5 @ke <| y5 @kn <| y5 @zbko <| @zbkq
theorem zbvw : ∀ (q N : Nat), 8 * q ≤ N → ∀ (a0 : (Sl zj5)), ∀ (r : (Ow zj5)), zkh q a0 = some r → (orc T N).deep F.zkh [(Sl.enc zj5.enc) a0] = some [(Ow.enc 3 zj5.enc) r] := by
 intro q N hM a0 r h
 rcases q with _ | q
 ·cases h
 obtain ⟨M, rfl⟩ : ∃ M, N = M + 8 := ⟨N - 8, by omega⟩
 refine byR fun R hR => ?_
 rw [zh9, zbe4, y7, zh6 zxm rfl]
 rw [zkh] at h
 replace h := bb h; rcases h with ⟨h1', h1, h⟩ | ⟨h1', h1, h⟩
 ·cases h; subst hR; simp only [zbvv, simprocAttr, *]
 ·replace h := bn h; obtain ⟨h2, h⟩ := h
  cases h; subst hR; simp only [zbvv, simprocAttr, *]
def zbvx := y5 @kk <| y5 @ke <| y5 @kn <| y5 @zboq <| y5 @zbjp <| y5 @zbkp <| @zbos
theorem zbvy : ∀ (q N : Nat), 8 * q ≤ N → ∀ (a0 r : zj6), zki q a0 = some r → (orc T N).deep F.zki [zj6.enc a0] = some [zj6.enc r] := by
 intro q N hM a0 r h
 rcases q with _ | q
 ·cases h
 obtain ⟨M, rfl⟩ : ∃ M, N = M + 8 := ⟨N - 8, by omega⟩
 refine byR fun R hR => ?_
 rw [zh9, zbgh, y7, zh6 z5r rfl]
 rw [zki] at h
 replace h := ob h; obtain ⟨r1, h1, h⟩ := h
 replace h1 := zbvu q (M + 7) (by omega) _ _ h1
 try simp only [kf, simprocAttr] at h1
 replace h := ob h; obtain ⟨r2, h2, h⟩ := h
 replace h2 := zbvw q (M + 7) (by omega) _ _ h2
 try simp only [kf, simprocAttr] at h2
 cases h; subst hR; simp only [zbvx, simprocAttr, *]
def zbvz := y5 @kk <| y5 @ke <| y5 @kn <| y5 @zbmb <| @zbmd
theorem zbv0 : ∀ (q N : Nat), 8 * q ≤ N → ∀ (a0 r : Int), zkj q a0 = some r → (orc T N).deep F.zkj [(V.int .i64) a0] = some [(V.int .i64) r] := by
 intro q N hM a0 r h
 rcases q with _ | q
 ·cases h
 obtain ⟨M, rfl⟩ : ∃ M, N = M + 8 := ⟨N - 8, by omega⟩
 refine byR fun R hR => ?_
 rw [zh9, zbfo, y7, zh6 z0b rfl]
 rw [zkj] at h
 cases h; subst hR; simp only [zbvz, simprocAttr, *]
def zbv1 := y5 @kk <| y5 @ke <| y5 @kn <| y5 @zblc <| y5 @zbmc <| @zble
theorem zbv2 : ∀ (q N : Nat), 8 * q ≤ N → ∀ (a0 : zj7), ∀ (r : Bool), zkk q a0 = some r → (orc T N).deep F.zkk [zj7.enc a0] = some [V.bool r] := by
 intro q N hM a0 r h
 rcases q with _ | q
 ·cases h
 obtain ⟨M, rfl⟩ : ∃ M, N = M + 8 := ⟨N - 8, by omega⟩
 refine byR fun R hR => ?_
 rw [zh9, zbfc, y7, zh6 zx7 rfl]
 rw [zkk] at h
 repeat' (first | (cases h; done) | (replace h := br h; rcases h with ⟨_, h⟩ | ⟨_, h⟩) | (replace h := ob h; obtain ⟨_, g, h⟩ := h; first | (replace g := zbv0 q (M + 7) (by omega) _ _ g; try simp only [kf, simprocAttr] at g) | skip))
 all_goals (cases h; subst hR; simp only [zbv1, simprocAttr, *])
def zbv3 := y5 @kk <| y5 @ke <| y5 @kn <| y5 @zbiu <| y5 @zbld <| @zbiw
theorem zbv4 : ∀ (q N : Nat), 8 * q ≤ N → ∀ (a0 : zj8), ∀ (r : Bool), zkl q a0 = some r → (orc T N).deep F.zkl [zj8.enc a0] = some [V.bool r] := by
 intro q N hM a0 r h
 rcases q with _ | q
 ·cases h
 obtain ⟨M, rfl⟩ : ∃ M, N = M + 8 := ⟨N - 8, by omega⟩
 refine byR fun R hR => ?_
 rw [zh9, zbei, y7, zh6 ztr rfl]
 rw [zkl] at h
 repeat' (first | (cases h; done) | (replace h := bb h; rcases h with ⟨_, _, h⟩ | ⟨_, _, h⟩) | (replace h := br h; rcases h with ⟨_, h⟩ | ⟨_, h⟩) | (replace h := ob h; obtain ⟨_, g, h⟩ := h; first | (replace g := zbv2 q (M + 7) (by omega) _ _ g; try simp only [kf, simprocAttr] at g) | skip))
 all_goals (cases h; subst hR; simp only [zbv3, simprocAttr, *])
def zbv5 := y5 @kk <| y5 @ke <| y5 @kn <| y5 @zbl8 <| y5 @zbmc <| @zbma
theorem zbv6 : ∀ (q N : Nat), 8 * q ≤ N → ∀ (a0 : Int), ∀ (r : Bool), zkm q a0 = some r → (orc T N).deep F.zkm [(V.int .i64) a0] = some [V.bool r] := by
 intro q N hM a0 r h
 rcases q with _ | q
 ·cases h
 obtain ⟨M, rfl⟩ : ∃ M, N = M + 8 := ⟨N - 8, by omega⟩
 refine byR fun R hR => ?_
 rw [zh9, zbfn, y7, zh6 zz9 rfl]
 rw [zkm] at h
 replace h := ob h; obtain ⟨r1, h1, h⟩ := h
 replace h1 := zbv0 q (M + 7) (by omega) _ _ h1
 cases h; subst hR; simp only [zbv5, simprocAttr, *]
def zbv7 (q : Nat) : Prop := ∀ M, 8 * q ≤ M → ∀ j, q ≤ j → ∀ (v0z : Bool) (v0l : List Int) (v1 v5 v6 : Int) (r : Bool), zkn q v0z v0l v1 v5 v6 = some r → LS T (M + 7) 0 [0, 1, 5, 6] [.blk 0, .code (.seq (.reg z0d) .ret)] z0c j (fin z0g) (some [V.bool r]) [(0, (.sl v0z (List.map (V.int .i64) v0l))), (1, (.int .i64 v1)), (5, (.int .i64 v5)), (6, (.int .i64 v6))] []
def zbv8 := y5 @kk <| y5 @ke <| y5 @kn <| y5 @zbme <| @zbmg
theorem zbv9 (q : Nat) (zbzt : zbv7 q) : zbv7 (q + 1) := by
 intro M hM j hj v0z v0l v1 v5 v6 r h R hR fr H hc
 obtain ⟨j, rfl⟩ : ∃ i, j = i + 1 := ⟨j - 1, by omega⟩
 rw [zhy, hc]; clear hc
 rw [zkn] at h
 repeat' (first | (cases h; done) | (replace h := bn h; obtain ⟨_, h⟩ := h) | (replace h := br h; rcases h with ⟨_, h⟩ | ⟨_, h⟩) | (replace h := ob h; obtain ⟨_, g, h⟩ := h))
 all_goals (first | (cases h; subst hR; simp only [zbv8, simprocAttr, *]) | (replace h := zbzt M (by omega) j (by omega) _ _ _ _ _ _ h R hR; simp only [zbv8, simprocAttr, *]))
theorem zbwa : ∀ q, zbv7 q
 | 0 => by intro M hM j hj; intros; rename_i h; cases h
 | q + 1 => by have i0 := zbwa q; exact zbv9 q i0
theorem zbwb : ∀ (q N : Nat), 8 * q ≤ N → ∀ (a0 : (Sl Int)) (a1 : Int), ∀ (r : Bool), zko q a0 a1 = some r → (orc T N).deep F.zko [(Sl.enc (V.int .i64)) a0, (V.int .i64) a1] = some [V.bool r] := by
 intro q N hM a0 a1 r h
 rcases q with _ | q
 ·cases h
 obtain ⟨M, rfl⟩ : ∃ M, N = M + 8 := ⟨N - 8, by omega⟩
 have zbzt := (zbwa q)
 refine byR fun R hR => ?_
 rw [zh9, zbfp, y7, zh6 z0g rfl]
 rw [zko] at h
 replace h := zbzt M (by omega) (M + 7) (by omega) _ _ _ _ _ _ h R hR
 simp only [zbv8, simprocAttr, *]
def zbwc (q : Nat) : Prop := ∀ M, 8 * q ≤ M → ∀ j, q ≤ j → ∀ (v0z : Bool) (v0l : List Int) (v7 v8 h0_0 : Int) (h0_1z : Bool) (h0_1l : List Int) (h0_2 : Bool) (h0_3 r : Int), zkp q v0z v0l v7 v8 h0_0 h0_1z h0_1l h0_2 h0_3 = some r → LS T (M + 5) 1 [0, 1, 7, 8] [.blk 0, .code (.seq (.reg z7r) .ret)] z7q j (finI 1 false [.tmp 4]) ((some ([(.int .i64 r)], [(.box [(.int .i64 h0_0), (.sl h0_1z (List.map (V.int .i64) h0_1l)), (.bool h0_2), (.int .i64 h0_3)])]) : Option (List V × Hp))) [(0, (.sl v0z (List.map (V.int .i64) v0l))), (1, (.fn F.zkm [])), (7, (.int .i64 v7)), (8, (.int .i64 v8))] [(.box [(.int .i64 h0_0), (.sl h0_1z (List.map (V.int .i64) h0_1l)), (.bool h0_2), (.int .i64 h0_3)])]
def zbwd := y5 @kk <| y5 @ke <| y5 @kn <| y5 @zbo8 <| @zbl9
theorem zbwe (q : Nat) (zbzu : zbwc q) : zbwc (q + 1) := by
 intro M hM j hj v0z v0l v7 v8 h0_0 h0_1z h0_1l h0_2 h0_3 r h R hR fr H hc
 obtain ⟨j, rfl⟩ : ∃ i, j = i + 1 := ⟨j - 1, by omega⟩
 rw [zhy, hc]; clear hc
 rw [zkp] at h
 replace h := br h; rcases h with ⟨h1, h⟩ | ⟨h1, h⟩
 ·replace h := bn h; obtain ⟨h2, h⟩ := h
  replace h := ob h; obtain ⟨e1, h3, h⟩ := h
  replace h := ob h; obtain ⟨r2, h4, h⟩ := h
  replace h4 := zbv6 q (M + 5) (by omega) _ _ h4
  replace h := bb h; rcases h with ⟨h5', h5, h⟩ | ⟨h5', h5, h⟩
  ·cases h; subst hR; simp only [zbwd, simprocAttr, *]
  ·replace h := zbzu M (by omega) j (by omega) _ _ _ _ _ _ _ _ _ _ h R hR
   simp only [zbwd, simprocAttr, *]
 ·cases h; subst hR; simp only [zbwd, simprocAttr, *]
theorem zbwf : ∀ q, zbwc q
 | 0 => by intro M hM j hj; intros; rename_i h; cases h
 | q + 1 => by have i0 := zbwf q; exact zbwe q i0
theorem zbwg : ∀ (q M : Nat), 8 * q ≤ M → ∀ (v0z : Bool), ∀ (v0l : List Int), ∀ (h0_0 : Int), ∀ (h0_1z : Bool), ∀ (h0_1l : List Int), ∀ (h0_2 : Bool), ∀ (h0_3 r : Int), zkq q v0z v0l h0_0 h0_1z h0_1l h0_2 h0_3 = some r → (orc T (M + 6)).inl F.zqh [(.sl v0z (List.map (V.int .i64) v0l)), (.fn F.zkm [])] [(.box [(.int .i64 h0_0), (.sl h0_1z (List.map (V.int .i64) h0_1l)), (.bool h0_2), (.int .i64 h0_3)])] = (some ([(.int .i64 r)], [(.box [(.int .i64 h0_0), (.sl h0_1z (List.map (V.int .i64) h0_1l)), (.bool h0_2), (.int .i64 h0_3)])]) : Option (List V × Hp)) := by
 intro q M hM v0z v0l h0_0 h0_1z h0_1l h0_2 h0_3 r h
 rcases q with _ | q
 ·cases h
 have zbzu := (zbwf q)
 refine byR fun R hR => ?_
 rw [zbpa (n := M + 5)]
 rw [zkq] at h
 replace h := zbzu M (by omega) (M + 5) (by omega) _ _ _ _ _ _ _ _ _ _ h R hR
 simp only [zbwd, simprocAttr, *]
def zbwh := y5 @kk <| y5 @ke <| y5 @kn <| y5 @zbi3 <| y5 @zbl5 <| y5 @zbmf <| y5 @zbo9 <| y5 @zbl6 <| y5 @zbl7 <| @zbi5
theorem zbwi : ∀ (q N : Nat), 8 * q ≤ N → ∀ (a0 : zj4), ∀ (r : Bool), zkr q a0 = some r → (orc T N).deep F.zkr [zj4.enc a0] = some [V.bool r] := by
 intro q N hM a0 r h
 rcases q with _ | q
 ·cases h
 obtain ⟨M, rfl⟩ : ∃ M, N = M + 8 := ⟨N - 8, by omega⟩
 refine byR fun R hR => ?_
 rw [zh9, zbel, y7, zh6 zuo rfl]
 rw [zkr] at h
 repeat' (first | (cases h; done) | (replace h := bb h; rcases h with ⟨_, _, h⟩ | ⟨_, _, h⟩) | (replace h := br h; rcases h with ⟨_, h⟩ | ⟨_, h⟩) | (replace h := ob h; obtain ⟨_, g, h⟩ := h; first | ((first | replace g := zbwg q M (by omega) _ _ _ _ _ _ _ _ g | replace g := zbwb q (M + 7) (by omega) _ _ _ g); try simp only [kf, simprocAttr] at g) | skip))
 all_goals (cases h; subst hR; simp only [zbwh, simprocAttr, *])
def zbwj := y5 @kk <| y5 @ke <| y5 @kn <| y5 @zblf <| y5 @zbmc <| @zblh
theorem zbwk : ∀ (q N : Nat), 8 * q ≤ N → ∀ (a0 : zj4) (a1 : zj7), ∀ (r : zj4 × Int), zks q a0 a1 = some r → (orc T N).deep F.zks [zj4.enc a0, zj7.enc a1] = some [zj4.enc r.1, (V.int .i64) r.2] := by
 intro q N hM a0 a1 r h
 rcases q with _ | q
 ·cases h
 obtain ⟨M, rfl⟩ : ∃ M, N = M + 8 := ⟨N - 8, by omega⟩
 refine byR fun R hR => ?_
 rw [zh9, zbfd, y7, zh6 zyd rfl]
 rw [zks] at h
 repeat' (first | (cases h; done) | (replace h := br h; rcases h with ⟨_, h⟩ | ⟨_, h⟩) | (replace h := ob h; obtain ⟨_, g, h⟩ := h; first | (replace g := zbv0 q (M + 7) (by omega) _ _ g; try simp only [kf, simprocAttr] at g) | skip))
 all_goals (cases h; subst hR; simp only [zbwj, simprocAttr, *])
def zbwl := y5 @kk <| y5 @ke <| y5 @kn <| y5 @zbot <| @zbov
theorem zbwm : ∀ (q N : Nat), 8 * q ≤ N → ∀ (a0 : (Ow Int)) (a1 a2 : Int), ∀ (r : (Ow Int)), zkt q a0 a1 a2 = some r → (orc T N).deep F.zkt [(Ow.enc 1 (V.int .i64)) a0, (V.int .i64) a1, (V.int .i64) a2] = some [(Ow.enc 1 (V.int .i64)) r] := by
 intro q N hM a0 a1 a2 r h
 rcases q with _ | q
 ·cases h
 obtain ⟨M, rfl⟩ : ∃ M, N = M + 8 := ⟨N - 8, by omega⟩
 refine byR fun R hR => ?_
 rw [zh9, zbgi, y7, zh6 z53 rfl]
 rw [zkt] at h
 repeat' (first | (cases h; done) | (replace h := bb h; rcases h with ⟨_, _, h⟩ | ⟨_, _, h⟩) | (replace h := bn h; obtain ⟨_, h⟩ := h) | (replace h := bm h; obtain ⟨_, h⟩ := h) | (replace h := br h; rcases h with ⟨_, h⟩ | ⟨_, h⟩))
 all_goals (cases h; subst hR; simp only [zbwl, simprocAttr, *])
def zbwn := y5 @kk <| y5 @ke <| y5 @kn <| y5 @zbli <| y5 @zbjp <| y5 @zbmc <| y5 @zbou <| @zblk
theorem zbwo : ∀ (q N : Nat), 8 * q ≤ N → ∀ (a0 : zj4) (a1 : zj7), ∀ (r : zj4 × Int), zku q a0 a1 = some r → (orc T N).deep F.zku [zj4.enc a0, zj7.enc a1] = some [zj4.enc r.1, (V.int .i64) r.2] := by
 intro q N hM a0 a1 r h
 rcases q with _ | q
 ·cases h
 obtain ⟨M, rfl⟩ : ∃ M, N = M + 8 := ⟨N - 8, by omega⟩
 refine byR fun R hR => ?_
 rw [zh9, zbfe, y7, zh6 zys rfl]
 rw [zku] at h
 repeat' (first | (cases h; done) | (replace h := bn h; obtain ⟨_, h⟩ := h) | (replace h := br h; rcases h with ⟨_, h⟩ | ⟨_, h⟩) | (replace h := ob h; obtain ⟨_, g, h⟩ := h; first | ((first | replace g := zbvu q (M + 7) (by omega) _ _ g | replace g := zbv0 q (M + 7) (by omega) _ _ g | replace g := zbwm q (M + 7) (by omega) _ _ _ _ g); try simp only [kf, simprocAttr] at g) | skip))
 all_goals (cases h; subst hR; simp only [zbwn, simprocAttr, *])
def zbwp (q : Nat) : Prop := ∀ M, 8 * q ≤ M → ∀ j, q ≤ j → ∀ (v0z : Bool) (v0l : List Int) (v1 v6 : Int) (r : Int × Bool), zkv q v0z v0l v1 v6 = some r → LS T (M + 7) 0 [0, 1, 6] [.blk 0, .code (.seq (.dreg z6h []) .ret)] z6g j (fin z6k) (some [(V.int .i64) r.1, V.bool r.2]) [(0, (.sl v0z (List.map (V.int .i64) v0l))), (1, (.int .i64 v1)), (6, (.int .i64 v6))] []
def zbwq := y5 @kk <| y5 @ke <| y5 @kn <| y5 @zboz <| @zbo1
theorem zbwr (q : Nat) (zbzv : zbwp q) : zbwp (q + 1) := by
 intro M hM j hj v0z v0l v1 v6 r h R hR fr H hc
 obtain ⟨j, rfl⟩ : ∃ i, j = i + 1 := ⟨j - 1, by omega⟩
 rw [zhy, hc]; clear hc
 rw [zkv] at h
 replace h := br h; rcases h with ⟨h1, h⟩ | ⟨h1, h⟩
 ·replace h := bn h; obtain ⟨h2, h⟩ := h
  replace h := ob h; obtain ⟨e1, h3, h⟩ := h
  replace h := br h; rcases h with ⟨h4, h⟩ | ⟨h4, h⟩
  ·replace h := zbzv M (by omega) j (by omega) _ _ _ _ _ h R hR
   simp only [zbwq, simprocAttr, *]
  ·cases h; subst hR; simp only [zbwq, simprocAttr, *]
 ·cases h; subst hR; simp only [zbwq, simprocAttr, *]
theorem zbws : ∀ q, zbwp q
 | 0 => by intro M hM j hj; intros; rename_i h; cases h
 | q + 1 => by have i0 := zbws q; exact zbwr q i0
theorem zbwt : ∀ (q N : Nat), 8 * q ≤ N → ∀ (a0 : (Sl Int)) (a1 : Int), ∀ (r : Int × Bool), zkw q a0 a1 = some r → (orc T N).deep F.zkw [(Sl.enc (V.int .i64)) a0, (V.int .i64) a1] = some [(V.int .i64) r.1, V.bool r.2] := by
 intro q N hM a0 a1 r h
 rcases q with _ | q
 ·cases h
 obtain ⟨M, rfl⟩ : ∃ M, N = M + 8 := ⟨N - 8, by omega⟩
 have zbzv := (zbws q)
 refine byR fun R hR => ?_
 rw [zh9, zbgk, y7, zh6 z6k rfl]
 rw [zkw] at h
 replace h := zbzv M (by omega) (M + 7) (by omega) _ _ _ _ _ h R hR
 simp only [zbwq, simprocAttr, *]
def zbwu := y5 @kk <| y5 @ke <| y5 @kn <| y5 @zbow <| y5 @zbo0 <| @zboy
theorem zbwv : ∀ (q N : Nat), 8 * q ≤ N → ∀ (a0 : (Sl Int)) (a1 : Int), ∀ (r : Int), zkx q a0 a1 = some r → (orc T N).deep F.zkx [(Sl.enc (V.int .i64)) a0, (V.int .i64) a1] = some [(V.int .i64) r] := by
 intro q N hM a0 a1 r h
 rcases q with _ | q
 ·cases h
 obtain ⟨M, rfl⟩ : ∃ M, N = M + 8 := ⟨N - 8, by omega⟩
 refine byR fun R hR => ?_
 rw [zh9, zbgj, y7, zh6 z6b rfl]
 rw [zkx] at h
 replace h := ob h; obtain ⟨r1, h1, h⟩ := h
 replace h1 := zbwt q (M + 7) (by omega) _ _ _ h1
 try simp only [kf, simprocAttr] at h1
 replace h := bb h; rcases h with ⟨h2', h2, h⟩ | ⟨h2', h2, h⟩
 ·replace h := bn h; obtain ⟨h3, h⟩ := h
  replace h := ob h; obtain ⟨e2, h4, h⟩ := h
  cases h; subst hR; simp only [zbwu, simprocAttr, *]
 ·cases h; subst hR; simp only [zbwu, simprocAttr, *]
theorem zbww : ∀ (q N : Nat), 8 * q ≤ N → ∀ (a0 : (Ow Int)) (a1 : Int) (a2 : (Ow Int)), ∀ (r : (Ow Int)), zky q a0 a1 a2 = some r → (orc T N).deep F.zky [(Ow.enc 1 (V.int .i64)) a0, (V.int .i64) a1, (Ow.enc 1 (V.int .i64)) a2] = some [(Ow.enc 1 (V.int .i64)) r] := by
 intro q N hM a0 a1 a2 r h
 rcases q with _ | q
 ·cases h
 obtain ⟨M, rfl⟩ : ∃ M, N = M + 8 := ⟨N - 8, by omega⟩
 rw [zh9, zbhc, y7, zh5 zbb2 rfl]
 rw [zky] at h
 by_cases c : insOk a0 a1 a2
 ·rw [if_pos c] at h; cases h; exact zjf (V.int .i64) 1 c
 ·rw [if_neg c] at h; cases h
def zbwx := y5 @kk <| y5 @ke <| y5 @kn <| y5 @zbo2 <| y5 @zbjp <| y5 @zbo0 <| y5 @zbrb <| @zbo4
theorem zbwy : ∀ (q N : Nat), 8 * q ≤ N → ∀ (a0 : (Sl Int)) (a1 a2 : Int), ∀ (r : (Sl Int) × Bool), zkz q a0 a1 a2 = some r → (orc T N).deep F.zkz [(Sl.enc (V.int .i64)) a0, (V.int .i64) a1, (V.int .i64) a2] = some [(Sl.enc (V.int .i64)) r.1, V.bool r.2] := by
 intro q N hM a0 a1 a2 r h
 rcases q with _ | q
 ·cases h
 obtain ⟨M, rfl⟩ : ∃ M, N = M + 8 := ⟨N - 8, by omega⟩
 refine byR fun R hR => ?_
 rw [zh9, zbgl, y7, zh6 z6x rfl]
 rw [zkz] at h
 repeat' (first | (cases h; done) | (replace h := bb h; rcases h with ⟨_, _, h⟩ | ⟨_, _, h⟩) | (replace h := bn h; obtain ⟨_, h⟩ := h) | (replace h := br h; rcases h with ⟨_, h⟩ | ⟨_, h⟩) | (replace h := ob h; obtain ⟨_, g, h⟩ := h; first | ((first | replace g := zbwt q (M + 7) (by omega) _ _ _ g | replace g := zbvu q (M + 7) (by omega) _ _ g | replace g := zbww q (M + 7) (by omega) _ _ _ _ g); try simp only [kf, simprocAttr] at g) | skip))
 all_goals (cases h; subst hR; simp only [zbwx, simprocAttr, *])
def zbwz := y5 @kk <| y5 @ke <| y5 @kn <| y5 @zbll <| y5 @zbjp <| y5 @zbmc <| y5 @zbou <| y5 @zbox <| y5 @zbo0 <| y5 @zbo3 <| @zbln
theorem zbw0 : ∀ (q N : Nat), 8 * q ≤ N → ∀ (a0 : zj4) (a1 : zj7), ∀ (r : zj4 × Int), zk0 q a0 a1 = some r → (orc T N).deep F.zk0 [zj4.enc a0, zj7.enc a1] = some [zj4.enc r.1, (V.int .i64) r.2] := by
 intro q N hM a0 a1 r h
 rcases q with _ | q
 ·cases h
 obtain ⟨M, rfl⟩ : ∃ M, N = M + 8 := ⟨N - 8, by omega⟩
 refine byR fun R hR => ?_
 rw [zh9, zbff, y7, zh6 zy8 rfl]
 rw [zk0] at h
 repeat' (first | (cases h; done) | (replace h := bb h; rcases h with ⟨_, _, h⟩ | ⟨_, _, h⟩) | (replace h := br h; rcases h with ⟨_, h⟩ | ⟨_, h⟩) | (replace h := ob h; obtain ⟨_, g, h⟩ := h; first | ((first | replace g := zbwv q (M + 7) (by omega) _ _ _ g | replace g := zbwt q (M + 7) (by omega) _ _ _ g | replace g := zbvu q (M + 7) (by omega) _ _ g | replace g := zbwm q (M + 7) (by omega) _ _ _ _ g | replace g := zbv0 q (M + 7) (by omega) _ _ g | replace g := zbwy q (M + 7) (by omega) _ _ _ _ g); try simp only [kf, simprocAttr] at g) | skip))
 all_goals (cases h; subst hR; simp only [zbwz, simprocAttr, *])
def zbw1 := y5 @kk <| y5 @ke <| y5 @kn <| y5 @zbo5 <| y5 @zbox <| y5 @zbo3 <| @zbo7
theorem zbw2 : ∀ (q N : Nat), 8 * q ≤ N → ∀ (a0 : zj4) (a1 : zj7), ∀ (r : zj4 × Int), zk1 q a0 a1 = some r → (orc T N).deep F.zk1 [zj4.enc a0, zj7.enc a1] = some [zj4.enc r.1, (V.int .i64) r.2] := by
 intro q N hM a0 a1 r h
 rcases q with _ | q
 ·cases h
 obtain ⟨M, rfl⟩ : ∃ M, N = M + 8 := ⟨N - 8, by omega⟩
 refine byR fun R hR => ?_
 rw [zh9, zbgm, y7, zh6 z7h rfl]
 rw [zk1] at h
 repeat' (first | (cases h; done) | (replace h := bb h; rcases h with ⟨_, _, h⟩ | ⟨_, _, h⟩) | (replace h := br h; rcases h with ⟨_, h⟩ | ⟨_, h⟩) | (replace h := ob h; obtain ⟨_, g, h⟩ := h; first | ((first | replace g := zbwv q (M + 7) (by omega) _ _ _ g | replace g := zbwy q (M + 7) (by omega) _ _ _ _ g); try simp only [kf, simprocAttr] at g) | skip))
 all_goals (cases h; subst hR; simp only [zbw1, simprocAttr, *])
def zbw3 := y5 @kk <| y5 @ke <| y5 @kn <| y5 @zblo <| y5 @zbmc <| y5 @zbox <| y5 @zbo3 <| y5 @zbo6 <| @zblq
theorem zbw4 : ∀ (q N : Nat), 8 * q ≤ N → ∀ (a0 : zj4) (a1 : zj7), ∀ (r : zj4 × Int), zk2 q a0 a1 = some r → (orc T N).deep F.zk2 [zj4.enc a0, zj7.enc a1] = some [zj4.enc r.1, (V.int .i64) r.2] := by
 intro q N hM a0 a1 r h
 rcases q with _ | q
 ·cases h
 obtain ⟨M, rfl⟩ : ∃ M, N = M + 8 := ⟨N - 8, by omega⟩
 refine byR fun R hR => ?_
 rw [zh9, zbfg, y7, zh6 zzm rfl]
 rw [zk2] at h
 repeat' (first | (cases h; done) | (replace h := bb h; rcases h with ⟨_, _, h⟩ | ⟨_, _, h⟩) | (replace h := br h; rcases h with ⟨_, h⟩ | ⟨_, h⟩) | (replace h := ob h; obtain ⟨_, g, h⟩ := h; first | ((first | replace g := zbw2 q (M + 7) (by omega) _ _ _ g | replace g := zbwv q (M + 7) (by omega) _ _ _ g | replace g := zbv0 q (M + 7) (by omega) _ _ g | replace g := zbwy q (M + 7) (by omega) _ _ _ _ g); try simp only [kf, simprocAttr] at g) | skip))
 all_goals (cases h; subst hR; simp only [zbw3, simprocAttr, *])
def zbw5 := y5 @kk <| y5 @ke <| y5 @kn <| y5 @zbix <| y5 @zbi4 <| y5 @zblg <| y5 @zblj <| y5 @zblm <| y5 @zblp <| @zbiz
theorem zbw6 : ∀ (q N : Nat), 8 * q ≤ N → ∀ (a0 : zj4) (a1 : zj7), ∀ (r : zj4 × Int), zk3 q a0 a1 = some r → (orc T N).deep F.zk3 [zj4.enc a0, zj7.enc a1] = some [zj4.enc r.1, (V.int .i64) r.2] := by
 intro q N hM a0 a1 r h
 rcases q with _ | q
 ·cases h
 obtain ⟨M, rfl⟩ : ∃ M, N = M + 8 := ⟨N - 8, by omega⟩
 refine byR fun R hR => ?_
 rw [zh9, zbej, y7, zh6 zt9 rfl]
 rw [zk3] at h
 repeat' (first | (cases h; done) | (replace h := bb h; rcases h with ⟨_, _, h⟩ | ⟨_, _, h⟩) | (replace h := br h; rcases h with ⟨_, h⟩ | ⟨_, h⟩) | (replace h := ob h; obtain ⟨_, g, h⟩ := h; first | ((first | replace g := zbwi q (M + 7) (by omega) _ _ g | replace g := zbwk q (M + 7) (by omega) _ _ _ g | replace g := zbwo q (M + 7) (by omega) _ _ _ g | replace g := zbw0 q (M + 7) (by omega) _ _ _ g | replace g := zbw4 q (M + 7) (by omega) _ _ _ g); try simp only [kf, simprocAttr] at g) | skip))
 all_goals (cases h; subst hR; simp only [zbw5, simprocAttr, *])
theorem zbw7 : ∀ (q N : Nat), 8 * q ≤ N → ∀ (a0 : (Ow zj5)) (a1 : Int) (a2 : (Ow zj5)), ∀ (r : (Ow zj5)), zk4 q a0 a1 a2 = some r → (orc T N).deep F.zk4 [(Ow.enc 3 zj5.enc) a0, (V.int .i64) a1, (Ow.enc 3 zj5.enc) a2] = some [(Ow.enc 3 zj5.enc) r] := by
 intro q N hM a0 a1 a2 r h
 rcases q with _ | q
 ·cases h
 obtain ⟨M, rfl⟩ : ∃ M, N = M + 8 := ⟨N - 8, by omega⟩
 rw [zh9, zbfl, y7, zh5 zz5 rfl]
 rw [zk4] at h
 by_cases c : insOk a0 a1 a2
 ·rw [if_pos c] at h; cases h; exact zjf zj5.enc 3 c
 ·rw [if_neg c] at h; cases h
def zbw8 (q : Nat) : Prop := ∀ M, 8 * q ≤ M → ∀ j, q ≤ j → ∀ (w1 : Nat) (v7 v8 h0_0 h0_1 h0_2 h0_3 h0_4 h0_5 h0_6 : Int) (h1z : Bool) (h1l : List zj5) (h1x : Bool) (r : Int), zk5 q v7 v8 h0_0 h0_1 h0_2 h0_3 h0_4 h0_5 h0_6 h1z h1l h1x = some r → LS T (M + 5) 2 [0, 1, 7, 8] [.blk 0, .code (.seq (.reg zzz) .ret)] c_81_9 j (finI 2 false [.tmp 4]) ((some ([(.int .i64 r)], [(.box [(.int .i64 h0_0), (.int .i64 h0_1), (.int .i64 h0_2), (.int .i64 h0_3), (.int .i64 h0_4), (.int .i64 h0_5), (.int .i64 h0_6)]), (.row w1 h1z 3 (List.map zj5.enc h1l) h1x)]) : Option (List V × Hp))) [(0, (.vw 1 w1 0 h1l.length 1)), (1, (.fn F.zp2 [(.ptr 0 0)])), (7, (.int .i64 v7)), (8, (.int .i64 v8))] [(.box [(.int .i64 h0_0), (.int .i64 h0_1), (.int .i64 h0_2), (.int .i64 h0_3), (.int .i64 h0_4), (.int .i64 h0_5), (.int .i64 h0_6)]), (.row w1 h1z 3 (List.map zj5.enc h1l) h1x)]
def zbw9 := y5 @kk <| y5 @ke <| y5 @kn <| y5 @zblu <| y5 @zblx <| y5 @zblv <| @zblw
theorem zbxa (q : Nat) (zbzw : zbw8 q) : zbw8 (q + 1) := by
 intro M hM j hj w1 v7 v8 h0_0 h0_1 h0_2 h0_3 h0_4 h0_5 h0_6 h1z h1l h1x r h R hR fr H hc
 obtain ⟨j, rfl⟩ : ∃ i, j = i + 1 := ⟨j - 1, by omega⟩
 rw [zhy, hc]; clear hc
 rw [zk5] at h
 replace h := br h; rcases h with ⟨h1, h⟩ | ⟨h1, h⟩
 ·replace h := bn h; obtain ⟨h2, h⟩ := h
  replace h := bn h; obtain ⟨h3, h⟩ := h
  replace h := ob h; obtain ⟨e1, h4, h⟩ := h
  replace h := br h; rcases h with ⟨h5, h⟩ | ⟨h5, h⟩
  ·cases h; subst hR; simp only [zbw9, simprocAttr, *]
  ·replace h := zbzw M (by omega) j (by omega) w1 _ _ _ _ _ _ _ _ _ _ _ _ _ h R hR
   simp only [zbw9, simprocAttr, *]
 ·cases h; subst hR; simp only [zbw9, simprocAttr, *]
theorem zbxb : ∀ q, zbw8 q
 | 0 => by intro M hM j hj; intros; rename_i h; cases h
 | q + 1 => by have i0 := zbxb q; exact zbxa q i0
theorem zbxc : ∀ (q M : Nat), 8 * q ≤ M → ∀ (w1 : Nat), ∀ (h0_0 h0_1 h0_2 h0_3 h0_4 h0_5 h0_6 : Int), ∀ (h1z : Bool), ∀ (h1l : List zj5), ∀ (h1x : Bool), ∀ (r : Int), zk6 q h0_0 h0_1 h0_2 h0_3 h0_4 h0_5 h0_6 h1z h1l h1x = some r → (orc T (M + 6)).inl F.zp3 [(.vw 1 w1 0 h1l.length 1), (.fn F.zp2 [(.ptr 0 0)])] [(.box [(.int .i64 h0_0), (.int .i64 h0_1), (.int .i64 h0_2), (.int .i64 h0_3), (.int .i64 h0_4), (.int .i64 h0_5), (.int .i64 h0_6)]), (.row w1 h1z 3 (List.map zj5.enc h1l) h1x)] = (some ([(.int .i64 r)], [(.box [(.int .i64 h0_0), (.int .i64 h0_1), (.int .i64 h0_2), (.int .i64 h0_3), (.int .i64 h0_4), (.int .i64 h0_5), (.int .i64 h0_6)]), (.row w1 h1z 3 (List.map zj5.enc h1l) h1x)]) : Option (List V × Hp)) := by
 intro q M hM w1 h0_0 h0_1 h0_2 h0_3 h0_4 h0_5 h0_6 h1z h1l h1x r h
 rcases q with _ | q
 ·cases h
 have zbzw := (zbxb q)
 refine byR fun R hR => ?_
 rw [zblz (n := M + 5)]
 rw [zk6] at h
 replace h := zbzw M (by omega) (M + 5) (by omega) w1 _ _ _ _ _ _ _ _ _ _ _ _ _ h R hR
 simp only [zbw9, simprocAttr, *]
def zbxd (q : Nat) : Prop := ∀ M, 8 * q ≤ M → ∀ j, q ≤ j → ∀ (w1 : Nat) (v5 v6 h0_0 h0_1 h0_2 h0_3 h0_4 h0_5 h0_6 : Int) (h1z : Bool) (h1l : List zj5) (h1x : Bool) (r : Nat × (List zj5) × Bool), zk7 q v5 v6 h0_0 h0_1 h0_2 h0_3 h0_4 h0_5 h0_6 h1z h1l h1x = some r → LS T (M + 6) 2 [0, 1, 5, 6] [.blk 0, .code (.seq (.reg zzr) (.seq (.reg zzs) .ret))] zzq j (finI 2 true [.tmp 4]) ((some ([(.vw 1 w1 0 r.1 0)], [(.box [(.int .i64 h0_0), (.int .i64 h0_1), (.int .i64 h0_2), (.int .i64 h0_3), (.int .i64 h0_4), (.int .i64 h0_5), (.int .i64 h0_6)]), (.row w1 h1z 3 (List.map zj5.enc r.2.1) r.2.2)]) : Option (List V × Hp))) [(0, (.vw 1 w1 0 h1l.length 1)), (1, (.fn F.zp2 [(.ptr 0 0)])), (5, (.int .i64 v5)), (6, (.int .i64 v6))] [(.box [(.int .i64 h0_0), (.int .i64 h0_1), (.int .i64 h0_2), (.int .i64 h0_3), (.int .i64 h0_4), (.int .i64 h0_5), (.int .i64 h0_6)]), (.row w1 h1z 3 (List.map zj5.enc h1l) h1x)]
def zbxe := y5 @kk <| y5 @ke <| y5 @kn <| y5 @zblr <| y5 @zblu <| y5 @zbly <| y5 @zblv <| @zblw
theorem zbxf (q : Nat) (zbzx : zbxd q) : zbxd (q + 1) := by
 intro M hM j hj w1 v5 v6 h0_0 h0_1 h0_2 h0_3 h0_4 h0_5 h0_6 h1z h1l h1x r h R hR fr H hc
 obtain ⟨j, rfl⟩ : ∃ i, j = i + 1 := ⟨j - 1, by omega⟩
 rw [zhy, hc]; clear hc
 rw [zk7] at h
 repeat' (first | (cases h; done) | (replace h := bb h; rcases h with ⟨_, _, h⟩ | ⟨_, _, h⟩) | (replace h := bn h; obtain ⟨_, h⟩ := h) | (replace h := br h; rcases h with ⟨_, h⟩ | ⟨_, h⟩) | (replace h := ob h; obtain ⟨_, g, h⟩ := h))
 all_goals (first | (cases h; subst hR; simp only [zbxe, simprocAttr, *]) | (replace h := zbzx M (by omega) j (by omega) w1 _ _ _ _ _ _ _ _ _ _ _ _ _ h R hR; simp only [zbxe, simprocAttr, *]))
theorem zbxg : ∀ q, zbxd q
 | 0 => by intro M hM j hj; intros; rename_i h; cases h
 | q + 1 => by have i0 := zbxg q; exact zbxf q i0
theorem zbxh : ∀ (q M : Nat), 8 * q ≤ M → ∀ (w1 : Nat), ∀ (h0_0 h0_1 h0_2 h0_3 h0_4 h0_5 h0_6 : Int), ∀ (h1z : Bool), ∀ (h1l : List zj5), ∀ (h1x : Bool), ∀ (r : Nat × (List zj5) × Bool), zk8 q h0_0 h0_1 h0_2 h0_3 h0_4 h0_5 h0_6 h1z h1l h1x = some r → (orc T (M + 7)).inl F.zp1 [(.vw 1 w1 0 h1l.length 1), (.fn F.zp2 [(.ptr 0 0)])] [(.box [(.int .i64 h0_0), (.int .i64 h0_1), (.int .i64 h0_2), (.int .i64 h0_3), (.int .i64 h0_4), (.int .i64 h0_5), (.int .i64 h0_6)]), (.row w1 h1z 3 (List.map zj5.enc h1l) h1x)] = (some ([(.vw 1 w1 0 r.1 0)], [(.box [(.int .i64 h0_0), (.int .i64 h0_1), (.int .i64 h0_2), (.int .i64 h0_3), (.int .i64 h0_4), (.int .i64 h0_5), (.int .i64 h0_6)]), (.row w1 h1z 3 (List.map zj5.enc r.2.1) r.2.2)]) : Option (List V × Hp)) := by
 intro q M hM w1 h0_0 h0_1 h0_2 h0_3 h0_4 h0_5 h0_6 h1z h1l h1x r h
 rcases q with _ | q
 ·cases h
 have zbzx := (zbxg q)
 refine byR fun R hR => ?_
 rw [zblt (n := M + 6)]
 rw [zk8] at h
 replace h := ob h; obtain ⟨r1, h1, h⟩ := h
 replace h1 := zbxc q M (by omega) w1 _ _ _ _ _ _ _ _ _ _ _ h1
 try simp only [kf, simprocAttr] at h1
 replace h := br h; rcases h with ⟨h2, h⟩ | ⟨h2, h⟩
 ·cases h; subst hR; simp only [zbxe, simprocAttr, *]
 ·replace h := zbzx M (by omega) (M + 6) (by omega) w1 _ _ _ _ _ _ _ _ _ _ _ _ _ h R hR
  simp only [zbxe, simprocAttr, *]
def zbxi (q : Nat) : Prop := ∀ M, 8 * q ≤ M → ∀ j, q ≤ j → ∀ (w1 v0len : Nat) (v7 v8 h0_0 h0_1 h0_2 h0_3 h0_4 h0_5 h0_6 : Int) (h1z : Bool) (h1l : List zj5) (h1x : Bool) (r : Int), zk9 q v0len v7 v8 h0_0 h0_1 h0_2 h0_3 h0_4 h0_5 h0_6 h1z h1l h1x = some r → LS T (M + 6) 2 [0, 1, 7, 8] [.blk 0, .code (.seq (.reg zzz) .ret)] c_81_9 j (finI 2 false [.tmp 4]) ((some ([(.int .i64 r)], [(.box [(.int .i64 h0_0), (.int .i64 h0_1), (.int .i64 h0_2), (.int .i64 h0_3), (.int .i64 h0_4), (.int .i64 h0_5), (.int .i64 h0_6)]), (.row w1 h1z 3 (List.map zj5.enc h1l) h1x)]) : Option (List V × Hp))) [(0, (.vw 1 w1 0 v0len 0)), (1, (.fn F.zp4 [(.ptr 0 0)])), (7, (.int .i64 v7)), (8, (.int .i64 v8))] [(.box [(.int .i64 h0_0), (.int .i64 h0_1), (.int .i64 h0_2), (.int .i64 h0_3), (.int .i64 h0_4), (.int .i64 h0_5), (.int .i64 h0_6)]), (.row w1 h1z 3 (List.map zj5.enc h1l) h1x)]
def zbxj := y5 @kk <| y5 @ke <| y5 @kn <| y5 @zblx <| y5 @zbl0 <| y5 @zbl1 <| @zbl2
theorem zbxk (q : Nat) (zbzy : zbxi q) : zbxi (q + 1) := by
 intro M hM j hj w1 v0len v7 v8 h0_0 h0_1 h0_2 h0_3 h0_4 h0_5 h0_6 h1z h1l h1x r h R hR fr H hc
 obtain ⟨j, rfl⟩ : ∃ i, j = i + 1 := ⟨j - 1, by omega⟩
 rw [zhy, hc]; clear hc
 rw [zk9] at h
 replace h := br h; rcases h with ⟨h1, h⟩ | ⟨h1, h⟩
 ·replace h := bn h; obtain ⟨h2, h⟩ := h
  replace h := bn h; obtain ⟨h3, h⟩ := h
  replace h := ob h; obtain ⟨e1, h4, h⟩ := h
  replace h := br h; rcases h with ⟨h5, h⟩ | ⟨h5, h⟩
  ·cases h; subst hR; simp only [zbxj, simprocAttr, *]
  ·replace h := zbzy M (by omega) j (by omega) w1 _ _ _ _ _ _ _ _ _ _ _ _ _ _ h R hR
   simp only [zbxj, simprocAttr, *]
 ·cases h; subst hR; simp only [zbxj, simprocAttr, *]
theorem zbxl : ∀ q, zbxi q
 | 0 => by intro M hM j hj; intros; rename_i h; cases h
 | q + 1 => by have i0 := zbxl q; exact zbxk q i0
theorem zbxm : ∀ (q M : Nat), 8 * q ≤ M → ∀ (w1 v0len : Nat), ∀ (h0_0 h0_1 h0_2 h0_3 h0_4 h0_5 h0_6 : Int), ∀ (h1z : Bool), ∀ (h1l : List zj5), ∀ (h1x : Bool), ∀ (r : Int), zla q v0len h0_0 h0_1 h0_2 h0_3 h0_4 h0_5 h0_6 h1z h1l h1x = some r → (orc T (M + 7)).inl F.zp3 [(.vw 1 w1 0 v0len 0), (.fn F.zp4 [(.ptr 0 0)])] [(.box [(.int .i64 h0_0), (.int .i64 h0_1), (.int .i64 h0_2), (.int .i64 h0_3), (.int .i64 h0_4), (.int .i64 h0_5), (.int .i64 h0_6)]), (.row w1 h1z 3 (List.map zj5.enc h1l) h1x)] = (some ([(.int .i64 r)], [(.box [(.int .i64 h0_0), (.int .i64 h0_1), (.int .i64 h0_2), (.int .i64 h0_3), (.int .i64 h0_4), (.int .i64 h0_5), (.int .i64 h0_6)]), (.row w1 h1z 3 (List.map zj5.enc h1l) h1x)]) : Option (List V × Hp)) := by
 intro q M hM w1 v0len h0_0 h0_1 h0_2 h0_3 h0_4 h0_5 h0_6 h1z h1l h1x r h
 rcases q with _ | q
 ·cases h
 have zbzy := (zbxl q)
 refine byR fun R hR => ?_
 rw [zblz (n := M + 6)]
 rw [zla] at h
 replace h := zbzy M (by omega) (M + 6) (by omega) w1 _ _ _ _ _ _ _ _ _ _ _ _ _ _ h R hR
 simp only [zbxj, simprocAttr, *]
def zbxn := y5 @kk <| y5 @ke <| y5 @kn <| y5 @zbi0 <| y5 @zbkp <| y5 @zbls <| y5 @zbly <| y5 @zbl3 <| @zbi2
theorem zbxo : ∀ (q N : Nat), 8 * q ≤ N → ∀ (a0 : (Sl zj5)) (a1 : zj8), ∀ (r : (Ow zj5)), zlb q a0 a1 = some r → (orc T N).deep F.zlb [(Sl.enc zj5.enc) a0, zj8.enc a1] = some [(Ow.enc 3 zj5.enc) r] := by
 intro q N hM a0 a1 r h
 rcases q with _ | q
 ·cases h
 obtain ⟨M, rfl⟩ : ∃ M, N = M + 8 := ⟨N - 8, by omega⟩
 refine byR fun R hR => ?_
 rw [zh9, zbek, y7, zh6 zub rfl]
 rw [zlb] at h
 repeat' (first | (cases h; done) | (replace h := bb h; rcases h with ⟨_, _, h⟩ | ⟨_, _, h⟩) | (replace h := br h; rcases h with ⟨_, h⟩ | ⟨_, h⟩) | (replace h := ob h; obtain ⟨_, g, h⟩ := h; first | ((first | replace g := zbvw q (M + 7) (by omega) _ _ g | replace g := zbxh q M (by omega) 0 _ _ _ _ _ _ _ _ _ _ _ g | replace g := zbxm q M (by omega) 0 _ _ _ _ _ _ _ _ _ _ _ _ g | replace g := zbw7 q (M + 7) (by omega) _ _ _ _ g); try simp only [kf, simprocAttr] at g) | skip))
 all_goals (cases h; subst hR; simp only [zbxn, simprocAttr, *])
def zbxp (q : Nat) : Prop := ∀ M, 8 * q ≤ M → ∀ j, q ≤ j → ∀ (v8z : Bool) (v8l : List zj8) (v9 h0_0 h0_1 : Int) (h0_2z : Bool) (h0_2l : List Int) (h0_3 : Bool) (h0_4 : Int) (h0_5z : Bool) (h0_5l : List zj5) (r : zj6 × Int), zld q v8z v8l v9 h0_0 h0_1 h0_2z h0_2l h0_3 h0_4 h0_5z h0_5l = some r → LS T (M + 7) 0 [2, 4, 8, 9, 10] [.blk 0, .code (.seq (.reg o_8_15) .ret)] c_8_14 j (fin zq2) (some [zj6.enc r.1, (V.int .i64) r.2]) [(2, (.ptr 0 0)), (4, (.ptr 1 0)), (8, (.sl v8z (List.map zj8.enc v8l))), (9, (.int .i64 v9)), (10, (.int .i64 0))] [(.box [(.int .i64 h0_0), (.int .i64 h0_1), (.sl h0_2z (List.map (V.int .i64) h0_2l)), (.bool h0_3), (.int .i64 h0_4), (.sl h0_5z (List.map zj5.enc h0_5l))]), (.box [(.int .i64 0), (.int .i64 0), (.sl true []), (.bool false), (.int .i64 0), (.sl true [])])]
def zbxq (q : Nat) : Prop := ∀ M, 8 * q ≤ M → ∀ j, q ≤ j → ∀ (v8z : Bool) (v8l : List zj8) (v9 v10 h0_0 h0_1 : Int) (h0_2z : Bool) (h0_2l : List Int) (h0_3 : Bool) (h0_4 : Int) (h2z : Bool) (h2l : List zj5) (h2x : Bool) (r : zj6 × Int), zlc q v8z v8l v9 v10 h0_0 h0_1 h0_2z h0_2l h0_3 h0_4 h2z h2l h2x = some r → LS T (M + 7) 0 [2, 4, 8, 9, 10] [.blk 0, .code (.seq (.reg o_8_15) .ret)] c_8_14 j (fin zq2) (some [zj6.enc r.1, (V.int .i64) r.2]) [(2, (.ptr 0 0)), (4, (.ptr 1 0)), (8, (.sl v8z (List.map zj8.enc v8l))), (9, (.int .i64 v9)), (10, (.int .i64 v10))] [(.box [(.int .i64 h0_0), (.int .i64 h0_1), (.sl h0_2z (List.map (V.int .i64) h0_2l)), (.bool h0_3), (.int .i64 h0_4), (.vw 2 0 0 h2l.length 1)]), (.box [(.int .i64 0), (.int .i64 0), (.sl true []), (.bool false), (.int .i64 0), (.sl true [])]), (.row 0 h2z 3 (List.map zj5.enc h2l) h2x)]
def zbxr := y5 @kk <| y5 @ke <| y5 @kn <| y5 @zbhr <| y5 @zbiv <| y5 @zbiy <| y5 @zbi1 <| @zbht
theorem zbxs (q : Nat) (zbzz : zbxq q) : zbxp (q + 1) := by
 intro M hM j hj v8z v8l v9 h0_0 h0_1 h0_2z h0_2l h0_3 h0_4 h0_5z h0_5l r h R hR fr H hc
 obtain ⟨j, rfl⟩ : ∃ i, j = i + 1 := ⟨j - 1, by omega⟩
 rw [zhy, hc]; clear hc
 rw [zld] at h
 repeat' (first | (cases h; done) | (replace h := bb h; rcases h with ⟨_, _, h⟩ | ⟨_, _, h⟩) | (replace h := br h; rcases h with ⟨_, h⟩ | ⟨_, h⟩) | (replace h := ob h; obtain ⟨_, g, h⟩ := h; first | ((first | replace g := zbv4 q (M + 7) (by omega) _ _ g | replace g := zbw6 q (M + 7) (by omega) _ _ _ g | replace g := zbxo q (M + 7) (by omega) _ _ _ g); try simp only [kf, simprocAttr] at g) | skip))
 all_goals (first | (cases h; subst hR; simp only [zbxr, simprocAttr, *]) | (replace h := zbzz M (by omega) j (by omega) _ _ _ _ _ _ _ _ _ _ _ _ _ _ h R hR; simp only [zbxr, simprocAttr, *]))
theorem zbxt (q : Nat) (zbzz : zbxq q) : zbxq (q + 1) := by
 intro M hM j hj v8z v8l v9 v10 h0_0 h0_1 h0_2z h0_2l h0_3 h0_4 h2z h2l h2x r h R hR fr H hc
 obtain ⟨j, rfl⟩ : ∃ i, j = i + 1 := ⟨j - 1, by omega⟩
 rw [zhy, hc]; clear hc
 rw [zlc] at h
 repeat' (first | (cases h; done) | (replace h := bb h; rcases h with ⟨_, _, h⟩ | ⟨_, _, h⟩) | (replace h := bn h; obtain ⟨_, h⟩ := h) | (replace h := br h; rcases h with ⟨_, h⟩ | ⟨_, h⟩) | (replace h := ob h; obtain ⟨_, g, h⟩ := h; first | ((first | replace g := zbv4 q (M + 7) (by omega) _ _ g | replace g := zbw6 q (M + 7) (by omega) _ _ _ g | replace g := zbxo q (M + 7) (by omega) _ _ _ g); try simp only [kf, simprocAttr] at g) | skip))
 all_goals (first | (cases h; subst hR; simp only [zbxr, simprocAttr, *]) | (replace h := zbzz M (by omega) j (by omega) _ _ _ _ _ _ _ _ _ _ _ _ _ _ h R hR; simp only [zbxr, simprocAttr, *]))
theorem zbxu : ∀ q, zbxp q ∧ zbxq q
 | 0 => by refine ⟨?_, ?_⟩ <;> (intro M hM j hj; intros; rename_i h; cases h)
 | q + 1 => by have ⟨i0, i1⟩ := zbxu q; exact ⟨zbxs q i1, zbxt q i1⟩
theorem zbxv : ∀ (q N : Nat), 8 * q ≤ N → ∀ (a0 : zj6) (a1 : (Sl zj8)), ∀ (r : zj6 × Int), zle q a0 a1 = some r → (orc T N).deep F.zle [zj6.enc a0, (Sl.enc zj8.enc) a1] = some [zj6.enc r.1, (V.int .i64) r.2] := by
 intro q N hM a0 a1 r h
 rcases q with _ | q
 ·cases h
 obtain ⟨M, rfl⟩ : ∃ M, N = M + 8 := ⟨N - 8, by omega⟩
 have ih_snapshot_Take_l0 := (zbxu q).1
 refine byR fun R hR => ?_
 rw [zh9, zbd5, y7, zh6 zq2 rfl]
 rw [zle] at h
 replace h := ih_snapshot_Take_l0 M (by omega) (M + 7) (by omega) _ _ _ _ _ _ _ _ _ _ _ _ h R hR
 simp only [zbxr, simprocAttr, *]
def zbxw (q : Nat) : Prop := ∀ M, 8 * q ≤ M → ∀ j, q ≤ j → ∀ (v0z : Bool) (v0l : List zj8) (v5z : Bool) (v5l : List zj8) (v6 v7 : Int) (r : Bool), zlf q v0z v0l v5z v5l v6 v7 = some r → LS T (M + 7) 0 [0, 5, 6, 7] [.blk 0, .code (.seq (.reg zbae) .ret)] zbad j (fin zbah) (some [V.bool r]) [(0, (.sl v0z (List.map zj8.enc v0l))), (5, (.sl v5z (List.map zj8.enc v5l))), (6, (.int .i64 v6)), (7, (.int .i64 v7))] []
def zbxx := y5 @kk <| y5 @ke <| y5 @kn <| y5 @zbp8 <| y5 @zbiv <| @zbqa
theorem zbxy (q : Nat) (zbz0 : zbxw q) : zbxw (q + 1) := by
 intro M hM j hj v0z v0l v5z v5l v6 v7 r h R hR fr H hc
 obtain ⟨j, rfl⟩ : ∃ i, j = i + 1 := ⟨j - 1, by omega⟩
 rw [zhy, hc]; clear hc
 rw [zlf] at h
 repeat' (first | (cases h; done) | (replace h := bb h; rcases h with ⟨_, _, h⟩ | ⟨_, _, h⟩) | (replace h := bn h; obtain ⟨_, h⟩ := h) | (replace h := br h; rcases h with ⟨_, h⟩ | ⟨_, h⟩) | (replace h := ob h; obtain ⟨_, g, h⟩ := h; first | (replace g := zbv4 q (M + 7) (by omega) _ _ g; try simp only [kf, simprocAttr] at g) | skip))
 all_goals (first | (cases h; subst hR; simp only [zbxx, simprocAttr, *]) | (replace h := zbz0 M (by omega) j (by omega) _ _ _ _ _ _ _ h R hR; simp only [zbxx, simprocAttr, *]))
theorem zbxz : ∀ q, zbxw q
 | 0 => by intro M hM j hj; intros; rename_i h; cases h
 | q + 1 => by have i0 := zbxz q; exact zbxy q i0
theorem zbx0 : ∀ (q N : Nat), 8 * q ≤ N → ∀ (a0 : (Sl zj8)), ∀ (r : Bool), zlg q a0 = some r → (orc T N).deep F.zlg [(Sl.enc zj8.enc) a0] = some [V.bool r] := by
 intro q N hM a0 r h
 rcases q with _ | q
 ·cases h
 obtain ⟨M, rfl⟩ : ∃ M, N = M + 8 := ⟨N - 8, by omega⟩
 have zbz0 := (zbxz q)
 refine byR fun R hR => ?_
 rw [zh9, zbgz, y7, zh6 zbah rfl]
 rw [zlg] at h
 replace h := zbz0 M (by omega) (M + 7) (by omega) _ _ _ _ _ _ _ h R hR
 simp only [zbxx, simprocAttr, *]
def zbx1 (q : Nat) : Prop := ∀ M, 8 * q ≤ M → ∀ j, q ≤ j → ∀ (w0 : Nat) (v1 : Int) (h0z : Bool) (h0l : List Int) (h0x : Bool) (r : (Ow Int)), zlh q v1 h0z h0l h0x = some r → LS T (M + 7) 1 [0, 1] [.blk 0, .code (.seq (.reg o_94_6) .ret)] c_94_5 j (fin z0w) (some [(Ow.enc 1 (V.int .u8)) r]) [(0, (.vw 0 w0 0 h0l.length 1)), (1, (.int .u64 v1))] [(.row w0 h0z 1 (List.map (V.int .u8) h0l) h0x)]
def zbx2 := y5 @kk <| y5 @ke <| y5 @kn <| y5 @zbmz <| @zbm1
theorem zbx3 (q : Nat) (zbz1 : zbx1 q) : zbx1 (q + 1) := by
 intro M hM j hj w0 v1 h0z h0l h0x r h R hR fr H hc
 obtain ⟨j, rfl⟩ : ∃ i, j = i + 1 := ⟨j - 1, by omega⟩
 rw [zhy, hc]; clear hc
 rw [zlh] at h
 replace h := br h; rcases h with ⟨h1, h⟩ | ⟨h1, h⟩
 ·replace h := bn h; obtain ⟨h2, h⟩ := h
  replace h := zbz1 M (by omega) j (by omega) (w0 + 1) _ _ _ _ _ h R hR
  simp only [zbx2, simprocAttr, *]
 ·replace h := bn h; obtain ⟨h3, h⟩ := h
  cases h; subst hR; simp only [zbx2, simprocAttr, *]
theorem zbx4 : ∀ q, zbx1 q
 | 0 => by intro M hM j hj; intros; rename_i h; cases h
 | q + 1 => by have i0 := zbx4 q; exact zbx3 q i0
theorem zbx5 : ∀ (q N : Nat), 8 * q ≤ N → ∀ (a0 : (Ow Int)) (a1 : Int), ∀ (r : (Ow Int)), zli q a0 a1 = some r → (orc T N).deep F.zli [(Ow.enc 1 (V.int .u8)) a0, (V.int .u64) a1] = some [(Ow.enc 1 (V.int .u8)) r] := by
 intro q N hM a0 a1 r h
 rcases q with _ | q
 ·cases h
 obtain ⟨M, rfl⟩ : ∃ M, N = M + 8 := ⟨N - 8, by omega⟩
 have zbz1 := (zbx4 q)
 refine byR fun R hR => ?_
 rw [zh9, zbfw, y7, zh6 z0w rfl]
 rw [zli] at h
 replace h := zbz1 M (by omega) (M + 7) (by omega) 0 _ _ _ _ _ h R hR
 simp only [zbx2, simprocAttr, *]
def zbx6 := y5 @kk <| y5 @ke <| y5 @kn <| y5 @zbmw <| y5 @zbm0 <| @zbmy
theorem zbx7 : ∀ (q N : Nat), 8 * q ≤ N → ∀ (a0 : (Ow Int)) (a1 : Int), ∀ (r : (Ow Int)), zlj q a0 a1 = some r → (orc T N).deep F.zlj [(Ow.enc 1 (V.int .u8)) a0, (V.int .i64) a1] = some [(Ow.enc 1 (V.int .u8)) r] := by
 intro q N hM a0 a1 r h
 rcases q with _ | q
 ·cases h
 obtain ⟨M, rfl⟩ : ∃ M, N = M + 8 := ⟨N - 8, by omega⟩
 refine byR fun R hR => ?_
 rw [zh9, zbfv, y7, zh6 z0u rfl]
 rw [zlj] at h
 replace h := br h; rcases h with ⟨h1, h⟩ | ⟨h1, h⟩
 ·cases h; subst hR; simp only [zbx6, simprocAttr, *]
 ·replace h := br h; rcases h with ⟨h2, h⟩ | ⟨h2, h⟩
  ·cases h; subst hR; simp only [zbx6, simprocAttr, *]
  ·replace h := ob h; obtain ⟨r1, h3, h⟩ := h
   replace h3 := zbx5 q (M + 7) (by omega) _ _ _ h3
   try simp only [kf, simprocAttr] at h3
   cases h; subst hR; simp only [zbx6, simprocAttr, *]
def zbx8 := y5 @kk <| y5 @ke <| y5 @kn <| y5 @zbm2 <| @zbm4
theorem zbx9 : ∀ (q N : Nat), 8 * q ≤ N → ∀ (a0 r : Int), zlk q a0 = some r → (orc T N).deep F.zlk [(V.int .i64) a0] = some [(V.int .u64) r] := by
 intro q N hM a0 r h
 rcases q with _ | q
 ·cases h
 obtain ⟨M, rfl⟩ : ∃ M, N = M + 8 := ⟨N - 8, by omega⟩
 refine byR fun R hR => ?_
 rw [zh9, zbfx, y7, zh6 z0y rfl]
 rw [zlk] at h
 cases h; subst hR; simp only [zbx8, simprocAttr, *]
def zbya := y5 @kk <| y5 @ke <| y5 @kn <| y5 @zbjx <| y5 @zbm0 <| y5 @zbm3 <| @zbjz
theorem zbyb : ∀ (q N : Nat), 8 * q ≤ N → ∀ (a0 : (Ow Int)) (a1 : Int), ∀ (r : (Ow Int)), zll q a0 a1 = some r → (orc T N).deep F.zll [(Ow.enc 1 (V.int .u8)) a0, (V.int .i64) a1] = some [(Ow.enc 1 (V.int .u8)) r] := by
 intro q N hM a0 a1 r h
 rcases q with _ | q
 ·cases h
 obtain ⟨M, rfl⟩ : ∃ M, N = M + 8 := ⟨N - 8, by omega⟩
 refine byR fun R hR => ?_
 rw [zh9, zbev, y7, zh6 zva rfl]
 rw [zll] at h
 replace h := ob h; obtain ⟨r1, h1, h⟩ := h
 replace h1 := zbx9 q (M + 7) (by omega) _ _ h1
 replace h := ob h; obtain ⟨r2, h2, h⟩ := h
 replace h2 := zbx5 q (M + 7) (by omega) _ _ _ h2
 try simp only [kf, simprocAttr] at h2
 cases h; subst hR; simp only [zbya, simprocAttr, *]
def zbyc := y5 @kk <| y5 @ke <| y5 @kn <| y5 @zbqb <| y5 @zbjy <| y5 @zbld <| y5 @zbmx <| @zbqd
theorem zbyd : ∀ (q N : Nat), 8 * q ≤ N → ∀ (a0 : (Ow Int)) (a1 : zj7), ∀ (r : (Ow Int) × Int), zlm q a0 a1 = some r → (orc T N).deep F.zlm [(Ow.enc 1 (V.int .u8)) a0, zj7.enc a1] = some [(Ow.enc 1 (V.int .u8)) r.1, (V.int .i64) r.2] := by
 intro q N hM a0 a1 r h
 rcases q with _ | q
 ·cases h
 obtain ⟨M, rfl⟩ : ∃ M, N = M + 8 := ⟨N - 8, by omega⟩
 refine byR fun R hR => ?_
 rw [zh9, zbg0, y7, zh6 zbao rfl]
 rw [zlm] at h
 repeat' (first | (cases h; done) | (replace h := bb h; rcases h with ⟨_, _, h⟩ | ⟨_, _, h⟩) | (replace h := ob h; obtain ⟨_, g, h⟩ := h; first | ((first | replace g := zbv2 q (M + 7) (by omega) _ _ g | replace g := zbx7 q (M + 7) (by omega) _ _ _ g | replace g := zbyb q (M + 7) (by omega) _ _ _ g); try simp only [kf, simprocAttr] at g) | skip))
 all_goals (cases h; subst hR; simp only [zbyc, simprocAttr, *])
def zbye (q : Nat) : Prop := ∀ M, 8 * q ≤ M → ∀ j, q ≤ j → ∀ (v20z : Bool) (v20l : List zj8) (v21 v22 : Int) (h0m : List (Int × Int)) (h1z : Bool) (h1l : List Int) (h1x : Bool) (r : (Ow Int) × Int), zln q v20z v20l v21 v22 h0m h1z h1l h1x = some r → LS T (M + 7) 0 [4, 5, 20, 21, 22] [.blk 0, .code (.seq (.reg z3m) .ret)] z3l j (fin z3q) (some [(Ow.enc 1 (V.int .u8)) r.1, (V.int .i64) r.2]) [(4, (.mp 0)), (5, (.vw 1 0 0 h1l.length 1)), (20, (.sl v20z (List.map zj8.enc v20l))), (21, (.int .i64 v21)), (22, (.int .i64 v22))] [(.map h0m), (.row 0 h1z 1 (List.map (V.int .u8) h1l) h1x)]
def zbyf := y5 @kk <| y5 @ke <| y5 @kn <| y5 @zbnz <| y5 @zbjy <| y5 @zbmx <| y5 @zbp9 <| y5 @zbqc <| @zbn1
theorem zbyg (q : Nat) (zbz2 : zbye q) : zbye (q + 1) := by
 intro M hM j hj v20z v20l v21 v22 h0m h1z h1l h1x r h R hR fr H hc
 obtain ⟨j, rfl⟩ : ∃ i, j = i + 1 := ⟨j - 1, by omega⟩
 rw [zhy, hc]; clear hc
 rw [zln] at h
 repeat' (first | (cases h; done) | (replace h := bn h; obtain ⟨_, h⟩ := h) | (replace h := br h; rcases h with ⟨_, h⟩ | ⟨_, h⟩) | (replace h := ob h; obtain ⟨_, g, h⟩ := h; first | ((first | replace g := zbx7 q (M + 7) (by omega) _ _ _ g | replace g := zbyb q (M + 7) (by omega) _ _ _ g | replace g := zbyd q (M + 7) (by omega) _ _ _ g); try simp only [kf, simprocAttr] at g) | skip))
 all_goals (first | (cases h; subst hR; simp only [zbyf, simprocAttr, *]) | (replace h := zbz2 M (by omega) j (by omega) _ _ _ _ _ _ _ _ _ h R hR; simp only [zbyf, simprocAttr, *]))
theorem zbyh : ∀ q, zbye q
 | 0 => by intro M hM j hj; intros; rename_i h; cases h
 | q + 1 => by have i0 := zbyh q; exact zbyg q i0
theorem zbyi : ∀ (q N : Nat), 8 * q ≤ N → ∀ (a0 : (Sl zj8)), ∀ (r : (Ow Int) × Int), zlo q a0 = some r → (orc T N).deep F.zlo [(Sl.enc zj8.enc) a0] = some [(Ow.enc 1 (V.int .u8)) r.1, (V.int .i64) r.2] := by
 intro q N hM a0 r h
 rcases q with _ | q
 ·cases h
 obtain ⟨M, rfl⟩ : ∃ M, N = M + 8 := ⟨N - 8, by omega⟩
 have zbz2 := (zbyh q)
 refine byR fun R hR => ?_
 rw [zh9, zbf8, y7, zh6 z3q rfl]
 rw [zlo] at h
 repeat' (first | (cases h; done) | (replace h := bb h; rcases h with ⟨_, _, h⟩ | ⟨_, _, h⟩) | (replace h := ob h; obtain ⟨_, g, h⟩ := h; first | ((first | replace g := zbx0 q (M + 7) (by omega) _ _ g | replace g := zbx7 q (M + 7) (by omega) _ _ _ g); try simp only [kf, simprocAttr] at g) | skip))
 all_goals (first | (cases h; subst hR; simp only [zbyf, simprocAttr, *]) | (replace h := zbz2 M (by omega) (M + 7) (by omega) _ _ _ _ _ _ _ _ _ h R hR; simp only [zbyf, simprocAttr, *]))
def zbyj (q : Nat) : Prop := ∀ M, 8 * q ≤ M → ∀ j, q ≤ j → ∀ (v5 : Int) (h0_0 h1_0 : List Int) (r : (List Int)), zlp q v5 h0_0 h1_0 = some r → LS T (M + 7) 0 [0, 1, 5] [.blk 0, .code (.seq (.reg zbcy) .ret)] zbcx j (fin zbc1) (some [(arrEnc (V.int .u32)) r]) [(0, (.ptr 0 0)), (1, (.ptr 1 0)), (5, (.int .i64 v5))] [(.box (List.map (V.int .u32) h0_0)), (.box (List.map (V.int .u32) h1_0))]
def zbyk (q : Nat) : Prop := ∀ M, 8 * q ≤ M → ∀ j, q ≤ j → ∀ j1, q ≤ j1 → ∀ (v2 v3 v5 v10 : Int) (h0_0 h1_0 : List Int) (r : (List Int)), zlq q v2 v3 v5 v10 h0_0 h1_0 = some r → LS T (M + 7) 0 [0, 1, 2, 3, 5, 10] [.blk 2, .code (.reg zbct), .blk 1, .code (.reg zbcv), .rounds [0, 1, 5] zbcx j1, .blk 0, .code (.seq (.reg zbcy) .ret)] zbcs j (fin zbc1) (some [(arrEnc (V.int .u32)) r]) [(0, (.ptr 0 0)), (1, (.ptr 1 0)), (2, (.int .i64 v2)), (3, (.int .u32 v3)), (5, (.int .i64 v5)), (10, (.int .i64 v10))] [(.box (List.map (V.int .u32) h0_0)), (.box (List.map (V.int .u32) h1_0))]
def zbyl := y5 @kk <| y5 @ke <| y5 @kn <| y5 @zbrg <| @zbri
theorem zbym (q : Nat) (zbz3 : zbyk q) : zbyj (q + 1) := by
 intro M hM j hj v5 h0_0 h1_0 r h R hR fr H hc
 obtain ⟨j, rfl⟩ : ∃ i, j = i + 1 := ⟨j - 1, by omega⟩
 rw [zhy, hc]; clear hc
 rw [zlp] at h
 replace h := br h; rcases h with ⟨h1, h⟩ | ⟨h1, h⟩
 ·replace h := zbz3 M (by omega) (M + 7) (by omega) j (by omega) _ _ _ _ _ _ _ h R hR
  simp (maxDischargeDepth := 12) only [zbyl, simprocAttr, arrEnc, *]
 ·replace h := bn h; obtain ⟨h2, h⟩ := h
  replace h := bc h; rcases h with ⟨h3, h⟩ | ⟨h3, h⟩
  ·replace h := bn h; obtain ⟨h4, h⟩ := h
   replace h := bn h; obtain ⟨h5, h⟩ := h
   cases h; subst hR; simp (maxDischargeDepth := 12) only [zbyl, simprocAttr, arrEnc, *]
  ·cases h
theorem zbyn (q : Nat) (zbz4 : zbyj q) (zbz3 : zbyk q) : zbyk (q + 1) := by
 intro M hM j hj j1 hj1 v2 v3 v5 v10 h0_0 h1_0 r h R hR fr H hc
 obtain ⟨j, rfl⟩ : ∃ i, j = i + 1 := ⟨j - 1, by omega⟩
 rw [zhy, hc]; clear hc
 rw [zlq] at h
 replace h := br h; rcases h with ⟨h1, h⟩ | ⟨h1, h⟩
 ·replace h := zbz3 M (by omega) j (by omega) j1 (by omega) _ _ _ _ _ _ _ h R hR
  simp (maxDischargeDepth := 12) only [zbyl, simprocAttr, arrEnc, *]
 ·replace h := bn h; obtain ⟨h2, h⟩ := h
  replace h := bn h; obtain ⟨h3, h⟩ := h
  replace h := bn h; obtain ⟨h4, h⟩ := h
  replace h := zbz4 M (by omega) j1 (by omega) _ _ _ _ h R hR
  simp (maxDischargeDepth := 12) only [zbyl, simprocAttr, arrEnc, *]
theorem zbyo : ∀ q, zbyj q ∧ zbyk q
 | 0 => by refine ⟨?_, ?_⟩ <;> (intro M hM j hj; intros; rename_i h; cases h)
 | q + 1 => by have ⟨i0, i1⟩ := zbyo q; exact ⟨zbym q i1, zbyn q i0 i1⟩
theorem zbyp : ∀ (q N : Nat), 8 * q ≤ N → ∀ (r : (List Int)), zlr q = some r → (orc T N).deep F.zlr [] = some [(arrEnc (V.int .u32)) r] := by
 intro q N hM r h
 rcases q with _ | q
 ·cases h
 obtain ⟨M, rfl⟩ : ∃ M, N = M + 8 := ⟨N - 8, by omega⟩
 have zbz4 := (zbyo q).1
 refine byR fun R hR => ?_
 rw [zh9, zbhe, y7, zh6 zbc1 rfl]
 rw [zlr] at h
 replace h := zbz4 M (by omega) (M + 7) (by omega) _ _ _ _ h R hR
 simp (maxDischargeDepth := 12) only [zbyl, simprocAttr, arrEnc, *]
def zbyq (q : Nat) : Prop := ∀ M, 8 * q ≤ M → ∀ j, q ≤ j → ∀ (v6 : Int) (v12z : Bool) (v12l : List Int) (v13 v14 : Int) (h0_0 : List Int) (r : Int), zls q v6 v12z v12l v13 v14 h0_0 = some r → LS T (M + 7) 0 [5, 6, 12, 13, 14] [.blk 0, .code (.seq (.reg z8m) .ret)] z8l j (fin z8p) (some [(V.int .u32) r]) [(5, (.ptr 0 0)), (6, (.int .u32 v6)), (12, (.sl v12z (List.map (V.int .u8) v12l))), (13, (.int .i64 v13)), (14, (.int .i64 v14))] [(.box (List.map (V.int .u32) h0_0))]
def zbyr := y5 @kk <| y5 @ke <| y5 @kn <| y5 @zbpk <| y5 @zbrh <| @zbpm
theorem zbys (q : Nat) (zbz5 : zbyq q) : zbyq (q + 1) := by
 intro M hM j hj v6 v12z v12l v13 v14 h0_0 r h R hR fr H hc
 obtain ⟨j, rfl⟩ : ∃ i, j = i + 1 := ⟨j - 1, by omega⟩
 rw [zhy, hc]; clear hc
 rw [zls] at h
 replace h := br h; rcases h with ⟨h1, h⟩ | ⟨h1, h⟩
 ·replace h := bn h; obtain ⟨h2, h⟩ := h
  replace h := ob h; obtain ⟨e2, h3, h⟩ := h
  replace h := bn h; obtain ⟨h4, h⟩ := h
  replace h := bn h; obtain ⟨h5, h⟩ := h
  replace h := ob h; obtain ⟨e3, h6, h⟩ := h
  replace h := zbz5 M (by omega) j (by omega) _ _ _ _ _ _ _ h R hR
  simp only [zbyr, simprocAttr, arrEnc, *]
 ·cases h; subst hR; simp only [zbyr, simprocAttr, arrEnc, *]
theorem zbyt : ∀ q, zbyq q
 | 0 => by intro M hM j hj; intros; rename_i h; cases h
 | q + 1 => by have i0 := zbyt q; exact zbys q i0
theorem zbyu : ∀ (q N : Nat), 8 * q ≤ N → ∀ (a0 : Int) (a1 : (Sl Int)), ∀ (r : Int), zlt q a0 a1 = some r → (orc T N).deep F.zlt [(V.int .u32) a0, (Sl.enc (V.int .u8)) a1] = some [(V.int .u32) r] := by
 intro q N hM a0 a1 r h
 rcases q with _ | q
 ·cases h
 obtain ⟨M, rfl⟩ : ∃ M, N = M + 8 := ⟨N - 8, by omega⟩
 have zbz5 := (zbyt q)
 refine byR fun R hR => ?_
 rw [zh9, zbgr, y7, zh6 z8p rfl]
 rw [zlt] at h
 replace h := ob h; obtain ⟨r1, h1, h⟩ := h
 replace h1 := zbyp q (M + 7) (by omega)  _ h1
 try simp only [kf, simprocAttr] at h1
 replace h := bc h; rcases h with ⟨h2, h⟩ | ⟨h2, h⟩
 ·replace h := zbz5 M (by omega) (M + 7) (by omega) _ _ _ _ _ _ _ h R hR
  simp only [zbyr, simprocAttr, arrEnc, *]
 ·cases h
def zbyv := y5 @kk <| y5 @ke <| y5 @kn <| y5 @zbpn <| y5 @zbpl <| @zbpp
theorem zbyw : ∀ (q N : Nat), 8 * q ≤ N → ∀ (a0 : (Sl Int)), ∀ (r : Int), zlu q a0 = some r → (orc T N).deep F.zlu [(Sl.enc (V.int .u8)) a0] = some [(V.int .u32) r] := by
 intro q N hM a0 r h
 rcases q with _ | q
 ·cases h
 obtain ⟨M, rfl⟩ : ∃ M, N = M + 8 := ⟨N - 8, by omega⟩
 refine byR fun R hR => ?_
 rw [zh9, zbgs, y7, zh6 z8t rfl]
 rw [zlu] at h
 replace h := ob h; obtain ⟨r1, h1, h⟩ := h
 replace h1 := zbyu q (M + 7) (by omega) _ _ _ h1
 try simp only [kf, simprocAttr] at h1
 cases h; subst hR; simp only [zbyv, simprocAttr, *]
def zbyx (q : Nat) : Prop := ∀ M, 8 * q ≤ M → ∀ j, q ≤ j → ∀ (v0 v7 v8 : Int) (h0z : Bool) (h0l : List Int) (r : (Ow Int)), zlv q v0 v7 v8 h0z h0l = some r → LS T (M + 7) 0 [0, 5, 7, 8] [.blk 0, .code (.seq (.reg zbcc) .ret)] zbcb j (fin zbcf) (some [(Ow.enc 1 (V.int .u8)) r]) [(0, (.int .u64 v0)), (5, (.vw 0 0 0 h0l.length 1)), (7, (.int .i64 v7)), (8, (.int .i64 v8))] [(.row 0 h0z 1 (List.map (V.int .u8) h0l) true)]
def zbyy := y5 @kk <| y5 @ke <| y5 @kn <| y5 @zbrd <| @zbrf
theorem zbyz (q : Nat) (zbz6 : zbyx q) : zbyx (q + 1) := by
 intro M hM j hj v0 v7 v8 h0z h0l r h R hR fr H hc
 obtain ⟨j, rfl⟩ : ∃ i, j = i + 1 := ⟨j - 1, by omega⟩
 rw [zhy, hc]; clear hc
 rw [zlv] at h
 replace h := br h; rcases h with ⟨h1, h⟩ | ⟨h1, h⟩
 ·replace h := bm h; obtain ⟨h2, h⟩ := h
  replace h := bn h; obtain ⟨h3, h⟩ := h
  replace h := zbz6 M (by omega) j (by omega) _ _ _ _ _ _ h R hR
  simp only [zbyy, simprocAttr, *]
 ·cases h; subst hR; simp only [zbyy, simprocAttr, *]
theorem zby0 : ∀ q, zbyx q
 | 0 => by intro M hM j hj; intros; rename_i h; cases h
 | q + 1 => by have i0 := zby0 q; exact zbyz q i0
theorem zby1 : ∀ (q N : Nat), 8 * q ≤ N → ∀ (a0 a1 : Int), ∀ (r : (Ow Int)), zlw q a0 a1 = some r → (orc T N).deep F.zlw [(V.int .u64) a0, (V.int .i64) a1] = some [(Ow.enc 1 (V.int .u8)) r] := by
 intro q N hM a0 a1 r h
 rcases q with _ | q
 ·cases h
 obtain ⟨M, rfl⟩ : ∃ M, N = M + 8 := ⟨N - 8, by omega⟩
 have zbz6 := (zby0 q)
 refine byR fun R hR => ?_
 rw [zh9, zbhd, y7, zh6 zbcf rfl]
 rw [zlw] at h
 replace h := zbz6 M (by omega) (M + 7) (by omega) _ _ _ _ _ _ h R hR
 simp only [zbyy, simprocAttr, *]
def zby2 := y5 @kk <| y5 @ke <| y5 @kn <| y5 @zbph <| y5 @zbre <| @zbpj
theorem zby3 : ∀ (q N : Nat), 8 * q ≤ N → ∀ (a0 : Int), ∀ (r : (Ow Int)), zlx q a0 = some r → (orc T N).deep F.zlx [(V.int .u32) a0] = some [(Ow.enc 1 (V.int .u8)) r] := by
 intro q N hM a0 r h
 rcases q with _ | q
 ·cases h
 obtain ⟨M, rfl⟩ : ∃ M, N = M + 8 := ⟨N - 8, by omega⟩
 refine byR fun R hR => ?_
 rw [zh9, zbgq, y7, zh6 z8b rfl]
 rw [zlx] at h
 replace h := ob h; obtain ⟨r1, h1, h⟩ := h
 replace h1 := zby1 q (M + 7) (by omega) _ _ _ h1
 try simp only [kf, simprocAttr] at h1
 cases h; subst hR; simp only [zby2, simprocAttr, *]
def zby4 := y5 @kk <| y5 @ke <| y5 @kn <| y5 @zbm8 <| y5 @zbpi <| y5 @zbpl <| y5 @zbpo <| @zbna
theorem zby5 : ∀ (q N : Nat), 8 * q ≤ N → ∀ (a0 a1 : (Sl Int)), ∀ (r : (Ow Int)), zly q a0 a1 = some r → (orc T N).deep F.zly [(Sl.enc (V.int .u8)) a0, (Sl.enc (V.int .u8)) a1] = some [(Ow.enc 1 (V.int .u8)) r] := by
 intro q N hM a0 a1 r h
 rcases q with _ | q
 ·cases h
 obtain ⟨M, rfl⟩ : ∃ M, N = M + 8 := ⟨N - 8, by omega⟩
 refine byR fun R hR => ?_
 rw [zh9, zbfz, y7, zh6 z1e rfl]
 rw [zly] at h
 repeat' (first | (cases h; done) | (replace h := ob h; obtain ⟨_, g, h⟩ := h; first | ((first | replace g := zbyw q (M + 7) (by omega) _ _ g | replace g := zbyu q (M + 7) (by omega) _ _ _ g | replace g := zby3 q (M + 7) (by omega) _ _ g); try simp only [kf, simprocAttr] at g) | skip))
 all_goals (cases h; subst hR; simp only [zby4, simprocAttr, *])
def zby6 (q : Nat) : Prop := ∀ M, 8 * q ≤ M → ∀ j, q ≤ j → ∀ (v0z : Bool) (v0l : List (Sl Int)) (v3 : Int) (v9z : Bool) (v9l : List (Sl Int)) (v10 v11 : Int) (r : (Ow Int)), zl2 q v0z v0l v3 v9z v9l v10 v11 = some r → LS T (M + 7) 0 [0, 3, 9, 10, 11] [.blk 0, .code (.seq (.reg z00) z09)] z0z j (fin z1c) (some [(Ow.enc 1 (V.int .u8)) r]) [(0, (.sl v0z (List.map (Sl.enc (V.int .u8)) v0l))), (3, (.int .i64 v3)), (9, (.sl v9z (List.map (Sl.enc (V.int .u8)) v9l))), (10, (.int .i64 v10)), (11, (.int .i64 v11))] []
def zby7 (q : Nat) : Prop := ∀ M, 8 * q ≤ M → ∀ j, q ≤ j → ∀ (v6len : Nat) (v25z : Bool) (v25l : List (Sl Int)) (v26 v27 : Int) (h0z : Bool) (h0l : List Int) (r : (Ow Int)), zlz q v6len v25z v25l v26 v27 h0z h0l = some r → LS T (M + 7) 0 [6, 25, 26, 27] [.blk 2, .code (.seq (.reg z08) .ret)] z07 j (fin z1c) (some [(Ow.enc 1 (V.int .u8)) r]) [(6, (.vw 0 0 0 v6len 0)), (25, (.sl v25z (List.map (Sl.enc (V.int .u8)) v25l))), (26, (.int .i64 v26)), (27, (.int .i64 v27))] [(.row 0 h0z 1 (List.map (V.int .u8) h0l) true)]
def zby8 (q : Nat) : Prop := ∀ M, 8 * q ≤ M → ∀ j, q ≤ j → ∀ (v25z : Bool) (v25l : List (Sl Int)) (v26 : Int) (r : (Ow Int)), zl1 q v25z v25l v26 = some r → LS T (M + 7) 0 [6, 25, 26, 27] [.blk 2, .code (.seq (.reg z08) .ret)] z07 j (fin z1c) (some [(Ow.enc 1 (V.int .u8)) r]) [(6, (.sl true [])), (25, (.sl v25z (List.map (Sl.enc (V.int .u8)) v25l))), (26, (.int .i64 v26)), (27, (.int .i64 0))] []
def zby9 (q : Nat) : Prop := ∀ M, 8 * q ≤ M → ∀ j, q ≤ j → ∀ (v25z : Bool) (v25l : List (Sl Int)) (v26 v27 : Int) (h0z : Bool) (h0l : List Int) (r : (Ow Int)), zl0 q v25z v25l v26 v27 h0z h0l = some r → LS T (M + 7) 0 [6, 25, 26, 27] [.blk 2, .code (.seq (.reg z08) .ret)] z07 j (fin z1c) (some [(Ow.enc 1 (V.int .u8)) r]) [(6, (.vw 0 0 0 h0l.length 1)), (25, (.sl v25z (List.map (Sl.enc (V.int .u8)) v25l))), (26, (.int .i64 v26)), (27, (.int .i64 v27))] [(.row 0 h0z 1 (List.map (V.int .u8) h0l) true)]
def zbza := y5 @kk <| y5 @ke <| y5 @kn <| y5 @zbm5 <| y5 @zbpe <| y5 @zbpf <| y5 @zbpg <| @zbm7
theorem zbzb (q : Nat) (zbz7 : zby6 q) (zbz8 : zby7 q) (zbz9 : zby8 q) : zby6 (q + 1) := by
 intro M hM j hj v0z v0l v3 v9z v9l v10 v11 r h R hR fr H hc
 obtain ⟨j, rfl⟩ : ∃ i, j = i + 1 := ⟨j - 1, by omega⟩
 rw [zhy, hc]; clear hc
 rw [zl2] at h
 repeat' (first | (cases h; done) | (replace h := bn h; obtain ⟨_, h⟩ := h) | (replace h := bm h; obtain ⟨_, h⟩ := h) | (replace h := br h; rcases h with ⟨_, h⟩ | ⟨_, h⟩) | (replace h := ob h; obtain ⟨_, g, h⟩ := h))
 all_goals (first | (replace h := zbz7 M (by omega) j (by omega) _ _ _ _ _ _ _ _ h R hR; simp only [zbza, simprocAttr, *]) | (replace h := zbz8 M (by omega) (M + 7) (by omega) _ _ _ _ _ _ _ _ h R hR; simp only [zbza, simprocAttr, *]) | (replace h := zbz9 M (by omega) (M + 7) (by omega) _ _ _ _ h R hR; simp only [zbza, simprocAttr, *]))
theorem zbzc (q : Nat) (zbz8 : zby7 q) : zby7 (q + 1) := by
 intro M hM j hj v6len v25z v25l v26 v27 h0z h0l r h R hR fr H hc
 obtain ⟨j, rfl⟩ : ∃ i, j = i + 1 := ⟨j - 1, by omega⟩
 rw [zhy, hc]; clear hc
 rw [zlz] at h
 replace h := br h; rcases h with ⟨h1, h⟩ | ⟨h1, h⟩
 ·replace h := bn h; obtain ⟨h2, h⟩ := h
  replace h := ob h; obtain ⟨e2, h3, h⟩ := h
  replace h := bn h; obtain ⟨h4, h⟩ := h
  replace h := zbz8 M (by omega) j (by omega) _ _ _ _ _ _ _ _ h R hR
  simp only [zbza, simprocAttr, *]
 ·cases h; subst hR; simp only [zbza, simprocAttr, *]
theorem zbzd (q : Nat) (zb0a : zby9 q) : zby8 (q + 1) := by
 intro M hM j hj v25z v25l v26 r h R hR fr H hc
 obtain ⟨j, rfl⟩ : ∃ i, j = i + 1 := ⟨j - 1, by omega⟩
 rw [zhy, hc]; clear hc
 rw [zl1] at h
 replace h := br h; rcases h with ⟨h1, h⟩ | ⟨h1, h⟩
 ·replace h := ob h; obtain ⟨e3, h2, h⟩ := h
  replace h := bn h; obtain ⟨h3, h⟩ := h
  replace h := zb0a M (by omega) j (by omega) _ _ _ _ _ _ _ h R hR
  simp only [zbza, simprocAttr, *]
 ·cases h; subst hR; simp only [zbza, simprocAttr, *]
theorem zbze (q : Nat) (zb0a : zby9 q) : zby9 (q + 1) := by
 intro M hM j hj v25z v25l v26 v27 h0z h0l r h R hR fr H hc
 obtain ⟨j, rfl⟩ : ∃ i, j = i + 1 := ⟨j - 1, by omega⟩
 rw [zhy, hc]; clear hc
 rw [zl0] at h
 replace h := br h; rcases h with ⟨h1, h⟩ | ⟨h1, h⟩
 ·replace h := bn h; obtain ⟨h2, h⟩ := h
  replace h := ob h; obtain ⟨e4, h3, h⟩ := h
  replace h := bn h; obtain ⟨h4, h⟩ := h
  replace h := zb0a M (by omega) j (by omega) _ _ _ _ _ _ _ h R hR
  simp only [zbza, simprocAttr, *]
 ·cases h; subst hR; simp only [zbza, simprocAttr, *]
theorem zbzf : ∀ q, zby6 q ∧ zby7 q ∧ zby8 q ∧ zby9 q
 | 0 => by refine ⟨?_, ?_, ?_, ?_⟩ <;> (intro M hM j hj; intros; rename_i h; cases h)
 | q + 1 => by have ⟨i0, i1, i2, i3⟩ := zbzf q; exact ⟨zbzb q i0 i1 i2, zbzc q i1, zbzd q i3, zbze q i3⟩
theorem zbzg : ∀ (q N : Nat), 8 * q ≤ N → ∀ (a0 : (Sl (Sl Int))), ∀ (r : (Ow Int)), zl3 q a0 = some r → (orc T N).deep F.zl3 [(Sl.enc (Sl.enc (V.int .u8))) a0] = some [(Ow.enc 1 (V.int .u8)) r] := by
 intro q N hM a0 r h
 rcases q with _ | q
 ·cases h
 obtain ⟨M, rfl⟩ : ∃ M, N = M + 8 := ⟨N - 8, by omega⟩
 have zbz7 := (zbzf q).1
 refine byR fun R hR => ?_
 rw [zh9, zbfy, y7, zh6 z1c rfl]
 rw [zl3] at h
 replace h := zbz7 M (by omega) (M + 7) (by omega) _ _ _ _ _ _ _ _ h R hR
 simp only [zbza, simprocAttr, *]
def zbzh := y5 @kk <| y5 @ke <| y5 @kn <| y5 @zbj0 <| y5 @zbmx <| y5 @zbm6 <| y5 @zbm9 <| @zbj2
theorem zbzi : ∀ (q N : Nat), 8 * q ≤ N → ∀ (a0 : (Sl Int)), ∀ (r : (Ow Int) × Int), zl4 q a0 = some r → (orc T N).deep F.zl4 [(Sl.enc (V.int .u8)) a0] = some [(Ow.enc 1 (V.int .u8)) r.1, (V.int .i64) r.2] := by
 intro q N hM a0 r h
 rcases q with _ | q
 ·cases h
 obtain ⟨M, rfl⟩ : ∃ M, N = M + 8 := ⟨N - 8, by omega⟩
 refine byR fun R hR => ?_
 rw [zh9, zbew, y7, zh6 zvc rfl]
 rw [zl4] at h
 repeat' (first | (cases h; done) | (replace h := br h; rcases h with ⟨_, h⟩ | ⟨_, h⟩) | (replace h := ob h; obtain ⟨_, g, h⟩ := h; first | ((first | replace g := zbx7 q (M + 7) (by omega) _ _ _ g | replace g := zby5 q (M + 7) (by omega) _ _ _ g | replace g := zbzg q (M + 7) (by omega) _ _ g); try simp only [kf, simprocAttr] at g) | skip))
 all_goals (cases h; subst hR; simp only [zbzh, simprocAttr, *])
def zbzj := y5 @kk <| y5 @ke <| y5 @kn <| y5 @zbqe <| @zbqg
theorem zbzk : ∀ (q N : Nat), 8 * q ≤ N → ∀ (a0 : Int), ∀ (r : Bool), zl5 q a0 = some r → (orc T N).deep F.zl5 [(V.int .i64) a0] = some [V.bool r] := by
 intro q N hM a0 r h
 rcases q with _ | q
 ·cases h
 obtain ⟨M, rfl⟩ : ∃ M, N = M + 8 := ⟨N - 8, by omega⟩
 refine byR fun R hR => ?_
 rw [zh9, zbg1, y7, zh6 zbas rfl]
 rw [zl5] at h
 replace h := br h; rcases h with ⟨h1, h⟩ | ⟨h1, h⟩
 ·cases h; subst hR; simp only [zbzj, simprocAttr, *]
 ·cases h; subst hR; simp only [zbzj, simprocAttr, *]
def zbzl := y5 @kk <| y5 @ke <| y5 @kn <| y5 @zbqh <| y5 @zbj1 <| @zbqj
theorem zbzm : ∀ (q N : Nat), 8 * q ≤ N → ∀ (a0 : (Sl Int)), ∀ (r : (Ow Int)), zl6 q a0 = some r → (orc T N).deep F.zl6 [(Sl.enc (V.int .u8)) a0] = some [(Ow.enc 1 (V.int .u8)) r] := by
 intro q N hM a0 r h
 rcases q with _ | q
 ·cases h
 obtain ⟨M, rfl⟩ : ∃ M, N = M + 8 := ⟨N - 8, by omega⟩
 refine byR fun R hR => ?_
 rw [zh9, zbg2, y7, zh6 zbax rfl]
 rw [zl6] at h
 replace h := ob h; obtain ⟨r1, h1, h⟩ := h
 replace h1 := zbzi q (M + 7) (by omega) _ _ h1
 try simp only [kf, simprocAttr] at h1
 cases h; subst hR; simp only [zbzl, simprocAttr, *]
def zbzn := y5 @kk <| y5 @ke <| y5 @kn <| y5 @zbn5 <| y5 @zbmx <| y5 @zbqf <| y5 @zbqi <| @zbn7
theorem zbzo : ∀ (q N : Nat), 8 * q ≤ N → ∀ (a0 a1 a2 : Int), ∀ (r : (Ow Int) × Int), zl7 q a0 a1 a2 = some r → (orc T N).deep F.zl7 [(V.int .i64) a0, (V.int .i64) a1, (V.int .i64) a2] = some [(Ow.enc 1 (V.int .u8)) r.1, (V.int .i64) r.2] := by
 intro q N hM a0 a1 a2 r h
 rcases q with _ | q
 ·cases h
 obtain ⟨M, rfl⟩ : ∃ M, N = M + 8 := ⟨N - 8, by omega⟩
 refine byR fun R hR => ?_
 rw [zh9, zbga, y7, zh6 z33 rfl]
 rw [zl7] at h
 repeat' (first | (cases h; done) | (replace h := bb h; rcases h with ⟨_, _, h⟩ | ⟨_, _, h⟩) | (replace h := br h; rcases h with ⟨_, h⟩ | ⟨_, h⟩) | (replace h := ob h; obtain ⟨_, g, h⟩ := h; first | ((first | replace g := zbzk q (M + 7) (by omega) _ _ g | replace g := zbx7 q (M + 7) (by omega) _ _ _ g | replace g := zbzm q (M + 7) (by omega) _ _ g); try simp only [kf, simprocAttr] at g) | skip))
 all_goals (cases h; subst hR; simp only [zbzn, simprocAttr, *])
def zbzp := y5 @kk <| y5 @ke <| y5 @kn <| y5 @zbqk <| @zbqm
theorem zbzq : ∀ (q N : Nat), 8 * q ≤ N → ∀ (a0 : (Sl Int)), ∀ (r : Int × Bool), zl8 q a0 = some r → (orc T N).deep F.zl8 [(Sl.enc (V.int .i64)) a0] = some [(V.int .i64) r.1, V.bool r.2] := by
 intro q N hM a0 r h
 rcases q with _ | q
 ·cases h
 obtain ⟨M, rfl⟩ : ∃ M, N = M + 8 := ⟨N - 8, by omega⟩
 refine byR fun R hR => ?_
 rw [zh9, zbg3, y7, zh6 zba4 rfl]
 rw [zl8] at h
 replace h := br h; rcases h with ⟨h1, h⟩ | ⟨h1, h⟩
 ·cases h; subst hR; simp only [zbzp, simprocAttr, *]
 ·replace h := bn h; obtain ⟨h2, h⟩ := h
  replace h := ob h; obtain ⟨e1, h3, h⟩ := h
  cases h; subst hR; simp only [zbzp, simprocAttr, *]
def zbzr := y5 @kk <| y5 @ke <| y5 @kn <| y5 @zbqq <| @zbqs
theorem zbzs : ∀ (q N : Nat), 8 * q ≤ N → ∀ (a0 : Int), ∀ (r : Bool), zl9 q a0 = some r → (orc T N).deep F.zl9 [(V.int .i64) a0] = some [V.bool r] := by
 intro q N hM a0 r h
 rcases q with _ | q
 ·cases h
 obtain ⟨M, rfl⟩ : ∃ M, N = M + 8 := ⟨N - 8, by omega⟩
 refine byR fun R hR => ?_
 rw [zh9, zbg5, y7, zh6 zbbd rfl]
 rw [zl9] at h
 replace h := br h; rcases h with ⟨h1, h⟩ | ⟨h1, h⟩
 ·cases h; subst hR; simp only [zbzr, simprocAttr, *]
 ·cases h; subst hR; simp only [zbzr, simprocAttr, *]
end Go.Dvm.C
