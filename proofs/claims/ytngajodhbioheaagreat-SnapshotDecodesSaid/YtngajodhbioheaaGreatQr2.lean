/- The machine comes to these answers: part 3. -/
import Derived.Test.YtngajodhbioheaaGreatQl0
import Derived.Test.YtngajodhbioheaaGreatQr0
import Derived.Test.YtngajodhbioheaaGreatQr1
set_option linter.all false
set_option maxRecDepth 100000
set_option maxHeartbeats 4000000
namespace Go.Dvm.C
open Go Go.Dvm Go.Dvm.I
def zb1r (q : Nat) : Prop := ∀ (M : Nat) (hM : 8 * q ≤ M) (j : Nat) (hj : q ≤ j) (v6 h0_0 h0_1 : Int) (h0_2z : Bool) (h0_2l : List Int) (h0_3 : Bool) (h0_4 : Int) (h0_5z : Bool) (h0_5l : List zji) (h1_0 h1_1 : Int) (h1_2z : Bool) (h1_2l : List Int) (h1_3 : Bool) (h1_4 : Int) (h1_5z : Bool) (h1_5l : List zji) (r : Bool) (_ : znc q v6 h0_0 h0_1 h0_2z h0_2l h0_3 h0_4 h0_5z h0_5l h1_0 h1_1 h1_2z h1_2l h1_3 h1_4 h1_5z h1_5l = some r) (R : Option (List V)) (_ : some [V.bool r] = R) (fr : Fr) (H : Hp) (_ : canon 0 [2, 3, 6] fr H = ([(2, (.ptr 0 0)), (3, (.ptr 1 0)), (6, (.int .i64 v6))], [(.box [(.int .i64 h0_0), (.int .i64 h0_1), (.sl h0_2z (List.map (V.int .i64) h0_2l)), (.bool h0_3), (.int .i64 h0_4), (.sl h0_5z (List.map zji.enc h0_5l))]), (.box [(.int .i64 h1_0), (.int .i64 h1_1), (.sl h1_2z (List.map (V.int .i64) h1_2l)), (.bool h1_3), (.int .i64 h1_4), (.sl h1_5z (List.map zji.enc h1_5l))])])), fin zn2 (unw T (orc T (M + 7)) (M + 7) 0 [.blk 0, .code c_7_18] (iter 0 [2, 3, 6] (exec T (orc T (M + 7)) (M + 7) 0 c_7_15) j fr H)) = R
def zb1s := And.intro @kk <| And.intro @ke <| And.intro @kn <| And.intro @zbhh <| And.intro @zbiu <| @zbhj
theorem zb1t (q : Nat) (zb1y : zb1r q) : zb1r (q + 1) := by
 intro M hM j hj v6 h0_0 h0_1 h0_2z h0_2l h0_3 h0_4 h0_5z h0_5l h1_0 h1_1 h1_2z h1_2l h1_3 h1_4 h1_5z h1_5l r h R hR fr H hc
 obtain ⟨j, rfl⟩ : ∃ i, j = i + 1 := ⟨j - 1, by omega⟩
 rw [zhj, hc]; clear hc
 rw [znc] at h
 replace h := br h; rcases h with ⟨h1, h⟩ | ⟨h1, h⟩
 ·replace h := bn h; obtain ⟨h2, h⟩ := h
  replace h := ob h; obtain ⟨e2, h3, h⟩ := h
  replace h := ob h; obtain ⟨e3, h4, h⟩ := h
  replace h := br h; rcases h with ⟨h5, h⟩ | ⟨h5, h⟩
  ·replace h := br h; rcases h with ⟨h6, h⟩ | ⟨h6, h⟩
   ·replace h := br h; rcases h with ⟨h7, h⟩ | ⟨h7, h⟩
    ·replace h := zb1y M (by omega) j (by omega) _ _ _ _ _ _ _ _ _ _ _ _ _ _ _ _ _ _ h R hR
     simp only [zb1s, simprocAttr, *]
    ·cases h; subst hR; simp only [zb1s, simprocAttr, *]
   ·cases h; subst hR; simp only [zb1s, simprocAttr, *]
  ·cases h; subst hR; simp only [zb1s, simprocAttr, *]
 ·cases h; subst hR; simp only [zb1s, simprocAttr, *]
theorem zb1u : ∀ q, zb1r q
 | 0 => by intro M hM j hj; intros; rename_i h _ _ _ _ _; cases h
 | q + 1 => by have i0 := zb1u q; exact zb1t q i0
theorem zb1v : ∀ (q N : Nat), 8 * q ≤ N → ∀ (a0 a1 : zjj), ∀ (r : Bool), znd q a0 a1 = some r → (orc T N).deep F.znd [zjj.enc a0, zjj.enc a1] = some [V.bool r] := by
 intro q N hM a0 a1 r h
 rcases q with _ | q
 ·cases h
 obtain ⟨M, rfl⟩ : ∃ M, N = M + 8 := ⟨N - 8, by omega⟩
 have zb1y := (zb1u q)
 generalize hR : some [V.bool r] = R
 rw [zhs, zbej, y5, zhq]
 rw [znd] at h
 replace h := ob h; obtain ⟨r1, h1, h⟩ := h
 replace h1 := zb05 q (M + 7) (by omega) _ _ _ h1
 try simp only [kf, simprocAttr] at h1
 replace h := bb h; rcases h with ⟨h2', h2, h⟩ | ⟨h2', h2, h⟩
 ·replace h := br h; rcases h with ⟨h3, h⟩ | ⟨h3, h⟩
  ·replace h := br h; rcases h with ⟨h4, h⟩ | ⟨h4, h⟩
   ·replace h := zb1y M (by omega) (M + 7) (by omega) _ _ _ _ _ _ _ _ _ _ _ _ _ _ _ _ _ _ h R hR
    simp only [zb1s, simprocAttr, *]
   ·cases h; subst hR; simp only [zb1s, simprocAttr, *]
  ·cases h; subst hR; simp only [zb1s, simprocAttr, *]
 ·cases h; subst hR; simp only [zb1s, simprocAttr, *]
def zb1w := And.intro @kk <| And.intro @ke <| And.intro @kn <| And.intro @zbg5 <| And.intro @zbg9 <| And.intro @zbhc <| And.intro @zbhf <| And.intro @zbhi <| @zbg7
theorem zb1x : ∀ (q N : Nat), 8 * q ≤ N → ∀ (a0 : (Sl Int)), ∀ (r : Bool), zne q a0 = some r → (orc T N).deep F.zne [(Sl.enc (V.int .u8)) a0] = some [V.bool r] := by
 intro q N hM a0 r h
 rcases q with _ | q
 ·cases h
 obtain ⟨M, rfl⟩ : ∃ M, N = M + 8 := ⟨N - 8, by omega⟩
 generalize hR : some [V.bool r] = R
 rw [zhs, zbef, y5, zhq]
 rw [zne] at h
 replace h := ob h; obtain ⟨r1, h1, h⟩ := h
 replace h1 := zbv6 q (M + 7) (by omega)  _ h1
 replace h := br h; rcases h with ⟨h2, h⟩ | ⟨h2, h⟩
 ·cases h; subst hR; simp only [zb1w, simprocAttr, *]
 ·replace h := ob h; obtain ⟨r2, h3, h⟩ := h
  replace h3 := zbyl q (M + 7) (by omega) _ _ h3
  try simp only [kf, simprocAttr] at h3
  replace h := ob h; obtain ⟨r3, h4, h⟩ := h
  replace h4 := zb00 q (M + 7) (by omega) _ _ h4
  try simp only [kf, simprocAttr] at h4
  replace h := ob h; obtain ⟨r4, h5, h⟩ := h
  replace h5 := zb1v q (M + 7) (by omega) _ _ _ h5
  try simp only [kf, simprocAttr] at h5
  replace h := bb h; rcases h with ⟨h6', h6, h⟩ | ⟨h6', h6, h⟩
  ·replace h := bb h; rcases h with ⟨h7', h7, h⟩ | ⟨h7', h7, h⟩
   ·cases h; subst hR; simp only [zb1w, simprocAttr, *]
   ·cases h; subst hR; simp only [zb1w, simprocAttr, *]
  ·cases h; subst hR; simp only [zb1w, simprocAttr, *]
end Go.Dvm.C
