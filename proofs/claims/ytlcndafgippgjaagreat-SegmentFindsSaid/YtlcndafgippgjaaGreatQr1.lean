/- The machine comes to these answers: part 2. -/
import Derived.Test.YtlcndafgippgjaaGreatQl0
import Derived.Test.YtlcndafgippgjaaGreatQr0
set_option linter.all false
set_option maxRecDepth 100000
set_option maxHeartbeats 4000000
namespace Go.Dvm.C
open Go Go.Dvm Go.Dvm.I
def zb7z (q : Nat) : Prop := ∀ (M : Nat) (hM : 8 * q ≤ M) (j : Nat) (hj : q ≤ j) (v0 : Int) (v1z : Bool) (v1l : List Int) (h0z : Bool) (h0l : List zjs) (r : (Ow zjs) × Bool) (_ : zly q v0 v1z v1l h0z h0l = some r) (R : Option (List V)) (_ : some [(Ow.enc 7 zjs.enc) r.1, V.bool r.2] = R) (fr : Fr) (H : Hp) (_ : canon 0 [0, 1, 6] fr H = ([(0, (.int .i64 v0)), (1, (.sl v1z (List.map (V.int .u8) v1l))), (6, (.vw 0 0 0 h0l.length 1))], [(.row 0 h0z 7 (List.map zjs.enc h0l) true)])), fin z3i (unw T (orc T (M + 7)) (M + 7) 0 [.blk 0, .code z3e] (iter 0 [0, 1, 6] (exec T (orc T (M + 7)) (M + 7) 0 z3c) j fr H)) = R
def zb70 := And.intro @kk <| And.intro @ke <| And.intro @kn <| And.intro @zbuj <| And.intro @zbue <| And.intro @zbv5 <| @zbul
theorem zb71 (q : Nat) (zcba : zb7z q) : zb7z (q + 1) := by
 intro M hM j hj v0 v1z v1l h0z h0l r h R hR fr H hc
 obtain ⟨j, rfl⟩ : ∃ i, j = i + 1 := ⟨j - 1, by omega⟩
 rw [zhu, hc]; clear hc
 rw [zly] at h
 replace h := br h; rcases h with ⟨h1, h⟩ | ⟨h1, h⟩
 ·replace h := ob h; obtain ⟨r1, h2, h⟩ := h
  replace h2 := zb5u q (M + 7) (by omega) _ _ h2
  try simp only [kf, simprocAttr] at h2
  replace h := br h; rcases h with ⟨h3, h⟩ | ⟨h3, h⟩
  ·cases h; subst hR; simp only [zb70, simprocAttr, *]
  ·replace h := br h; rcases h with ⟨h4, h⟩ | ⟨h4, h⟩
   ·cases h; subst hR; simp only [zb70, simprocAttr, *]
   ·replace h := br h; rcases h with ⟨h5, h⟩ | ⟨h5, h⟩
    ·cases h; subst hR; simp only [zb70, simprocAttr, *]
    ·replace h := bn h; obtain ⟨h6, h⟩ := h
     replace h := ob h; obtain ⟨e2, h7, h⟩ := h
     replace h := br h; rcases h with ⟨h8, h⟩ | ⟨h8, h⟩
     ·replace h := bn h; obtain ⟨h9, h⟩ := h
      replace h := bn h; obtain ⟨h10, h⟩ := h
      replace h := ob h; obtain ⟨r3, h11, h⟩ := h
      replace h11 := zb7a q (M + 7) (by omega) _ _ h11
      try simp only [kf, simprocAttr] at h11
      replace h := br h; rcases h with ⟨h12, h⟩ | ⟨h12, h⟩
      ·replace h := bn h; obtain ⟨h13, h⟩ := h
       replace h := bn h; obtain ⟨h14, h⟩ := h
       replace h := bn h; obtain ⟨h15, h⟩ := h
       replace h := zcba M (by omega) j (by omega) _ _ _ _ _ _ h R hR
       simp only [zb70, simprocAttr, *]
      ·cases h; subst hR; simp only [zb70, simprocAttr, *]
     ·cases h; subst hR; simp only [zb70, simprocAttr, *]
 ·cases h; subst hR; simp only [zb70, simprocAttr, *]
theorem zb72 : ∀ q, zb7z q
 | 0 => by intro M hM j hj; intros; rename_i h _ _ _ _ _; cases h
 | q + 1 => by have i0 := zb72 q; exact zb71 q i0
theorem zb73 : ∀ (q N : Nat), 8 * q ≤ N → ∀ (a0 : Int) (a1 : (Sl Int)), ∀ (r : (Ow zjs) × Bool), zlz q a0 a1 = some r → (orc T N).deep F.zlz [(V.int .i64) a0, (Sl.enc (V.int .u8)) a1] = some [(Ow.enc 7 zjs.enc) r.1, V.bool r.2] := by
 intro q N hM a0 a1 r h
 rcases q with _ | q
 ·cases h
 obtain ⟨M, rfl⟩ : ∃ M, N = M + 8 := ⟨N - 8, by omega⟩
 have zcba := (zb72 q)
 generalize hR : some [(Ow.enc 7 zjs.enc) r.1, V.bool r.2] = R
 rw [zh3, zbov, y4, zh1]
 rw [zlz] at h
 replace h := zcba M (by omega) (M + 7) (by omega) _ _ _ _ _ _ h R hR
 simp only [zb70, simprocAttr, *]
def zb74 (q : Nat) : Prop := ∀ (M : Nat) (hM : 8 * q ≤ M) (j : Nat) (hj : q ≤ j) (v6z : Bool) (v6l : List (Sl Int)) (v7 v8 : Int) (h0z : Bool) (h0l : List (Sl Int)) (r : (Ow (Sl Int))) (_ : zl0 q v6z v6l v7 v8 h0z h0l = some r) (R : Option (List V)) (_ : some [(Ow.enc 1 (Sl.enc (V.int .u8))) r] = R) (fr : Fr) (H : Hp) (_ : canon 0 [3, 6, 7, 8] fr H = ([(3, (.vw 0 0 0 h0l.length 1)), (6, (.sl v6z (List.map (Sl.enc (V.int .u8)) v6l))), (7, (.int .i64 v7)), (8, (.int .i64 v8))], [(.row 0 h0z 1 (List.map (Sl.enc (V.int .u8)) h0l) true)])), fin zty (unw T (orc T (M + 7)) (M + 7) 0 [.blk 0, .code ztu] (iter 0 [3, 6, 7, 8] (exec T (orc T (M + 7)) (M + 7) 0 ztr) j fr H)) = R
def zb75 := And.intro @kk <| And.intro @ke <| And.intro @kn <| And.intro @zbr7 <| And.intro @zbse <| @zbr9
theorem zb76 (q : Nat) (zcbb : zb74 q) : zb74 (q + 1) := by
 intro M hM j hj v6z v6l v7 v8 h0z h0l r h R hR fr H hc
 obtain ⟨j, rfl⟩ : ∃ i, j = i + 1 := ⟨j - 1, by omega⟩
 rw [zhu, hc]; clear hc
 rw [zl0] at h
 replace h := br h; rcases h with ⟨h1, h⟩ | ⟨h1, h⟩
 ·replace h := bn h; obtain ⟨h2, h⟩ := h
  replace h := ob h; obtain ⟨e1, h3, h⟩ := h
  replace h := ob h; obtain ⟨r2, h4, h⟩ := h
  replace h4 := zb3t q (M + 7) (by omega) _ _ h4
  try simp only [kf, simprocAttr] at h4
  replace h := bn h; obtain ⟨h5, h⟩ := h
  replace h := zcbb M (by omega) j (by omega) _ _ _ _ _ _ _ h R hR
  simp only [zb75, simprocAttr, *]
 ·cases h; subst hR; simp only [zb75, simprocAttr, *]
theorem zb77 : ∀ q, zb74 q
 | 0 => by intro M hM j hj; intros; rename_i h _ _ _ _ _; cases h
 | q + 1 => by have i0 := zb77 q; exact zb76 q i0
theorem zb78 : ∀ (q N : Nat), 8 * q ≤ N → ∀ (a0 : (Sl (Sl Int))), ∀ (r : (Ow (Sl Int))), zl1 q a0 = some r → (orc T N).deep F.zl1 [(Sl.enc (Sl.enc (V.int .u8))) a0] = some [(Ow.enc 1 (Sl.enc (V.int .u8))) r] := by
 intro q N hM a0 r h
 rcases q with _ | q
 ·cases h
 obtain ⟨M, rfl⟩ : ∃ M, N = M + 8 := ⟨N - 8, by omega⟩
 have zcbb := (zb77 q)
 generalize hR : some [(Ow.enc 1 (Sl.enc (V.int .u8))) r] = R
 rw [zh3, zbn3, y4, zh1]
 rw [zl1] at h
 replace h := zcbb M (by omega) (M + 7) (by omega) _ _ _ _ _ _ _ h R hR
 simp only [zb75, simprocAttr, *]
def zb79 (q : Nat) : Prop := ∀ (M : Nat) (hM : 8 * q ≤ M) (j : Nat) (hj : q ≤ j) (w1 : Nat) (v1z : Bool) (v1l : List Int) (v19 : Int) (h1z : Bool) (h1l : List (Sl Int)) (h1x : Bool) (h3_0 h3_1 h3_2 : Int) (r : Int × Int × Int × Int × Bool) (_ : zl2 q v1z v1l v19 h1z h1l h1x h3_0 h3_1 h3_2 = some r) (R : Option (List V × Hp)) (_ : (some ([(.int .i64 r.1)], [(.box [(.int .i64 0), (.int .i64 0), (.sl true [])]), (.row w1 h1z 1 (List.map (Sl.enc (V.int .u8)) h1l) h1x), (.box [(.int .i64 r.2.1), (.int .i64 r.2.2.1), (.int .i64 r.2.2.2.1), (.sl true []), (.bool r.2.2.2.2)])]) : Option (List V × Hp)) = R) (fr : Fr) (H : Hp) (_ : canon 3 [0, 1, 5, 19] fr H = ([(0, (.ptr 2 0)), (1, (.sl v1z (List.map (V.int .u8) v1l))), (5, (.ptr 3 0)), (19, (.int .i64 v19))], [(.box [(.int .i64 0), (.int .i64 0), (.sl true [])]), (.row w1 h1z 1 (List.map (Sl.enc (V.int .u8)) h1l) h1x), (.box [(.int .i64 0), (.int .i64 0), (.int .i64 0), (.sl true []), (.bool false)]), (.box [(.int .i64 h3_0), (.int .i64 h3_1), (.int .i64 h3_2)])])), finI 3 false [.tmp 4] (unw T (orc T (M + 5)) (M + 5) 3 [.blk 0, .code zwl] (iter 3 [0, 1, 5, 19] (exec T (orc T (M + 5)) (M + 5) 3 zv6) j fr H)) = R
def zb8a := And.intro @kk <| And.intro @ke <| And.intro @kn <| And.intro @zbsv <| And.intro @zbs8 <| @zbue
theorem zb8b (q : Nat) (zcbc : zb79 q) : zb79 (q + 1) := by
 intro M hM j hj w1 v1z v1l v19 h1z h1l h1x h3_0 h3_1 h3_2 r h R hR fr H hc
 obtain ⟨j, rfl⟩ : ∃ i, j = i + 1 := ⟨j - 1, by omega⟩
 rw [zhu, hc]; clear hc
 rw [zl2] at h
 replace h := br h; rcases h with ⟨h1, h⟩ | ⟨h1, h⟩
 ·replace h := ob h; obtain ⟨r2, h2, h⟩ := h
  replace h2 := zb5u q (M + 5) (by omega) _ _ h2
  try simp only [kf, simprocAttr] at h2
  replace h := bn h; obtain ⟨h3, h⟩ := h
  replace h := bn h; obtain ⟨h4, h⟩ := h
  replace h := bc h; rcases h with ⟨h5, h⟩ | ⟨h5, h⟩
  ·replace h := br h; rcases h with ⟨h6, h⟩ | ⟨h6, h⟩
   ·cases h; subst hR; simp only [zb8a, simprocAttr, *]
   ·replace h := bn h; obtain ⟨h7, h⟩ := h
    replace h := bn h; obtain ⟨h8, h⟩ := h
    replace h := zcbc M (by omega) j (by omega) w1 _ _ _ _ _ _ _ _ _ _ h R hR
    simp only [zb8a, simprocAttr, *]
  ·replace h := bc h; rcases h with ⟨h9, h⟩ | ⟨h9, h⟩
   ·replace h := br h; rcases h with ⟨h10, h⟩ | ⟨h10, h⟩
    ·cases h; subst hR; simp only [zb8a, simprocAttr, *]
    ·replace h := bn h; obtain ⟨h11, h⟩ := h
     replace h := bn h; obtain ⟨h12, h⟩ := h
     replace h := zcbc M (by omega) j (by omega) w1 _ _ _ _ _ _ _ _ _ _ h R hR
     simp only [zb8a, simprocAttr, *]
   ·replace h := bc h; rcases h with ⟨h13, h⟩ | ⟨h13, h⟩
    ·replace h := br h; rcases h with ⟨h14, h⟩ | ⟨h14, h⟩
     ·cases h; subst hR; simp only [zb8a, simprocAttr, *]
     ·replace h := bn h; obtain ⟨h15, h⟩ := h
      replace h := bn h; obtain ⟨h16, h⟩ := h
      replace h := zcbc M (by omega) j (by omega) w1 _ _ _ _ _ _ _ _ _ _ h R hR
      simp only [zb8a, simprocAttr, *]
    ·cases h
 ·replace h := br h; rcases h with ⟨h17, h⟩ | ⟨h17, h⟩
  ·cases h; subst hR; simp only [zb8a, simprocAttr, *]
  ·replace h := ob h; obtain ⟨r3, h18, h⟩ := h
   replace h18 := zb2k q (M + 5) (by omega) _ _ h18
   replace h := bb h; rcases h with ⟨h19', h19, h⟩ | ⟨h19', h19, h⟩
   ·replace h := br h; rcases h with ⟨h20, h⟩ | ⟨h20, h⟩
    ·cases h; subst hR; simp only [zb8a, simprocAttr, *]
    ·cases h; subst hR; simp only [zb8a, simprocAttr, *]
   ·cases h; subst hR; simp only [zb8a, simprocAttr, *]
theorem zb8c : ∀ q, zb79 q
 | 0 => by intro M hM j hj; intros; rename_i h _ _ _ _ _; cases h
 | q + 1 => by have i0 := zb8c q; exact zb8b q i0
theorem zb8d : ∀ (q M : Nat), 8 * q ≤ M → ∀ (w1 : Nat), ∀ (v1z : Bool), ∀ (v1l : List Int), ∀ (h1z : Bool), ∀ (h1l : List (Sl Int)), ∀ (h1x : Bool), ∀ (r : Int × Int × Int × Int × Bool), zl3 q v1z v1l h1z h1l h1x = some r → (orc T (M + 6)).inl F.zn7 [(.ptr 2 0), (.sl v1z (List.map (V.int .u8) v1l))] [(.box [(.int .i64 0), (.int .i64 0), (.sl true [])]), (.row w1 h1z 1 (List.map (Sl.enc (V.int .u8)) h1l) h1x), (.box [(.int .i64 0), (.int .i64 0), (.int .i64 0), (.sl true []), (.bool false)])] = (some ([(.int .i64 r.1)], [(.box [(.int .i64 0), (.int .i64 0), (.sl true [])]), (.row w1 h1z 1 (List.map (Sl.enc (V.int .u8)) h1l) h1x), (.box [(.int .i64 r.2.1), (.int .i64 r.2.2.1), (.int .i64 r.2.2.2.1), (.sl true []), (.bool r.2.2.2.2)])]) : Option (List V × Hp)) := by
 intro q M hM w1 v1z v1l h1z h1l h1x r h
 rcases q with _ | q
 ·cases h
 have zcbc := (zb8c q)
 generalize hR : (some ([(.int .i64 r.1)], [(.box [(.int .i64 0), (.int .i64 0), (.sl true [])]), (.row w1 h1z 1 (List.map (Sl.enc (V.int .u8)) h1l) h1x), (.box [(.int .i64 r.2.1), (.int .i64 r.2.2.1), (.int .i64 r.2.2.2.1), (.sl true []), (.bool r.2.2.2.2)])]) : Option (List V × Hp)) = R
 rw [zbsx (n := M + 5)]
 rw [zl3] at h
 replace h := br h; rcases h with ⟨h1, h⟩ | ⟨h1, h⟩
 ·cases h; subst hR; simp only [zb8a, simprocAttr, *]
 ·replace h := ob h; obtain ⟨e1, h2, h⟩ := h
  replace h := br h; rcases h with ⟨h3, h⟩ | ⟨h3, h⟩
  ·replace h := bn h; obtain ⟨h4, h⟩ := h
   replace h := zcbc M (by omega) (M + 5) (by omega) w1 _ _ _ _ _ _ _ _ _ _ h R hR
   simp only [zb8a, simprocAttr, *]
  ·cases h; subst hR; simp only [zb8a, simprocAttr, *]
def zb8e (q : Nat) : Prop := ∀ (M : Nat) (hM : 8 * q ≤ M) (j : Nat) (hj : q ≤ j) (w1 v1len v19len : Nat) (v20 : Int) (h1z : Bool) (h1l : List (Sl Int)) (h1x : Bool) (h2_0 h2_1 h2_2 : Int) (h2_4 : Bool) (r : Nat × Int × Int × Int × Int × Int × Bool × Int × Int × Int × Int × Int × Nat × Bool × Bool × (List zjs)) (_ : zl5 q v1len v19len v20 h1z h1l h1x h2_0 h2_1 h2_2 h2_4 = some r) (R : Option (List V × Hp)) (_ : (if r.1 = 0 then (some ([(.int .i64 r.2.1), (.int .i64 r.2.2.1)], [(.box [(.int .i64 0), (.int .i64 0), (.sl true [])]), (.row w1 h1z 1 (List.map (Sl.enc (V.int .u8)) h1l) h1x), (.box [(.int .i64 r.2.2.2.1), (.int .i64 r.2.2.2.2.1), (.int .i64 r.2.2.2.2.2.1), (.sl true []), (.bool r.2.2.2.2.2.2.1)])]) : Option (List V × Hp)) else (some ([(.int .i64 r.2.2.2.2.2.2.2.1), (.int .i64 r.2.2.2.2.2.2.2.2.1)], [(.box [(.int .i64 0), (.int .i64 0), (.sl true [])]), (.row w1 h1z 1 (List.map (Sl.enc (V.int .u8)) h1l) h1x), (.box [(.int .i64 r.2.2.2.2.2.2.2.2.2.1), (.int .i64 r.2.2.2.2.2.2.2.2.2.2.1), (.int .i64 r.2.2.2.2.2.2.2.2.2.2.2.1), (.vw 3 0 0 r.2.2.2.2.2.2.2.2.2.2.2.2.1 1), (.bool r.2.2.2.2.2.2.2.2.2.2.2.2.2.1)]), (.row 0 r.2.2.2.2.2.2.2.2.2.2.2.2.2.2.1 7 (List.map zjs.enc r.2.2.2.2.2.2.2.2.2.2.2.2.2.2.2) true)]) : Option (List V × Hp))) = R) (fr : Fr) (H : Hp) (_ : canon 3 [0, 1, 19, 20, 21] fr H = ([(0, (.ptr 2 0)), (1, (.vw 1 w1 0 v1len 1)), (19, (.vw 1 w1 1 v19len 1)), (20, (.int .i64 v20)), (21, (.int .i64 0))], [(.box [(.int .i64 0), (.int .i64 0), (.sl true [])]), (.row w1 h1z 1 (List.map (Sl.enc (V.int .u8)) h1l) h1x), (.box [(.int .i64 h2_0), (.int .i64 h2_1), (.int .i64 h2_2), (.sl true []), (.bool h2_4)])])), finI 3 false [.tmp 4, .tmp 5] (unw T (orc T (M + 6)) (M + 6) 3 [.blk 0, .code zri] (iter 3 [0, 1, 19, 20, 21] (exec T (orc T (M + 6)) (M + 6) 3 zrf) j fr H)) = R
def zb8f (q : Nat) : Prop := ∀ (M : Nat) (hM : 8 * q ≤ M) (j : Nat) (hj : q ≤ j) (w1 v1len v19len : Nat) (v20 v21 : Int) (h1z : Bool) (h1l : List (Sl Int)) (h1x : Bool) (h2_0 h2_1 h2_2 : Int) (h2_4 h3z : Bool) (h3l : List zjs) (r : Nat × Int × Int × Int × Int × Int × Bool × Int × Int × Int × Int × Int × Nat × Bool × Bool × (List zjs)) (_ : zl4 q v1len v19len v20 v21 h1z h1l h1x h2_0 h2_1 h2_2 h2_4 h3z h3l = some r) (R : Option (List V × Hp)) (_ : (if r.1 = 0 then (some ([(.int .i64 r.2.1), (.int .i64 r.2.2.1)], [(.box [(.int .i64 0), (.int .i64 0), (.sl true [])]), (.row w1 h1z 1 (List.map (Sl.enc (V.int .u8)) h1l) h1x), (.box [(.int .i64 r.2.2.2.1), (.int .i64 r.2.2.2.2.1), (.int .i64 r.2.2.2.2.2.1), (.sl true []), (.bool r.2.2.2.2.2.2.1)])]) : Option (List V × Hp)) else (some ([(.int .i64 r.2.2.2.2.2.2.2.1), (.int .i64 r.2.2.2.2.2.2.2.2.1)], [(.box [(.int .i64 0), (.int .i64 0), (.sl true [])]), (.row w1 h1z 1 (List.map (Sl.enc (V.int .u8)) h1l) h1x), (.box [(.int .i64 r.2.2.2.2.2.2.2.2.2.1), (.int .i64 r.2.2.2.2.2.2.2.2.2.2.1), (.int .i64 r.2.2.2.2.2.2.2.2.2.2.2.1), (.vw 3 0 0 r.2.2.2.2.2.2.2.2.2.2.2.2.1 1), (.bool r.2.2.2.2.2.2.2.2.2.2.2.2.2.1)]), (.row 0 r.2.2.2.2.2.2.2.2.2.2.2.2.2.2.1 7 (List.map zjs.enc r.2.2.2.2.2.2.2.2.2.2.2.2.2.2.2) true)]) : Option (List V × Hp))) = R) (fr : Fr) (H : Hp) (_ : canon 3 [0, 1, 19, 20, 21] fr H = ([(0, (.ptr 2 0)), (1, (.vw 1 w1 0 v1len 1)), (19, (.vw 1 w1 1 v19len 1)), (20, (.int .i64 v20)), (21, (.int .i64 v21))], [(.box [(.int .i64 0), (.int .i64 0), (.sl true [])]), (.row w1 h1z 1 (List.map (Sl.enc (V.int .u8)) h1l) h1x), (.box [(.int .i64 h2_0), (.int .i64 h2_1), (.int .i64 h2_2), (.vw 3 0 0 h3l.length 1), (.bool h2_4)]), (.row 0 h3z 7 (List.map zjs.enc h3l) true)])), finI 3 false [.tmp 4, .tmp 5] (unw T (orc T (M + 6)) (M + 6) 3 [.blk 0, .code zri] (iter 3 [0, 1, 19, 20, 21] (exec T (orc T (M + 6)) (M + 6) 3 zrf) j fr H)) = R
def zb8g := And.intro @kk <| And.intro @ke <| And.intro @kn <| And.intro @zbrj <| And.intro @zbsy <| And.intro @zbrt <| And.intro @zbsw <| And.intro @zbuh <| And.intro @zbuk <| And.intro @zbsz <| @zbs0
theorem zb8h (q : Nat) (zcbd : zb8f q) : zb8e (q + 1) := by
 intro M hM j hj w1 v1len v19len v20 h1z h1l h1x h2_0 h2_1 h2_2 h2_4 r h R hR fr H hc
 obtain ⟨j, rfl⟩ : ∃ i, j = i + 1 := ⟨j - 1, by omega⟩
 rw [zhu, hc]; clear hc
 rw [zl5] at h
 replace h := br h; rcases h with ⟨h1, h⟩ | ⟨h1, h⟩
 ·replace h := bn h; obtain ⟨h2, h⟩ := h
  replace h := ob h; obtain ⟨e3, h3, h⟩ := h
  replace h := br h; rcases h with ⟨h4, h⟩ | ⟨h4, h⟩
  ·replace h := ob h; obtain ⟨r4, h5, h⟩ := h
   replace h5 := zb6s q (M + 5) (by omega) _ _ h5
   try simp only [kf, simprocAttr] at h5
   replace h := br h; rcases h with ⟨h6, h⟩ | ⟨h6, h⟩
   ·replace h := bb h; rcases h with ⟨h7', h7, h⟩ | ⟨h7', h7, h⟩
    ·replace h := br h; rcases h with ⟨h8, h⟩ | ⟨h8, h⟩
     ·cases h; subst hR; simp only [zb8g, simprocAttr, *]
     ·replace h := br h; rcases h with ⟨h9, h⟩ | ⟨h9, h⟩
      ·cases h; subst hR; simp only [zb8g, simprocAttr, *]
      ·replace h := ob h; obtain ⟨r5, h10, h⟩ := h
       replace h10 := zb36 q (M + 5) (by omega) _ _ _ h10
       try simp only [kf, simprocAttr] at h10
       replace h := bb h; rcases h with ⟨h11', h11, h⟩ | ⟨h11', h11, h⟩
       ·replace h := br h; rcases h with ⟨h12, h⟩ | ⟨h12, h⟩
        ·cases h; subst hR; simp only [zb8g, simprocAttr, *]
        ·replace h := bn h; obtain ⟨h13, h⟩ := h
         replace h := zcbd M (by omega) j (by omega) w1 _ _ _ _ _ _ _ _ _ _ _ _ _ _ h R hR
         simp only [zb8g, simprocAttr, *]
       ·cases h; subst hR; simp only [zb8g, simprocAttr, *]
    ·cases h; subst hR; simp only [zb8g, simprocAttr, *]
   ·cases h; subst hR; simp only [zb8g, simprocAttr, *]
  ·replace h := ob h; obtain ⟨r6, h14, h⟩ := h
   replace h14 := zb73 q (M + 5) (by omega) _ _ _ h14
   try simp only [kf, simprocAttr] at h14
   replace h := bb h; rcases h with ⟨h15', h15, h⟩ | ⟨h15', h15, h⟩
   ·replace h := bb h; rcases h with ⟨h16', h16, h⟩ | ⟨h16', h16, h⟩
    ·replace h := br h; rcases h with ⟨h17, h⟩ | ⟨h17, h⟩
     ·cases h; subst hR; simp only [zb8g, simprocAttr, *]
     ·replace h := br h; rcases h with ⟨h18, h⟩ | ⟨h18, h⟩
      ·cases h; subst hR; simp only [zb8g, simprocAttr, *]
      ·replace h := ob h; obtain ⟨r7, h19, h⟩ := h
       replace h19 := zb36 q (M + 5) (by omega) _ _ _ h19
       try simp only [kf, simprocAttr] at h19
       replace h := bb h; rcases h with ⟨h20', h20, h⟩ | ⟨h20', h20, h⟩
       ·replace h := br h; rcases h with ⟨h21, h⟩ | ⟨h21, h⟩
        ·cases h; subst hR; simp only [zb8g, simprocAttr, *]
        ·replace h := bn h; obtain ⟨h22, h⟩ := h
         replace h := zcbd M (by omega) j (by omega) w1 _ _ _ _ _ _ _ _ _ _ _ _ _ _ h R hR
         simp only [zb8g, simprocAttr, *]
       ·cases h; subst hR; simp only [zb8g, simprocAttr, *]
    ·cases h; subst hR; simp only [zb8g, simprocAttr, *]
   ·cases h; subst hR; simp only [zb8g, simprocAttr, *]
 ·cases h; subst hR; simp only [zb8g, simprocAttr, *]
theorem zb8i (q : Nat) (zcbd : zb8f q) : zb8f (q + 1) := by
 intro M hM j hj w1 v1len v19len v20 v21 h1z h1l h1x h2_0 h2_1 h2_2 h2_4 h3z h3l r h R hR fr H hc
 obtain ⟨j, rfl⟩ : ∃ i, j = i + 1 := ⟨j - 1, by omega⟩
 rw [zhu, hc]; clear hc
 rw [zl4] at h
 replace h := br h; rcases h with ⟨h1, h⟩ | ⟨h1, h⟩
 ·replace h := bn h; obtain ⟨h2, h⟩ := h
  replace h := bn h; obtain ⟨h3, h⟩ := h
  replace h := ob h; obtain ⟨e8, h4, h⟩ := h
  replace h := br h; rcases h with ⟨h5, h⟩ | ⟨h5, h⟩
  ·replace h := ob h; obtain ⟨r9, h6, h⟩ := h
   replace h6 := zb6s q (M + 5) (by omega) _ _ h6
   try simp only [kf, simprocAttr] at h6
   replace h := br h; rcases h with ⟨h7, h⟩ | ⟨h7, h⟩
   ·replace h := bb h; rcases h with ⟨h8', h8, h⟩ | ⟨h8', h8, h⟩
    ·replace h := br h; rcases h with ⟨h9, h⟩ | ⟨h9, h⟩
     ·cases h; subst hR; simp only [zb8g, simprocAttr, *]
     ·replace h := br h; rcases h with ⟨h10, h⟩ | ⟨h10, h⟩
      ·cases h; subst hR; simp only [zb8g, simprocAttr, *]
      ·replace h := ob h; obtain ⟨r10, h11, h⟩ := h
       replace h11 := zb36 q (M + 5) (by omega) _ _ _ h11
       try simp only [kf, simprocAttr] at h11
       replace h := bb h; rcases h with ⟨h12', h12, h⟩ | ⟨h12', h12, h⟩
       ·replace h := br h; rcases h with ⟨h13, h⟩ | ⟨h13, h⟩
        ·cases h; subst hR; simp only [zb8g, simprocAttr, *]
        ·replace h := bn h; obtain ⟨h14, h⟩ := h
         replace h := zcbd M (by omega) j (by omega) w1 _ _ _ _ _ _ _ _ _ _ _ _ _ _ h R hR
         simp only [zb8g, simprocAttr, *]
       ·cases h; subst hR; simp only [zb8g, simprocAttr, *]
    ·cases h; subst hR; simp only [zb8g, simprocAttr, *]
   ·cases h; subst hR; simp only [zb8g, simprocAttr, *]
  ·replace h := ob h; obtain ⟨r11, h15, h⟩ := h
   replace h15 := zb73 q (M + 5) (by omega) _ _ _ h15
   try simp only [kf, simprocAttr] at h15
   replace h := bb h; rcases h with ⟨h16', h16, h⟩ | ⟨h16', h16, h⟩
   ·replace h := bb h; rcases h with ⟨h17', h17, h⟩ | ⟨h17', h17, h⟩
    ·replace h := br h; rcases h with ⟨h18, h⟩ | ⟨h18, h⟩
     ·cases h; subst hR; simp only [zb8g, simprocAttr, *]
     ·replace h := br h; rcases h with ⟨h19, h⟩ | ⟨h19, h⟩
      ·cases h; subst hR; simp only [zb8g, simprocAttr, *]
      ·replace h := ob h; obtain ⟨r12, h20, h⟩ := h
       replace h20 := zb36 q (M + 5) (by omega) _ _ _ h20
       try simp only [kf, simprocAttr] at h20
       replace h := bb h; rcases h with ⟨h21', h21, h⟩ | ⟨h21', h21, h⟩
       ·replace h := br h; rcases h with ⟨h22, h⟩ | ⟨h22, h⟩
        ·cases h; subst hR; simp only [zb8g, simprocAttr, *]
        ·replace h := bn h; obtain ⟨h23, h⟩ := h
         replace h := zcbd M (by omega) j (by omega) w1 _ _ _ _ _ _ _ _ _ _ _ _ _ _ h R hR
         simp only [zb8g, simprocAttr, *]
       ·cases h; subst hR; simp only [zb8g, simprocAttr, *]
    ·cases h; subst hR; simp only [zb8g, simprocAttr, *]
   ·cases h; subst hR; simp only [zb8g, simprocAttr, *]
 ·cases h; subst hR; simp only [zb8g, simprocAttr, *]
theorem zb8j : ∀ q, zb8e q ∧ zb8f q
 | 0 => by refine ⟨?_, ?_⟩ <;> (intro M hM j hj; intros; rename_i h _ _ _ _ _; cases h)
 | q + 1 => by have ⟨i0, i1⟩ := zb8j q; exact ⟨zb8h q i1, zb8i q i1⟩
theorem zb8k : ∀ (q M : Nat), 8 * q ≤ M → ∀ (w1 v1len : Nat), ∀ (h1z : Bool), ∀ (h1l : List (Sl Int)), ∀ (h1x : Bool), ∀ (r : Nat × Int × Int × Int × Int × Int × Bool × Int × Int × Int × Int × Int × Nat × Bool × Bool × (List zjs)), zl6 q v1len h1z h1l h1x = some r → (orc T (M + 7)).inl F.zn5 [(.ptr 2 0), (.vw 1 w1 0 v1len 1)] [(.box [(.int .i64 0), (.int .i64 0), (.sl true [])]), (.row w1 h1z 1 (List.map (Sl.enc (V.int .u8)) h1l) h1x), (.box [(.int .i64 0), (.int .i64 0), (.int .i64 0), (.sl true []), (.bool false)])] = (if r.1 = 0 then (some ([(.int .i64 r.2.1), (.int .i64 r.2.2.1)], [(.box [(.int .i64 0), (.int .i64 0), (.sl true [])]), (.row w1 h1z 1 (List.map (Sl.enc (V.int .u8)) h1l) h1x), (.box [(.int .i64 r.2.2.2.1), (.int .i64 r.2.2.2.2.1), (.int .i64 r.2.2.2.2.2.1), (.sl true []), (.bool r.2.2.2.2.2.2.1)])]) : Option (List V × Hp)) else (some ([(.int .i64 r.2.2.2.2.2.2.2.1), (.int .i64 r.2.2.2.2.2.2.2.2.1)], [(.box [(.int .i64 0), (.int .i64 0), (.sl true [])]), (.row w1 h1z 1 (List.map (Sl.enc (V.int .u8)) h1l) h1x), (.box [(.int .i64 r.2.2.2.2.2.2.2.2.2.1), (.int .i64 r.2.2.2.2.2.2.2.2.2.2.1), (.int .i64 r.2.2.2.2.2.2.2.2.2.2.2.1), (.vw 3 0 0 r.2.2.2.2.2.2.2.2.2.2.2.2.1 1), (.bool r.2.2.2.2.2.2.2.2.2.2.2.2.2.1)]), (.row 0 r.2.2.2.2.2.2.2.2.2.2.2.2.2.2.1 7 (List.map zjs.enc r.2.2.2.2.2.2.2.2.2.2.2.2.2.2.2) true)]) : Option (List V × Hp))) := by
 intro q M hM w1 v1len h1z h1l h1x r h
 rcases q with _ | q
 ·cases h
 have ih_segment_decode_s0_l0 := (zb8j q).1
 generalize hR : (if r.1 = 0 then (some ([(.int .i64 r.2.1), (.int .i64 r.2.2.1)], [(.box [(.int .i64 0), (.int .i64 0), (.sl true [])]), (.row w1 h1z 1 (List.map (Sl.enc (V.int .u8)) h1l) h1x), (.box [(.int .i64 r.2.2.2.1), (.int .i64 r.2.2.2.2.1), (.int .i64 r.2.2.2.2.2.1), (.sl true []), (.bool r.2.2.2.2.2.2.1)])]) : Option (List V × Hp)) else (some ([(.int .i64 r.2.2.2.2.2.2.2.1), (.int .i64 r.2.2.2.2.2.2.2.2.1)], [(.box [(.int .i64 0), (.int .i64 0), (.sl true [])]), (.row w1 h1z 1 (List.map (Sl.enc (V.int .u8)) h1l) h1x), (.box [(.int .i64 r.2.2.2.2.2.2.2.2.2.1), (.int .i64 r.2.2.2.2.2.2.2.2.2.2.1), (.int .i64 r.2.2.2.2.2.2.2.2.2.2.2.1), (.vw 3 0 0 r.2.2.2.2.2.2.2.2.2.2.2.2.1 1), (.bool r.2.2.2.2.2.2.2.2.2.2.2.2.2.1)]), (.row 0 r.2.2.2.2.2.2.2.2.2.2.2.2.2.2.1 7 (List.map zjs.enc r.2.2.2.2.2.2.2.2.2.2.2.2.2.2.2) true)]) : Option (List V × Hp))) = R
 rw [zbrl (n := M + 6)]
 rw [zl6] at h
 replace h := bn h; obtain ⟨h1, h⟩ := h
 replace h := ob h; obtain ⟨e1, h2, h⟩ := h
 replace h := ob h; obtain ⟨r2, h3, h⟩ := h
 replace h3 := zb8d q M (by omega) w1 _ _ _ _ _ _ h3
 try simp only [kf, simprocAttr] at h3
 replace h := br h; rcases h with ⟨h4, h⟩ | ⟨h4, h⟩
 ·replace h := bn h; obtain ⟨h5, h⟩ := h
  replace h := ih_segment_decode_s0_l0 M (by omega) (M + 6) (by omega) w1 _ _ _ _ _ _ _ _ _ _ _ h R hR
  simp only [zb8g, simprocAttr, *]
 ·cases h; subst hR; simp only [zb8g, simprocAttr, *]
def zb8l (q : Nat) : Prop := ∀ (M : Nat) (hM : 8 * q ≤ M) (j : Nat) (hj : q ≤ j) (w1 : Nat) (v1z : Bool) (v1l : List Int) (v19 : Int) (h1z : Bool) (h1l : List (Sl Int)) (h1x : Bool) (h3_0 h3_1 h3_2 : Int) (r : Int × Int × Int × Int × Bool) (_ : zl7 q v1z v1l v19 h1z h1l h1x h3_0 h3_1 h3_2 = some r) (R : Option (List V × Hp)) (_ : (some ([(.int .i64 r.1)], [(.box [(.int .i64 0), (.int .i64 0), (.sl true [])]), (.row w1 h1z 1 (List.map (Sl.enc (V.int .u8)) h1l) h1x), (.box [(.int .i64 r.2.1), (.int .i64 r.2.2.1), (.int .i64 r.2.2.2.1), (.sl true []), (.bool r.2.2.2.2)])]) : Option (List V × Hp)) = R) (fr : Fr) (H : Hp) (_ : canon 3 [0, 1, 5, 19] fr H = ([(0, (.ptr 2 0)), (1, (.sl v1z (List.map (V.int .u8) v1l))), (5, (.ptr 3 0)), (19, (.int .i64 v19))], [(.box [(.int .i64 0), (.int .i64 0), (.sl true [])]), (.row w1 h1z 1 (List.map (Sl.enc (V.int .u8)) h1l) h1x), (.box [(.int .i64 0), (.int .i64 0), (.int .i64 0), (.sl true []), (.bool false)]), (.box [(.int .i64 h3_0), (.int .i64 h3_1), (.int .i64 h3_2)])])), finI 3 false [.tmp 4] (unw T (orc T (M + 5)) (M + 5) 3 [.blk 0, .code zwl] (iter 3 [0, 1, 5, 19] (exec T (orc T (M + 5)) (M + 5) 3 zv6) j fr H)) = R
def zb8m := And.intro @kk <| And.intro @ke <| And.intro @kn <| And.intro @zbsv <| And.intro @zbs8 <| @zbue
theorem zb8n (q : Nat) (zcbe : zb8l q) : zb8l (q + 1) := by
 intro M hM j hj w1 v1z v1l v19 h1z h1l h1x h3_0 h3_1 h3_2 r h R hR fr H hc
 obtain ⟨j, rfl⟩ : ∃ i, j = i + 1 := ⟨j - 1, by omega⟩
 rw [zhu, hc]; clear hc
 rw [zl7] at h
 replace h := br h; rcases h with ⟨h1, h⟩ | ⟨h1, h⟩
 ·replace h := ob h; obtain ⟨r2, h2, h⟩ := h
  replace h2 := zb5u q (M + 5) (by omega) _ _ h2
  try simp only [kf, simprocAttr] at h2
  replace h := bn h; obtain ⟨h3, h⟩ := h
  replace h := bn h; obtain ⟨h4, h⟩ := h
  replace h := bc h; rcases h with ⟨h5, h⟩ | ⟨h5, h⟩
  ·replace h := br h; rcases h with ⟨h6, h⟩ | ⟨h6, h⟩
   ·cases h; subst hR; simp only [zb8m, simprocAttr, *]
   ·replace h := bn h; obtain ⟨h7, h⟩ := h
    replace h := bn h; obtain ⟨h8, h⟩ := h
    replace h := zcbe M (by omega) j (by omega) w1 _ _ _ _ _ _ _ _ _ _ h R hR
    simp only [zb8m, simprocAttr, *]
  ·replace h := bc h; rcases h with ⟨h9, h⟩ | ⟨h9, h⟩
   ·replace h := br h; rcases h with ⟨h10, h⟩ | ⟨h10, h⟩
    ·cases h; subst hR; simp only [zb8m, simprocAttr, *]
    ·replace h := bn h; obtain ⟨h11, h⟩ := h
     replace h := bn h; obtain ⟨h12, h⟩ := h
     replace h := zcbe M (by omega) j (by omega) w1 _ _ _ _ _ _ _ _ _ _ h R hR
     simp only [zb8m, simprocAttr, *]
   ·replace h := bc h; rcases h with ⟨h13, h⟩ | ⟨h13, h⟩
    ·replace h := br h; rcases h with ⟨h14, h⟩ | ⟨h14, h⟩
     ·cases h; subst hR; simp only [zb8m, simprocAttr, *]
     ·replace h := bn h; obtain ⟨h15, h⟩ := h
      replace h := bn h; obtain ⟨h16, h⟩ := h
      replace h := zcbe M (by omega) j (by omega) w1 _ _ _ _ _ _ _ _ _ _ h R hR
      simp only [zb8m, simprocAttr, *]
    ·cases h
 ·replace h := br h; rcases h with ⟨h17, h⟩ | ⟨h17, h⟩
  ·cases h; subst hR; simp only [zb8m, simprocAttr, *]
  ·replace h := ob h; obtain ⟨r3, h18, h⟩ := h
   replace h18 := zb2k q (M + 5) (by omega) _ _ h18
   replace h := bb h; rcases h with ⟨h19', h19, h⟩ | ⟨h19', h19, h⟩
   ·replace h := br h; rcases h with ⟨h20, h⟩ | ⟨h20, h⟩
    ·cases h; subst hR; simp only [zb8m, simprocAttr, *]
    ·cases h; subst hR; simp only [zb8m, simprocAttr, *]
   ·cases h; subst hR; simp only [zb8m, simprocAttr, *]
theorem zb8o : ∀ q, zb8l q
 | 0 => by intro M hM j hj; intros; rename_i h _ _ _ _ _; cases h
 | q + 1 => by have i0 := zb8o q; exact zb8n q i0
theorem zb8p : ∀ (q M : Nat), 8 * q ≤ M → ∀ (w1 : Nat), ∀ (v1z : Bool), ∀ (v1l : List Int), ∀ (h1z : Bool), ∀ (h1l : List (Sl Int)), ∀ (h1x : Bool), ∀ (r : Int × Int × Int × Int × Bool), zl8 q v1z v1l h1z h1l h1x = some r → (orc T (M + 6)).inl F.zn7 [(.ptr 2 0), (.sl v1z (List.map (V.int .u8) v1l))] [(.box [(.int .i64 0), (.int .i64 0), (.sl true [])]), (.row w1 h1z 1 (List.map (Sl.enc (V.int .u8)) h1l) h1x), (.box [(.int .i64 0), (.int .i64 0), (.int .i64 0), (.sl true []), (.bool false)])] = (some ([(.int .i64 r.1)], [(.box [(.int .i64 0), (.int .i64 0), (.sl true [])]), (.row w1 h1z 1 (List.map (Sl.enc (V.int .u8)) h1l) h1x), (.box [(.int .i64 r.2.1), (.int .i64 r.2.2.1), (.int .i64 r.2.2.2.1), (.sl true []), (.bool r.2.2.2.2)])]) : Option (List V × Hp)) := by
 intro q M hM w1 v1z v1l h1z h1l h1x r h
 rcases q with _ | q
 ·cases h
 have zcbe := (zb8o q)
 generalize hR : (some ([(.int .i64 r.1)], [(.box [(.int .i64 0), (.int .i64 0), (.sl true [])]), (.row w1 h1z 1 (List.map (Sl.enc (V.int .u8)) h1l) h1x), (.box [(.int .i64 r.2.1), (.int .i64 r.2.2.1), (.int .i64 r.2.2.2.1), (.sl true []), (.bool r.2.2.2.2)])]) : Option (List V × Hp)) = R
 rw [zbsx (n := M + 5)]
 rw [zl8] at h
 replace h := br h; rcases h with ⟨h1, h⟩ | ⟨h1, h⟩
 ·cases h; subst hR; simp only [zb8m, simprocAttr, *]
 ·replace h := ob h; obtain ⟨e1, h2, h⟩ := h
  replace h := br h; rcases h with ⟨h3, h⟩ | ⟨h3, h⟩
  ·replace h := bn h; obtain ⟨h4, h⟩ := h
   replace h := zcbe M (by omega) (M + 5) (by omega) w1 _ _ _ _ _ _ _ _ _ _ h R hR
   simp only [zb8m, simprocAttr, *]
  ·cases h; subst hR; simp only [zb8m, simprocAttr, *]
def zb8q (q : Nat) : Prop := ∀ (M : Nat) (hM : 8 * q ≤ M) (j : Nat) (hj : q ≤ j) (w1 v1len v19len : Nat) (v20 : Int) (h1z : Bool) (h1l : List (Sl Int)) (h1x : Bool) (h2_0 h2_1 h2_2 : Int) (h2_4 : Bool) (r : Nat × Int × Int × Int × Int × Int × Bool × Int × Int × Int × Int × Int × Nat × Bool × Bool × (List zjs)) (_ : zma q v1len v19len v20 h1z h1l h1x h2_0 h2_1 h2_2 h2_4 = some r) (R : Option (List V × Hp)) (_ : (if r.1 = 0 then (some ([(.int .i64 r.2.1), (.int .i64 r.2.2.1)], [(.box [(.int .i64 0), (.int .i64 0), (.sl true [])]), (.row w1 h1z 1 (List.map (Sl.enc (V.int .u8)) h1l) h1x), (.box [(.int .i64 r.2.2.2.1), (.int .i64 r.2.2.2.2.1), (.int .i64 r.2.2.2.2.2.1), (.sl true []), (.bool r.2.2.2.2.2.2.1)])]) : Option (List V × Hp)) else (some ([(.int .i64 r.2.2.2.2.2.2.2.1), (.int .i64 r.2.2.2.2.2.2.2.2.1)], [(.box [(.int .i64 0), (.int .i64 0), (.sl true [])]), (.row w1 h1z 1 (List.map (Sl.enc (V.int .u8)) h1l) h1x), (.box [(.int .i64 r.2.2.2.2.2.2.2.2.2.1), (.int .i64 r.2.2.2.2.2.2.2.2.2.2.1), (.int .i64 r.2.2.2.2.2.2.2.2.2.2.2.1), (.vw 3 0 0 r.2.2.2.2.2.2.2.2.2.2.2.2.1 1), (.bool r.2.2.2.2.2.2.2.2.2.2.2.2.2.1)]), (.row 0 r.2.2.2.2.2.2.2.2.2.2.2.2.2.2.1 7 (List.map zjs.enc r.2.2.2.2.2.2.2.2.2.2.2.2.2.2.2) true)]) : Option (List V × Hp))) = R) (fr : Fr) (H : Hp) (_ : canon 3 [0, 1, 19, 20, 21] fr H = ([(0, (.ptr 2 0)), (1, (.vw 1 w1 0 v1len 0)), (19, (.vw 1 w1 1 v19len 0)), (20, (.int .i64 v20)), (21, (.int .i64 0))], [(.box [(.int .i64 0), (.int .i64 0), (.sl true [])]), (.row w1 h1z 1 (List.map (Sl.enc (V.int .u8)) h1l) h1x), (.box [(.int .i64 h2_0), (.int .i64 h2_1), (.int .i64 h2_2), (.sl true []), (.bool h2_4)])])), finI 3 false [.tmp 4, .tmp 5] (unw T (orc T (M + 6)) (M + 6) 3 [.blk 0, .code zri] (iter 3 [0, 1, 19, 20, 21] (exec T (orc T (M + 6)) (M + 6) 3 zrf) j fr H)) = R
def zb8r (q : Nat) : Prop := ∀ (M : Nat) (hM : 8 * q ≤ M) (j : Nat) (hj : q ≤ j) (w1 v1len v19len : Nat) (v20 v21 : Int) (h1z : Bool) (h1l : List (Sl Int)) (h1x : Bool) (h2_0 h2_1 h2_2 : Int) (h2_4 h3z : Bool) (h3l : List zjs) (r : Nat × Int × Int × Int × Int × Int × Bool × Int × Int × Int × Int × Int × Nat × Bool × Bool × (List zjs)) (_ : zl9 q v1len v19len v20 v21 h1z h1l h1x h2_0 h2_1 h2_2 h2_4 h3z h3l = some r) (R : Option (List V × Hp)) (_ : (if r.1 = 0 then (some ([(.int .i64 r.2.1), (.int .i64 r.2.2.1)], [(.box [(.int .i64 0), (.int .i64 0), (.sl true [])]), (.row w1 h1z 1 (List.map (Sl.enc (V.int .u8)) h1l) h1x), (.box [(.int .i64 r.2.2.2.1), (.int .i64 r.2.2.2.2.1), (.int .i64 r.2.2.2.2.2.1), (.sl true []), (.bool r.2.2.2.2.2.2.1)])]) : Option (List V × Hp)) else (some ([(.int .i64 r.2.2.2.2.2.2.2.1), (.int .i64 r.2.2.2.2.2.2.2.2.1)], [(.box [(.int .i64 0), (.int .i64 0), (.sl true [])]), (.row w1 h1z 1 (List.map (Sl.enc (V.int .u8)) h1l) h1x), (.box [(.int .i64 r.2.2.2.2.2.2.2.2.2.1), (.int .i64 r.2.2.2.2.2.2.2.2.2.2.1), (.int .i64 r.2.2.2.2.2.2.2.2.2.2.2.1), (.vw 3 0 0 r.2.2.2.2.2.2.2.2.2.2.2.2.1 1), (.bool r.2.2.2.2.2.2.2.2.2.2.2.2.2.1)]), (.row 0 r.2.2.2.2.2.2.2.2.2.2.2.2.2.2.1 7 (List.map zjs.enc r.2.2.2.2.2.2.2.2.2.2.2.2.2.2.2) true)]) : Option (List V × Hp))) = R) (fr : Fr) (H : Hp) (_ : canon 3 [0, 1, 19, 20, 21] fr H = ([(0, (.ptr 2 0)), (1, (.vw 1 w1 0 v1len 0)), (19, (.vw 1 w1 1 v19len 0)), (20, (.int .i64 v20)), (21, (.int .i64 v21))], [(.box [(.int .i64 0), (.int .i64 0), (.sl true [])]), (.row w1 h1z 1 (List.map (Sl.enc (V.int .u8)) h1l) h1x), (.box [(.int .i64 h2_0), (.int .i64 h2_1), (.int .i64 h2_2), (.vw 3 0 0 h3l.length 1), (.bool h2_4)]), (.row 0 h3z 7 (List.map zjs.enc h3l) true)])), finI 3 false [.tmp 4, .tmp 5] (unw T (orc T (M + 6)) (M + 6) 3 [.blk 0, .code zri] (iter 3 [0, 1, 19, 20, 21] (exec T (orc T (M + 6)) (M + 6) 3 zrf) j fr H)) = R
def zb8s := And.intro @kk <| And.intro @ke <| And.intro @kn <| And.intro @zbrj <| And.intro @zbsy <| And.intro @zbrt <| And.intro @zbsw <| And.intro @zbuh <| And.intro @zbuk <| And.intro @zbsz <| @zbs0
theorem zb8t (q : Nat) (zcbf : zb8r q) : zb8q (q + 1) := by
 intro M hM j hj w1 v1len v19len v20 h1z h1l h1x h2_0 h2_1 h2_2 h2_4 r h R hR fr H hc
 obtain ⟨j, rfl⟩ : ∃ i, j = i + 1 := ⟨j - 1, by omega⟩
 rw [zhu, hc]; clear hc
 rw [zma] at h
 replace h := br h; rcases h with ⟨h1, h⟩ | ⟨h1, h⟩
 ·replace h := bn h; obtain ⟨h2, h⟩ := h
  replace h := ob h; obtain ⟨e3, h3, h⟩ := h
  replace h := br h; rcases h with ⟨h4, h⟩ | ⟨h4, h⟩
  ·replace h := ob h; obtain ⟨r4, h5, h⟩ := h
   replace h5 := zb6s q (M + 5) (by omega) _ _ h5
   try simp only [kf, simprocAttr] at h5
   replace h := br h; rcases h with ⟨h6, h⟩ | ⟨h6, h⟩
   ·replace h := bb h; rcases h with ⟨h7', h7, h⟩ | ⟨h7', h7, h⟩
    ·replace h := br h; rcases h with ⟨h8, h⟩ | ⟨h8, h⟩
     ·cases h; subst hR; simp only [zb8s, simprocAttr, *]
     ·replace h := br h; rcases h with ⟨h9, h⟩ | ⟨h9, h⟩
      ·cases h; subst hR; simp only [zb8s, simprocAttr, *]
      ·replace h := ob h; obtain ⟨r5, h10, h⟩ := h
       replace h10 := zb36 q (M + 5) (by omega) _ _ _ h10
       try simp only [kf, simprocAttr] at h10
       replace h := bb h; rcases h with ⟨h11', h11, h⟩ | ⟨h11', h11, h⟩
       ·replace h := br h; rcases h with ⟨h12, h⟩ | ⟨h12, h⟩
        ·cases h; subst hR; simp only [zb8s, simprocAttr, *]
        ·replace h := bn h; obtain ⟨h13, h⟩ := h
         replace h := zcbf M (by omega) j (by omega) w1 _ _ _ _ _ _ _ _ _ _ _ _ _ _ h R hR
         simp only [zb8s, simprocAttr, *]
       ·cases h; subst hR; simp only [zb8s, simprocAttr, *]
    ·cases h; subst hR; simp only [zb8s, simprocAttr, *]
   ·cases h; subst hR; simp only [zb8s, simprocAttr, *]
  ·replace h := ob h; obtain ⟨r6, h14, h⟩ := h
   replace h14 := zb73 q (M + 5) (by omega) _ _ _ h14
   try simp only [kf, simprocAttr] at h14
   replace h := bb h; rcases h with ⟨h15', h15, h⟩ | ⟨h15', h15, h⟩
   ·replace h := bb h; rcases h with ⟨h16', h16, h⟩ | ⟨h16', h16, h⟩
    ·replace h := br h; rcases h with ⟨h17, h⟩ | ⟨h17, h⟩
     ·cases h; subst hR; simp only [zb8s, simprocAttr, *]
     ·replace h := br h; rcases h with ⟨h18, h⟩ | ⟨h18, h⟩
      ·cases h; subst hR; simp only [zb8s, simprocAttr, *]
      ·replace h := ob h; obtain ⟨r7, h19, h⟩ := h
       replace h19 := zb36 q (M + 5) (by omega) _ _ _ h19
       try simp only [kf, simprocAttr] at h19
       replace h := bb h; rcases h with ⟨h20', h20, h⟩ | ⟨h20', h20, h⟩
       ·replace h := br h; rcases h with ⟨h21, h⟩ | ⟨h21, h⟩
        ·cases h; subst hR; simp only [zb8s, simprocAttr, *]
        ·replace h := bn h; obtain ⟨h22, h⟩ := h
         replace h := zcbf M (by omega) j (by omega) w1 _ _ _ _ _ _ _ _ _ _ _ _ _ _ h R hR
         simp only [zb8s, simprocAttr, *]
       ·cases h; subst hR; simp only [zb8s, simprocAttr, *]
    ·cases h; subst hR; simp only [zb8s, simprocAttr, *]
   ·cases h; subst hR; simp only [zb8s, simprocAttr, *]
 ·cases h; subst hR; simp only [zb8s, simprocAttr, *]
theorem zb8u (q : Nat) (zcbf : zb8r q) : zb8r (q + 1) := by
 intro M hM j hj w1 v1len v19len v20 v21 h1z h1l h1x h2_0 h2_1 h2_2 h2_4 h3z h3l r h R hR fr H hc
 obtain ⟨j, rfl⟩ : ∃ i, j = i + 1 := ⟨j - 1, by omega⟩
 rw [zhu, hc]; clear hc
 rw [zl9] at h
 replace h := br h; rcases h with ⟨h1, h⟩ | ⟨h1, h⟩
 ·replace h := bn h; obtain ⟨h2, h⟩ := h
  replace h := bn h; obtain ⟨h3, h⟩ := h
  replace h := ob h; obtain ⟨e8, h4, h⟩ := h
  replace h := br h; rcases h with ⟨h5, h⟩ | ⟨h5, h⟩
  ·replace h := ob h; obtain ⟨r9, h6, h⟩ := h
   replace h6 := zb6s q (M + 5) (by omega) _ _ h6
   try simp only [kf, simprocAttr] at h6
   replace h := br h; rcases h with ⟨h7, h⟩ | ⟨h7, h⟩
   ·replace h := bb h; rcases h with ⟨h8', h8, h⟩ | ⟨h8', h8, h⟩
    ·replace h := br h; rcases h with ⟨h9, h⟩ | ⟨h9, h⟩
     ·cases h; subst hR; simp only [zb8s, simprocAttr, *]
     ·replace h := br h; rcases h with ⟨h10, h⟩ | ⟨h10, h⟩
      ·cases h; subst hR; simp only [zb8s, simprocAttr, *]
      ·replace h := ob h; obtain ⟨r10, h11, h⟩ := h
       replace h11 := zb36 q (M + 5) (by omega) _ _ _ h11
       try simp only [kf, simprocAttr] at h11
       replace h := bb h; rcases h with ⟨h12', h12, h⟩ | ⟨h12', h12, h⟩
       ·replace h := br h; rcases h with ⟨h13, h⟩ | ⟨h13, h⟩
        ·cases h; subst hR; simp only [zb8s, simprocAttr, *]
        ·replace h := bn h; obtain ⟨h14, h⟩ := h
         replace h := zcbf M (by omega) j (by omega) w1 _ _ _ _ _ _ _ _ _ _ _ _ _ _ h R hR
         simp only [zb8s, simprocAttr, *]
       ·cases h; subst hR; simp only [zb8s, simprocAttr, *]
    ·cases h; subst hR; simp only [zb8s, simprocAttr, *]
   ·cases h; subst hR; simp only [zb8s, simprocAttr, *]
  ·replace h := ob h; obtain ⟨r11, h15, h⟩ := h
   replace h15 := zb73 q (M + 5) (by omega) _ _ _ h15
   try simp only [kf, simprocAttr] at h15
   replace h := bb h; rcases h with ⟨h16', h16, h⟩ | ⟨h16', h16, h⟩
   ·replace h := bb h; rcases h with ⟨h17', h17, h⟩ | ⟨h17', h17, h⟩
    ·replace h := br h; rcases h with ⟨h18, h⟩ | ⟨h18, h⟩
     ·cases h; subst hR; simp only [zb8s, simprocAttr, *]
     ·replace h := br h; rcases h with ⟨h19, h⟩ | ⟨h19, h⟩
      ·cases h; subst hR; simp only [zb8s, simprocAttr, *]
      ·replace h := ob h; obtain ⟨r12, h20, h⟩ := h
       replace h20 := zb36 q (M + 5) (by omega) _ _ _ h20
       try simp only [kf, simprocAttr] at h20
       replace h := bb h; rcases h with ⟨h21', h21, h⟩ | ⟨h21', h21, h⟩
       ·replace h := br h; rcases h with ⟨h22, h⟩ | ⟨h22, h⟩
        ·cases h; subst hR; simp only [zb8s, simprocAttr, *]
        ·replace h := bn h; obtain ⟨h23, h⟩ := h
         replace h := zcbf M (by omega) j (by omega) w1 _ _ _ _ _ _ _ _ _ _ _ _ _ _ h R hR
         simp only [zb8s, simprocAttr, *]
       ·cases h; subst hR; simp only [zb8s, simprocAttr, *]
    ·cases h; subst hR; simp only [zb8s, simprocAttr, *]
   ·cases h; subst hR; simp only [zb8s, simprocAttr, *]
 ·cases h; subst hR; simp only [zb8s, simprocAttr, *]
theorem zb8v : ∀ q, zb8q q ∧ zb8r q
 | 0 => by refine ⟨?_, ?_⟩ <;> (intro M hM j hj; intros; rename_i h _ _ _ _ _; cases h)
 | q + 1 => by have ⟨i0, i1⟩ := zb8v q; exact ⟨zb8t q i1, zb8u q i1⟩
theorem zb8w : ∀ (q M : Nat), 8 * q ≤ M → ∀ (w1 v1len : Nat), ∀ (h1z : Bool), ∀ (h1l : List (Sl Int)), ∀ (h1x : Bool), ∀ (r : Nat × Int × Int × Int × Int × Int × Bool × Int × Int × Int × Int × Int × Nat × Bool × Bool × (List zjs)), zmb q v1len h1z h1l h1x = some r → (orc T (M + 7)).inl F.zn5 [(.ptr 2 0), (.vw 1 w1 0 v1len 0)] [(.box [(.int .i64 0), (.int .i64 0), (.sl true [])]), (.row w1 h1z 1 (List.map (Sl.enc (V.int .u8)) h1l) h1x), (.box [(.int .i64 0), (.int .i64 0), (.int .i64 0), (.sl true []), (.bool false)])] = (if r.1 = 0 then (some ([(.int .i64 r.2.1), (.int .i64 r.2.2.1)], [(.box [(.int .i64 0), (.int .i64 0), (.sl true [])]), (.row w1 h1z 1 (List.map (Sl.enc (V.int .u8)) h1l) h1x), (.box [(.int .i64 r.2.2.2.1), (.int .i64 r.2.2.2.2.1), (.int .i64 r.2.2.2.2.2.1), (.sl true []), (.bool r.2.2.2.2.2.2.1)])]) : Option (List V × Hp)) else (some ([(.int .i64 r.2.2.2.2.2.2.2.1), (.int .i64 r.2.2.2.2.2.2.2.2.1)], [(.box [(.int .i64 0), (.int .i64 0), (.sl true [])]), (.row w1 h1z 1 (List.map (Sl.enc (V.int .u8)) h1l) h1x), (.box [(.int .i64 r.2.2.2.2.2.2.2.2.2.1), (.int .i64 r.2.2.2.2.2.2.2.2.2.2.1), (.int .i64 r.2.2.2.2.2.2.2.2.2.2.2.1), (.vw 3 0 0 r.2.2.2.2.2.2.2.2.2.2.2.2.1 1), (.bool r.2.2.2.2.2.2.2.2.2.2.2.2.2.1)]), (.row 0 r.2.2.2.2.2.2.2.2.2.2.2.2.2.2.1 7 (List.map zjs.enc r.2.2.2.2.2.2.2.2.2.2.2.2.2.2.2) true)]) : Option (List V × Hp))) := by
 intro q M hM w1 v1len h1z h1l h1x r h
 rcases q with _ | q
 ·cases h
 have ih_segment_decode_s1_l0 := (zb8v q).1
 generalize hR : (if r.1 = 0 then (some ([(.int .i64 r.2.1), (.int .i64 r.2.2.1)], [(.box [(.int .i64 0), (.int .i64 0), (.sl true [])]), (.row w1 h1z 1 (List.map (Sl.enc (V.int .u8)) h1l) h1x), (.box [(.int .i64 r.2.2.2.1), (.int .i64 r.2.2.2.2.1), (.int .i64 r.2.2.2.2.2.1), (.sl true []), (.bool r.2.2.2.2.2.2.1)])]) : Option (List V × Hp)) else (some ([(.int .i64 r.2.2.2.2.2.2.2.1), (.int .i64 r.2.2.2.2.2.2.2.2.1)], [(.box [(.int .i64 0), (.int .i64 0), (.sl true [])]), (.row w1 h1z 1 (List.map (Sl.enc (V.int .u8)) h1l) h1x), (.box [(.int .i64 r.2.2.2.2.2.2.2.2.2.1), (.int .i64 r.2.2.2.2.2.2.2.2.2.2.1), (.int .i64 r.2.2.2.2.2.2.2.2.2.2.2.1), (.vw 3 0 0 r.2.2.2.2.2.2.2.2.2.2.2.2.1 1), (.bool r.2.2.2.2.2.2.2.2.2.2.2.2.2.1)]), (.row 0 r.2.2.2.2.2.2.2.2.2.2.2.2.2.2.1 7 (List.map zjs.enc r.2.2.2.2.2.2.2.2.2.2.2.2.2.2.2) true)]) : Option (List V × Hp))) = R
 rw [zbrl (n := M + 6)]
 rw [zmb] at h
 replace h := bn h; obtain ⟨h1, h⟩ := h
 replace h := ob h; obtain ⟨e1, h2, h⟩ := h
 replace h := ob h; obtain ⟨r2, h3, h⟩ := h
 replace h3 := zb8p q M (by omega) w1 _ _ _ _ _ _ h3
 try simp only [kf, simprocAttr] at h3
 replace h := br h; rcases h with ⟨h4, h⟩ | ⟨h4, h⟩
 ·replace h := bn h; obtain ⟨h5, h⟩ := h
  replace h := ih_segment_decode_s1_l0 M (by omega) (M + 6) (by omega) w1 _ _ _ _ _ _ _ _ _ _ _ h R hR
  simp only [zb8s, simprocAttr, *]
 ·cases h; subst hR; simp only [zb8s, simprocAttr, *]
def zb8x := And.intro @kk <| And.intro @ke <| And.intro @kn <| And.intro @zbq1 <| And.intro @zbrk <| And.intro @zbr2 <| And.intro @zbr5 <| And.intro @zbr8 <| And.intro @zbsb <| And.intro @zbse <| @zbq3
theorem zb8y : ∀ (q N : Nat), 8 * q ≤ N → ∀ (a0 : (Sl Int)), ∀ (r : zjt × (Ow (Sl Int)) × Int), zmc q a0 = some r → (orc T N).deep F.zmc [(Sl.enc (V.int .u8)) a0] = some [zjt.enc r.1, (Ow.enc 1 (Sl.enc (V.int .u8))) r.2.1, (V.int .i64) r.2.2] := by
 intro q N hM a0 r h
 rcases q with _ | q
 ·cases h
 obtain ⟨M, rfl⟩ : ∃ M, N = M + 8 := ⟨N - 8, by omega⟩
 generalize hR : some [zjt.enc r.1, (Ow.enc 1 (Sl.enc (V.int .u8))) r.2.1, (V.int .i64) r.2.2] = R
 rw [zh3, zbnp, y4, zh1]
 rw [zmc] at h
 replace h := ob h; obtain ⟨r1, h1, h⟩ := h
 replace h1 := zb6a q (M + 7) (by omega) _ _ h1
 try simp only [kf, simprocAttr] at h1
 replace h := br h; rcases h with ⟨h2, h⟩ | ⟨h2, h⟩
 ·replace h := br h; rcases h with ⟨h3, h⟩ | ⟨h3, h⟩
  ·cases h; subst hR; simp only [zb8x, simprocAttr, *]
  ·replace h := bn h; obtain ⟨h4, h⟩ := h
   replace h := bn h; obtain ⟨h5, h⟩ := h
   replace h := bb h; rcases h with ⟨h6', h6, h⟩ | ⟨h6', h6, h⟩
   ·replace h := ob h; obtain ⟨r2, h7, h⟩ := h
    replace h7 := zb8k q M (by omega) 0 _ _ _ _ _ h7
    try simp only [kf, simprocAttr] at h7
    replace h := br h; rcases h with ⟨h8, h⟩ | ⟨h8, h⟩
    ·replace h := br h; rcases h with ⟨h9, h⟩ | ⟨h9, h⟩
     ·replace h := ob h; obtain ⟨r3, h10, h⟩ := h
      replace h10 := zb78 q (M + 7) (by omega) _ _ h10
      try simp only [kf, simprocAttr] at h10
      replace h := ob h; obtain ⟨r4, h11, h⟩ := h
      replace h11 := zb5a q (M + 7) (by omega) _ _ h11
      try simp only [kf, simprocAttr] at h11
      replace h := bn h; obtain ⟨h12, h⟩ := h
      replace h := ob h; obtain ⟨e5, h13, h⟩ := h
      replace h := ob h; obtain ⟨r6, h14, h⟩ := h
      replace h14 := zb3t q (M + 7) (by omega) _ _ h14
      try simp only [kf, simprocAttr] at h14
      replace h := ob h; obtain ⟨r7, h15, h⟩ := h
      replace h15 := zb6n q (M + 7) (by omega) _ _ _ h15
      try simp only [kf, simprocAttr] at h15
      replace h := bb h; rcases h with ⟨h16', h16, h⟩ | ⟨h16', h16, h⟩
      ·cases h; subst hR; simp only [zb8x, simprocAttr, *]
      ·cases h; subst hR; simp only [zb8x, simprocAttr, *]
     ·cases h; subst hR; simp only [zb8x, simprocAttr, *]
    ·replace h := br h; rcases h with ⟨h17, h⟩ | ⟨h17, h⟩
     ·replace h := ob h; obtain ⟨r8, h18, h⟩ := h
      replace h18 := zb78 q (M + 7) (by omega) _ _ h18
      try simp only [kf, simprocAttr] at h18
      replace h := ob h; obtain ⟨r9, h19, h⟩ := h
      replace h19 := zb5a q (M + 7) (by omega) _ _ h19
      try simp only [kf, simprocAttr] at h19
      replace h := bn h; obtain ⟨h20, h⟩ := h
      replace h := ob h; obtain ⟨e10, h21, h⟩ := h
      replace h := ob h; obtain ⟨r11, h22, h⟩ := h
      replace h22 := zb3t q (M + 7) (by omega) _ _ h22
      try simp only [kf, simprocAttr] at h22
      replace h := ob h; obtain ⟨r12, h23, h⟩ := h
      replace h23 := zb6n q (M + 7) (by omega) _ _ _ h23
      try simp only [kf, simprocAttr] at h23
      replace h := bb h; rcases h with ⟨h24', h24, h⟩ | ⟨h24', h24, h⟩
      ·cases h; subst hR; simp only [zb8x, simprocAttr, *]
      ·cases h; subst hR; simp only [zb8x, simprocAttr, *]
     ·cases h; subst hR; simp only [zb8x, simprocAttr, *]
   ·replace h := ob h; obtain ⟨r13, h25, h⟩ := h
    replace h25 := zb8w q M (by omega) 0 _ _ _ _ _ h25
    try simp only [kf, simprocAttr] at h25
    replace h := br h; rcases h with ⟨h26, h⟩ | ⟨h26, h⟩
    ·replace h := br h; rcases h with ⟨h27, h⟩ | ⟨h27, h⟩
     ·replace h := ob h; obtain ⟨r14, h28, h⟩ := h
      replace h28 := zb78 q (M + 7) (by omega) _ _ h28
      try simp only [kf, simprocAttr] at h28
      replace h := ob h; obtain ⟨r15, h29, h⟩ := h
      replace h29 := zb5a q (M + 7) (by omega) _ _ h29
      try simp only [kf, simprocAttr] at h29
      replace h := bn h; obtain ⟨h30, h⟩ := h
      replace h := ob h; obtain ⟨e16, h31, h⟩ := h
      replace h := ob h; obtain ⟨r17, h32, h⟩ := h
      replace h32 := zb3t q (M + 7) (by omega) _ _ h32
      try simp only [kf, simprocAttr] at h32
      replace h := ob h; obtain ⟨r18, h33, h⟩ := h
      replace h33 := zb6n q (M + 7) (by omega) _ _ _ h33
      try simp only [kf, simprocAttr] at h33
      replace h := bb h; rcases h with ⟨h34', h34, h⟩ | ⟨h34', h34, h⟩
      ·cases h; subst hR; simp only [zb8x, simprocAttr, *]
      ·cases h; subst hR; simp only [zb8x, simprocAttr, *]
     ·cases h; subst hR; simp only [zb8x, simprocAttr, *]
    ·replace h := br h; rcases h with ⟨h35, h⟩ | ⟨h35, h⟩
     ·replace h := ob h; obtain ⟨r19, h36, h⟩ := h
      replace h36 := zb78 q (M + 7) (by omega) _ _ h36
      try simp only [kf, simprocAttr] at h36
      replace h := ob h; obtain ⟨r20, h37, h⟩ := h
      replace h37 := zb5a q (M + 7) (by omega) _ _ h37
      try simp only [kf, simprocAttr] at h37
      replace h := bn h; obtain ⟨h38, h⟩ := h
      replace h := ob h; obtain ⟨e21, h39, h⟩ := h
      replace h := ob h; obtain ⟨r22, h40, h⟩ := h
      replace h40 := zb3t q (M + 7) (by omega) _ _ h40
      try simp only [kf, simprocAttr] at h40
      replace h := ob h; obtain ⟨r23, h41, h⟩ := h
      replace h41 := zb6n q (M + 7) (by omega) _ _ _ h41
      try simp only [kf, simprocAttr] at h41
      replace h := bb h; rcases h with ⟨h42', h42, h⟩ | ⟨h42', h42, h⟩
      ·cases h; subst hR; simp only [zb8x, simprocAttr, *]
      ·cases h; subst hR; simp only [zb8x, simprocAttr, *]
     ·cases h; subst hR; simp only [zb8x, simprocAttr, *]
 ·cases h; subst hR; simp only [zb8x, simprocAttr, *]
def zb8z (q : Nat) : Prop := ∀ (M : Nat) (hM : 8 * q ≤ M) (j : Nat) (hj : q ≤ j) (v9 : Int) (v44len : Nat) (v45 v46 : Int) (h0z : Bool) (h0l : List (Sl Int)) (h0x : Bool) (r : Int × Int) (_ : zmd q v9 v44len v45 v46 h0z h0l h0x = some r) (R : Option (List V)) (_ : some [(V.int .i64) r.1, (V.int .i64) r.2] = R) (fr : Fr) (H : Hp) (_ : canon 0 [9, 44, 45, 46] fr H = ([(9, (.int .i64 v9)), (44, (.vw 0 0 0 v44len 1)), (45, (.int .i64 v45)), (46, (.int .i64 v46))], [(.row 0 h0z 1 (List.map (Sl.enc (V.int .u8)) h0l) h0x)])), fin zom (unw T (orc T (M + 7)) (M + 7) 0 [.blk 1, .code c_6_22] (iter 0 [9, 44, 45, 46] (exec T (orc T (M + 7)) (M + 7) 0 c_6_19) j fr H)) = R
def zb80 (q : Nat) : Prop := ∀ (M : Nat) (hM : 8 * q ≤ M) (j : Nat) (hj : q ≤ j) (v9 : Int) (v44len : Nat) (v45 v46 : Int) (h0z : Bool) (h0l : List (Sl Int)) (h0x : Bool) (r : Int × Int) (_ : zme q v9 v44len v45 v46 h0z h0l h0x = some r) (R : Option (List V)) (_ : some [(V.int .i64) r.1, (V.int .i64) r.2] = R) (fr : Fr) (H : Hp) (_ : canon 0 [9, 44, 45, 46] fr H = ([(9, (.int .i64 v9)), (44, (.vw 0 0 0 v44len 0)), (45, (.int .i64 v45)), (46, (.int .i64 v46))], [(.row 0 h0z 1 (List.map (Sl.enc (V.int .u8)) h0l) h0x)])), fin zom (unw T (orc T (M + 7)) (M + 7) 0 [.blk 1, .code c_6_22] (iter 0 [9, 44, 45, 46] (exec T (orc T (M + 7)) (M + 7) 0 c_6_19) j fr H)) = R
def zb81 := And.intro @kk <| And.intro @ke <| And.intro @kn <| And.intro @zbqp <| And.intro @zbq2 <| @zbqr
theorem zb82 (q : Nat) (zcbg : zb8z q) : zb8z (q + 1) := by
 intro M hM j hj v9 v44len v45 v46 h0z h0l h0x r h R hR fr H hc
 obtain ⟨j, rfl⟩ : ∃ i, j = i + 1 := ⟨j - 1, by omega⟩
 rw [zhu, hc]; clear hc
 rw [zmd] at h
 replace h := br h; rcases h with ⟨h1, h⟩ | ⟨h1, h⟩
 ·replace h := bn h; obtain ⟨h2, h⟩ := h
  replace h := bn h; obtain ⟨h3, h⟩ := h
  replace h := ob h; obtain ⟨e2, h4, h⟩ := h
  replace h := zcbg M (by omega) j (by omega) _ _ _ _ _ _ _ _ h R hR
  simp only [zb81, simprocAttr, *]
 ·cases h; subst hR; simp only [zb81, simprocAttr, *]
theorem zb83 (q : Nat) (zcbh : zb80 q) : zb80 (q + 1) := by
 intro M hM j hj v9 v44len v45 v46 h0z h0l h0x r h R hR fr H hc
 obtain ⟨j, rfl⟩ : ∃ i, j = i + 1 := ⟨j - 1, by omega⟩
 rw [zhu, hc]; clear hc
 rw [zme] at h
 replace h := br h; rcases h with ⟨h1, h⟩ | ⟨h1, h⟩
 ·replace h := bn h; obtain ⟨h2, h⟩ := h
  replace h := bn h; obtain ⟨h3, h⟩ := h
  replace h := ob h; obtain ⟨e3, h4, h⟩ := h
  replace h := zcbh M (by omega) j (by omega) _ _ _ _ _ _ _ _ h R hR
  simp only [zb81, simprocAttr, *]
 ·cases h; subst hR; simp only [zb81, simprocAttr, *]
theorem zb84 : ∀ q, zb8z q ∧ zb80 q
 | 0 => by refine ⟨?_, ?_⟩ <;> (intro M hM j hj; intros; rename_i h _ _ _ _ _; cases h)
 | q + 1 => by have ⟨i0, i1⟩ := zb84 q; exact ⟨zb82 q i0, zb83 q i1⟩
theorem zb85 : ∀ (q N : Nat), 8 * q ≤ N → ∀ (a0 : (Sl Int)) (a1 : Int), ∀ (r : Int × Int), zmf q a0 a1 = some r → (orc T N).deep F.zmf [(Sl.enc (V.int .u8)) a0, (V.int .i64) a1] = some [(V.int .i64) r.1, (V.int .i64) r.2] := by
 intro q N hM a0 a1 r h
 rcases q with _ | q
 ·cases h
 obtain ⟨M, rfl⟩ : ∃ M, N = M + 8 := ⟨N - 8, by omega⟩
 have zcbg := (zb84 q).1
 have zcbh := (zb84 q).2
 generalize hR : some [(V.int .i64) r.1, (V.int .i64) r.2] = R
 rw [zh3, zbnl, y4, zh1]
 rw [zmf] at h
 replace h := ob h; obtain ⟨r1, h1, h⟩ := h
 replace h1 := zb8y q (M + 7) (by omega) _ _ h1
 try simp only [kf, simprocAttr] at h1
 replace h := br h; rcases h with ⟨h2, h⟩ | ⟨h2, h⟩
 ·replace h := br h; rcases h with ⟨h3, h⟩ | ⟨h3, h⟩
  ·cases h; subst hR; simp only [zb81, simprocAttr, *]
  ·replace h := br h; rcases h with ⟨h4, h⟩ | ⟨h4, h⟩
   ·cases h; subst hR; simp only [zb81, simprocAttr, *]
   ·replace h := bn h; obtain ⟨h5, h⟩ := h
    replace h := bn h; obtain ⟨h6, h⟩ := h
    replace h := bb h; rcases h with ⟨h7', h7, h⟩ | ⟨h7', h7, h⟩
    ·replace h := zcbg M (by omega) (M + 7) (by omega) _ _ _ _ _ _ _ _ h R hR
     simp only [zb81, simprocAttr, *]
    ·replace h := zcbh M (by omega) (M + 7) (by omega) _ _ _ _ _ _ _ _ h R hR
     simp only [zb81, simprocAttr, *]
 ·cases h; subst hR; simp only [zb81, simprocAttr, *]
def zb86 (q : Nat) : Prop := ∀ (M : Nat) (hM : 8 * q ≤ M) (j : Nat) (hj : q ≤ j) (v0z : Bool) (v0l : List Int) (v3 : Int) (r : Bool) (_ : zmg q v0z v0l v3 = some r) (R : Option (List V)) (_ : some [V.bool r] = R) (fr : Fr) (H : Hp) (_ : canon 0 [0, 3] fr H = ([(0, (.sl v0z (List.map (V.int .u8) v0l))), (3, (.int .i64 v3))], [])), fin z3u (unw T (orc T (M + 7)) (M + 7) 0 [.blk 0, .code z3r] (iter 0 [0, 3] (exec T (orc T (M + 7)) (M + 7) 0 z3o) j fr H)) = R
def zb87 := And.intro @kk <| And.intro @ke <| And.intro @kn <| And.intro @zbup <| @zbur
theorem zb88 (q : Nat) (zcbi : zb86 q) : zb86 (q + 1) := by
 intro M hM j hj v0z v0l v3 r h R hR fr H hc
 obtain ⟨j, rfl⟩ : ∃ i, j = i + 1 := ⟨j - 1, by omega⟩
 rw [zhu, hc]; clear hc
 rw [zmg] at h
 replace h := br h; rcases h with ⟨h1, h⟩ | ⟨h1, h⟩
 ·replace h := bn h; obtain ⟨h2, h⟩ := h
  replace h := ob h; obtain ⟨e1, h3, h⟩ := h
  replace h := br h; rcases h with ⟨h4, h⟩ | ⟨h4, h⟩
  ·cases h; subst hR; simp only [zb87, simprocAttr, *]
  ·replace h := zcbi M (by omega) j (by omega) _ _ _ _ h R hR
   simp only [zb87, simprocAttr, *]
 ·cases h; subst hR; simp only [zb87, simprocAttr, *]
theorem zb89 : ∀ q, zb86 q
 | 0 => by intro M hM j hj; intros; rename_i h _ _ _ _ _; cases h
 | q + 1 => by have i0 := zb89 q; exact zb88 q i0
theorem zb9a : ∀ (q N : Nat), 8 * q ≤ N → ∀ (a0 : (Sl Int)), ∀ (r : Bool), zmh q a0 = some r → (orc T N).deep F.zmh [(Sl.enc (V.int .u8)) a0] = some [V.bool r] := by
 intro q N hM a0 r h
 rcases q with _ | q
 ·cases h
 obtain ⟨M, rfl⟩ : ∃ M, N = M + 8 := ⟨N - 8, by omega⟩
 have zcbi := (zb89 q)
 generalize hR : some [V.bool r] = R
 rw [zh3, zbox, y4, zh1]
 rw [zmh] at h
 replace h := zcbi M (by omega) (M + 7) (by omega) _ _ _ _ h R hR
 simp only [zb87, simprocAttr, *]
def zb9b (q : Nat) : Prop := ∀ (M : Nat) (hM : 8 * q ≤ M) (j : Nat) (hj : q ≤ j) (v0z : Bool) (v0l : List Int) (v4 v5 v6 : Int) (r : Int × Int) (_ : zmi q v0z v0l v4 v5 v6 = some r) (R : Option (List V)) (_ : some [(V.int .u64) r.1, (V.int .i64) r.2] = R) (fr : Fr) (H : Hp) (_ : canon 0 [0, 4, 5, 6] fr H = ([(0, (.sl v0z (List.map (V.int .u8) v0l))), (4, (.int .u64 v4)), (5, (.int .u64 v5)), (6, (.int .i64 v6))], [])), fin z6h (unw T (orc T (M + 7)) (M + 7) 0 [.blk 0, .code z6c] (iter 0 [0, 4, 5, 6] (exec T (orc T (M + 7)) (M + 7) 0 z59) j fr H)) = R
def zb9c := And.intro @kk <| And.intro @ke <| And.intro @kn <| And.intro @zbva <| @zbvc
theorem zb9d (q : Nat) (zcbj : zb9b q) : zb9b (q + 1) := by
 intro M hM j hj v0z v0l v4 v5 v6 r h R hR fr H hc
 obtain ⟨j, rfl⟩ : ∃ i, j = i + 1 := ⟨j - 1, by omega⟩
 rw [zhu, hc]; clear hc
 rw [zmi] at h
 replace h := br h; rcases h with ⟨h1, h⟩ | ⟨h1, h⟩
 ·replace h := br h; rcases h with ⟨h2, h⟩ | ⟨h2, h⟩
  ·replace h := bn h; obtain ⟨h3, h⟩ := h
   replace h := ob h; obtain ⟨e1, h4, h⟩ := h
   replace h := br h; rcases h with ⟨h5, h⟩ | ⟨h5, h⟩
   ·replace h := br h; rcases h with ⟨h6, h⟩ | ⟨h6, h⟩
    ·cases h; subst hR; simp only [zb9c, simprocAttr, *]
    ·replace h := br h; rcases h with ⟨h7, h⟩ | ⟨h7, h⟩
     ·replace h := br h; rcases h with ⟨h8, h⟩ | ⟨h8, h⟩
      ·replace h := br h; rcases h with ⟨h9, h⟩ | ⟨h9, h⟩
       ·cases h; subst hR; simp only [zb9c, simprocAttr, *]
       ·cases h; subst hR; simp only [zb9c, simprocAttr, *]
      ·cases h; subst hR; simp only [zb9c, simprocAttr, *]
     ·replace h := zcbj M (by omega) j (by omega) _ _ _ _ _ _ h R hR
      simp only [zb9c, simprocAttr, *]
   ·replace h := br h; rcases h with ⟨h10, h⟩ | ⟨h10, h⟩
    ·replace h := br h; rcases h with ⟨h11, h⟩ | ⟨h11, h⟩
     ·replace h := br h; rcases h with ⟨h12, h⟩ | ⟨h12, h⟩
      ·cases h; subst hR; simp only [zb9c, simprocAttr, *]
      ·cases h; subst hR; simp only [zb9c, simprocAttr, *]
     ·cases h; subst hR; simp only [zb9c, simprocAttr, *]
    ·replace h := zcbj M (by omega) j (by omega) _ _ _ _ _ _ h R hR
     simp only [zb9c, simprocAttr, *]
  ·cases h; subst hR; simp only [zb9c, simprocAttr, *]
 ·cases h; subst hR; simp only [zb9c, simprocAttr, *]
theorem zb9e : ∀ q, zb9b q
 | 0 => by intro M hM j hj; intros; rename_i h _ _ _ _ _; cases h
 | q + 1 => by have i0 := zb9e q; exact zb9d q i0
theorem zb9f : ∀ (q N : Nat), 8 * q ≤ N → ∀ (a0 : (Sl Int)), ∀ (r : Int × Int), zmj q a0 = some r → (orc T N).deep F.zmj [(Sl.enc (V.int .u8)) a0] = some [(V.int .u64) r.1, (V.int .i64) r.2] := by
 intro q N hM a0 r h
 rcases q with _ | q
 ·cases h
 obtain ⟨M, rfl⟩ : ∃ M, N = M + 8 := ⟨N - 8, by omega⟩
 have zcbj := (zb9e q)
 generalize hR : some [(V.int .u64) r.1, (V.int .i64) r.2] = R
 rw [zh3, zbo4, y4, zh1]
 rw [zmj] at h
 replace h := zcbj M (by omega) (M + 7) (by omega) _ _ _ _ _ _ h R hR
 simp only [zb9c, simprocAttr, *]
def zb9g := And.intro @kk <| And.intro @ke <| And.intro @kn <| And.intro @zbtv <| And.intro @zbvb <| @zbtx
theorem zb9h : ∀ (q N : Nat), 8 * q ≤ N → ∀ (a0 : (Sl Int)), ∀ (r : Int × Int), zmk q a0 = some r → (orc T N).deep F.zmk [(Sl.enc (V.int .u8)) a0] = some [(V.int .i64) r.1, (V.int .i64) r.2] := by
 intro q N hM a0 r h
 rcases q with _ | q
 ·cases h
 obtain ⟨M, rfl⟩ : ∃ M, N = M + 8 := ⟨N - 8, by omega⟩
 generalize hR : some [(V.int .i64) r.1, (V.int .i64) r.2] = R
 rw [zh3, zbon, y4, zh1]
 rw [zmk] at h
 replace h := ob h; obtain ⟨r1, h1, h⟩ := h
 replace h1 := zb9f q (M + 7) (by omega) _ _ h1
 try simp only [kf, simprocAttr] at h1
 replace h := br h; rcases h with ⟨h2, h⟩ | ⟨h2, h⟩
 ·cases h; subst hR; simp only [zb9g, simprocAttr, *]
 ·replace h := br h; rcases h with ⟨h3, h⟩ | ⟨h3, h⟩
  ·cases h; subst hR; simp only [zb9g, simprocAttr, *]
  ·cases h; subst hR; simp only [zb9g, simprocAttr, *]
def zb9i (q : Nat) : Prop := ∀ (M : Nat) (hM : 8 * q ≤ M) (j : Nat) (hj : q ≤ j) (v3 v4 r : Int) (_ : zml q v3 v4 = some r) (R : Option (List V)) (_ : some [(V.int .u32) r] = R) (fr : Fr) (H : Hp) (_ : canon 0 [3, 4] fr H = ([(3, (.int .u32 v3)), (4, (.int .i64 v4))], [])), fin z5r (unw T (orc T (M + 7)) (M + 7) 0 [.blk 0, .code z5n] (iter 0 [3, 4] (exec T (orc T (M + 7)) (M + 7) 0 z5k) j fr H)) = R
def zb9j := And.intro @kk <| And.intro @ke <| And.intro @kn <| And.intro @zbu7 <| @zbu9
theorem zb9k (q : Nat) (zcbk : zb9i q) : zb9i (q + 1) := by
 intro M hM j hj v3 v4 r h R hR fr H hc
 obtain ⟨j, rfl⟩ : ∃ i, j = i + 1 := ⟨j - 1, by omega⟩
 rw [zhu, hc]; clear hc
 rw [zml] at h
 replace h := br h; rcases h with ⟨h1, h⟩ | ⟨h1, h⟩
 ·replace h := br h; rcases h with ⟨h2, h⟩ | ⟨h2, h⟩
  ·replace h := zcbk M (by omega) j (by omega) _ _ _ h R hR
   simp only [zb9j, simprocAttr, *]
  ·replace h := zcbk M (by omega) j (by omega) _ _ _ h R hR
   simp only [zb9j, simprocAttr, *]
 ·cases h; subst hR; simp only [zb9j, simprocAttr, *]
theorem zb9l : ∀ q, zb9i q
 | 0 => by intro M hM j hj; intros; rename_i h _ _ _ _ _; cases h
 | q + 1 => by have i0 := zb9l q; exact zb9k q i0
theorem zb9m : ∀ (q N : Nat), 8 * q ≤ N → ∀ (a0 r : Int), zmm q a0 = some r → (orc T N).deep F.zmm [(V.int .u8) a0] = some [(V.int .u32) r] := by
 intro q N hM a0 r h
 rcases q with _ | q
 ·cases h
 obtain ⟨M, rfl⟩ : ∃ M, N = M + 8 := ⟨N - 8, by omega⟩
 have zcbk := (zb9l q)
 generalize hR : some [(V.int .u32) r] = R
 rw [zh3, zbo3, y4, zh1]
 rw [zmm] at h
 replace h := zcbk M (by omega) (M + 7) (by omega) _ _ _ h R hR
 simp only [zb9j, simprocAttr, *]
def zb9n (q : Nat) : Prop := ∀ (M : Nat) (hM : 8 * q ≤ M) (j : Nat) (hj : q ≤ j) (v1z : Bool) (v1l : List Int) (v5 v6 r : Int) (_ : zmn q v1z v1l v5 v6 = some r) (R : Option (List V)) (_ : some [(V.int .u32) r] = R) (fr : Fr) (H : Hp) (_ : canon 0 [1, 5, 6] fr H = ([(1, (.sl v1z (List.map (V.int .u8) v1l))), (5, (.int .u32 v5)), (6, (.int .i64 v6))], [])), fin zy0 (unw T (orc T (M + 7)) (M + 7) 0 [.blk 0, .code zyw] (iter 0 [1, 5, 6] (exec T (orc T (M + 7)) (M + 7) 0 zyt) j fr H)) = R
def zb9o := And.intro @kk <| And.intro @ke <| And.intro @kn <| And.intro @zbtm <| And.intro @zbu8 <| @zbto
theorem zb9p (q : Nat) (zcbl : zb9n q) : zb9n (q + 1) := by
 intro M hM j hj v1z v1l v5 v6 r h R hR fr H hc
 obtain ⟨j, rfl⟩ : ∃ i, j = i + 1 := ⟨j - 1, by omega⟩
 rw [zhu, hc]; clear hc
 rw [zmn] at h
 replace h := br h; rcases h with ⟨h1, h⟩ | ⟨h1, h⟩
 ·replace h := bn h; obtain ⟨h2, h⟩ := h
  replace h := ob h; obtain ⟨e1, h3, h⟩ := h
  replace h := ob h; obtain ⟨r2, h4, h⟩ := h
  replace h4 := zb9m q (M + 7) (by omega) _ _ h4
  replace h := zcbl M (by omega) j (by omega) _ _ _ _ _ h R hR
  simp only [zb9o, simprocAttr, *]
 ·cases h; subst hR; simp only [zb9o, simprocAttr, *]
theorem zb9q : ∀ q, zb9n q
 | 0 => by intro M hM j hj; intros; rename_i h _ _ _ _ _; cases h
 | q + 1 => by have i0 := zb9q q; exact zb9p q i0
theorem zb9r : ∀ (q N : Nat), 8 * q ≤ N → ∀ (a0 : Int) (a1 : (Sl Int)), ∀ (r : Int), zmo q a0 a1 = some r → (orc T N).deep F.zmo [(V.int .u32) a0, (Sl.enc (V.int .u8)) a1] = some [(V.int .u32) r] := by
 intro q N hM a0 a1 r h
 rcases q with _ | q
 ·cases h
 obtain ⟨M, rfl⟩ : ∃ M, N = M + 8 := ⟨N - 8, by omega⟩
 have zcbl := (zb9q q)
 generalize hR : some [(V.int .u32) r] = R
 rw [zh3, zbok, y4, zh1]
 rw [zmo] at h
 replace h := zcbl M (by omega) (M + 7) (by omega) _ _ _ _ _ h R hR
 simp only [zb9o, simprocAttr, *]
def zb9s := And.intro @kk <| And.intro @ke <| And.intro @kn <| And.intro @zbtp <| And.intro @zbtn <| @zbtr
theorem zb9t : ∀ (q N : Nat), 8 * q ≤ N → ∀ (a0 : (Sl Int)), ∀ (r : Int), zmp q a0 = some r → (orc T N).deep F.zmp [(Sl.enc (V.int .u8)) a0] = some [(V.int .u32) r] := by
 intro q N hM a0 r h
 rcases q with _ | q
 ·cases h
 obtain ⟨M, rfl⟩ : ∃ M, N = M + 8 := ⟨N - 8, by omega⟩
 generalize hR : some [(V.int .u32) r] = R
 rw [zh3, zbol, y4, zh1]
 rw [zmp] at h
 replace h := ob h; obtain ⟨r1, h1, h⟩ := h
 replace h1 := zb9r q (M + 7) (by omega) _ _ _ h1
 try simp only [kf, simprocAttr] at h1
 cases h; subst hR; simp only [zb9s, simprocAttr, *]
def zb9u (q : Nat) : Prop := ∀ (M : Nat) (hM : 8 * q ≤ M) (j : Nat) (hj : q ≤ j) (v0z : Bool) (v0l : List Int) (v3 v4 r : Int) (_ : zmq q v0z v0l v3 v4 = some r) (R : Option (List V)) (_ : some [(V.int .u64) r] = R) (fr : Fr) (H : Hp) (_ : canon 0 [0, 3, 4] fr H = ([(0, (.sl v0z (List.map (V.int .u8) v0l))), (3, (.int .u64 v3)), (4, (.int .i64 v4))], [])), fin z34 (unw T (orc T (M + 7)) (M + 7) 0 [.blk 0, .code z30] (iter 0 [0, 3, 4] (exec T (orc T (M + 7)) (M + 7) 0 z3x) j fr H)) = R
def zb9v := And.intro @kk <| And.intro @ke <| And.intro @kn <| And.intro @zbus <| @zbuu
theorem zb9w (q : Nat) (zcbm : zb9u q) : zb9u (q + 1) := by
 intro M hM j hj v0z v0l v3 v4 r h R hR fr H hc
 obtain ⟨j, rfl⟩ : ∃ i, j = i + 1 := ⟨j - 1, by omega⟩
 rw [zhu, hc]; clear hc
 rw [zmq] at h
 replace h := br h; rcases h with ⟨h1, h⟩ | ⟨h1, h⟩
 ·replace h := br h; rcases h with ⟨h2, h⟩ | ⟨h2, h⟩
  ·replace h := ob h; obtain ⟨e1, h3, h⟩ := h
   replace h := zcbm M (by omega) j (by omega) _ _ _ _ _ h R hR
   simp only [zb9v, simprocAttr, *]
  ·replace h := zcbm M (by omega) j (by omega) _ _ _ _ _ h R hR
   simp only [zb9v, simprocAttr, *]
 ·cases h; subst hR; simp only [zb9v, simprocAttr, *]
theorem zb9x : ∀ q, zb9u q
 | 0 => by intro M hM j hj; intros; rename_i h _ _ _ _ _; cases h
 | q + 1 => by have i0 := zb9x q; exact zb9w q i0
theorem zb9y : ∀ (q N : Nat), 8 * q ≤ N → ∀ (a0 : (Sl Int)), ∀ (r : Int), zmr q a0 = some r → (orc T N).deep F.zmr [(Sl.enc (V.int .u8)) a0] = some [(V.int .u64) r] := by
 intro q N hM a0 r h
 rcases q with _ | q
 ·cases h
 obtain ⟨M, rfl⟩ : ∃ M, N = M + 8 := ⟨N - 8, by omega⟩
 have zcbm := (zb9x q)
 generalize hR : some [(V.int .u64) r] = R
 rw [zh3, zboy, y4, zh1]
 rw [zmr] at h
 replace h := zcbm M (by omega) (M + 7) (by omega) _ _ _ _ _ h R hR
 simp only [zb9v, simprocAttr, *]
def zb9z := And.intro @kk <| And.intro @ke <| And.intro @kn <| And.intro @zbs4 <| And.intro @zbtq <| And.intro @zbtw <| And.intro @zbuq <| And.intro @zbut <| @zbs6
theorem zb90 : ∀ (q N : Nat), 8 * q ≤ N → ∀ (a0 : (Sl Int)), ∀ (r : (Ow Int) × Int × Int), zms q a0 = some r → (orc T N).deep F.zms [(Sl.enc (V.int .u8)) a0] = some [(Ow.enc 1 (V.int .u8)) r.1, (V.int .i64) r.2.1, (V.int .i64) r.2.2] := by
 intro q N hM a0 r h
 rcases q with _ | q
 ·cases h
 obtain ⟨M, rfl⟩ : ∃ M, N = M + 8 := ⟨N - 8, by omega⟩
 generalize hR : some [(Ow.enc 1 (V.int .u8)) r.1, (V.int .i64) r.2.1, (V.int .i64) r.2.2] = R
 rw [zh3, zboe, y4, zh1]
 rw [zms] at h
 replace h := ob h; obtain ⟨r1, h1, h⟩ := h
 replace h1 := zb9a q (M + 7) (by omega) _ _ h1
 try simp only [kf, simprocAttr] at h1
 replace h := bb h; rcases h with ⟨h2', h2, h⟩ | ⟨h2', h2, h⟩
 ·cases h; subst hR; simp only [zb9z, simprocAttr, *]
 ·replace h := ob h; obtain ⟨r2, h3, h⟩ := h
  replace h3 := zb9h q (M + 7) (by omega) _ _ h3
  try simp only [kf, simprocAttr] at h3
  replace h := br h; rcases h with ⟨h4, h⟩ | ⟨h4, h⟩
  ·cases h; subst hR; simp only [zb9z, simprocAttr, *]
  ·replace h := br h; rcases h with ⟨h5, h⟩ | ⟨h5, h⟩
   ·cases h; subst hR; simp only [zb9z, simprocAttr, *]
   ·replace h := br h; rcases h with ⟨h6, h⟩ | ⟨h6, h⟩
    ·cases h; subst hR; simp only [zb9z, simprocAttr, *]
    ·replace h := bn h; obtain ⟨h7, h⟩ := h
     replace h := bn h; obtain ⟨h8, h⟩ := h
     replace h := bn h; obtain ⟨h9, h⟩ := h
     replace h := bn h; obtain ⟨h10, h⟩ := h
     replace h := ob h; obtain ⟨r3, h11, h⟩ := h
     replace h11 := zb9t q (M + 7) (by omega) _ _ h11
     try simp only [kf, simprocAttr] at h11
     replace h := bn h; obtain ⟨h12, h⟩ := h
     replace h := bn h; obtain ⟨h13, h⟩ := h
     replace h := ob h; obtain ⟨r4, h14, h⟩ := h
     replace h14 := zb9y q (M + 7) (by omega) _ _ h14
     try simp only [kf, simprocAttr] at h14
     replace h := br h; rcases h with ⟨h15, h⟩ | ⟨h15, h⟩
     ·replace h := bn h; obtain ⟨h16, h⟩ := h
      cases h; subst hR; simp only [zb9z, simprocAttr, *]
     ·cases h; subst hR; simp only [zb9z, simprocAttr, *]
def zb91 (q : Nat) : Prop := ∀ (M : Nat) (hM : 8 * q ≤ M) (j : Nat) (hj : q ≤ j) (v0z : Bool) (v0l : List Int) (v6 : Int) (h0z : Bool) (h0l : List (Sl Int)) (r : (Ow (Sl Int)) × Int × Int) (_ : zmt q v0z v0l v6 h0z h0l = some r) (R : Option (List V)) (_ : some [(Ow.enc 1 (Sl.enc (V.int .u8))) r.1, (V.int .i64) r.2.1, (V.int .i64) r.2.2] = R) (fr : Fr) (H : Hp) (_ : canon 0 [0, 5, 6] fr H = ([(0, (.sl v0z (List.map (V.int .u8) v0l))), (5, (.vw 0 0 0 h0l.length 1)), (6, (.int .i64 v6))], [(.row 0 h0z 1 (List.map (Sl.enc (V.int .u8)) h0l) true)])), fin zr0 (unw T (orc T (M + 7)) (M + 7) 0 [.blk 0, .code zrv] (iter 0 [0, 5, 6] (exec T (orc T (M + 7)) (M + 7) 0 zrt) j fr H)) = R
def zb92 := And.intro @kk <| And.intro @ke <| And.intro @kn <| And.intro @zbrm <| And.intro @zbs5 <| @zbro
theorem zb93 (q : Nat) (zcbn : zb91 q) : zb91 (q + 1) := by
 intro M hM j hj v0z v0l v6 h0z h0l r h R hR fr H hc
 obtain ⟨j, rfl⟩ : ∃ i, j = i + 1 := ⟨j - 1, by omega⟩
 rw [zhu, hc]; clear hc
 rw [zmt] at h
 replace h := br h; rcases h with ⟨h1, h⟩ | ⟨h1, h⟩
 ·replace h := bn h; obtain ⟨h2, h⟩ := h
  replace h := bn h; obtain ⟨h3, h⟩ := h
  replace h := ob h; obtain ⟨r1, h4, h⟩ := h
  replace h4 := zb90 q (M + 7) (by omega) _ _ h4
  try simp only [kf, simprocAttr] at h4
  replace h := br h; rcases h with ⟨h5, h⟩ | ⟨h5, h⟩
  ·replace h := bn h; obtain ⟨h6, h⟩ := h
   replace h := zcbn M (by omega) j (by omega) _ _ _ _ _ _ h R hR
   simp only [zb92, simprocAttr, *]
  ·cases h; subst hR; simp only [zb92, simprocAttr, *]
 ·cases h; subst hR; simp only [zb92, simprocAttr, *]
theorem zb94 : ∀ q, zb91 q
 | 0 => by intro M hM j hj; intros; rename_i h _ _ _ _ _; cases h
 | q + 1 => by have i0 := zb94 q; exact zb93 q i0
theorem zb95 : ∀ (q N : Nat), 8 * q ≤ N → ∀ (a0 : (Sl Int)), ∀ (r : (Ow (Sl Int)) × Int × Int), zmu q a0 = some r → (orc T N).deep F.zmu [(Sl.enc (V.int .u8)) a0] = some [(Ow.enc 1 (Sl.enc (V.int .u8))) r.1, (V.int .i64) r.2.1, (V.int .i64) r.2.2] := by
 intro q N hM a0 r h
 rcases q with _ | q
 ·cases h
 obtain ⟨M, rfl⟩ : ∃ M, N = M + 8 := ⟨N - 8, by omega⟩
 have zcbn := (zb94 q)
 generalize hR : some [(Ow.enc 1 (Sl.enc (V.int .u8))) r.1, (V.int .i64) r.2.1, (V.int .i64) r.2.2] = R
 rw [zh3, zbnw, y4, zh1]
 rw [zmu] at h
 replace h := zcbn M (by omega) (M + 7) (by omega) _ _ _ _ _ _ h R hR
 simp only [zb92, simprocAttr, *]
def zb96 := And.intro @kk <| And.intro @ke <| And.intro @kn <| And.intro @zbq4 <| And.intro @zbrn <| @zbq6
theorem zb97 : ∀ (q N : Nat), 8 * q ≤ N → ∀ (a0 : (Sl Int)), ∀ (r : (Ow (Sl Int)) × Int), zmv q a0 = some r → (orc T N).deep F.zmv [(Sl.enc (V.int .u8)) a0] = some [(Ow.enc 1 (Sl.enc (V.int .u8))) r.1, (V.int .i64) r.2] := by
 intro q N hM a0 r h
 rcases q with _ | q
 ·cases h
 obtain ⟨M, rfl⟩ : ∃ M, N = M + 8 := ⟨N - 8, by omega⟩
 generalize hR : some [(Ow.enc 1 (Sl.enc (V.int .u8))) r.1, (V.int .i64) r.2] = R
 rw [zh3, zbnq, y4, zh1]
 rw [zmv] at h
 replace h := ob h; obtain ⟨r1, h1, h⟩ := h
 replace h1 := zb95 q (M + 7) (by omega) _ _ h1
 try simp only [kf, simprocAttr] at h1
 replace h := br h; rcases h with ⟨h2, h⟩ | ⟨h2, h⟩
 ·cases h; subst hR; simp only [zb96, simprocAttr, *]
 ·cases h; subst hR; simp only [zb96, simprocAttr, *]
def zb98 := And.intro @kk <| And.intro @ke <| And.intro @kn <| And.intro @zbwy <| @zbw0
theorem zb99 : ∀ (q N : Nat), 8 * q ≤ N → ∀ (a0 a1 : Int), ∀ (r : Bool), zmw q a0 a1 = some r → (orc T N).deep F.zmw [(V.int .i64) a0, (V.int .i64) a1] = some [V.bool r] := by
 intro q N hM a0 a1 r h
 rcases q with _ | q
 ·cases h
 obtain ⟨M, rfl⟩ : ∃ M, N = M + 8 := ⟨N - 8, by omega⟩
 generalize hR : some [V.bool r] = R
 rw [zh3, zbpo, y4, zh1]
 rw [zmw] at h
 replace h := br h; rcases h with ⟨h1, h⟩ | ⟨h1, h⟩
 ·cases h; subst hR; simp only [zb98, simprocAttr, *]
 ·replace h := br h; rcases h with ⟨h2, h⟩ | ⟨h2, h⟩
  ·cases h; subst hR; simp only [zb98, simprocAttr, *]
  ·replace h := br h; rcases h with ⟨h3, h⟩ | ⟨h3, h⟩
   ·cases h; subst hR; simp only [zb98, simprocAttr, *]
   ·replace h := br h; rcases h with ⟨h4, h⟩ | ⟨h4, h⟩
    ·replace h := br h; rcases h with ⟨h5, h⟩ | ⟨h5, h⟩
     ·cases h; subst hR; simp only [zb98, simprocAttr, *]
     ·replace h := br h; rcases h with ⟨h6, h⟩ | ⟨h6, h⟩
      ·cases h; subst hR; simp only [zb98, simprocAttr, *]
      ·cases h; subst hR; simp only [zb98, simprocAttr, *]
    ·replace h := br h; rcases h with ⟨h7, h⟩ | ⟨h7, h⟩
     ·cases h; subst hR; simp only [zb98, simprocAttr, *]
     ·cases h; subst hR; simp only [zb98, simprocAttr, *]
def zcaa := And.intro @kk <| And.intro @ke <| And.intro @kn <| And.intro @zbyd <| @zbyf
theorem zcab : ∀ (q N : Nat), 8 * q ≤ N → ∀ (a0 r : Int), zmx q a0 = some r → (orc T N).deep F.zmx [(V.int .u64) a0] = some [(V.int .i64) r] := by
 intro q N hM a0 r h
 rcases q with _ | q
 ·cases h
 obtain ⟨M, rfl⟩ : ∃ M, N = M + 8 := ⟨N - 8, by omega⟩
 generalize hR : some [(V.int .i64) r] = R
 rw [zh3, zbp5, y4, zh1]
 rw [zmx] at h
 replace h := br h; rcases h with ⟨h1, h⟩ | ⟨h1, h⟩
 ·cases h; subst hR; simp only [zcaa, simprocAttr, *]
 ·cases h; subst hR; simp only [zcaa, simprocAttr, *]
def zcac := And.intro @kk <| And.intro @ke <| And.intro @kn <| And.intro @zbw4 <| And.intro @zbvb <| And.intro @zbye <| @zbw6
theorem zcad : ∀ (q N : Nat), 8 * q ≤ N → ∀ (a0 : (Sl Int)), ∀ (r : Int × Int), zmy q a0 = some r → (orc T N).deep F.zmy [(Sl.enc (V.int .u8)) a0] = some [(V.int .i64) r.1, (V.int .i64) r.2] := by
 intro q N hM a0 r h
 rcases q with _ | q
 ·cases h
 obtain ⟨M, rfl⟩ : ∃ M, N = M + 8 := ⟨N - 8, by omega⟩
 generalize hR : some [(V.int .i64) r.1, (V.int .i64) r.2] = R
 rw [zh3, zbpq, y4, zh1]
 rw [zmy] at h
 replace h := ob h; obtain ⟨r1, h1, h⟩ := h
 replace h1 := zb9f q (M + 7) (by omega) _ _ h1
 try simp only [kf, simprocAttr] at h1
 replace h := br h; rcases h with ⟨h2, h⟩ | ⟨h2, h⟩
 ·cases h; subst hR; simp only [zcac, simprocAttr, *]
 ·replace h := ob h; obtain ⟨r2, h3, h⟩ := h
  replace h3 := zcab q (M + 7) (by omega) _ _ h3
  cases h; subst hR; simp only [zcac, simprocAttr, *]
def zcae := And.intro @kk <| And.intro @ke <| And.intro @kn <| And.intro @zbyj <| @zbyl
theorem zcaf : ∀ (q N : Nat), 8 * q ≤ N → ∀ (a0 r : Int), zmz q a0 = some r → (orc T N).deep F.zmz [(V.int .i64) a0] = some [(V.int .i64) r] := by
 intro q N hM a0 r h
 rcases q with _ | q
 ·cases h
 obtain ⟨M, rfl⟩ : ∃ M, N = M + 8 := ⟨N - 8, by omega⟩
 generalize hR : some [(V.int .i64) r] = R
 rw [zh3, zbp7, y4, zh1]
 rw [zmz] at h
 replace h := br h; rcases h with ⟨h1, h⟩ | ⟨h1, h⟩
 ·cases h; subst hR; simp only [zcae, simprocAttr, *]
 ·replace h := br h; rcases h with ⟨h2, h⟩ | ⟨h2, h⟩
  ·cases h; subst hR; simp only [zcae, simprocAttr, *]
  ·cases h; subst hR; simp only [zcae, simprocAttr, *]
def zcag := And.intro @kk <| And.intro @ke <| And.intro @kn <| And.intro @zbxm <| And.intro @zbyk <| @zbxo
theorem zcah : ∀ (q N : Nat), 8 * q ≤ N → ∀ (a0 : zjr), ∀ (r : Bool), zm0 q a0 = some r → (orc T N).deep F.zm0 [zjr.enc a0] = some [V.bool r] := by
 intro q N hM a0 r h
 rcases q with _ | q
 ·cases h
 obtain ⟨M, rfl⟩ : ∃ M, N = M + 8 := ⟨N - 8, by omega⟩
 generalize hR : some [V.bool r] = R
 rw [zh3, zbpw, y4, zh1]
 rw [zm0] at h
 replace h := br h; rcases h with ⟨h1, h⟩ | ⟨h1, h⟩
 ·replace h := br h; rcases h with ⟨h2, h⟩ | ⟨h2, h⟩
  ·replace h := ob h; obtain ⟨r1, h3, h⟩ := h
   replace h3 := zcaf q (M + 7) (by omega) _ _ h3
   replace h := br h; rcases h with ⟨h4, h⟩ | ⟨h4, h⟩
   ·replace h := ob h; obtain ⟨r2, h5, h⟩ := h
    replace h5 := zcaf q (M + 7) (by omega) _ _ h5
    cases h; subst hR; simp only [zcag, simprocAttr, *]
   ·cases h; subst hR; simp only [zcag, simprocAttr, *]
  ·cases h; subst hR; simp only [zcag, simprocAttr, *]
 ·cases h; subst hR; simp only [zcag, simprocAttr, *]
def zcai := And.intro @kk <| And.intro @ke <| And.intro @kn <| And.intro @zbw7 <| And.intro @zbtw <| And.intro @zbw5 <| And.intro @zbxn <| @zbw9
theorem zcaj : ∀ (q N : Nat), 8 * q ≤ N → ∀ (a0 : (Sl Int)), ∀ (r : zjr × Int), zm1 q a0 = some r → (orc T N).deep F.zm1 [(Sl.enc (V.int .u8)) a0] = some [zjr.enc r.1, (V.int .i64) r.2] := by
 intro q N hM a0 r h
 rcases q with _ | q
 ·cases h
 obtain ⟨M, rfl⟩ : ∃ M, N = M + 8 := ⟨N - 8, by omega⟩
 generalize hR : some [zjr.enc r.1, (V.int .i64) r.2] = R
 rw [zh3, zbpr, y4, zh1]
 rw [zm1] at h
 replace h := ob h; obtain ⟨r1, h1, h⟩ := h
 replace h1 := zb9h q (M + 7) (by omega) _ _ h1
 try simp only [kf, simprocAttr] at h1
 replace h := bn h; obtain ⟨h2, h⟩ := h
 replace h := bn h; obtain ⟨h3, h⟩ := h
 replace h := ob h; obtain ⟨r2, h4, h⟩ := h
 replace h4 := zcad q (M + 7) (by omega) _ _ h4
 try simp only [kf, simprocAttr] at h4
 replace h := bn h; obtain ⟨h5, h⟩ := h
 replace h := bn h; obtain ⟨h6, h⟩ := h
 replace h := ob h; obtain ⟨r3, h7, h⟩ := h
 replace h7 := zcad q (M + 7) (by omega) _ _ h7
 try simp only [kf, simprocAttr] at h7
 replace h := ob h; obtain ⟨r4, h8, h⟩ := h
 replace h8 := zcah q (M + 7) (by omega) _ _ h8
 try simp only [kf, simprocAttr] at h8
 replace h := br h; rcases h with ⟨h9, h⟩ | ⟨h9, h⟩
 ·cases h; subst hR; simp only [zcai, simprocAttr, *]
 ·replace h := br h; rcases h with ⟨h10, h⟩ | ⟨h10, h⟩
  ·cases h; subst hR; simp only [zcai, simprocAttr, *]
  ·replace h := br h; rcases h with ⟨h11, h⟩ | ⟨h11, h⟩
   ·cases h; subst hR; simp only [zcai, simprocAttr, *]
   ·replace h := bb h; rcases h with ⟨h12', h12, h⟩ | ⟨h12', h12, h⟩
    ·cases h; subst hR; simp only [zcai, simprocAttr, *]
    ·cases h; subst hR; simp only [zcai, simprocAttr, *]
def zcak := And.intro @kk <| And.intro @ke <| And.intro @kn <| And.intro @zbw1 <| And.intro @zbtw <| And.intro @zbw5 <| And.intro @zbw8 <| @zbw3
theorem zcal : ∀ (q N : Nat), 8 * q ≤ N → ∀ (a0 : zjs) (a1 : Int) (a2 : (Sl Int)), ∀ (r : zjs × Int), zm2 q a0 a1 a2 = some r → (orc T N).deep F.zm2 [zjs.enc a0, (V.int .i64) a1, (Sl.enc (V.int .u8)) a2] = some [zjs.enc r.1, (V.int .i64) r.2] := by
 intro q N hM a0 a1 a2 r h
 rcases q with _ | q
 ·cases h
 obtain ⟨M, rfl⟩ : ∃ M, N = M + 8 := ⟨N - 8, by omega⟩
 generalize hR : some [zjs.enc r.1, (V.int .i64) r.2] = R
 rw [zh3, zbpp, y4, zh1]
 rw [zm2] at h
 replace h := ob h; obtain ⟨r1, h1, h⟩ := h
 replace h1 := zb9h q (M + 7) (by omega) _ _ h1
 try simp only [kf, simprocAttr] at h1
 replace h := br h; rcases h with ⟨h2, h⟩ | ⟨h2, h⟩
 ·cases h; subst hR; simp only [zcak, simprocAttr, *]
 ·replace h := br h; rcases h with ⟨h3, h⟩ | ⟨h3, h⟩
  ·cases h; subst hR; simp only [zcak, simprocAttr, *]
  ·replace h := br h; rcases h with ⟨h4, h⟩ | ⟨h4, h⟩
   ·cases h; subst hR; simp only [zcak, simprocAttr, *]
   ·replace h := br h; rcases h with ⟨h5, h⟩ | ⟨h5, h⟩
    ·replace h := ob h; obtain ⟨r2, h6, h⟩ := h
     replace h6 := zcaj q (M + 7) (by omega) _ _ h6
     try simp only [kf, simprocAttr] at h6
     cases h; subst hR; simp only [zcak, simprocAttr, *]
    ·replace h := br h; rcases h with ⟨h7, h⟩ | ⟨h7, h⟩
     ·replace h := ob h; obtain ⟨r3, h8, h⟩ := h
      replace h8 := zcad q (M + 7) (by omega) _ _ h8
      try simp only [kf, simprocAttr] at h8
      cases h; subst hR; simp only [zcak, simprocAttr, *]
     ·cases h; subst hR; simp only [zcak, simprocAttr, *]
def zcam := And.intro @kk <| And.intro @ke <| And.intro @kn <| And.intro @zbvm <| And.intro @zbxn <| @zbvo
theorem zcan : ∀ (q N : Nat), 8 * q ≤ N → ∀ (a0 : zjs), ∀ (r : Bool), zm3 q a0 = some r → (orc T N).deep F.zm3 [zjs.enc a0] = some [V.bool r] := by
 intro q N hM a0 r h
 rcases q with _ | q
 ·cases h
 obtain ⟨M, rfl⟩ : ∃ M, N = M + 8 := ⟨N - 8, by omega⟩
 generalize hR : some [V.bool r] = R
 rw [zh3, zbo8, y4, zh1]
 rw [zm3] at h
 replace h := ob h; obtain ⟨r1, h1, h⟩ := h
 replace h1 := zcah q (M + 7) (by omega) _ _ h1
 try simp only [kf, simprocAttr] at h1
 replace h := bb h; rcases h with ⟨h2', h2, h⟩ | ⟨h2', h2, h⟩
 ·replace h := br h; rcases h with ⟨h3, h⟩ | ⟨h3, h⟩
  ·replace h := br h; rcases h with ⟨h4, h⟩ | ⟨h4, h⟩
   ·replace h := br h; rcases h with ⟨h5, h⟩ | ⟨h5, h⟩
    ·replace h := br h; rcases h with ⟨h6, h⟩ | ⟨h6, h⟩
     ·replace h := br h; rcases h with ⟨h7, h⟩ | ⟨h7, h⟩
      ·replace h := br h; rcases h with ⟨h8, h⟩ | ⟨h8, h⟩
       ·replace h := br h; rcases h with ⟨h9, h⟩ | ⟨h9, h⟩
        ·cases h; subst hR; simp only [zcam, simprocAttr, *]
        ·cases h; subst hR; simp only [zcam, simprocAttr, *]
       ·cases h; subst hR; simp only [zcam, simprocAttr, *]
      ·cases h; subst hR; simp only [zcam, simprocAttr, *]
     ·cases h; subst hR; simp only [zcam, simprocAttr, *]
    ·cases h; subst hR; simp only [zcam, simprocAttr, *]
   ·cases h; subst hR; simp only [zcam, simprocAttr, *]
  ·cases h; subst hR; simp only [zcam, simprocAttr, *]
 ·cases h; subst hR; simp only [zcam, simprocAttr, *]
def zcao (q : Nat) : Prop := ∀ (M : Nat) (hM : 8 * q ≤ M) (j : Nat) (hj : q ≤ j) (v0z : Bool) (v0l : List Int) (v5 v6 v8 v9 h2_0 h2_1 h2_2 h2_3 h2_4 h2_5 h2_6 : Int) (r : zjs × Int) (_ : zm4 q v0z v0l v5 v6 v8 v9 h2_0 h2_1 h2_2 h2_3 h2_4 h2_5 h2_6 = some r) (R : Option (List V)) (_ : some [zjs.enc r.1, (V.int .i64) r.2] = R) (fr : Fr) (H : Hp) (_ : canon 0 [0, 2, 4, 5, 6, 7, 8, 9] fr H = ([(0, (.sl v0z (List.map (V.int .u8) v0l))), (2, (.ptr 0 0)), (4, (.ptr 1 0)), (5, (.int .i64 v5)), (6, (.int .i64 v6)), (7, (.ptr 2 0)), (8, (.int .i64 v8)), (9, (.int .i64 v9))], [(.box [(.int .i64 0), (.int .i64 0), (.int .i64 0), (.int .i64 0), (.int .i64 0), (.int .i64 0), (.int .i64 0)]), (.box [(.int .i64 0), (.int .i64 0), (.int .i64 0), (.int .i64 0), (.int .i64 0), (.int .i64 0), (.int .i64 0)]), (.box [(.int .i64 h2_0), (.int .i64 h2_1), (.int .i64 h2_2), (.int .i64 h2_3), (.int .i64 h2_4), (.int .i64 h2_5), (.int .i64 h2_6)])])), fin z8f (unw T (orc T (M + 7)) (M + 7) 0 [.blk 0, .code z74] (iter 0 [0, 2, 4, 5, 6, 7, 8, 9] (exec T (orc T (M + 7)) (M + 7) 0 z7s) j fr H)) = R
def zcap := And.intro @kk <| And.intro @ke <| And.intro @kn <| And.intro @zbvd <| And.intro @zbtw <| And.intro @zbvn <| And.intro @zbwz <| And.intro @zbw2 <| @zbvf
theorem zcaq (q : Nat) (zcbo : zcao q) : zcao (q + 1) := by
 intro M hM j hj v0z v0l v5 v6 v8 v9 h2_0 h2_1 h2_2 h2_3 h2_4 h2_5 h2_6 r h R hR fr H hc
 obtain ⟨j, rfl⟩ : ∃ i, j = i + 1 := ⟨j - 1, by omega⟩
 rw [zhu, hc]; clear hc
 rw [zm4] at h
 replace h := br h; rcases h with ⟨h1, h⟩ | ⟨h1, h⟩
 ·replace h := bn h; obtain ⟨h2, h⟩ := h
  replace h := bn h; obtain ⟨h3, h⟩ := h
  replace h := ob h; obtain ⟨r2, h4, h⟩ := h
  replace h4 := zb9h q (M + 7) (by omega) _ _ h4
  try simp only [kf, simprocAttr] at h4
  replace h := br h; rcases h with ⟨h5, h⟩ | ⟨h5, h⟩
  ·cases h; subst hR; simp only [zcap, simprocAttr, *]
  ·replace h := br h; rcases h with ⟨h6, h⟩ | ⟨h6, h⟩
   ·cases h; subst hR; simp only [zcap, simprocAttr, *]
   ·replace h := ob h; obtain ⟨r3, h7, h⟩ := h
    replace h7 := zb99 q (M + 7) (by omega) _ _ _ h7
    replace h := bb h; rcases h with ⟨h8', h8, h⟩ | ⟨h8', h8, h⟩
    ·replace h := bn h; obtain ⟨h9, h⟩ := h
     replace h := bn h; obtain ⟨h10, h⟩ := h
     replace h := ob h; obtain ⟨r4, h11, h⟩ := h
     replace h11 := zcal q (M + 7) (by omega) _ _ _ _ h11
     try simp only [kf, simprocAttr] at h11
     replace h := br h; rcases h with ⟨h12, h⟩ | ⟨h12, h⟩
     ·cases h; subst hR; simp only [zcap, simprocAttr, *]
     ·replace h := zcbo M (by omega) j (by omega) _ _ _ _ _ _ _ _ _ _ _ _ _ _ h R hR
      simp only [zcap, simprocAttr, *]
    ·replace h := br h; rcases h with ⟨h13, h⟩ | ⟨h13, h⟩
     ·cases h; subst hR; simp only [zcap, simprocAttr, *]
     ·replace h := br h; rcases h with ⟨h14, h⟩ | ⟨h14, h⟩
      ·cases h; subst hR; simp only [zcap, simprocAttr, *]
      ·replace h := bn h; obtain ⟨h15, h⟩ := h
       replace h := bn h; obtain ⟨h16, h⟩ := h
       replace h := ob h; obtain ⟨r5, h17, h⟩ := h
       replace h17 := zb9h q (M + 7) (by omega) _ _ h17
       try simp only [kf, simprocAttr] at h17
       replace h := br h; rcases h with ⟨h18, h⟩ | ⟨h18, h⟩
       ·cases h; subst hR; simp only [zcap, simprocAttr, *]
       ·replace h := br h; rcases h with ⟨h19, h⟩ | ⟨h19, h⟩
        ·cases h; subst hR; simp only [zcap, simprocAttr, *]
        ·replace h := zcbo M (by omega) j (by omega) _ _ _ _ _ _ _ _ _ _ _ _ _ _ h R hR
         simp only [zcap, simprocAttr, *]
 ·replace h := br h; rcases h with ⟨h20, h⟩ | ⟨h20, h⟩
  ·replace h := ob h; obtain ⟨r6, h21, h⟩ := h
   replace h21 := zcan q (M + 7) (by omega) _ _ h21
   try simp only [kf, simprocAttr] at h21
   replace h := bb h; rcases h with ⟨h22', h22, h⟩ | ⟨h22', h22, h⟩
   ·cases h; subst hR; simp only [zcap, simprocAttr, *]
   ·cases h; subst hR; simp only [zcap, simprocAttr, *]
  ·cases h; subst hR; simp only [zcap, simprocAttr, *]
theorem zcar : ∀ q, zcao q
 | 0 => by intro M hM j hj; intros; rename_i h _ _ _ _ _; cases h
 | q + 1 => by have i0 := zcar q; exact zcaq q i0
theorem zcas : ∀ (q N : Nat), 8 * q ≤ N → ∀ (a0 : (Sl Int)), ∀ (r : zjs × Int), zm5 q a0 = some r → (orc T N).deep F.zm5 [(Sl.enc (V.int .u8)) a0] = some [zjs.enc r.1, (V.int .i64) r.2] := by
 intro q N hM a0 r h
 rcases q with _ | q
 ·cases h
 obtain ⟨M, rfl⟩ : ∃ M, N = M + 8 := ⟨N - 8, by omega⟩
 have zcbo := (zcar q)
 generalize hR : some [zjs.enc r.1, (V.int .i64) r.2] = R
 rw [zh3, zbo5, y4, zh1]
 rw [zm5] at h
 replace h := br h; rcases h with ⟨h1, h⟩ | ⟨h1, h⟩
 ·cases h; subst hR; simp only [zcap, simprocAttr, *]
 ·replace h := ob h; obtain ⟨r1, h2, h⟩ := h
  replace h2 := zb9h q (M + 7) (by omega) _ _ h2
  try simp only [kf, simprocAttr] at h2
  replace h := br h; rcases h with ⟨h3, h⟩ | ⟨h3, h⟩
  ·cases h; subst hR; simp only [zcap, simprocAttr, *]
  ·replace h := br h; rcases h with ⟨h4, h⟩ | ⟨h4, h⟩
   ·cases h; subst hR; simp only [zcap, simprocAttr, *]
   ·replace h := br h; rcases h with ⟨h5, h⟩ | ⟨h5, h⟩
    ·cases h; subst hR; simp only [zcap, simprocAttr, *]
    ·replace h := zcbo M (by omega) (M + 7) (by omega) _ _ _ _ _ _ _ _ _ _ _ _ _ _ h R hR
     simp only [zcap, simprocAttr, *]
def zcat (q : Nat) : Prop := ∀ (M : Nat) (hM : 8 * q ≤ M) (j : Nat) (hj : q ≤ j) (v0 : Int) (v1z : Bool) (v1l : List Int) (h0z : Bool) (h0l : List zjs) (r : (Ow zjs) × Bool) (_ : zm6 q v0 v1z v1l h0z h0l = some r) (R : Option (List V)) (_ : some [(Ow.enc 7 zjs.enc) r.1, V.bool r.2] = R) (fr : Fr) (H : Hp) (_ : canon 0 [0, 1, 6] fr H = ([(0, (.int .i64 v0)), (1, (.sl v1z (List.map (V.int .u8) v1l))), (6, (.vw 0 0 0 h0l.length 1))], [(.row 0 h0z 7 (List.map zjs.enc h0l) true)])), fin zzw (unw T (orc T (M + 7)) (M + 7) 0 [.blk 0, .code zzs] (iter 0 [0, 1, 6] (exec T (orc T (M + 7)) (M + 7) 0 zzq) j fr H)) = R
def zcau := And.intro @kk <| And.intro @ke <| And.intro @kn <| And.intro @zbty <| And.intro @zbtw <| And.intro @zbve <| @zbt0
theorem zcav (q : Nat) (zcbp : zcat q) : zcat (q + 1) := by
 intro M hM j hj v0 v1z v1l h0z h0l r h R hR fr H hc
 obtain ⟨j, rfl⟩ : ∃ i, j = i + 1 := ⟨j - 1, by omega⟩
 rw [zhu, hc]; clear hc
 rw [zm6] at h
 replace h := br h; rcases h with ⟨h1, h⟩ | ⟨h1, h⟩
 ·replace h := ob h; obtain ⟨r1, h2, h⟩ := h
  replace h2 := zb9h q (M + 7) (by omega) _ _ h2
  try simp only [kf, simprocAttr] at h2
  replace h := br h; rcases h with ⟨h3, h⟩ | ⟨h3, h⟩
  ·cases h; subst hR; simp only [zcau, simprocAttr, *]
  ·replace h := br h; rcases h with ⟨h4, h⟩ | ⟨h4, h⟩
   ·cases h; subst hR; simp only [zcau, simprocAttr, *]
   ·replace h := br h; rcases h with ⟨h5, h⟩ | ⟨h5, h⟩
    ·cases h; subst hR; simp only [zcau, simprocAttr, *]
    ·replace h := bn h; obtain ⟨h6, h⟩ := h
     replace h := ob h; obtain ⟨e2, h7, h⟩ := h
     replace h := br h; rcases h with ⟨h8, h⟩ | ⟨h8, h⟩
     ·replace h := bn h; obtain ⟨h9, h⟩ := h
      replace h := bn h; obtain ⟨h10, h⟩ := h
      replace h := ob h; obtain ⟨r3, h11, h⟩ := h
      replace h11 := zcas q (M + 7) (by omega) _ _ h11
      try simp only [kf, simprocAttr] at h11
      replace h := br h; rcases h with ⟨h12, h⟩ | ⟨h12, h⟩
      ·replace h := bn h; obtain ⟨h13, h⟩ := h
       replace h := bn h; obtain ⟨h14, h⟩ := h
       replace h := bn h; obtain ⟨h15, h⟩ := h
       replace h := zcbp M (by omega) j (by omega) _ _ _ _ _ _ h R hR
       simp only [zcau, simprocAttr, *]
      ·cases h; subst hR; simp only [zcau, simprocAttr, *]
     ·cases h; subst hR; simp only [zcau, simprocAttr, *]
 ·cases h; subst hR; simp only [zcau, simprocAttr, *]
theorem zcaw : ∀ q, zcat q
 | 0 => by intro M hM j hj; intros; rename_i h _ _ _ _ _; cases h
 | q + 1 => by have i0 := zcaw q; exact zcav q i0
theorem zcax : ∀ (q N : Nat), 8 * q ≤ N → ∀ (a0 : Int) (a1 : (Sl Int)), ∀ (r : (Ow zjs) × Bool), zm7 q a0 a1 = some r → (orc T N).deep F.zm7 [(V.int .i64) a0, (Sl.enc (V.int .u8)) a1] = some [(Ow.enc 7 zjs.enc) r.1, V.bool r.2] := by
 intro q N hM a0 a1 r h
 rcases q with _ | q
 ·cases h
 obtain ⟨M, rfl⟩ : ∃ M, N = M + 8 := ⟨N - 8, by omega⟩
 have zcbp := (zcaw q)
 generalize hR : some [(Ow.enc 7 zjs.enc) r.1, V.bool r.2] = R
 rw [zh3, zboo, y4, zh1]
 rw [zm7] at h
 replace h := zcbp M (by omega) (M + 7) (by omega) _ _ _ _ _ _ h R hR
 simp only [zcau, simprocAttr, *]
def zcay (q : Nat) : Prop := ∀ (M : Nat) (hM : 8 * q ≤ M) (j : Nat) (hj : q ≤ j) (v0z : Bool) (v0l : List zjs) (v1 v5 : Int) (r : Bool) (_ : zm8 q v0z v0l v1 v5 = some r) (R : Option (List V)) (_ : some [V.bool r] = R) (fr : Fr) (H : Hp) (_ : canon 0 [0, 1, 5] fr H = ([(0, (.sl v0z (List.map zjs.enc v0l))), (1, (.int .i64 v1)), (5, (.int .i64 v5))], [])), fin z08 (unw T (orc T (M + 7)) (M + 7) 0 [.blk 0, .code z04] (iter 0 [0, 1, 5] (exec T (orc T (M + 7)) (M + 7) 0 z01) j fr H)) = R
def zcaz := And.intro @kk <| And.intro @ke <| And.intro @kn <| And.intro @zbt4 <| And.intro @zbvn <| @zbt6
theorem zca0 (q : Nat) (zcbq : zcay q) : zcay (q + 1) := by
 intro M hM j hj v0z v0l v1 v5 r h R hR fr H hc
 obtain ⟨j, rfl⟩ : ∃ i, j = i + 1 := ⟨j - 1, by omega⟩
 rw [zhu, hc]; clear hc
 rw [zm8] at h
 replace h := br h; rcases h with ⟨h1, h⟩ | ⟨h1, h⟩
 ·replace h := bn h; obtain ⟨h2, h⟩ := h
  replace h := ob h; obtain ⟨e1, h3, h⟩ := h
  replace h := ob h; obtain ⟨r2, h4, h⟩ := h
  replace h4 := zcan q (M + 7) (by omega) _ _ h4
  try simp only [kf, simprocAttr] at h4
  replace h := bb h; rcases h with ⟨h5', h5, h⟩ | ⟨h5', h5, h⟩
  ·replace h := br h; rcases h with ⟨h6, h⟩ | ⟨h6, h⟩
   ·replace h := zcbq M (by omega) j (by omega) _ _ _ _ _ h R hR
    simp only [zcaz, simprocAttr, *]
   ·cases h; subst hR; simp only [zcaz, simprocAttr, *]
  ·cases h; subst hR; simp only [zcaz, simprocAttr, *]
 ·cases h; subst hR; simp only [zcaz, simprocAttr, *]
theorem zca1 : ∀ q, zcay q
 | 0 => by intro M hM j hj; intros; rename_i h _ _ _ _ _; cases h
 | q + 1 => by have i0 := zca1 q; exact zca0 q i0
theorem zca2 : ∀ (q N : Nat), 8 * q ≤ N → ∀ (a0 : (Sl zjs)) (a1 : Int), ∀ (r : Bool), zm9 q a0 a1 = some r → (orc T N).deep F.zm9 [(Sl.enc zjs.enc) a0, (V.int .i64) a1] = some [V.bool r] := by
 intro q N hM a0 a1 r h
 rcases q with _ | q
 ·cases h
 obtain ⟨M, rfl⟩ : ∃ M, N = M + 8 := ⟨N - 8, by omega⟩
 have zcbq := (zca1 q)
 generalize hR : some [V.bool r] = R
 rw [zh3, zboq, y4, zh1]
 rw [zm9] at h
 replace h := br h; rcases h with ⟨h1, h⟩ | ⟨h1, h⟩
 ·cases h; subst hR; simp only [zcaz, simprocAttr, *]
 ·replace h := zcbq M (by omega) (M + 7) (by omega) _ _ _ _ _ h R hR
  simp only [zcaz, simprocAttr, *]
def zca3 (q : Nat) : Prop := ∀ (M : Nat) (hM : 8 * q ≤ M) (j : Nat) (hj : q ≤ j) (v0z : Bool) (v0l : List zjs) (v1 v5 r : Int) (_ : zna q v0z v0l v1 v5 = some r) (R : Option (List V)) (_ : some [(V.int .i64) r] = R) (fr : Fr) (H : Hp) (_ : canon 0 [0, 1, 5] fr H = ([(0, (.sl v0z (List.map zjs.enc v0l))), (1, (.int .i64 v1)), (5, (.int .i64 v5))], [])), fin zbem (unw T (orc T (M + 7)) (M + 7) 0 [.blk 0, .code zbej] (iter 0 [0, 1, 5] (exec T (orc T (M + 7)) (M + 7) 0 zbeg) j fr H)) = R
def zca4 := And.intro @kk <| And.intro @ke <| And.intro @kn <| And.intro @zbxa <| @zbxc
theorem zca5 (q : Nat) (zcbr : zca3 q) : zca3 (q + 1) := by
 intro M hM j hj v0z v0l v1 v5 r h R hR fr H hc
 obtain ⟨j, rfl⟩ : ∃ i, j = i + 1 := ⟨j - 1, by omega⟩
 rw [zhu, hc]; clear hc
 rw [zna] at h
 replace h := br h; rcases h with ⟨h1, h⟩ | ⟨h1, h⟩
 ·replace h := ob h; obtain ⟨e1, h2, h⟩ := h
  replace h := br h; rcases h with ⟨h3, h⟩ | ⟨h3, h⟩
  ·cases h; subst hR; simp only [zca4, simprocAttr, *]
  ·replace h := zcbr M (by omega) j (by omega) _ _ _ _ _ h R hR
   simp only [zca4, simprocAttr, *]
 ·cases h; subst hR; simp only [zca4, simprocAttr, *]
theorem zca6 : ∀ q, zca3 q
 | 0 => by intro M hM j hj; intros; rename_i h _ _ _ _ _; cases h
 | q + 1 => by have i0 := zca6 q; exact zca5 q i0
theorem zca7 : ∀ (q N : Nat), 8 * q ≤ N → ∀ (a0 : (Sl zjs)) (a1 : Int), ∀ (r : Int), znb q a0 a1 = some r → (orc T N).deep F.znb [(Sl.enc zjs.enc) a0, (V.int .i64) a1] = some [(V.int .i64) r] := by
 intro q N hM a0 a1 r h
 rcases q with _ | q
 ·cases h
 obtain ⟨M, rfl⟩ : ∃ M, N = M + 8 := ⟨N - 8, by omega⟩
 have zcbr := (zca6 q)
 generalize hR : some [(V.int .i64) r] = R
 rw [zh3, zbps, y4, zh1]
 rw [znb] at h
 replace h := zcbr M (by omega) (M + 7) (by omega) _ _ _ _ _ h R hR
 simp only [zca4, simprocAttr, *]
def zca8 := And.intro @kk <| And.intro @ke <| And.intro @kn <| And.intro @zbvg <| And.intro @zbtw <| And.intro @zbw5 <| And.intro @zbw8 <| And.intro @zbxb <| @zbvi
theorem zca9 : ∀ (q N : Nat), 8 * q ≤ N → ∀ (a0 : (Sl zjs)) (a1 : (Sl Int)), ∀ (r : zjs × Int), znc q a0 a1 = some r → (orc T N).deep F.znc [(Sl.enc zjs.enc) a0, (Sl.enc (V.int .u8)) a1] = some [zjs.enc r.1, (V.int .i64) r.2] := by
 intro q N hM a0 a1 r h
 rcases q with _ | q
 ·cases h
 obtain ⟨M, rfl⟩ : ∃ M, N = M + 8 := ⟨N - 8, by omega⟩
 generalize hR : some [zjs.enc r.1, (V.int .i64) r.2] = R
 rw [zh3, zbo6, y4, zh1]
 rw [znc] at h
 replace h := ob h; obtain ⟨r1, h1, h⟩ := h
 replace h1 := zb9h q (M + 7) (by omega) _ _ h1
 try simp only [kf, simprocAttr] at h1
 replace h := bn h; obtain ⟨h2, h⟩ := h
 replace h := bn h; obtain ⟨h3, h⟩ := h
 replace h := ob h; obtain ⟨r2, h4, h⟩ := h
 replace h4 := zcad q (M + 7) (by omega) _ _ h4
 try simp only [kf, simprocAttr] at h4
 replace h := bn h; obtain ⟨h5, h⟩ := h
 replace h := bn h; obtain ⟨h6, h⟩ := h
 replace h := ob h; obtain ⟨r3, h7, h⟩ := h
 replace h7 := zcaj q (M + 7) (by omega) _ _ h7
 try simp only [kf, simprocAttr] at h7
 replace h := bn h; obtain ⟨h8, h⟩ := h
 replace h := bn h; obtain ⟨h9, h⟩ := h
 replace h := ob h; obtain ⟨r4, h10, h⟩ := h
 replace h10 := zcad q (M + 7) (by omega) _ _ h10
 try simp only [kf, simprocAttr] at h10
 replace h := br h; rcases h with ⟨h11, h⟩ | ⟨h11, h⟩
 ·cases h; subst hR; simp only [zca8, simprocAttr, *]
 ·replace h := br h; rcases h with ⟨h12, h⟩ | ⟨h12, h⟩
  ·cases h; subst hR; simp only [zca8, simprocAttr, *]
  ·replace h := br h; rcases h with ⟨h13, h⟩ | ⟨h13, h⟩
   ·cases h; subst hR; simp only [zca8, simprocAttr, *]
   ·replace h := br h; rcases h with ⟨h14, h⟩ | ⟨h14, h⟩
    ·cases h; subst hR; simp only [zca8, simprocAttr, *]
    ·replace h := ob h; obtain ⟨r5, h15, h⟩ := h
     replace h15 := zca7 q (M + 7) (by omega) _ _ _ h15
     try simp only [kf, simprocAttr] at h15
     cases h; subst hR; simp only [zca8, simprocAttr, *]
end Go.Dvm.C
