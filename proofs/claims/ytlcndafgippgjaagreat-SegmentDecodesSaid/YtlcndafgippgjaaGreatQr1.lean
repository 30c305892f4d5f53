/- The machine comes to these answers: part 2. -/
import Derived.Test.YtlcndafgippgjaaGreatQl0
import Derived.Test.YtlcndafgippgjaaGreatQr0
set_option linter.all false
set_option maxRecDepth 100000
set_option maxHeartbeats 4000000
namespace Go.Dvm.C
open Go Go.Dvm Go.Dvm.I
def zcad (q : Nat) : Prop := ∀ (M : Nat) (hM : 8 * q ≤ M) (j : Nat) (hj : q ≤ j) (v0 : Int) (v1z : Bool) (v1l : List Int) (h0z : Bool) (h0l : List zjs) (r : (Ow zjs) × Bool) (_ : zly q v0 v1z v1l h0z h0l = some r) (R : Option (List V)) (_ : some [(Ow.enc 7 zjs.enc) r.1, V.bool r.2] = R) (fr : Fr) (H : Hp) (_ : canon 0 [0, 1, 6] fr H = ([(0, (.int .i64 v0)), (1, (.sl v1z (List.map (V.int .u8) v1l))), (6, (.vw 0 0 0 h0l.length 1))], [(.row 0 h0z 7 (List.map zjs.enc h0l) true)])), fin z47 (unw T (orc T (M + 7)) (M + 7) 0 [.blk 0, .code z43] (iter 0 [0, 1, 6] (exec T (orc T (M + 7)) (M + 7) 0 z41) j fr H)) = R
def zcae := And.intro @kk <| And.intro @ke <| And.intro @kn <| And.intro @zbws <| And.intro @zbwn <| And.intro @zbye <| @zbwu
theorem zcaf (q : Nat) (zcdv : zcad q) : zcad (q + 1) := by
 intro M hM j hj v0 v1z v1l h0z h0l r h R hR fr H hc
 obtain ⟨j, rfl⟩ : ∃ i, j = i + 1 := ⟨j - 1, by omega⟩
 rw [zhv, hc]; clear hc
 rw [zly] at h
 replace h := br h; rcases h with ⟨h1, h⟩ | ⟨h1, h⟩
 ·replace h := ob h; obtain ⟨r1, h2, h⟩ := h
  replace h2 := zb78 q (M + 7) (by omega) _ _ h2
  try simp only [kf, simprocAttr] at h2
  replace h := br h; rcases h with ⟨h3, h⟩ | ⟨h3, h⟩
  ·cases h; subst hR; simp only [zcae, simprocAttr, *]
  ·replace h := br h; rcases h with ⟨h4, h⟩ | ⟨h4, h⟩
   ·cases h; subst hR; simp only [zcae, simprocAttr, *]
   ·replace h := br h; rcases h with ⟨h5, h⟩ | ⟨h5, h⟩
    ·cases h; subst hR; simp only [zcae, simprocAttr, *]
    ·replace h := bn h; obtain ⟨h6, h⟩ := h
     replace h := ob h; obtain ⟨e2, h7, h⟩ := h
     replace h := br h; rcases h with ⟨h8, h⟩ | ⟨h8, h⟩
     ·replace h := bn h; obtain ⟨h9, h⟩ := h
      replace h := bn h; obtain ⟨h10, h⟩ := h
      replace h := ob h; obtain ⟨r3, h11, h⟩ := h
      replace h11 := zb9o q (M + 7) (by omega) _ _ h11
      try simp only [kf, simprocAttr] at h11
      replace h := br h; rcases h with ⟨h12, h⟩ | ⟨h12, h⟩
      ·replace h := bn h; obtain ⟨h13, h⟩ := h
       replace h := bn h; obtain ⟨h14, h⟩ := h
       replace h := bn h; obtain ⟨h15, h⟩ := h
       replace h := zcdv M (by omega) j (by omega) _ _ _ _ _ _ h R hR
       simp only [zcae, simprocAttr, *]
      ·cases h; subst hR; simp only [zcae, simprocAttr, *]
     ·cases h; subst hR; simp only [zcae, simprocAttr, *]
 ·cases h; subst hR; simp only [zcae, simprocAttr, *]
theorem zcag : ∀ q, zcad q
 | 0 => by intro M hM j hj; intros; rename_i h _ _ _ _ _; cases h
 | q + 1 => by have i0 := zcag q; exact zcaf q i0
theorem zcah : ∀ (q N : Nat), 8 * q ≤ N → ∀ (a0 : Int) (a1 : (Sl Int)), ∀ (r : (Ow zjs) × Bool), zlz q a0 a1 = some r → (orc T N).deep F.zlz [(V.int .i64) a0, (Sl.enc (V.int .u8)) a1] = some [(Ow.enc 7 zjs.enc) r.1, V.bool r.2] := by
 intro q N hM a0 a1 r h
 rcases q with _ | q
 ·cases h
 obtain ⟨M, rfl⟩ : ∃ M, N = M + 8 := ⟨N - 8, by omega⟩
 have zcdv := (zcag q)
 generalize hR : some [(Ow.enc 7 zjs.enc) r.1, V.bool r.2] = R
 rw [zh4, zbqp, y4, zh2]
 rw [zlz] at h
 replace h := zcdv M (by omega) (M + 7) (by omega) _ _ _ _ _ _ h R hR
 simp only [zcae, simprocAttr, *]
def zcai (q : Nat) : Prop := ∀ (M : Nat) (hM : 8 * q ≤ M) (j : Nat) (hj : q ≤ j) (v6z : Bool) (v6l : List (Sl Int)) (v7 v8 : Int) (h0z : Bool) (h0l : List (Sl Int)) (r : (Ow (Sl Int))) (_ : zl0 q v6z v6l v7 v8 h0z h0l = some r) (R : Option (List V)) (_ : some [(Ow.enc 1 (Sl.enc (V.int .u8))) r] = R) (fr : Fr) (H : Hp) (_ : canon 0 [3, 6, 7, 8] fr H = ([(3, (.vw 0 0 0 h0l.length 1)), (6, (.sl v6z (List.map (Sl.enc (V.int .u8)) v6l))), (7, (.int .i64 v7)), (8, (.int .i64 v8))], [(.row 0 h0z 1 (List.map (Sl.enc (V.int .u8)) h0l) true)])), fin zvn (unw T (orc T (M + 7)) (M + 7) 0 [.blk 0, .code zvj] (iter 0 [3, 6, 7, 8] (exec T (orc T (M + 7)) (M + 7) 0 zvg) j fr H)) = R
def zcaj := And.intro @kk <| And.intro @ke <| And.intro @kn <| And.intro @zbug <| And.intro @zbun <| @zbui
theorem zcak (q : Nat) (zcdw : zcai q) : zcai (q + 1) := by
 intro M hM j hj v6z v6l v7 v8 h0z h0l r h R hR fr H hc
 obtain ⟨j, rfl⟩ : ∃ i, j = i + 1 := ⟨j - 1, by omega⟩
 rw [zhv, hc]; clear hc
 rw [zl0] at h
 replace h := br h; rcases h with ⟨h1, h⟩ | ⟨h1, h⟩
 ·replace h := bn h; obtain ⟨h2, h⟩ := h
  replace h := ob h; obtain ⟨e1, h3, h⟩ := h
  replace h := ob h; obtain ⟨r2, h4, h⟩ := h
  replace h4 := zb57 q (M + 7) (by omega) _ _ h4
  try simp only [kf, simprocAttr] at h4
  replace h := bn h; obtain ⟨h5, h⟩ := h
  replace h := zcdw M (by omega) j (by omega) _ _ _ _ _ _ _ h R hR
  simp only [zcaj, simprocAttr, *]
 ·cases h; subst hR; simp only [zcaj, simprocAttr, *]
theorem zcal : ∀ q, zcai q
 | 0 => by intro M hM j hj; intros; rename_i h _ _ _ _ _; cases h
 | q + 1 => by have i0 := zcal q; exact zcak q i0
theorem zcam : ∀ (q N : Nat), 8 * q ≤ N → ∀ (a0 : (Sl (Sl Int))), ∀ (r : (Ow (Sl Int))), zl1 q a0 = some r → (orc T N).deep F.zl1 [(Sl.enc (Sl.enc (V.int .u8))) a0] = some [(Ow.enc 1 (Sl.enc (V.int .u8))) r] := by
 intro q N hM a0 r h
 rcases q with _ | q
 ·cases h
 obtain ⟨M, rfl⟩ : ∃ M, N = M + 8 := ⟨N - 8, by omega⟩
 have zcdw := (zcal q)
 generalize hR : some [(Ow.enc 1 (Sl.enc (V.int .u8))) r] = R
 rw [zh4, zbpx, y4, zh2]
 rw [zl1] at h
 replace h := zcdw M (by omega) (M + 7) (by omega) _ _ _ _ _ _ _ h R hR
 simp only [zcaj, simprocAttr, *]
def zcan (q : Nat) : Prop := ∀ (M : Nat) (hM : 8 * q ≤ M) (j : Nat) (hj : q ≤ j) (w1 : Nat) (v1z : Bool) (v1l : List Int) (v19 : Int) (h1z : Bool) (h1l : List (Sl Int)) (h1x : Bool) (h3_0 h3_1 h3_2 : Int) (r : Int × Int × Int × Int × Bool) (_ : zl2 q v1z v1l v19 h1z h1l h1x h3_0 h3_1 h3_2 = some r) (R : Option (List V × Hp)) (_ : (some ([(.int .i64 r.1)], [(.box [(.int .i64 0), (.int .i64 0), (.sl true [])]), (.row w1 h1z 1 (List.map (Sl.enc (V.int .u8)) h1l) h1x), (.box [(.int .i64 r.2.1), (.int .i64 r.2.2.1), (.int .i64 r.2.2.2.1), (.sl true []), (.bool r.2.2.2.2)])]) : Option (List V × Hp)) = R) (fr : Fr) (H : Hp) (_ : canon 3 [0, 1, 5, 19] fr H = ([(0, (.ptr 2 0)), (1, (.sl v1z (List.map (V.int .u8) v1l))), (5, (.ptr 3 0)), (19, (.int .i64 v19))], [(.box [(.int .i64 0), (.int .i64 0), (.sl true [])]), (.row w1 h1z 1 (List.map (Sl.enc (V.int .u8)) h1l) h1x), (.box [(.int .i64 0), (.int .i64 0), (.int .i64 0), (.sl true []), (.bool false)]), (.box [(.int .i64 h3_0), (.int .i64 h3_1), (.int .i64 h3_2)])])), finI 3 false [.tmp 4] (unw T (orc T (M + 5)) (M + 5) 3 [.blk 0, .code zya] (iter 3 [0, 1, 5, 19] (exec T (orc T (M + 5)) (M + 5) 3 zxv) j fr H)) = R
def zcao := And.intro @kk <| And.intro @ke <| And.intro @kn <| And.intro @zbu4 <| And.intro @zbvh <| @zbwn
theorem zcap (q : Nat) (zcdx : zcan q) : zcan (q + 1) := by
 intro M hM j hj w1 v1z v1l v19 h1z h1l h1x h3_0 h3_1 h3_2 r h R hR fr H hc
 obtain ⟨j, rfl⟩ : ∃ i, j = i + 1 := ⟨j - 1, by omega⟩
 rw [zhv, hc]; clear hc
 rw [zl2] at h
 replace h := br h; rcases h with ⟨h1, h⟩ | ⟨h1, h⟩
 ·replace h := ob h; obtain ⟨r2, h2, h⟩ := h
  replace h2 := zb78 q (M + 5) (by omega) _ _ h2
  try simp only [kf, simprocAttr] at h2
  replace h := bn h; obtain ⟨h3, h⟩ := h
  replace h := bn h; obtain ⟨h4, h⟩ := h
  replace h := bc h; rcases h with ⟨h5, h⟩ | ⟨h5, h⟩
  ·replace h := br h; rcases h with ⟨h6, h⟩ | ⟨h6, h⟩
   ·cases h; subst hR; simp only [zcao, simprocAttr, *]
   ·replace h := bn h; obtain ⟨h7, h⟩ := h
    replace h := bn h; obtain ⟨h8, h⟩ := h
    replace h := zcdx M (by omega) j (by omega) w1 _ _ _ _ _ _ _ _ _ _ h R hR
    simp only [zcao, simprocAttr, *]
  ·replace h := bc h; rcases h with ⟨h9, h⟩ | ⟨h9, h⟩
   ·replace h := br h; rcases h with ⟨h10, h⟩ | ⟨h10, h⟩
    ·cases h; subst hR; simp only [zcao, simprocAttr, *]
    ·replace h := bn h; obtain ⟨h11, h⟩ := h
     replace h := bn h; obtain ⟨h12, h⟩ := h
     replace h := zcdx M (by omega) j (by omega) w1 _ _ _ _ _ _ _ _ _ _ h R hR
     simp only [zcao, simprocAttr, *]
   ·replace h := bc h; rcases h with ⟨h13, h⟩ | ⟨h13, h⟩
    ·replace h := br h; rcases h with ⟨h14, h⟩ | ⟨h14, h⟩
     ·cases h; subst hR; simp only [zcao, simprocAttr, *]
     ·replace h := bn h; obtain ⟨h15, h⟩ := h
      replace h := bn h; obtain ⟨h16, h⟩ := h
      replace h := zcdx M (by omega) j (by omega) w1 _ _ _ _ _ _ _ _ _ _ h R hR
      simp only [zcao, simprocAttr, *]
    ·cases h
 ·replace h := br h; rcases h with ⟨h17, h⟩ | ⟨h17, h⟩
  ·cases h; subst hR; simp only [zcao, simprocAttr, *]
  ·replace h := ob h; obtain ⟨r3, h18, h⟩ := h
   replace h18 := zb4y q (M + 5) (by omega) _ _ h18
   replace h := bb h; rcases h with ⟨h19', h19, h⟩ | ⟨h19', h19, h⟩
   ·replace h := br h; rcases h with ⟨h20, h⟩ | ⟨h20, h⟩
    ·cases h; subst hR; simp only [zcao, simprocAttr, *]
    ·cases h; subst hR; simp only [zcao, simprocAttr, *]
   ·cases h; subst hR; simp only [zcao, simprocAttr, *]
theorem zcaq : ∀ q, zcan q
 | 0 => by intro M hM j hj; intros; rename_i h _ _ _ _ _; cases h
 | q + 1 => by have i0 := zcaq q; exact zcap q i0
theorem zcar : ∀ (q M : Nat), 8 * q ≤ M → ∀ (w1 : Nat), ∀ (v1z : Bool), ∀ (v1l : List Int), ∀ (h1z : Bool), ∀ (h1l : List (Sl Int)), ∀ (h1x : Bool), ∀ (r : Int × Int × Int × Int × Bool), zl3 q v1z v1l h1z h1l h1x = some r → (orc T (M + 6)).inl F.zok [(.ptr 2 0), (.sl v1z (List.map (V.int .u8) v1l))] [(.box [(.int .i64 0), (.int .i64 0), (.sl true [])]), (.row w1 h1z 1 (List.map (Sl.enc (V.int .u8)) h1l) h1x), (.box [(.int .i64 0), (.int .i64 0), (.int .i64 0), (.sl true []), (.bool false)])] = (some ([(.int .i64 r.1)], [(.box [(.int .i64 0), (.int .i64 0), (.sl true [])]), (.row w1 h1z 1 (List.map (Sl.enc (V.int .u8)) h1l) h1x), (.box [(.int .i64 r.2.1), (.int .i64 r.2.2.1), (.int .i64 r.2.2.2.1), (.sl true []), (.bool r.2.2.2.2)])]) : Option (List V × Hp)) := by
 intro q M hM w1 v1z v1l h1z h1l h1x r h
 rcases q with _ | q
 ·cases h
 have zcdx := (zcaq q)
 generalize hR : (some ([(.int .i64 r.1)], [(.box [(.int .i64 0), (.int .i64 0), (.sl true [])]), (.row w1 h1z 1 (List.map (Sl.enc (V.int .u8)) h1l) h1x), (.box [(.int .i64 r.2.1), (.int .i64 r.2.2.1), (.int .i64 r.2.2.2.1), (.sl true []), (.bool r.2.2.2.2)])]) : Option (List V × Hp)) = R
 rw [zbu6 (n := M + 5)]
 rw [zl3] at h
 replace h := br h; rcases h with ⟨h1, h⟩ | ⟨h1, h⟩
 ·cases h; subst hR; simp only [zcao, simprocAttr, *]
 ·replace h := ob h; obtain ⟨e1, h2, h⟩ := h
  replace h := br h; rcases h with ⟨h3, h⟩ | ⟨h3, h⟩
  ·replace h := bn h; obtain ⟨h4, h⟩ := h
   replace h := zcdx M (by omega) (M + 5) (by omega) w1 _ _ _ _ _ _ _ _ _ _ h R hR
   simp only [zcao, simprocAttr, *]
  ·cases h; subst hR; simp only [zcao, simprocAttr, *]
def zcas (q : Nat) : Prop := ∀ (M : Nat) (hM : 8 * q ≤ M) (j : Nat) (hj : q ≤ j) (w1 v1len v19len : Nat) (v20 : Int) (h1z : Bool) (h1l : List (Sl Int)) (h1x : Bool) (h2_0 h2_1 h2_2 : Int) (h2_4 : Bool) (r : Nat × Int × Int × Int × Int × Int × Bool × Int × Int × Int × Int × Int × Nat × Bool × Bool × (List zjs)) (_ : zl5 q v1len v19len v20 h1z h1l h1x h2_0 h2_1 h2_2 h2_4 = some r) (R : Option (List V × Hp)) (_ : (if r.1 = 0 then (some ([(.int .i64 r.2.1), (.int .i64 r.2.2.1)], [(.box [(.int .i64 0), (.int .i64 0), (.sl true [])]), (.row w1 h1z 1 (List.map (Sl.enc (V.int .u8)) h1l) h1x), (.box [(.int .i64 r.2.2.2.1), (.int .i64 r.2.2.2.2.1), (.int .i64 r.2.2.2.2.2.1), (.sl true []), (.bool r.2.2.2.2.2.2.1)])]) : Option (List V × Hp)) else (some ([(.int .i64 r.2.2.2.2.2.2.2.1), (.int .i64 r.2.2.2.2.2.2.2.2.1)], [(.box [(.int .i64 0), (.int .i64 0), (.sl true [])]), (.row w1 h1z 1 (List.map (Sl.enc (V.int .u8)) h1l) h1x), (.box [(.int .i64 r.2.2.2.2.2.2.2.2.2.1), (.int .i64 r.2.2.2.2.2.2.2.2.2.2.1), (.int .i64 r.2.2.2.2.2.2.2.2.2.2.2.1), (.vw 3 0 0 r.2.2.2.2.2.2.2.2.2.2.2.2.1 1), (.bool r.2.2.2.2.2.2.2.2.2.2.2.2.2.1)]), (.row 0 r.2.2.2.2.2.2.2.2.2.2.2.2.2.2.1 7 (List.map zjs.enc r.2.2.2.2.2.2.2.2.2.2.2.2.2.2.2) true)]) : Option (List V × Hp))) = R) (fr : Fr) (H : Hp) (_ : canon 3 [0, 1, 19, 20, 21] fr H = ([(0, (.ptr 2 0)), (1, (.vw 1 w1 0 v1len 1)), (19, (.vw 1 w1 1 v19len 1)), (20, (.int .i64 v20)), (21, (.int .i64 0))], [(.box [(.int .i64 0), (.int .i64 0), (.sl true [])]), (.row w1 h1z 1 (List.map (Sl.enc (V.int .u8)) h1l) h1x), (.box [(.int .i64 h2_0), (.int .i64 h2_1), (.int .i64 h2_2), (.sl true []), (.bool h2_4)])])), finI 3 false [.tmp 4, .tmp 5] (unw T (orc T (M + 6)) (M + 6) 3 [.blk 0, .code zst] (iter 3 [0, 1, 19, 20, 21] (exec T (orc T (M + 6)) (M + 6) 3 zsq) j fr H)) = R
def zcat (q : Nat) : Prop := ∀ (M : Nat) (hM : 8 * q ≤ M) (j : Nat) (hj : q ≤ j) (w1 v1len v19len : Nat) (v20 v21 : Int) (h1z : Bool) (h1l : List (Sl Int)) (h1x : Bool) (h2_0 h2_1 h2_2 : Int) (h2_4 h3z : Bool) (h3l : List zjs) (r : Nat × Int × Int × Int × Int × Int × Bool × Int × Int × Int × Int × Int × Nat × Bool × Bool × (List zjs)) (_ : zl4 q v1len v19len v20 v21 h1z h1l h1x h2_0 h2_1 h2_2 h2_4 h3z h3l = some r) (R : Option (List V × Hp)) (_ : (if r.1 = 0 then (some ([(.int .i64 r.2.1), (.int .i64 r.2.2.1)], [(.box [(.int .i64 0), (.int .i64 0), (.sl true [])]), (.row w1 h1z 1 (List.map (Sl.enc (V.int .u8)) h1l) h1x), (.box [(.int .i64 r.2.2.2.1), (.int .i64 r.2.2.2.2.1), (.int .i64 r.2.2.2.2.2.1), (.sl true []), (.bool r.2.2.2.2.2.2.1)])]) : Option (List V × Hp)) else (some ([(.int .i64 r.2.2.2.2.2.2.2.1), (.int .i64 r.2.2.2.2.2.2.2.2.1)], [(.box [(.int .i64 0), (.int .i64 0), (.sl true [])]), (.row w1 h1z 1 (List.map (Sl.enc (V.int .u8)) h1l) h1x), (.box [(.int .i64 r.2.2.2.2.2.2.2.2.2.1), (.int .i64 r.2.2.2.2.2.2.2.2.2.2.1), (.int .i64 r.2.2.2.2.2.2.2.2.2.2.2.1), (.vw 3 0 0 r.2.2.2.2.2.2.2.2.2.2.2.2.1 1), (.bool r.2.2.2.2.2.2.2.2.2.2.2.2.2.1)]), (.row 0 r.2.2.2.2.2.2.2.2.2.2.2.2.2.2.1 7 (List.map zjs.enc r.2.2.2.2.2.2.2.2.2.2.2.2.2.2.2) true)]) : Option (List V × Hp))) = R) (fr : Fr) (H : Hp) (_ : canon 3 [0, 1, 19, 20, 21] fr H = ([(0, (.ptr 2 0)), (1, (.vw 1 w1 0 v1len 1)), (19, (.vw 1 w1 1 v19len 1)), (20, (.int .i64 v20)), (21, (.int .i64 v21))], [(.box [(.int .i64 0), (.int .i64 0), (.sl true [])]), (.row w1 h1z 1 (List.map (Sl.enc (V.int .u8)) h1l) h1x), (.box [(.int .i64 h2_0), (.int .i64 h2_1), (.int .i64 h2_2), (.vw 3 0 0 h3l.length 1), (.bool h2_4)]), (.row 0 h3z 7 (List.map zjs.enc h3l) true)])), finI 3 false [.tmp 4, .tmp 5] (unw T (orc T (M + 6)) (M + 6) 3 [.blk 0, .code zst] (iter 3 [0, 1, 19, 20, 21] (exec T (orc T (M + 6)) (M + 6) 3 zsq) j fr H)) = R
def zcau := And.intro @kk <| And.intro @ke <| And.intro @kn <| And.intro @zbtm <| And.intro @zbu7 <| And.intro @zbt2 <| And.intro @zbu5 <| And.intro @zbwq <| And.intro @zbwt <| And.intro @zbu8 <| @zbu9
theorem zcav (q : Nat) (zcdy : zcat q) : zcas (q + 1) := by
 intro M hM j hj w1 v1len v19len v20 h1z h1l h1x h2_0 h2_1 h2_2 h2_4 r h R hR fr H hc
 obtain ⟨j, rfl⟩ : ∃ i, j = i + 1 := ⟨j - 1, by omega⟩
 rw [zhv, hc]; clear hc
 rw [zl5] at h
 replace h := br h; rcases h with ⟨h1, h⟩ | ⟨h1, h⟩
 ·replace h := bn h; obtain ⟨h2, h⟩ := h
  replace h := ob h; obtain ⟨e3, h3, h⟩ := h
  replace h := br h; rcases h with ⟨h4, h⟩ | ⟨h4, h⟩
  ·replace h := ob h; obtain ⟨r4, h5, h⟩ := h
   replace h5 := zb86 q (M + 5) (by omega) _ _ h5
   try simp only [kf, simprocAttr] at h5
   replace h := br h; rcases h with ⟨h6, h⟩ | ⟨h6, h⟩
   ·replace h := bb h; rcases h with ⟨h7', h7, h⟩ | ⟨h7', h7, h⟩
    ·replace h := br h; rcases h with ⟨h8, h⟩ | ⟨h8, h⟩
     ·cases h; subst hR; simp only [zcau, simprocAttr, *]
     ·replace h := br h; rcases h with ⟨h9, h⟩ | ⟨h9, h⟩
      ·cases h; subst hR; simp only [zcau, simprocAttr, *]
      ·replace h := ob h; obtain ⟨r5, h10, h⟩ := h
       replace h10 := zb6k q (M + 5) (by omega) _ _ _ h10
       try simp only [kf, simprocAttr] at h10
       replace h := bb h; rcases h with ⟨h11', h11, h⟩ | ⟨h11', h11, h⟩
       ·replace h := br h; rcases h with ⟨h12, h⟩ | ⟨h12, h⟩
        ·cases h; subst hR; simp only [zcau, simprocAttr, *]
        ·replace h := bn h; obtain ⟨h13, h⟩ := h
         replace h := zcdy M (by omega) j (by omega) w1 _ _ _ _ _ _ _ _ _ _ _ _ _ _ h R hR
         simp only [zcau, simprocAttr, *]
       ·cases h; subst hR; simp only [zcau, simprocAttr, *]
    ·cases h; subst hR; simp only [zcau, simprocAttr, *]
   ·cases h; subst hR; simp only [zcau, simprocAttr, *]
  ·replace h := ob h; obtain ⟨r6, h14, h⟩ := h
   replace h14 := zcah q (M + 5) (by omega) _ _ _ h14
   try simp only [kf, simprocAttr] at h14
   replace h := bb h; rcases h with ⟨h15', h15, h⟩ | ⟨h15', h15, h⟩
   ·replace h := bb h; rcases h with ⟨h16', h16, h⟩ | ⟨h16', h16, h⟩
    ·replace h := br h; rcases h with ⟨h17, h⟩ | ⟨h17, h⟩
     ·cases h; subst hR; simp only [zcau, simprocAttr, *]
     ·replace h := br h; rcases h with ⟨h18, h⟩ | ⟨h18, h⟩
      ·cases h; subst hR; simp only [zcau, simprocAttr, *]
      ·replace h := ob h; obtain ⟨r7, h19, h⟩ := h
       replace h19 := zb6k q (M + 5) (by omega) _ _ _ h19
       try simp only [kf, simprocAttr] at h19
       replace h := bb h; rcases h with ⟨h20', h20, h⟩ | ⟨h20', h20, h⟩
       ·replace h := br h; rcases h with ⟨h21, h⟩ | ⟨h21, h⟩
        ·cases h; subst hR; simp only [zcau, simprocAttr, *]
        ·replace h := bn h; obtain ⟨h22, h⟩ := h
         replace h := zcdy M (by omega) j (by omega) w1 _ _ _ _ _ _ _ _ _ _ _ _ _ _ h R hR
         simp only [zcau, simprocAttr, *]
       ·cases h; subst hR; simp only [zcau, simprocAttr, *]
    ·cases h; subst hR; simp only [zcau, simprocAttr, *]
   ·cases h; subst hR; simp only [zcau, simprocAttr, *]
 ·cases h; subst hR; simp only [zcau, simprocAttr, *]
theorem zcaw (q : Nat) (zcdy : zcat q) : zcat (q + 1) := by
 intro M hM j hj w1 v1len v19len v20 v21 h1z h1l h1x h2_0 h2_1 h2_2 h2_4 h3z h3l r h R hR fr H hc
 obtain ⟨j, rfl⟩ : ∃ i, j = i + 1 := ⟨j - 1, by omega⟩
 rw [zhv, hc]; clear hc
 rw [zl4] at h
 replace h := br h; rcases h with ⟨h1, h⟩ | ⟨h1, h⟩
 ·replace h := bn h; obtain ⟨h2, h⟩ := h
  replace h := bn h; obtain ⟨h3, h⟩ := h
  replace h := ob h; obtain ⟨e8, h4, h⟩ := h
  replace h := br h; rcases h with ⟨h5, h⟩ | ⟨h5, h⟩
  ·replace h := ob h; obtain ⟨r9, h6, h⟩ := h
   replace h6 := zb86 q (M + 5) (by omega) _ _ h6
   try simp only [kf, simprocAttr] at h6
   replace h := br h; rcases h with ⟨h7, h⟩ | ⟨h7, h⟩
   ·replace h := bb h; rcases h with ⟨h8', h8, h⟩ | ⟨h8', h8, h⟩
    ·replace h := br h; rcases h with ⟨h9, h⟩ | ⟨h9, h⟩
     ·cases h; subst hR; simp only [zcau, simprocAttr, *]
     ·replace h := br h; rcases h with ⟨h10, h⟩ | ⟨h10, h⟩
      ·cases h; subst hR; simp only [zcau, simprocAttr, *]
      ·replace h := ob h; obtain ⟨r10, h11, h⟩ := h
       replace h11 := zb6k q (M + 5) (by omega) _ _ _ h11
       try simp only [kf, simprocAttr] at h11
       replace h := bb h; rcases h with ⟨h12', h12, h⟩ | ⟨h12', h12, h⟩
       ·replace h := br h; rcases h with ⟨h13, h⟩ | ⟨h13, h⟩
        ·cases h; subst hR; simp only [zcau, simprocAttr, *]
        ·replace h := bn h; obtain ⟨h14, h⟩ := h
         replace h := zcdy M (by omega) j (by omega) w1 _ _ _ _ _ _ _ _ _ _ _ _ _ _ h R hR
         simp only [zcau, simprocAttr, *]
       ·cases h; subst hR; simp only [zcau, simprocAttr, *]
    ·cases h; subst hR; simp only [zcau, simprocAttr, *]
   ·cases h; subst hR; simp only [zcau, simprocAttr, *]
  ·replace h := ob h; obtain ⟨r11, h15, h⟩ := h
   replace h15 := zcah q (M + 5) (by omega) _ _ _ h15
   try simp only [kf, simprocAttr] at h15
   replace h := bb h; rcases h with ⟨h16', h16, h⟩ | ⟨h16', h16, h⟩
   ·replace h := bb h; rcases h with ⟨h17', h17, h⟩ | ⟨h17', h17, h⟩
    ·replace h := br h; rcases h with ⟨h18, h⟩ | ⟨h18, h⟩
     ·cases h; subst hR; simp only [zcau, simprocAttr, *]
     ·replace h := br h; rcases h with ⟨h19, h⟩ | ⟨h19, h⟩
      ·cases h; subst hR; simp only [zcau, simprocAttr, *]
      ·replace h := ob h; obtain ⟨r12, h20, h⟩ := h
       replace h20 := zb6k q (M + 5) (by omega) _ _ _ h20
       try simp only [kf, simprocAttr] at h20
       replace h := bb h; rcases h with ⟨h21', h21, h⟩ | ⟨h21', h21, h⟩
       ·replace h := br h; rcases h with ⟨h22, h⟩ | ⟨h22, h⟩
        ·cases h; subst hR; simp only [zcau, simprocAttr, *]
        ·replace h := bn h; obtain ⟨h23, h⟩ := h
         replace h := zcdy M (by omega) j (by omega) w1 _ _ _ _ _ _ _ _ _ _ _ _ _ _ h R hR
         simp only [zcau, simprocAttr, *]
       ·cases h; subst hR; simp only [zcau, simprocAttr, *]
    ·cases h; subst hR; simp only [zcau, simprocAttr, *]
   ·cases h; subst hR; simp only [zcau, simprocAttr, *]
 ·cases h; subst hR; simp only [zcau, simprocAttr, *]
theorem zcax : ∀ q, zcas q ∧ zcat q
 | 0 => by refine ⟨?_, ?_⟩ <;> (intro M hM j hj; intros; rename_i h _ _ _ _ _; cases h)
 | q + 1 => by have ⟨i0, i1⟩ := zcax q; exact ⟨zcav q i1, zcaw q i1⟩
theorem zcay : ∀ (q M : Nat), 8 * q ≤ M → ∀ (w1 v1len : Nat), ∀ (h1z : Bool), ∀ (h1l : List (Sl Int)), ∀ (h1x : Bool), ∀ (r : Nat × Int × Int × Int × Int × Int × Bool × Int × Int × Int × Int × Int × Nat × Bool × Bool × (List zjs)), zl6 q v1len h1z h1l h1x = some r → (orc T (M + 7)).inl F.zoi [(.ptr 2 0), (.vw 1 w1 0 v1len 1)] [(.box [(.int .i64 0), (.int .i64 0), (.sl true [])]), (.row w1 h1z 1 (List.map (Sl.enc (V.int .u8)) h1l) h1x), (.box [(.int .i64 0), (.int .i64 0), (.int .i64 0), (.sl true []), (.bool false)])] = (if r.1 = 0 then (some ([(.int .i64 r.2.1), (.int .i64 r.2.2.1)], [(.box [(.int .i64 0), (.int .i64 0), (.sl true [])]), (.row w1 h1z 1 (List.map (Sl.enc (V.int .u8)) h1l) h1x), (.box [(.int .i64 r.2.2.2.1), (.int .i64 r.2.2.2.2.1), (.int .i64 r.2.2.2.2.2.1), (.sl true []), (.bool r.2.2.2.2.2.2.1)])]) : Option (List V × Hp)) else (some ([(.int .i64 r.2.2.2.2.2.2.2.1), (.int .i64 r.2.2.2.2.2.2.2.2.1)], [(.box [(.int .i64 0), (.int .i64 0), (.sl true [])]), (.row w1 h1z 1 (List.map (Sl.enc (V.int .u8)) h1l) h1x), (.box [(.int .i64 r.2.2.2.2.2.2.2.2.2.1), (.int .i64 r.2.2.2.2.2.2.2.2.2.2.1), (.int .i64 r.2.2.2.2.2.2.2.2.2.2.2.1), (.vw 3 0 0 r.2.2.2.2.2.2.2.2.2.2.2.2.1 1), (.bool r.2.2.2.2.2.2.2.2.2.2.2.2.2.1)]), (.row 0 r.2.2.2.2.2.2.2.2.2.2.2.2.2.2.1 7 (List.map zjs.enc r.2.2.2.2.2.2.2.2.2.2.2.2.2.2.2) true)]) : Option (List V × Hp))) := by
 intro q M hM w1 v1len h1z h1l h1x r h
 rcases q with _ | q
 ·cases h
 have ih_segment_decode_s0_l0 := (zcax q).1
 generalize hR : (if r.1 = 0 then (some ([(.int .i64 r.2.1), (.int .i64 r.2.2.1)], [(.box [(.int .i64 0), (.int .i64 0), (.sl true [])]), (.row w1 h1z 1 (List.map (Sl.enc (V.int .u8)) h1l) h1x), (.box [(.int .i64 r.2.2.2.1), (.int .i64 r.2.2.2.2.1), (.int .i64 r.2.2.2.2.2.1), (.sl true []), (.bool r.2.2.2.2.2.2.1)])]) : Option (List V × Hp)) else (some ([(.int .i64 r.2.2.2.2.2.2.2.1), (.int .i64 r.2.2.2.2.2.2.2.2.1)], [(.box [(.int .i64 0), (.int .i64 0), (.sl true [])]), (.row w1 h1z 1 (List.map (Sl.enc (V.int .u8)) h1l) h1x), (.box [(.int .i64 r.2.2.2.2.2.2.2.2.2.1), (.int .i64 r.2.2.2.2.2.2.2.2.2.2.1), (.int .i64 r.2.2.2.2.2.2.2.2.2.2.2.1), (.vw 3 0 0 r.2.2.2.2.2.2.2.2.2.2.2.2.1 1), (.bool r.2.2.2.2.2.2.2.2.2.2.2.2.2.1)]), (.row 0 r.2.2.2.2.2.2.2.2.2.2.2.2.2.2.1 7 (List.map zjs.enc r.2.2.2.2.2.2.2.2.2.2.2.2.2.2.2) true)]) : Option (List V × Hp))) = R
 rw [zbto (n := M + 6)]
 rw [zl6] at h
 replace h := bn h; obtain ⟨h1, h⟩ := h
 replace h := ob h; obtain ⟨e1, h2, h⟩ := h
 replace h := ob h; obtain ⟨r2, h3, h⟩ := h
 replace h3 := zcar q M (by omega) w1 _ _ _ _ _ _ h3
 try simp only [kf, simprocAttr] at h3
 replace h := br h; rcases h with ⟨h4, h⟩ | ⟨h4, h⟩
 ·replace h := bn h; obtain ⟨h5, h⟩ := h
  replace h := ih_segment_decode_s0_l0 M (by omega) (M + 6) (by omega) w1 _ _ _ _ _ _ _ _ _ _ _ h R hR
  simp only [zcau, simprocAttr, *]
 ·cases h; subst hR; simp only [zcau, simprocAttr, *]
def zcaz (q : Nat) : Prop := ∀ (M : Nat) (hM : 8 * q ≤ M) (j : Nat) (hj : q ≤ j) (w1 : Nat) (v1z : Bool) (v1l : List Int) (v19 : Int) (h1z : Bool) (h1l : List (Sl Int)) (h1x : Bool) (h3_0 h3_1 h3_2 : Int) (r : Int × Int × Int × Int × Bool) (_ : zl7 q v1z v1l v19 h1z h1l h1x h3_0 h3_1 h3_2 = some r) (R : Option (List V × Hp)) (_ : (some ([(.int .i64 r.1)], [(.box [(.int .i64 0), (.int .i64 0), (.sl true [])]), (.row w1 h1z 1 (List.map (Sl.enc (V.int .u8)) h1l) h1x), (.box [(.int .i64 r.2.1), (.int .i64 r.2.2.1), (.int .i64 r.2.2.2.1), (.sl true []), (.bool r.2.2.2.2)])]) : Option (List V × Hp)) = R) (fr : Fr) (H : Hp) (_ : canon 3 [0, 1, 5, 19] fr H = ([(0, (.ptr 2 0)), (1, (.sl v1z (List.map (V.int .u8) v1l))), (5, (.ptr 3 0)), (19, (.int .i64 v19))], [(.box [(.int .i64 0), (.int .i64 0), (.sl true [])]), (.row w1 h1z 1 (List.map (Sl.enc (V.int .u8)) h1l) h1x), (.box [(.int .i64 0), (.int .i64 0), (.int .i64 0), (.sl true []), (.bool false)]), (.box [(.int .i64 h3_0), (.int .i64 h3_1), (.int .i64 h3_2)])])), finI 3 false [.tmp 4] (unw T (orc T (M + 5)) (M + 5) 3 [.blk 0, .code zya] (iter 3 [0, 1, 5, 19] (exec T (orc T (M + 5)) (M + 5) 3 zxv) j fr H)) = R
def zca0 := And.intro @kk <| And.intro @ke <| And.intro @kn <| And.intro @zbu4 <| And.intro @zbvh <| @zbwn
theorem zca1 (q : Nat) (zcdz : zcaz q) : zcaz (q + 1) := by
 intro M hM j hj w1 v1z v1l v19 h1z h1l h1x h3_0 h3_1 h3_2 r h R hR fr H hc
 obtain ⟨j, rfl⟩ : ∃ i, j = i + 1 := ⟨j - 1, by omega⟩
 rw [zhv, hc]; clear hc
 rw [zl7] at h
 replace h := br h; rcases h with ⟨h1, h⟩ | ⟨h1, h⟩
 ·replace h := ob h; obtain ⟨r2, h2, h⟩ := h
  replace h2 := zb78 q (M + 5) (by omega) _ _ h2
  try simp only [kf, simprocAttr] at h2
  replace h := bn h; obtain ⟨h3, h⟩ := h
  replace h := bn h; obtain ⟨h4, h⟩ := h
  replace h := bc h; rcases h with ⟨h5, h⟩ | ⟨h5, h⟩
  ·replace h := br h; rcases h with ⟨h6, h⟩ | ⟨h6, h⟩
   ·cases h; subst hR; simp only [zca0, simprocAttr, *]
   ·replace h := bn h; obtain ⟨h7, h⟩ := h
    replace h := bn h; obtain ⟨h8, h⟩ := h
    replace h := zcdz M (by omega) j (by omega) w1 _ _ _ _ _ _ _ _ _ _ h R hR
    simp only [zca0, simprocAttr, *]
  ·replace h := bc h; rcases h with ⟨h9, h⟩ | ⟨h9, h⟩
   ·replace h := br h; rcases h with ⟨h10, h⟩ | ⟨h10, h⟩
    ·cases h; subst hR; simp only [zca0, simprocAttr, *]
    ·replace h := bn h; obtain ⟨h11, h⟩ := h
     replace h := bn h; obtain ⟨h12, h⟩ := h
     replace h := zcdz M (by omega) j (by omega) w1 _ _ _ _ _ _ _ _ _ _ h R hR
     simp only [zca0, simprocAttr, *]
   ·replace h := bc h; rcases h with ⟨h13, h⟩ | ⟨h13, h⟩
    ·replace h := br h; rcases h with ⟨h14, h⟩ | ⟨h14, h⟩
     ·cases h; subst hR; simp only [zca0, simprocAttr, *]
     ·replace h := bn h; obtain ⟨h15, h⟩ := h
      replace h := bn h; obtain ⟨h16, h⟩ := h
      replace h := zcdz M (by omega) j (by omega) w1 _ _ _ _ _ _ _ _ _ _ h R hR
      simp only [zca0, simprocAttr, *]
    ·cases h
 ·replace h := br h; rcases h with ⟨h17, h⟩ | ⟨h17, h⟩
  ·cases h; subst hR; simp only [zca0, simprocAttr, *]
  ·replace h := ob h; obtain ⟨r3, h18, h⟩ := h
   replace h18 := zb4y q (M + 5) (by omega) _ _ h18
   replace h := bb h; rcases h with ⟨h19', h19, h⟩ | ⟨h19', h19, h⟩
   ·replace h := br h; rcases h with ⟨h20, h⟩ | ⟨h20, h⟩
    ·cases h; subst hR; simp only [zca0, simprocAttr, *]
    ·cases h; subst hR; simp only [zca0, simprocAttr, *]
   ·cases h; subst hR; simp only [zca0, simprocAttr, *]
theorem zca2 : ∀ q, zcaz q
 | 0 => by intro M hM j hj; intros; rename_i h _ _ _ _ _; cases h
 | q + 1 => by have i0 := zca2 q; exact zca1 q i0
theorem zca3 : ∀ (q M : Nat), 8 * q ≤ M → ∀ (w1 : Nat), ∀ (v1z : Bool), ∀ (v1l : List Int), ∀ (h1z : Bool), ∀ (h1l : List (Sl Int)), ∀ (h1x : Bool), ∀ (r : Int × Int × Int × Int × Bool), zl8 q v1z v1l h1z h1l h1x = some r → (orc T (M + 6)).inl F.zok [(.ptr 2 0), (.sl v1z (List.map (V.int .u8) v1l))] [(.box [(.int .i64 0), (.int .i64 0), (.sl true [])]), (.row w1 h1z 1 (List.map (Sl.enc (V.int .u8)) h1l) h1x), (.box [(.int .i64 0), (.int .i64 0), (.int .i64 0), (.sl true []), (.bool false)])] = (some ([(.int .i64 r.1)], [(.box [(.int .i64 0), (.int .i64 0), (.sl true [])]), (.row w1 h1z 1 (List.map (Sl.enc (V.int .u8)) h1l) h1x), (.box [(.int .i64 r.2.1), (.int .i64 r.2.2.1), (.int .i64 r.2.2.2.1), (.sl true []), (.bool r.2.2.2.2)])]) : Option (List V × Hp)) := by
 intro q M hM w1 v1z v1l h1z h1l h1x r h
 rcases q with _ | q
 ·cases h
 have zcdz := (zca2 q)
 generalize hR : (some ([(.int .i64 r.1)], [(.box [(.int .i64 0), (.int .i64 0), (.sl true [])]), (.row w1 h1z 1 (List.map (Sl.enc (V.int .u8)) h1l) h1x), (.box [(.int .i64 r.2.1), (.int .i64 r.2.2.1), (.int .i64 r.2.2.2.1), (.sl true []), (.bool r.2.2.2.2)])]) : Option (List V × Hp)) = R
 rw [zbu6 (n := M + 5)]
 rw [zl8] at h
 replace h := br h; rcases h with ⟨h1, h⟩ | ⟨h1, h⟩
 ·cases h; subst hR; simp only [zca0, simprocAttr, *]
 ·replace h := ob h; obtain ⟨e1, h2, h⟩ := h
  replace h := br h; rcases h with ⟨h3, h⟩ | ⟨h3, h⟩
  ·replace h := bn h; obtain ⟨h4, h⟩ := h
   replace h := zcdz M (by omega) (M + 5) (by omega) w1 _ _ _ _ _ _ _ _ _ _ h R hR
   simp only [zca0, simprocAttr, *]
  ·cases h; subst hR; simp only [zca0, simprocAttr, *]
def zca4 (q : Nat) : Prop := ∀ (M : Nat) (hM : 8 * q ≤ M) (j : Nat) (hj : q ≤ j) (w1 v1len v19len : Nat) (v20 : Int) (h1z : Bool) (h1l : List (Sl Int)) (h1x : Bool) (h2_0 h2_1 h2_2 : Int) (h2_4 : Bool) (r : Nat × Int × Int × Int × Int × Int × Bool × Int × Int × Int × Int × Int × Nat × Bool × Bool × (List zjs)) (_ : zma q v1len v19len v20 h1z h1l h1x h2_0 h2_1 h2_2 h2_4 = some r) (R : Option (List V × Hp)) (_ : (if r.1 = 0 then (some ([(.int .i64 r.2.1), (.int .i64 r.2.2.1)], [(.box [(.int .i64 0), (.int .i64 0), (.sl true [])]), (.row w1 h1z 1 (List.map (Sl.enc (V.int .u8)) h1l) h1x), (.box [(.int .i64 r.2.2.2.1), (.int .i64 r.2.2.2.2.1), (.int .i64 r.2.2.2.2.2.1), (.sl true []), (.bool r.2.2.2.2.2.2.1)])]) : Option (List V × Hp)) else (some ([(.int .i64 r.2.2.2.2.2.2.2.1), (.int .i64 r.2.2.2.2.2.2.2.2.1)], [(.box [(.int .i64 0), (.int .i64 0), (.sl true [])]), (.row w1 h1z 1 (List.map (Sl.enc (V.int .u8)) h1l) h1x), (.box [(.int .i64 r.2.2.2.2.2.2.2.2.2.1), (.int .i64 r.2.2.2.2.2.2.2.2.2.2.1), (.int .i64 r.2.2.2.2.2.2.2.2.2.2.2.1), (.vw 3 0 0 r.2.2.2.2.2.2.2.2.2.2.2.2.1 1), (.bool r.2.2.2.2.2.2.2.2.2.2.2.2.2.1)]), (.row 0 r.2.2.2.2.2.2.2.2.2.2.2.2.2.2.1 7 (List.map zjs.enc r.2.2.2.2.2.2.2.2.2.2.2.2.2.2.2) true)]) : Option (List V × Hp))) = R) (fr : Fr) (H : Hp) (_ : canon 3 [0, 1, 19, 20, 21] fr H = ([(0, (.ptr 2 0)), (1, (.vw 1 w1 0 v1len 0)), (19, (.vw 1 w1 1 v19len 0)), (20, (.int .i64 v20)), (21, (.int .i64 0))], [(.box [(.int .i64 0), (.int .i64 0), (.sl true [])]), (.row w1 h1z 1 (List.map (Sl.enc (V.int .u8)) h1l) h1x), (.box [(.int .i64 h2_0), (.int .i64 h2_1), (.int .i64 h2_2), (.sl true []), (.bool h2_4)])])), finI 3 false [.tmp 4, .tmp 5] (unw T (orc T (M + 6)) (M + 6) 3 [.blk 0, .code zst] (iter 3 [0, 1, 19, 20, 21] (exec T (orc T (M + 6)) (M + 6) 3 zsq) j fr H)) = R
def zca5 (q : Nat) : Prop := ∀ (M : Nat) (hM : 8 * q ≤ M) (j : Nat) (hj : q ≤ j) (w1 v1len v19len : Nat) (v20 v21 : Int) (h1z : Bool) (h1l : List (Sl Int)) (h1x : Bool) (h2_0 h2_1 h2_2 : Int) (h2_4 h3z : Bool) (h3l : List zjs) (r : Nat × Int × Int × Int × Int × Int × Bool × Int × Int × Int × Int × Int × Nat × Bool × Bool × (List zjs)) (_ : zl9 q v1len v19len v20 v21 h1z h1l h1x h2_0 h2_1 h2_2 h2_4 h3z h3l = some r) (R : Option (List V × Hp)) (_ : (if r.1 = 0 then (some ([(.int .i64 r.2.1), (.int .i64 r.2.2.1)], [(.box [(.int .i64 0), (.int .i64 0), (.sl true [])]), (.row w1 h1z 1 (List.map (Sl.enc (V.int .u8)) h1l) h1x), (.box [(.int .i64 r.2.2.2.1), (.int .i64 r.2.2.2.2.1), (.int .i64 r.2.2.2.2.2.1), (.sl true []), (.bool r.2.2.2.2.2.2.1)])]) : Option (List V × Hp)) else (some ([(.int .i64 r.2.2.2.2.2.2.2.1), (.int .i64 r.2.2.2.2.2.2.2.2.1)], [(.box [(.int .i64 0), (.int .i64 0), (.sl true [])]), (.row w1 h1z 1 (List.map (Sl.enc (V.int .u8)) h1l) h1x), (.box [(.int .i64 r.2.2.2.2.2.2.2.2.2.1), (.int .i64 r.2.2.2.2.2.2.2.2.2.2.1), (.int .i64 r.2.2.2.2.2.2.2.2.2.2.2.1), (.vw 3 0 0 r.2.2.2.2.2.2.2.2.2.2.2.2.1 1), (.bool r.2.2.2.2.2.2.2.2.2.2.2.2.2.1)]), (.row 0 r.2.2.2.2.2.2.2.2.2.2.2.2.2.2.1 7 (List.map zjs.enc r.2.2.2.2.2.2.2.2.2.2.2.2.2.2.2) true)]) : Option (List V × Hp))) = R) (fr : Fr) (H : Hp) (_ : canon 3 [0, 1, 19, 20, 21] fr H = ([(0, (.ptr 2 0)), (1, (.vw 1 w1 0 v1len 0)), (19, (.vw 1 w1 1 v19len 0)), (20, (.int .i64 v20)), (21, (.int .i64 v21))], [(.box [(.int .i64 0), (.int .i64 0), (.sl true [])]), (.row w1 h1z 1 (List.map (Sl.enc (V.int .u8)) h1l) h1x), (.box [(.int .i64 h2_0), (.int .i64 h2_1), (.int .i64 h2_2), (.vw 3 0 0 h3l.length 1), (.bool h2_4)]), (.row 0 h3z 7 (List.map zjs.enc h3l) true)])), finI 3 false [.tmp 4, .tmp 5] (unw T (orc T (M + 6)) (M + 6) 3 [.blk 0, .code zst] (iter 3 [0, 1, 19, 20, 21] (exec T (orc T (M + 6)) (M + 6) 3 zsq) j fr H)) = R
def zca6 := And.intro @kk <| And.intro @ke <| And.intro @kn <| And.intro @zbtm <| And.intro @zbu7 <| And.intro @zbt2 <| And.intro @zbu5 <| And.intro @zbwq <| And.intro @zbwt <| And.intro @zbu8 <| @zbu9
theorem zca7 (q : Nat) (zcd0 : zca5 q) : zca4 (q + 1) := by
 intro M hM j hj w1 v1len v19len v20 h1z h1l h1x h2_0 h2_1 h2_2 h2_4 r h R hR fr H hc
 obtain ⟨j, rfl⟩ : ∃ i, j = i + 1 := ⟨j - 1, by omega⟩
 rw [zhv, hc]; clear hc
 rw [zma] at h
 replace h := br h; rcases h with ⟨h1, h⟩ | ⟨h1, h⟩
 ·replace h := bn h; obtain ⟨h2, h⟩ := h
  replace h := ob h; obtain ⟨e3, h3, h⟩ := h
  replace h := br h; rcases h with ⟨h4, h⟩ | ⟨h4, h⟩
  ·replace h := ob h; obtain ⟨r4, h5, h⟩ := h
   replace h5 := zb86 q (M + 5) (by omega) _ _ h5
   try simp only [kf, simprocAttr] at h5
   replace h := br h; rcases h with ⟨h6, h⟩ | ⟨h6, h⟩
   ·replace h := bb h; rcases h with ⟨h7', h7, h⟩ | ⟨h7', h7, h⟩
    ·replace h := br h; rcases h with ⟨h8, h⟩ | ⟨h8, h⟩
     ·cases h; subst hR; simp only [zca6, simprocAttr, *]
     ·replace h := br h; rcases h with ⟨h9, h⟩ | ⟨h9, h⟩
      ·cases h; subst hR; simp only [zca6, simprocAttr, *]
      ·replace h := ob h; obtain ⟨r5, h10, h⟩ := h
       replace h10 := zb6k q (M + 5) (by omega) _ _ _ h10
       try simp only [kf, simprocAttr] at h10
       replace h := bb h; rcases h with ⟨h11', h11, h⟩ | ⟨h11', h11, h⟩
       ·replace h := br h; rcases h with ⟨h12, h⟩ | ⟨h12, h⟩
        ·cases h; subst hR; simp only [zca6, simprocAttr, *]
        ·replace h := bn h; obtain ⟨h13, h⟩ := h
         replace h := zcd0 M (by omega) j (by omega) w1 _ _ _ _ _ _ _ _ _ _ _ _ _ _ h R hR
         simp only [zca6, simprocAttr, *]
       ·cases h; subst hR; simp only [zca6, simprocAttr, *]
    ·cases h; subst hR; simp only [zca6, simprocAttr, *]
   ·cases h; subst hR; simp only [zca6, simprocAttr, *]
  ·replace h := ob h; obtain ⟨r6, h14, h⟩ := h
   replace h14 := zcah q (M + 5) (by omega) _ _ _ h14
   try simp only [kf, simprocAttr] at h14
   replace h := bb h; rcases h with ⟨h15', h15, h⟩ | ⟨h15', h15, h⟩
   ·replace h := bb h; rcases h with ⟨h16', h16, h⟩ | ⟨h16', h16, h⟩
    ·replace h := br h; rcases h with ⟨h17, h⟩ | ⟨h17, h⟩
     ·cases h; subst hR; simp only [zca6, simprocAttr, *]
     ·replace h := br h; rcases h with ⟨h18, h⟩ | ⟨h18, h⟩
      ·cases h; subst hR; simp only [zca6, simprocAttr, *]
      ·replace h := ob h; obtain ⟨r7, h19, h⟩ := h
       replace h19 := zb6k q (M + 5) (by omega) _ _ _ h19
       try simp only [kf, simprocAttr] at h19
       replace h := bb h; rcases h with ⟨h20', h20, h⟩ | ⟨h20', h20, h⟩
       ·replace h := br h; rcases h with ⟨h21, h⟩ | ⟨h21, h⟩
        ·cases h; subst hR; simp only [zca6, simprocAttr, *]
        ·replace h := bn h; obtain ⟨h22, h⟩ := h
         replace h := zcd0 M (by omega) j (by omega) w1 _ _ _ _ _ _ _ _ _ _ _ _ _ _ h R hR
         simp only [zca6, simprocAttr, *]
       ·cases h; subst hR; simp only [zca6, simprocAttr, *]
    ·cases h; subst hR; simp only [zca6, simprocAttr, *]
   ·cases h; subst hR; simp only [zca6, simprocAttr, *]
 ·cases h; subst hR; simp only [zca6, simprocAttr, *]
theorem zca8 (q : Nat) (zcd0 : zca5 q) : zca5 (q + 1) := by
 intro M hM j hj w1 v1len v19len v20 v21 h1z h1l h1x h2_0 h2_1 h2_2 h2_4 h3z h3l r h R hR fr H hc
 obtain ⟨j, rfl⟩ : ∃ i, j = i + 1 := ⟨j - 1, by omega⟩
 rw [zhv, hc]; clear hc
 rw [zl9] at h
 replace h := br h; rcases h with ⟨h1, h⟩ | ⟨h1, h⟩
 ·replace h := bn h; obtain ⟨h2, h⟩ := h
  replace h := bn h; obtain ⟨h3, h⟩ := h
  replace h := ob h; obtain ⟨e8, h4, h⟩ := h
  replace h := br h; rcases h with ⟨h5, h⟩ | ⟨h5, h⟩
  ·replace h := ob h; obtain ⟨r9, h6, h⟩ := h
   replace h6 := zb86 q (M + 5) (by omega) _ _ h6
   try simp only [kf, simprocAttr] at h6
   replace h := br h; rcases h with ⟨h7, h⟩ | ⟨h7, h⟩
   ·replace h := bb h; rcases h with ⟨h8', h8, h⟩ | ⟨h8', h8, h⟩
    ·replace h := br h; rcases h with ⟨h9, h⟩ | ⟨h9, h⟩
     ·cases h; subst hR; simp only [zca6, simprocAttr, *]
     ·replace h := br h; rcases h with ⟨h10, h⟩ | ⟨h10, h⟩
      ·cases h; subst hR; simp only [zca6, simprocAttr, *]
      ·replace h := ob h; obtain ⟨r10, h11, h⟩ := h
       replace h11 := zb6k q (M + 5) (by omega) _ _ _ h11
       try simp only [kf, simprocAttr] at h11
       replace h := bb h; rcases h with ⟨h12', h12, h⟩ | ⟨h12', h12, h⟩
       ·replace h := br h; rcases h with ⟨h13, h⟩ | ⟨h13, h⟩
        ·cases h; subst hR; simp only [zca6, simprocAttr, *]
        ·replace h := bn h; obtain ⟨h14, h⟩ := h
         replace h := zcd0 M (by omega) j (by omega) w1 _ _ _ _ _ _ _ _ _ _ _ _ _ _ h R hR
         simp only [zca6, simprocAttr, *]
       ·cases h; subst hR; simp only [zca6, simprocAttr, *]
    ·cases h; subst hR; simp only [zca6, simprocAttr, *]
   ·cases h; subst hR; simp only [zca6, simprocAttr, *]
  ·replace h := ob h; obtain ⟨r11, h15, h⟩ := h
   replace h15 := zcah q (M + 5) (by omega) _ _ _ h15
   try simp only [kf, simprocAttr] at h15
   replace h := bb h; rcases h with ⟨h16', h16, h⟩ | ⟨h16', h16, h⟩
   ·replace h := bb h; rcases h with ⟨h17', h17, h⟩ | ⟨h17', h17, h⟩
    ·replace h := br h; rcases h with ⟨h18, h⟩ | ⟨h18, h⟩
     ·cases h; subst hR; simp only [zca6, simprocAttr, *]
     ·replace h := br h; rcases h with ⟨h19, h⟩ | ⟨h19, h⟩
      ·cases h; subst hR; simp only [zca6, simprocAttr, *]
      ·replace h := ob h; obtain ⟨r12, h20, h⟩ := h
       replace h20 := zb6k q (M + 5) (by omega) _ _ _ h20
       try simp only [kf, simprocAttr] at h20
       replace h := bb h; rcases h with ⟨h21', h21, h⟩ | ⟨h21', h21, h⟩
       ·replace h := br h; rcases h with ⟨h22, h⟩ | ⟨h22, h⟩
        ·cases h; subst hR; simp only [zca6, simprocAttr, *]
        ·replace h := bn h; obtain ⟨h23, h⟩ := h
         replace h := zcd0 M (by omega) j (by omega) w1 _ _ _ _ _ _ _ _ _ _ _ _ _ _ h R hR
         simp only [zca6, simprocAttr, *]
       ·cases h; subst hR; simp only [zca6, simprocAttr, *]
    ·cases h; subst hR; simp only [zca6, simprocAttr, *]
   ·cases h; subst hR; simp only [zca6, simprocAttr, *]
 ·cases h; subst hR; simp only [zca6, simprocAttr, *]
theorem zca9 : ∀ q, zca4 q ∧ zca5 q
 | 0 => by refine ⟨?_, ?_⟩ <;> (intro M hM j hj; intros; rename_i h _ _ _ _ _; cases h)
 | q + 1 => by have ⟨i0, i1⟩ := zca9 q; exact ⟨zca7 q i1, zca8 q i1⟩
theorem zcba : ∀ (q M : Nat), 8 * q ≤ M → ∀ (w1 v1len : Nat), ∀ (h1z : Bool), ∀ (h1l : List (Sl Int)), ∀ (h1x : Bool), ∀ (r : Nat × Int × Int × Int × Int × Int × Bool × Int × Int × Int × Int × Int × Nat × Bool × Bool × (List zjs)), zmb q v1len h1z h1l h1x = some r → (orc T (M + 7)).inl F.zoi [(.ptr 2 0), (.vw 1 w1 0 v1len 0)] [(.box [(.int .i64 0), (.int .i64 0), (.sl true [])]), (.row w1 h1z 1 (List.map (Sl.enc (V.int .u8)) h1l) h1x), (.box [(.int .i64 0), (.int .i64 0), (.int .i64 0), (.sl true []), (.bool false)])] = (if r.1 = 0 then (some ([(.int .i64 r.2.1), (.int .i64 r.2.2.1)], [(.box [(.int .i64 0), (.int .i64 0), (.sl true [])]), (.row w1 h1z 1 (List.map (Sl.enc (V.int .u8)) h1l) h1x), (.box [(.int .i64 r.2.2.2.1), (.int .i64 r.2.2.2.2.1), (.int .i64 r.2.2.2.2.2.1), (.sl true []), (.bool r.2.2.2.2.2.2.1)])]) : Option (List V × Hp)) else (some ([(.int .i64 r.2.2.2.2.2.2.2.1), (.int .i64 r.2.2.2.2.2.2.2.2.1)], [(.box [(.int .i64 0), (.int .i64 0), (.sl true [])]), (.row w1 h1z 1 (List.map (Sl.enc (V.int .u8)) h1l) h1x), (.box [(.int .i64 r.2.2.2.2.2.2.2.2.2.1), (.int .i64 r.2.2.2.2.2.2.2.2.2.2.1), (.int .i64 r.2.2.2.2.2.2.2.2.2.2.2.1), (.vw 3 0 0 r.2.2.2.2.2.2.2.2.2.2.2.2.1 1), (.bool r.2.2.2.2.2.2.2.2.2.2.2.2.2.1)]), (.row 0 r.2.2.2.2.2.2.2.2.2.2.2.2.2.2.1 7 (List.map zjs.enc r.2.2.2.2.2.2.2.2.2.2.2.2.2.2.2) true)]) : Option (List V × Hp))) := by
 intro q M hM w1 v1len h1z h1l h1x r h
 rcases q with _ | q
 ·cases h
 have ih_segment_decode_s1_l0 := (zca9 q).1
 generalize hR : (if r.1 = 0 then (some ([(.int .i64 r.2.1), (.int .i64 r.2.2.1)], [(.box [(.int .i64 0), (.int .i64 0), (.sl true [])]), (.row w1 h1z 1 (List.map (Sl.enc (V.int .u8)) h1l) h1x), (.box [(.int .i64 r.2.2.2.1), (.int .i64 r.2.2.2.2.1), (.int .i64 r.2.2.2.2.2.1), (.sl true []), (.bool r.2.2.2.2.2.2.1)])]) : Option (List V × Hp)) else (some ([(.int .i64 r.2.2.2.2.2.2.2.1), (.int .i64 r.2.2.2.2.2.2.2.2.1)], [(.box [(.int .i64 0), (.int .i64 0), (.sl true [])]), (.row w1 h1z 1 (List.map (Sl.enc (V.int .u8)) h1l) h1x), (.box [(.int .i64 r.2.2.2.2.2.2.2.2.2.1), (.int .i64 r.2.2.2.2.2.2.2.2.2.2.1), (.int .i64 r.2.2.2.2.2.2.2.2.2.2.2.1), (.vw 3 0 0 r.2.2.2.2.2.2.2.2.2.2.2.2.1 1), (.bool r.2.2.2.2.2.2.2.2.2.2.2.2.2.1)]), (.row 0 r.2.2.2.2.2.2.2.2.2.2.2.2.2.2.1 7 (List.map zjs.enc r.2.2.2.2.2.2.2.2.2.2.2.2.2.2.2) true)]) : Option (List V × Hp))) = R
 rw [zbto (n := M + 6)]
 rw [zmb] at h
 replace h := bn h; obtain ⟨h1, h⟩ := h
 replace h := ob h; obtain ⟨e1, h2, h⟩ := h
 replace h := ob h; obtain ⟨r2, h3, h⟩ := h
 replace h3 := zca3 q M (by omega) w1 _ _ _ _ _ _ h3
 try simp only [kf, simprocAttr] at h3
 replace h := br h; rcases h with ⟨h4, h⟩ | ⟨h4, h⟩
 ·replace h := bn h; obtain ⟨h5, h⟩ := h
  replace h := ih_segment_decode_s1_l0 M (by omega) (M + 6) (by omega) w1 _ _ _ _ _ _ _ _ _ _ _ h R hR
  simp only [zca6, simprocAttr, *]
 ·cases h; subst hR; simp only [zca6, simprocAttr, *]
def zcbb := And.intro @kk <| And.intro @ke <| And.intro @kn <| And.intro @zbs1 <| And.intro @zbtn <| And.intro @zbub <| And.intro @zbue <| And.intro @zbuh <| And.intro @zbuk <| And.intro @zbun <| @zbs3
theorem zcbc : ∀ (q N : Nat), 8 * q ≤ N → ∀ (a0 : (Sl Int)), ∀ (r : zjt × (Ow (Sl Int)) × Int), zmc q a0 = some r → (orc T N).deep F.zmc [(Sl.enc (V.int .u8)) a0] = some [zjt.enc r.1, (Ow.enc 1 (Sl.enc (V.int .u8))) r.2.1, (V.int .i64) r.2.2] := by
 intro q N hM a0 r h
 rcases q with _ | q
 ·cases h
 obtain ⟨M, rfl⟩ : ∃ M, N = M + 8 := ⟨N - 8, by omega⟩
 generalize hR : some [zjt.enc r.1, (Ow.enc 1 (Sl.enc (V.int .u8))) r.2.1, (V.int .i64) r.2.2] = R
 rw [zh4, zbpg, y4, zh2]
 rw [zmc] at h
 replace h := ob h; obtain ⟨r1, h1, h⟩ := h
 replace h1 := zb8o q (M + 7) (by omega) _ _ h1
 try simp only [kf, simprocAttr] at h1
 replace h := br h; rcases h with ⟨h2, h⟩ | ⟨h2, h⟩
 ·replace h := br h; rcases h with ⟨h3, h⟩ | ⟨h3, h⟩
  ·cases h; subst hR; simp only [zcbb, simprocAttr, *]
  ·replace h := bn h; obtain ⟨h4, h⟩ := h
   replace h := bn h; obtain ⟨h5, h⟩ := h
   replace h := bb h; rcases h with ⟨h6', h6, h⟩ | ⟨h6', h6, h⟩
   ·replace h := ob h; obtain ⟨r2, h7, h⟩ := h
    replace h7 := zcay q M (by omega) 0 _ _ _ _ _ h7
    try simp only [kf, simprocAttr] at h7
    replace h := br h; rcases h with ⟨h8, h⟩ | ⟨h8, h⟩
    ·replace h := br h; rcases h with ⟨h9, h⟩ | ⟨h9, h⟩
     ·replace h := ob h; obtain ⟨r3, h10, h⟩ := h
      replace h10 := zcam q (M + 7) (by omega) _ _ h10
      try simp only [kf, simprocAttr] at h10
      replace h := ob h; obtain ⟨r4, h11, h⟩ := h
      replace h11 := zb7o q (M + 7) (by omega) _ _ h11
      try simp only [kf, simprocAttr] at h11
      replace h := bn h; obtain ⟨h12, h⟩ := h
      replace h := ob h; obtain ⟨e5, h13, h⟩ := h
      replace h := ob h; obtain ⟨r6, h14, h⟩ := h
      replace h14 := zb57 q (M + 7) (by omega) _ _ h14
      try simp only [kf, simprocAttr] at h14
      replace h := ob h; obtain ⟨r7, h15, h⟩ := h
      replace h15 := zb81 q (M + 7) (by omega) _ _ _ h15
      try simp only [kf, simprocAttr] at h15
      replace h := bb h; rcases h with ⟨h16', h16, h⟩ | ⟨h16', h16, h⟩
      ·cases h; subst hR; simp only [zcbb, simprocAttr, *]
      ·cases h; subst hR; simp only [zcbb, simprocAttr, *]
     ·cases h; subst hR; simp only [zcbb, simprocAttr, *]
    ·replace h := br h; rcases h with ⟨h17, h⟩ | ⟨h17, h⟩
     ·replace h := ob h; obtain ⟨r8, h18, h⟩ := h
      replace h18 := zcam q (M + 7) (by omega) _ _ h18
      try simp only [kf, simprocAttr] at h18
      replace h := ob h; obtain ⟨r9, h19, h⟩ := h
      replace h19 := zb7o q (M + 7) (by omega) _ _ h19
      try simp only [kf, simprocAttr] at h19
      replace h := bn h; obtain ⟨h20, h⟩ := h
      replace h := ob h; obtain ⟨e10, h21, h⟩ := h
      replace h := ob h; obtain ⟨r11, h22, h⟩ := h
      replace h22 := zb57 q (M + 7) (by omega) _ _ h22
      try simp only [kf, simprocAttr] at h22
      replace h := ob h; obtain ⟨r12, h23, h⟩ := h
      replace h23 := zb81 q (M + 7) (by omega) _ _ _ h23
      try simp only [kf, simprocAttr] at h23
      replace h := bb h; rcases h with ⟨h24', h24, h⟩ | ⟨h24', h24, h⟩
      ·cases h; subst hR; simp only [zcbb, simprocAttr, *]
      ·cases h; subst hR; simp only [zcbb, simprocAttr, *]
     ·cases h; subst hR; simp only [zcbb, simprocAttr, *]
   ·replace h := ob h; obtain ⟨r13, h25, h⟩ := h
    replace h25 := zcba q M (by omega) 0 _ _ _ _ _ h25
    try simp only [kf, simprocAttr] at h25
    replace h := br h; rcases h with ⟨h26, h⟩ | ⟨h26, h⟩
    ·replace h := br h; rcases h with ⟨h27, h⟩ | ⟨h27, h⟩
     ·replace h := ob h; obtain ⟨r14, h28, h⟩ := h
      replace h28 := zcam q (M + 7) (by omega) _ _ h28
      try simp only [kf, simprocAttr] at h28
      replace h := ob h; obtain ⟨r15, h29, h⟩ := h
      replace h29 := zb7o q (M + 7) (by omega) _ _ h29
      try simp only [kf, simprocAttr] at h29
      replace h := bn h; obtain ⟨h30, h⟩ := h
      replace h := ob h; obtain ⟨e16, h31, h⟩ := h
      replace h := ob h; obtain ⟨r17, h32, h⟩ := h
      replace h32 := zb57 q (M + 7) (by omega) _ _ h32
      try simp only [kf, simprocAttr] at h32
      replace h := ob h; obtain ⟨r18, h33, h⟩ := h
      replace h33 := zb81 q (M + 7) (by omega) _ _ _ h33
      try simp only [kf, simprocAttr] at h33
      replace h := bb h; rcases h with ⟨h34', h34, h⟩ | ⟨h34', h34, h⟩
      ·cases h; subst hR; simp only [zcbb, simprocAttr, *]
      ·cases h; subst hR; simp only [zcbb, simprocAttr, *]
     ·cases h; subst hR; simp only [zcbb, simprocAttr, *]
    ·replace h := br h; rcases h with ⟨h35, h⟩ | ⟨h35, h⟩
     ·replace h := ob h; obtain ⟨r19, h36, h⟩ := h
      replace h36 := zcam q (M + 7) (by omega) _ _ h36
      try simp only [kf, simprocAttr] at h36
      replace h := ob h; obtain ⟨r20, h37, h⟩ := h
      replace h37 := zb7o q (M + 7) (by omega) _ _ h37
      try simp only [kf, simprocAttr] at h37
      replace h := bn h; obtain ⟨h38, h⟩ := h
      replace h := ob h; obtain ⟨e21, h39, h⟩ := h
      replace h := ob h; obtain ⟨r22, h40, h⟩ := h
      replace h40 := zb57 q (M + 7) (by omega) _ _ h40
      try simp only [kf, simprocAttr] at h40
      replace h := ob h; obtain ⟨r23, h41, h⟩ := h
      replace h41 := zb81 q (M + 7) (by omega) _ _ _ h41
      try simp only [kf, simprocAttr] at h41
      replace h := bb h; rcases h with ⟨h42', h42, h⟩ | ⟨h42', h42, h⟩
      ·cases h; subst hR; simp only [zcbb, simprocAttr, *]
      ·cases h; subst hR; simp only [zcbb, simprocAttr, *]
     ·cases h; subst hR; simp only [zcbb, simprocAttr, *]
 ·cases h; subst hR; simp only [zcbb, simprocAttr, *]
def zcbd (q : Nat) : Prop := ∀ (M : Nat) (hM : 8 * q ≤ M) (j : Nat) (hj : q ≤ j) (v0z : Bool) (v0l : List Int) (v3 : Int) (r : Bool) (_ : zmd q v0z v0l v3 = some r) (R : Option (List V)) (_ : some [V.bool r] = R) (fr : Fr) (H : Hp) (_ : canon 0 [0, 3] fr H = ([(0, (.sl v0z (List.map (V.int .u8) v0l))), (3, (.int .i64 v3))], [])), fin z5j (unw T (orc T (M + 7)) (M + 7) 0 [.blk 0, .code z5g] (iter 0 [0, 3] (exec T (orc T (M + 7)) (M + 7) 0 z5d) j fr H)) = R
def zcbe := And.intro @kk <| And.intro @ke <| And.intro @kn <| And.intro @zbwy <| @zbw0
theorem zcbf (q : Nat) (zcd1 : zcbd q) : zcbd (q + 1) := by
 intro M hM j hj v0z v0l v3 r h R hR fr H hc
 obtain ⟨j, rfl⟩ : ∃ i, j = i + 1 := ⟨j - 1, by omega⟩
 rw [zhv, hc]; clear hc
 rw [zmd] at h
 replace h := br h; rcases h with ⟨h1, h⟩ | ⟨h1, h⟩
 ·replace h := bn h; obtain ⟨h2, h⟩ := h
  replace h := ob h; obtain ⟨e1, h3, h⟩ := h
  replace h := br h; rcases h with ⟨h4, h⟩ | ⟨h4, h⟩
  ·cases h; subst hR; simp only [zcbe, simprocAttr, *]
  ·replace h := zcd1 M (by omega) j (by omega) _ _ _ _ h R hR
   simp only [zcbe, simprocAttr, *]
 ·cases h; subst hR; simp only [zcbe, simprocAttr, *]
theorem zcbg : ∀ q, zcbd q
 | 0 => by intro M hM j hj; intros; rename_i h _ _ _ _ _; cases h
 | q + 1 => by have i0 := zcbg q; exact zcbf q i0
theorem zcbh : ∀ (q N : Nat), 8 * q ≤ N → ∀ (a0 : (Sl Int)), ∀ (r : Bool), zme q a0 = some r → (orc T N).deep F.zme [(Sl.enc (V.int .u8)) a0] = some [V.bool r] := by
 intro q N hM a0 r h
 rcases q with _ | q
 ·cases h
 obtain ⟨M, rfl⟩ : ∃ M, N = M + 8 := ⟨N - 8, by omega⟩
 have zcd1 := (zcbg q)
 generalize hR : some [V.bool r] = R
 rw [zh4, zbqr, y4, zh2]
 rw [zme] at h
 replace h := zcd1 M (by omega) (M + 7) (by omega) _ _ _ _ h R hR
 simp only [zcbe, simprocAttr, *]
def zcbi (q : Nat) : Prop := ∀ (M : Nat) (hM : 8 * q ≤ M) (j : Nat) (hj : q ≤ j) (v0z : Bool) (v0l : List Int) (v4 v5 v6 : Int) (r : Int × Int) (_ : zmf q v0z v0l v4 v5 v6 = some r) (R : Option (List V)) (_ : some [(V.int .u64) r.1, (V.int .i64) r.2] = R) (fr : Fr) (H : Hp) (_ : canon 0 [0, 4, 5, 6] fr H = ([(0, (.sl v0z (List.map (V.int .u8) v0l))), (4, (.int .u64 v4)), (5, (.int .u64 v5)), (6, (.int .i64 v6))], [])), fin z76 (unw T (orc T (M + 7)) (M + 7) 0 [.blk 0, .code z71] (iter 0 [0, 4, 5, 6] (exec T (orc T (M + 7)) (M + 7) 0 z7y) j fr H)) = R
def zcbj := And.intro @kk <| And.intro @ke <| And.intro @kn <| And.intro @zbxj <| @zbxl
theorem zcbk (q : Nat) (zcd2 : zcbi q) : zcbi (q + 1) := by
 intro M hM j hj v0z v0l v4 v5 v6 r h R hR fr H hc
 obtain ⟨j, rfl⟩ : ∃ i, j = i + 1 := ⟨j - 1, by omega⟩
 rw [zhv, hc]; clear hc
 rw [zmf] at h
 replace h := br h; rcases h with ⟨h1, h⟩ | ⟨h1, h⟩
 ·replace h := br h; rcases h with ⟨h2, h⟩ | ⟨h2, h⟩
  ·replace h := bn h; obtain ⟨h3, h⟩ := h
   replace h := ob h; obtain ⟨e1, h4, h⟩ := h
   replace h := br h; rcases h with ⟨h5, h⟩ | ⟨h5, h⟩
   ·replace h := br h; rcases h with ⟨h6, h⟩ | ⟨h6, h⟩
    ·cases h; subst hR; simp only [zcbj, simprocAttr, *]
    ·replace h := br h; rcases h with ⟨h7, h⟩ | ⟨h7, h⟩
     ·replace h := br h; rcases h with ⟨h8, h⟩ | ⟨h8, h⟩
      ·replace h := br h; rcases h with ⟨h9, h⟩ | ⟨h9, h⟩
       ·cases h; subst hR; simp only [zcbj, simprocAttr, *]
       ·cases h; subst hR; simp only [zcbj, simprocAttr, *]
      ·cases h; subst hR; simp only [zcbj, simprocAttr, *]
     ·replace h := zcd2 M (by omega) j (by omega) _ _ _ _ _ _ h R hR
      simp only [zcbj, simprocAttr, *]
   ·replace h := br h; rcases h with ⟨h10, h⟩ | ⟨h10, h⟩
    ·replace h := br h; rcases h with ⟨h11, h⟩ | ⟨h11, h⟩
     ·replace h := br h; rcases h with ⟨h12, h⟩ | ⟨h12, h⟩
      ·cases h; subst hR; simp only [zcbj, simprocAttr, *]
      ·cases h; subst hR; simp only [zcbj, simprocAttr, *]
     ·cases h; subst hR; simp only [zcbj, simprocAttr, *]
    ·replace h := zcd2 M (by omega) j (by omega) _ _ _ _ _ _ h R hR
     simp only [zcbj, simprocAttr, *]
  ·cases h; subst hR; simp only [zcbj, simprocAttr, *]
 ·cases h; subst hR; simp only [zcbj, simprocAttr, *]
theorem zcbl : ∀ q, zcbi q
 | 0 => by intro M hM j hj; intros; rename_i h _ _ _ _ _; cases h
 | q + 1 => by have i0 := zcbl q; exact zcbk q i0
theorem zcbm : ∀ (q N : Nat), 8 * q ≤ N → ∀ (a0 : (Sl Int)), ∀ (r : Int × Int), zmg q a0 = some r → (orc T N).deep F.zmg [(Sl.enc (V.int .u8)) a0] = some [(V.int .u64) r.1, (V.int .i64) r.2] := by
 intro q N hM a0 r h
 rcases q with _ | q
 ·cases h
 obtain ⟨M, rfl⟩ : ∃ M, N = M + 8 := ⟨N - 8, by omega⟩
 have zcd2 := (zcbl q)
 generalize hR : some [(V.int .u64) r.1, (V.int .i64) r.2] = R
 rw [zh4, zbqy, y4, zh2]
 rw [zmg] at h
 replace h := zcd2 M (by omega) (M + 7) (by omega) _ _ _ _ _ _ h R hR
 simp only [zcbj, simprocAttr, *]
def zcbn := And.intro @kk <| And.intro @ke <| And.intro @kn <| And.intro @zbv4 <| And.intro @zbxk <| @zbv6
theorem zcbo : ∀ (q N : Nat), 8 * q ≤ N → ∀ (a0 : (Sl Int)), ∀ (r : Int × Int), zmh q a0 = some r → (orc T N).deep F.zmh [(Sl.enc (V.int .u8)) a0] = some [(V.int .i64) r.1, (V.int .i64) r.2] := by
 intro q N hM a0 r h
 rcases q with _ | q
 ·cases h
 obtain ⟨M, rfl⟩ : ∃ M, N = M + 8 := ⟨N - 8, by omega⟩
 generalize hR : some [(V.int .i64) r.1, (V.int .i64) r.2] = R
 rw [zh4, zbqh, y4, zh2]
 rw [zmh] at h
 replace h := ob h; obtain ⟨r1, h1, h⟩ := h
 replace h1 := zcbm q (M + 7) (by omega) _ _ h1
 try simp only [kf, simprocAttr] at h1
 replace h := br h; rcases h with ⟨h2, h⟩ | ⟨h2, h⟩
 ·cases h; subst hR; simp only [zcbn, simprocAttr, *]
 ·replace h := br h; rcases h with ⟨h3, h⟩ | ⟨h3, h⟩
  ·cases h; subst hR; simp only [zcbn, simprocAttr, *]
  ·cases h; subst hR; simp only [zcbn, simprocAttr, *]
def zcbp (q : Nat) : Prop := ∀ (M : Nat) (hM : 8 * q ≤ M) (j : Nat) (hj : q ≤ j) (v3 v4 r : Int) (_ : zmi q v3 v4 = some r) (R : Option (List V)) (_ : some [(V.int .u32) r] = R) (fr : Fr) (H : Hp) (_ : canon 0 [3, 4] fr H = ([(3, (.int .u32 v3)), (4, (.int .i64 v4))], [])), fin z7g (unw T (orc T (M + 7)) (M + 7) 0 [.blk 0, .code z7c] (iter 0 [3, 4] (exec T (orc T (M + 7)) (M + 7) 0 z69) j fr H)) = R
def zcbq := And.intro @kk <| And.intro @ke <| And.intro @kn <| And.intro @zbxg <| @zbxi
theorem zcbr (q : Nat) (zcd3 : zcbp q) : zcbp (q + 1) := by
 intro M hM j hj v3 v4 r h R hR fr H hc
 obtain ⟨j, rfl⟩ : ∃ i, j = i + 1 := ⟨j - 1, by omega⟩
 rw [zhv, hc]; clear hc
 rw [zmi] at h
 replace h := br h; rcases h with ⟨h1, h⟩ | ⟨h1, h⟩
 ·replace h := br h; rcases h with ⟨h2, h⟩ | ⟨h2, h⟩
  ·replace h := zcd3 M (by omega) j (by omega) _ _ _ h R hR
   simp only [zcbq, simprocAttr, *]
  ·replace h := zcd3 M (by omega) j (by omega) _ _ _ h R hR
   simp only [zcbq, simprocAttr, *]
 ·cases h; subst hR; simp only [zcbq, simprocAttr, *]
theorem zcbs : ∀ q, zcbp q
 | 0 => by intro M hM j hj; intros; rename_i h _ _ _ _ _; cases h
 | q + 1 => by have i0 := zcbs q; exact zcbr q i0
theorem zcbt : ∀ (q N : Nat), 8 * q ≤ N → ∀ (a0 r : Int), zmj q a0 = some r → (orc T N).deep F.zmj [(V.int .u8) a0] = some [(V.int .u32) r] := by
 intro q N hM a0 r h
 rcases q with _ | q
 ·cases h
 obtain ⟨M, rfl⟩ : ∃ M, N = M + 8 := ⟨N - 8, by omega⟩
 have zcd3 := (zcbs q)
 generalize hR : some [(V.int .u32) r] = R
 rw [zh4, zbqx, y4, zh2]
 rw [zmj] at h
 replace h := zcd3 M (by omega) (M + 7) (by omega) _ _ _ h R hR
 simp only [zcbq, simprocAttr, *]
def zcbu (q : Nat) : Prop := ∀ (M : Nat) (hM : 8 * q ≤ M) (j : Nat) (hj : q ≤ j) (v1z : Bool) (v1l : List Int) (v5 v6 r : Int) (_ : zmk q v1z v1l v5 v6 = some r) (R : Option (List V)) (_ : some [(V.int .u32) r] = R) (fr : Fr) (H : Hp) (_ : canon 0 [1, 5, 6] fr H = ([(1, (.sl v1z (List.map (V.int .u8) v1l))), (5, (.int .u32 v5)), (6, (.int .i64 v6))], [])), fin z0p (unw T (orc T (M + 7)) (M + 7) 0 [.blk 0, .code z0l] (iter 0 [1, 5, 6] (exec T (orc T (M + 7)) (M + 7) 0 z0i) j fr H)) = R
def zcbv := And.intro @kk <| And.intro @ke <| And.intro @kn <| And.intro @zbvv <| And.intro @zbxh <| @zbvx
theorem zcbw (q : Nat) (zcd4 : zcbu q) : zcbu (q + 1) := by
 intro M hM j hj v1z v1l v5 v6 r h R hR fr H hc
 obtain ⟨j, rfl⟩ : ∃ i, j = i + 1 := ⟨j - 1, by omega⟩
 rw [zhv, hc]; clear hc
 rw [zmk] at h
 replace h := br h; rcases h with ⟨h1, h⟩ | ⟨h1, h⟩
 ·replace h := bn h; obtain ⟨h2, h⟩ := h
  replace h := ob h; obtain ⟨e1, h3, h⟩ := h
  replace h := ob h; obtain ⟨r2, h4, h⟩ := h
  replace h4 := zcbt q (M + 7) (by omega) _ _ h4
  replace h := zcd4 M (by omega) j (by omega) _ _ _ _ _ h R hR
  simp only [zcbv, simprocAttr, *]
 ·cases h; subst hR; simp only [zcbv, simprocAttr, *]
theorem zcbx : ∀ q, zcbu q
 | 0 => by intro M hM j hj; intros; rename_i h _ _ _ _ _; cases h
 | q + 1 => by have i0 := zcbx q; exact zcbw q i0
theorem zcby : ∀ (q N : Nat), 8 * q ≤ N → ∀ (a0 : Int) (a1 : (Sl Int)), ∀ (r : Int), zml q a0 a1 = some r → (orc T N).deep F.zml [(V.int .u32) a0, (Sl.enc (V.int .u8)) a1] = some [(V.int .u32) r] := by
 intro q N hM a0 a1 r h
 rcases q with _ | q
 ·cases h
 obtain ⟨M, rfl⟩ : ∃ M, N = M + 8 := ⟨N - 8, by omega⟩
 have zcd4 := (zcbx q)
 generalize hR : some [(V.int .u32) r] = R
 rw [zh4, zbqe, y4, zh2]
 rw [zml] at h
 replace h := zcd4 M (by omega) (M + 7) (by omega) _ _ _ _ _ h R hR
 simp only [zcbv, simprocAttr, *]
def zcbz := And.intro @kk <| And.intro @ke <| And.intro @kn <| And.intro @zbvy <| And.intro @zbvw <| @zbv0
theorem zcb0 : ∀ (q N : Nat), 8 * q ≤ N → ∀ (a0 : (Sl Int)), ∀ (r : Int), zmm q a0 = some r → (orc T N).deep F.zmm [(Sl.enc (V.int .u8)) a0] = some [(V.int .u32) r] := by
 intro q N hM a0 r h
 rcases q with _ | q
 ·cases h
 obtain ⟨M, rfl⟩ : ∃ M, N = M + 8 := ⟨N - 8, by omega⟩
 generalize hR : some [(V.int .u32) r] = R
 rw [zh4, zbqf, y4, zh2]
 rw [zmm] at h
 replace h := ob h; obtain ⟨r1, h1, h⟩ := h
 replace h1 := zcby q (M + 7) (by omega) _ _ _ h1
 try simp only [kf, simprocAttr] at h1
 cases h; subst hR; simp only [zcbz, simprocAttr, *]
def zcb1 (q : Nat) : Prop := ∀ (M : Nat) (hM : 8 * q ≤ M) (j : Nat) (hj : q ≤ j) (v0z : Bool) (v0l : List Int) (v3 v4 r : Int) (_ : zmn q v0z v0l v3 v4 = some r) (R : Option (List V)) (_ : some [(V.int .u64) r] = R) (fr : Fr) (H : Hp) (_ : canon 0 [0, 3, 4] fr H = ([(0, (.sl v0z (List.map (V.int .u8) v0l))), (3, (.int .u64 v3)), (4, (.int .i64 v4))], [])), fin z5t (unw T (orc T (M + 7)) (M + 7) 0 [.blk 0, .code z5p] (iter 0 [0, 3, 4] (exec T (orc T (M + 7)) (M + 7) 0 z5m) j fr H)) = R
def zcb2 := And.intro @kk <| And.intro @ke <| And.intro @kn <| And.intro @zbw1 <| @zbw3
theorem zcb3 (q : Nat) (zcd5 : zcb1 q) : zcb1 (q + 1) := by
 intro M hM j hj v0z v0l v3 v4 r h R hR fr H hc
 obtain ⟨j, rfl⟩ : ∃ i, j = i + 1 := ⟨j - 1, by omega⟩
 rw [zhv, hc]; clear hc
 rw [zmn] at h
 replace h := br h; rcases h with ⟨h1, h⟩ | ⟨h1, h⟩
 ·replace h := br h; rcases h with ⟨h2, h⟩ | ⟨h2, h⟩
  ·replace h := ob h; obtain ⟨e1, h3, h⟩ := h
   replace h := zcd5 M (by omega) j (by omega) _ _ _ _ _ h R hR
   simp only [zcb2, simprocAttr, *]
  ·replace h := zcd5 M (by omega) j (by omega) _ _ _ _ _ h R hR
   simp only [zcb2, simprocAttr, *]
 ·cases h; subst hR; simp only [zcb2, simprocAttr, *]
theorem zcb4 : ∀ q, zcb1 q
 | 0 => by intro M hM j hj; intros; rename_i h _ _ _ _ _; cases h
 | q + 1 => by have i0 := zcb4 q; exact zcb3 q i0
theorem zcb5 : ∀ (q N : Nat), 8 * q ≤ N → ∀ (a0 : (Sl Int)), ∀ (r : Int), zmo q a0 = some r → (orc T N).deep F.zmo [(Sl.enc (V.int .u8)) a0] = some [(V.int .u64) r] := by
 intro q N hM a0 r h
 rcases q with _ | q
 ·cases h
 obtain ⟨M, rfl⟩ : ∃ M, N = M + 8 := ⟨N - 8, by omega⟩
 have zcd5 := (zcb4 q)
 generalize hR : some [(V.int .u64) r] = R
 rw [zh4, zbqs, y4, zh2]
 rw [zmo] at h
 replace h := zcd5 M (by omega) (M + 7) (by omega) _ _ _ _ _ h R hR
 simp only [zcb2, simprocAttr, *]
def zcb6 := And.intro @kk <| And.intro @ke <| And.intro @kn <| And.intro @zbvd <| And.intro @zbvz <| And.intro @zbv5 <| And.intro @zbwz <| And.intro @zbw2 <| @zbvf
theorem zcb7 : ∀ (q N : Nat), 8 * q ≤ N → ∀ (a0 : (Sl Int)), ∀ (r : (Ow Int) × Int × Int), zmp q a0 = some r → (orc T N).deep F.zmp [(Sl.enc (V.int .u8)) a0] = some [(Ow.enc 1 (V.int .u8)) r.1, (V.int .i64) r.2.1, (V.int .i64) r.2.2] := by
 intro q N hM a0 r h
 rcases q with _ | q
 ·cases h
 obtain ⟨M, rfl⟩ : ∃ M, N = M + 8 := ⟨N - 8, by omega⟩
 generalize hR : some [(Ow.enc 1 (V.int .u8)) r.1, (V.int .i64) r.2.1, (V.int .i64) r.2.2] = R
 rw [zh4, zbp8, y4, zh2]
 rw [zmp] at h
 replace h := ob h; obtain ⟨r1, h1, h⟩ := h
 replace h1 := zcbh q (M + 7) (by omega) _ _ h1
 try simp only [kf, simprocAttr] at h1
 replace h := bb h; rcases h with ⟨h2', h2, h⟩ | ⟨h2', h2, h⟩
 ·cases h; subst hR; simp only [zcb6, simprocAttr, *]
 ·replace h := ob h; obtain ⟨r2, h3, h⟩ := h
  replace h3 := zcbo q (M + 7) (by omega) _ _ h3
  try simp only [kf, simprocAttr] at h3
  replace h := br h; rcases h with ⟨h4, h⟩ | ⟨h4, h⟩
  ·cases h; subst hR; simp only [zcb6, simprocAttr, *]
  ·replace h := br h; rcases h with ⟨h5, h⟩ | ⟨h5, h⟩
   ·cases h; subst hR; simp only [zcb6, simprocAttr, *]
   ·replace h := br h; rcases h with ⟨h6, h⟩ | ⟨h6, h⟩
    ·cases h; subst hR; simp only [zcb6, simprocAttr, *]
    ·replace h := bn h; obtain ⟨h7, h⟩ := h
     replace h := bn h; obtain ⟨h8, h⟩ := h
     replace h := bn h; obtain ⟨h9, h⟩ := h
     replace h := bn h; obtain ⟨h10, h⟩ := h
     replace h := ob h; obtain ⟨r3, h11, h⟩ := h
     replace h11 := zcb0 q (M + 7) (by omega) _ _ h11
     try simp only [kf, simprocAttr] at h11
     replace h := bn h; obtain ⟨h12, h⟩ := h
     replace h := bn h; obtain ⟨h13, h⟩ := h
     replace h := ob h; obtain ⟨r4, h14, h⟩ := h
     replace h14 := zcb5 q (M + 7) (by omega) _ _ h14
     try simp only [kf, simprocAttr] at h14
     replace h := br h; rcases h with ⟨h15, h⟩ | ⟨h15, h⟩
     ·replace h := bn h; obtain ⟨h16, h⟩ := h
      cases h; subst hR; simp only [zcb6, simprocAttr, *]
     ·cases h; subst hR; simp only [zcb6, simprocAttr, *]
def zcb8 (q : Nat) : Prop := ∀ (M : Nat) (hM : 8 * q ≤ M) (j : Nat) (hj : q ≤ j) (v0z : Bool) (v0l : List Int) (v6 : Int) (h0z : Bool) (h0l : List (Sl Int)) (r : (Ow (Sl Int)) × Int × Int) (_ : zmq q v0z v0l v6 h0z h0l = some r) (R : Option (List V)) (_ : some [(Ow.enc 1 (Sl.enc (V.int .u8))) r.1, (V.int .i64) r.2.1, (V.int .i64) r.2.2] = R) (fr : Fr) (H : Hp) (_ : canon 0 [0, 5, 6] fr H = ([(0, (.sl v0z (List.map (V.int .u8) v0l))), (5, (.vw 0 0 0 h0l.length 1)), (6, (.int .i64 v6))], [(.row 0 h0z 1 (List.map (Sl.enc (V.int .u8)) h0l) true)])), fin ztd (unw T (orc T (M + 7)) (M + 7) 0 [.blk 0, .code zs8] (iter 0 [0, 5, 6] (exec T (orc T (M + 7)) (M + 7) 0 zs6) j fr H)) = R
def zcb9 := And.intro @kk <| And.intro @ke <| And.intro @kn <| And.intro @zbts <| And.intro @zbve <| @zbtu
theorem zcca (q : Nat) (zcd6 : zcb8 q) : zcb8 (q + 1) := by
 intro M hM j hj v0z v0l v6 h0z h0l r h R hR fr H hc
 obtain ⟨j, rfl⟩ : ∃ i, j = i + 1 := ⟨j - 1, by omega⟩
 rw [zhv, hc]; clear hc
 rw [zmq] at h
 replace h := br h; rcases h with ⟨h1, h⟩ | ⟨h1, h⟩
 ·replace h := bn h; obtain ⟨h2, h⟩ := h
  replace h := bn h; obtain ⟨h3, h⟩ := h
  replace h := ob h; obtain ⟨r1, h4, h⟩ := h
  replace h4 := zcb7 q (M + 7) (by omega) _ _ h4
  try simp only [kf, simprocAttr] at h4
  replace h := br h; rcases h with ⟨h5, h⟩ | ⟨h5, h⟩
  ·replace h := bn h; obtain ⟨h6, h⟩ := h
   replace h := zcd6 M (by omega) j (by omega) _ _ _ _ _ _ h R hR
   simp only [zcb9, simprocAttr, *]
  ·cases h; subst hR; simp only [zcb9, simprocAttr, *]
 ·cases h; subst hR; simp only [zcb9, simprocAttr, *]
theorem zccb : ∀ q, zcb8 q
 | 0 => by intro M hM j hj; intros; rename_i h _ _ _ _ _; cases h
 | q + 1 => by have i0 := zccb q; exact zcca q i0
theorem zccc : ∀ (q N : Nat), 8 * q ≤ N → ∀ (a0 : (Sl Int)), ∀ (r : (Ow (Sl Int)) × Int × Int), zmr q a0 = some r → (orc T N).deep F.zmr [(Sl.enc (V.int .u8)) a0] = some [(Ow.enc 1 (Sl.enc (V.int .u8))) r.1, (V.int .i64) r.2.1, (V.int .i64) r.2.2] := by
 intro q N hM a0 r h
 rcases q with _ | q
 ·cases h
 obtain ⟨M, rfl⟩ : ∃ M, N = M + 8 := ⟨N - 8, by omega⟩
 have zcd6 := (zccb q)
 generalize hR : some [(Ow.enc 1 (Sl.enc (V.int .u8))) r.1, (V.int .i64) r.2.1, (V.int .i64) r.2.2] = R
 rw [zh4, zbpp, y4, zh2]
 rw [zmr] at h
 replace h := zcd6 M (by omega) (M + 7) (by omega) _ _ _ _ _ _ h R hR
 simp only [zcb9, simprocAttr, *]
def zccd := And.intro @kk <| And.intro @ke <| And.intro @kn <| And.intro @zbs4 <| And.intro @zbtt <| @zbs6
theorem zcce : ∀ (q N : Nat), 8 * q ≤ N → ∀ (a0 : (Sl Int)), ∀ (r : (Ow (Sl Int)) × Int), zms q a0 = some r → (orc T N).deep F.zms [(Sl.enc (V.int .u8)) a0] = some [(Ow.enc 1 (Sl.enc (V.int .u8))) r.1, (V.int .i64) r.2] := by
 intro q N hM a0 r h
 rcases q with _ | q
 ·cases h
 obtain ⟨M, rfl⟩ : ∃ M, N = M + 8 := ⟨N - 8, by omega⟩
 generalize hR : some [(Ow.enc 1 (Sl.enc (V.int .u8))) r.1, (V.int .i64) r.2] = R
 rw [zh4, zbph, y4, zh2]
 rw [zms] at h
 replace h := ob h; obtain ⟨r1, h1, h⟩ := h
 replace h1 := zccc q (M + 7) (by omega) _ _ h1
 try simp only [kf, simprocAttr] at h1
 replace h := br h; rcases h with ⟨h2, h⟩ | ⟨h2, h⟩
 ·cases h; subst hR; simp only [zccd, simprocAttr, *]
 ·cases h; subst hR; simp only [zccd, simprocAttr, *]
def zccf := And.intro @kk <| And.intro @ke <| And.intro @kn <| And.intro @zby7 <| @zby9
theorem zccg : ∀ (q N : Nat), 8 * q ≤ N → ∀ (a0 a1 : Int), ∀ (r : Bool), zmt q a0 a1 = some r → (orc T N).deep F.zmt [(V.int .i64) a0, (V.int .i64) a1] = some [V.bool r] := by
 intro q N hM a0 a1 r h
 rcases q with _ | q
 ·cases h
 obtain ⟨M, rfl⟩ : ∃ M, N = M + 8 := ⟨N - 8, by omega⟩
 generalize hR : some [V.bool r] = R
 rw [zh4, zbri, y4, zh2]
 rw [zmt] at h
 replace h := br h; rcases h with ⟨h1, h⟩ | ⟨h1, h⟩
 ·cases h; subst hR; simp only [zccf, simprocAttr, *]
 ·replace h := br h; rcases h with ⟨h2, h⟩ | ⟨h2, h⟩
  ·cases h; subst hR; simp only [zccf, simprocAttr, *]
  ·replace h := br h; rcases h with ⟨h3, h⟩ | ⟨h3, h⟩
   ·cases h; subst hR; simp only [zccf, simprocAttr, *]
   ·replace h := br h; rcases h with ⟨h4, h⟩ | ⟨h4, h⟩
    ·replace h := br h; rcases h with ⟨h5, h⟩ | ⟨h5, h⟩
     ·cases h; subst hR; simp only [zccf, simprocAttr, *]
     ·replace h := br h; rcases h with ⟨h6, h⟩ | ⟨h6, h⟩
      ·cases h; subst hR; simp only [zccf, simprocAttr, *]
      ·cases h; subst hR; simp only [zccf, simprocAttr, *]
    ·replace h := br h; rcases h with ⟨h7, h⟩ | ⟨h7, h⟩
     ·cases h; subst hR; simp only [zccf, simprocAttr, *]
     ·cases h; subst hR; simp only [zccf, simprocAttr, *]
def zcch := And.intro @kk <| And.intro @ke <| And.intro @kn <| And.intro @zb0m <| @zb0o
theorem zcci : ∀ (q N : Nat), 8 * q ≤ N → ∀ (a0 r : Int), zmu q a0 = some r → (orc T N).deep F.zmu [(V.int .u64) a0] = some [(V.int .i64) r] := by
 intro q N hM a0 r h
 rcases q with _ | q
 ·cases h
 obtain ⟨M, rfl⟩ : ∃ M, N = M + 8 := ⟨N - 8, by omega⟩
 generalize hR : some [(V.int .i64) r] = R
 rw [zh4, zbrz, y4, zh2]
 rw [zmu] at h
 replace h := br h; rcases h with ⟨h1, h⟩ | ⟨h1, h⟩
 ·cases h; subst hR; simp only [zcch, simprocAttr, *]
 ·cases h; subst hR; simp only [zcch, simprocAttr, *]
def zccj := And.intro @kk <| And.intro @ke <| And.intro @kn <| And.intro @zbzd <| And.intro @zbxk <| And.intro @zb0n <| @zbzf
theorem zcck : ∀ (q N : Nat), 8 * q ≤ N → ∀ (a0 : (Sl Int)), ∀ (r : Int × Int), zmv q a0 = some r → (orc T N).deep F.zmv [(Sl.enc (V.int .u8)) a0] = some [(V.int .i64) r.1, (V.int .i64) r.2] := by
 intro q N hM a0 r h
 rcases q with _ | q
 ·cases h
 obtain ⟨M, rfl⟩ : ∃ M, N = M + 8 := ⟨N - 8, by omega⟩
 generalize hR : some [(V.int .i64) r.1, (V.int .i64) r.2] = R
 rw [zh4, zbrk, y4, zh2]
 rw [zmv] at h
 replace h := ob h; obtain ⟨r1, h1, h⟩ := h
 replace h1 := zcbm q (M + 7) (by omega) _ _ h1
 try simp only [kf, simprocAttr] at h1
 replace h := br h; rcases h with ⟨h2, h⟩ | ⟨h2, h⟩
 ·cases h; subst hR; simp only [zccj, simprocAttr, *]
 ·replace h := ob h; obtain ⟨r2, h3, h⟩ := h
  replace h3 := zcci q (M + 7) (by omega) _ _ h3
  cases h; subst hR; simp only [zccj, simprocAttr, *]
def zccl := And.intro @kk <| And.intro @ke <| And.intro @kn <| And.intro @zb0s <| @zb0u
theorem zccm : ∀ (q N : Nat), 8 * q ≤ N → ∀ (a0 r : Int), zmw q a0 = some r → (orc T N).deep F.zmw [(V.int .i64) a0] = some [(V.int .i64) r] := by
 intro q N hM a0 r h
 rcases q with _ | q
 ·cases h
 obtain ⟨M, rfl⟩ : ∃ M, N = M + 8 := ⟨N - 8, by omega⟩
 generalize hR : some [(V.int .i64) r] = R
 rw [zh4, zbr1, y4, zh2]
 rw [zmw] at h
 replace h := br h; rcases h with ⟨h1, h⟩ | ⟨h1, h⟩
 ·cases h; subst hR; simp only [zccl, simprocAttr, *]
 ·replace h := br h; rcases h with ⟨h2, h⟩ | ⟨h2, h⟩
  ·cases h; subst hR; simp only [zccl, simprocAttr, *]
  ·cases h; subst hR; simp only [zccl, simprocAttr, *]
def zccn := And.intro @kk <| And.intro @ke <| And.intro @kn <| And.intro @zbzv <| And.intro @zb0t <| @zbzx
theorem zcco : ∀ (q N : Nat), 8 * q ≤ N → ∀ (a0 : zjr), ∀ (r : Bool), zmx q a0 = some r → (orc T N).deep F.zmx [zjr.enc a0] = some [V.bool r] := by
 intro q N hM a0 r h
 rcases q with _ | q
 ·cases h
 obtain ⟨M, rfl⟩ : ∃ M, N = M + 8 := ⟨N - 8, by omega⟩
 generalize hR : some [V.bool r] = R
 rw [zh4, zbrq, y4, zh2]
 rw [zmx] at h
 replace h := br h; rcases h with ⟨h1, h⟩ | ⟨h1, h⟩
 ·replace h := br h; rcases h with ⟨h2, h⟩ | ⟨h2, h⟩
  ·replace h := ob h; obtain ⟨r1, h3, h⟩ := h
   replace h3 := zccm q (M + 7) (by omega) _ _ h3
   replace h := br h; rcases h with ⟨h4, h⟩ | ⟨h4, h⟩
   ·replace h := ob h; obtain ⟨r2, h5, h⟩ := h
    replace h5 := zccm q (M + 7) (by omega) _ _ h5
    cases h; subst hR; simp only [zccn, simprocAttr, *]
   ·cases h; subst hR; simp only [zccn, simprocAttr, *]
  ·cases h; subst hR; simp only [zccn, simprocAttr, *]
 ·cases h; subst hR; simp only [zccn, simprocAttr, *]
def zccp := And.intro @kk <| And.intro @ke <| And.intro @kn <| And.intro @zbzg <| And.intro @zbv5 <| And.intro @zbze <| And.intro @zbzw <| @zbzi
theorem zccq : ∀ (q N : Nat), 8 * q ≤ N → ∀ (a0 : (Sl Int)), ∀ (r : zjr × Int), zmy q a0 = some r → (orc T N).deep F.zmy [(Sl.enc (V.int .u8)) a0] = some [zjr.enc r.1, (V.int .i64) r.2] := by
 intro q N hM a0 r h
 rcases q with _ | q
 ·cases h
 obtain ⟨M, rfl⟩ : ∃ M, N = M + 8 := ⟨N - 8, by omega⟩
 generalize hR : some [zjr.enc r.1, (V.int .i64) r.2] = R
 rw [zh4, zbrl, y4, zh2]
 rw [zmy] at h
 replace h := ob h; obtain ⟨r1, h1, h⟩ := h
 replace h1 := zcbo q (M + 7) (by omega) _ _ h1
 try simp only [kf, simprocAttr] at h1
 replace h := bn h; obtain ⟨h2, h⟩ := h
 replace h := bn h; obtain ⟨h3, h⟩ := h
 replace h := ob h; obtain ⟨r2, h4, h⟩ := h
 replace h4 := zcck q (M + 7) (by omega) _ _ h4
 try simp only [kf, simprocAttr] at h4
 replace h := bn h; obtain ⟨h5, h⟩ := h
 replace h := bn h; obtain ⟨h6, h⟩ := h
 replace h := ob h; obtain ⟨r3, h7, h⟩ := h
 replace h7 := zcck q (M + 7) (by omega) _ _ h7
 try simp only [kf, simprocAttr] at h7
 replace h := ob h; obtain ⟨r4, h8, h⟩ := h
 replace h8 := zcco q (M + 7) (by omega) _ _ h8
 try simp only [kf, simprocAttr] at h8
 replace h := br h; rcases h with ⟨h9, h⟩ | ⟨h9, h⟩
 ·cases h; subst hR; simp only [zccp, simprocAttr, *]
 ·replace h := br h; rcases h with ⟨h10, h⟩ | ⟨h10, h⟩
  ·cases h; subst hR; simp only [zccp, simprocAttr, *]
  ·replace h := br h; rcases h with ⟨h11, h⟩ | ⟨h11, h⟩
   ·cases h; subst hR; simp only [zccp, simprocAttr, *]
   ·replace h := bb h; rcases h with ⟨h12', h12, h⟩ | ⟨h12', h12, h⟩
    ·cases h; subst hR; simp only [zccp, simprocAttr, *]
    ·cases h; subst hR; simp only [zccp, simprocAttr, *]
def zccr := And.intro @kk <| And.intro @ke <| And.intro @kn <| And.intro @zbza <| And.intro @zbv5 <| And.intro @zbze <| And.intro @zbzh <| @zbzc
theorem zccs : ∀ (q N : Nat), 8 * q ≤ N → ∀ (a0 : zjs) (a1 : Int) (a2 : (Sl Int)), ∀ (r : zjs × Int), zmz q a0 a1 a2 = some r → (orc T N).deep F.zmz [zjs.enc a0, (V.int .i64) a1, (Sl.enc (V.int .u8)) a2] = some [zjs.enc r.1, (V.int .i64) r.2] := by
 intro q N hM a0 a1 a2 r h
 rcases q with _ | q
 ·cases h
 obtain ⟨M, rfl⟩ : ∃ M, N = M + 8 := ⟨N - 8, by omega⟩
 generalize hR : some [zjs.enc r.1, (V.int .i64) r.2] = R
 rw [zh4, zbrj, y4, zh2]
 rw [zmz] at h
 replace h := ob h; obtain ⟨r1, h1, h⟩ := h
 replace h1 := zcbo q (M + 7) (by omega) _ _ h1
 try simp only [kf, simprocAttr] at h1
 replace h := br h; rcases h with ⟨h2, h⟩ | ⟨h2, h⟩
 ·cases h; subst hR; simp only [zccr, simprocAttr, *]
 ·replace h := br h; rcases h with ⟨h3, h⟩ | ⟨h3, h⟩
  ·cases h; subst hR; simp only [zccr, simprocAttr, *]
  ·replace h := br h; rcases h with ⟨h4, h⟩ | ⟨h4, h⟩
   ·cases h; subst hR; simp only [zccr, simprocAttr, *]
   ·replace h := br h; rcases h with ⟨h5, h⟩ | ⟨h5, h⟩
    ·replace h := ob h; obtain ⟨r2, h6, h⟩ := h
     replace h6 := zccq q (M + 7) (by omega) _ _ h6
     try simp only [kf, simprocAttr] at h6
     cases h; subst hR; simp only [zccr, simprocAttr, *]
    ·replace h := br h; rcases h with ⟨h7, h⟩ | ⟨h7, h⟩
     ·replace h := ob h; obtain ⟨r3, h8, h⟩ := h
      replace h8 := zcck q (M + 7) (by omega) _ _ h8
      try simp only [kf, simprocAttr] at h8
      cases h; subst hR; simp only [zccr, simprocAttr, *]
     ·cases h; subst hR; simp only [zccr, simprocAttr, *]
def zcct := And.intro @kk <| And.intro @ke <| And.intro @kn <| And.intro @zbxv <| And.intro @zbzw <| @zbxx
theorem zccu : ∀ (q N : Nat), 8 * q ≤ N → ∀ (a0 : zjs), ∀ (r : Bool), zm0 q a0 = some r → (orc T N).deep F.zm0 [zjs.enc a0] = some [V.bool r] := by
 intro q N hM a0 r h
 rcases q with _ | q
 ·cases h
 obtain ⟨M, rfl⟩ : ∃ M, N = M + 8 := ⟨N - 8, by omega⟩
 generalize hR : some [V.bool r] = R
 rw [zh4, zbq2, y4, zh2]
 rw [zm0] at h
 replace h := ob h; obtain ⟨r1, h1, h⟩ := h
 replace h1 := zcco q (M + 7) (by omega) _ _ h1
 try simp only [kf, simprocAttr] at h1
 replace h := bb h; rcases h with ⟨h2', h2, h⟩ | ⟨h2', h2, h⟩
 ·replace h := br h; rcases h with ⟨h3, h⟩ | ⟨h3, h⟩
  ·replace h := br h; rcases h with ⟨h4, h⟩ | ⟨h4, h⟩
   ·replace h := br h; rcases h with ⟨h5, h⟩ | ⟨h5, h⟩
    ·replace h := br h; rcases h with ⟨h6, h⟩ | ⟨h6, h⟩
     ·replace h := br h; rcases h with ⟨h7, h⟩ | ⟨h7, h⟩
      ·replace h := br h; rcases h with ⟨h8, h⟩ | ⟨h8, h⟩
       ·replace h := br h; rcases h with ⟨h9, h⟩ | ⟨h9, h⟩
        ·cases h; subst hR; simp only [zcct, simprocAttr, *]
        ·cases h; subst hR; simp only [zcct, simprocAttr, *]
       ·cases h; subst hR; simp only [zcct, simprocAttr, *]
      ·cases h; subst hR; simp only [zcct, simprocAttr, *]
     ·cases h; subst hR; simp only [zcct, simprocAttr, *]
    ·cases h; subst hR; simp only [zcct, simprocAttr, *]
   ·cases h; subst hR; simp only [zcct, simprocAttr, *]
  ·cases h; subst hR; simp only [zcct, simprocAttr, *]
 ·cases h; subst hR; simp only [zcct, simprocAttr, *]
def zccv (q : Nat) : Prop := ∀ (M : Nat) (hM : 8 * q ≤ M) (j : Nat) (hj : q ≤ j) (v0z : Bool) (v0l : List Int) (v5 v6 v8 v9 h2_0 h2_1 h2_2 h2_3 h2_4 h2_5 h2_6 : Int) (r : zjs × Int) (_ : zm1 q v0z v0l v5 v6 v8 v9 h2_0 h2_1 h2_2 h2_3 h2_4 h2_5 h2_6 = some r) (R : Option (List V)) (_ : some [zjs.enc r.1, (V.int .i64) r.2] = R) (fr : Fr) (H : Hp) (_ : canon 0 [0, 2, 4, 5, 6, 7, 8, 9] fr H = ([(0, (.sl v0z (List.map (V.int .u8) v0l))), (2, (.ptr 0 0)), (4, (.ptr 1 0)), (5, (.int .i64 v5)), (6, (.int .i64 v6)), (7, (.ptr 2 0)), (8, (.int .i64 v8)), (9, (.int .i64 v9))], [(.box [(.int .i64 0), (.int .i64 0), (.int .i64 0), (.int .i64 0), (.int .i64 0), (.int .i64 0), (.int .i64 0)]), (.box [(.int .i64 0), (.int .i64 0), (.int .i64 0), (.int .i64 0), (.int .i64 0), (.int .i64 0), (.int .i64 0)]), (.box [(.int .i64 h2_0), (.int .i64 h2_1), (.int .i64 h2_2), (.int .i64 h2_3), (.int .i64 h2_4), (.int .i64 h2_5), (.int .i64 h2_6)])])), fin z94 (unw T (orc T (M + 7)) (M + 7) 0 [.blk 0, .code z9t] (iter 0 [0, 2, 4, 5, 6, 7, 8, 9] (exec T (orc T (M + 7)) (M + 7) 0 z9h) j fr H)) = R
def zccw := And.intro @kk <| And.intro @ke <| And.intro @kn <| And.intro @zbxm <| And.intro @zbv5 <| And.intro @zbxw <| And.intro @zby8 <| And.intro @zbzb <| @zbxo
theorem zccx (q : Nat) (zcd7 : zccv q) : zccv (q + 1) := by
 intro M hM j hj v0z v0l v5 v6 v8 v9 h2_0 h2_1 h2_2 h2_3 h2_4 h2_5 h2_6 r h R hR fr H hc
 obtain ⟨j, rfl⟩ : ∃ i, j = i + 1 := ⟨j - 1, by omega⟩
 rw [zhv, hc]; clear hc
 rw [zm1] at h
 replace h := br h; rcases h with ⟨h1, h⟩ | ⟨h1, h⟩
 ·replace h := bn h; obtain ⟨h2, h⟩ := h
  replace h := bn h; obtain ⟨h3, h⟩ := h
  replace h := ob h; obtain ⟨r2, h4, h⟩ := h
  replace h4 := zcbo q (M + 7) (by omega) _ _ h4
  try simp only [kf, simprocAttr] at h4
  replace h := br h; rcases h with ⟨h5, h⟩ | ⟨h5, h⟩
  ·cases h; subst hR; simp only [zccw, simprocAttr, *]
  ·replace h := br h; rcases h with ⟨h6, h⟩ | ⟨h6, h⟩
   ·cases h; subst hR; simp only [zccw, simprocAttr, *]
   ·replace h := ob h; obtain ⟨r3, h7, h⟩ := h
    replace h7 := zccg q (M + 7) (by omega) _ _ _ h7
    replace h := bb h; rcases h with ⟨h8', h8, h⟩ | ⟨h8', h8, h⟩
    ·replace h := bn h; obtain ⟨h9, h⟩ := h
     replace h := bn h; obtain ⟨h10, h⟩ := h
     replace h := ob h; obtain ⟨r4, h11, h⟩ := h
     replace h11 := zccs q (M + 7) (by omega) _ _ _ _ h11
     try simp only [kf, simprocAttr] at h11
     replace h := br h; rcases h with ⟨h12, h⟩ | ⟨h12, h⟩
     ·cases h; subst hR; simp only [zccw, simprocAttr, *]
     ·replace h := zcd7 M (by omega) j (by omega) _ _ _ _ _ _ _ _ _ _ _ _ _ _ h R hR
      simp only [zccw, simprocAttr, *]
    ·replace h := br h; rcases h with ⟨h13, h⟩ | ⟨h13, h⟩
     ·cases h; subst hR; simp only [zccw, simprocAttr, *]
     ·replace h := br h; rcases h with ⟨h14, h⟩ | ⟨h14, h⟩
      ·cases h; subst hR; simp only [zccw, simprocAttr, *]
      ·replace h := bn h; obtain ⟨h15, h⟩ := h
       replace h := bn h; obtain ⟨h16, h⟩ := h
       replace h := ob h; obtain ⟨r5, h17, h⟩ := h
       replace h17 := zcbo q (M + 7) (by omega) _ _ h17
       try simp only [kf, simprocAttr] at h17
       replace h := br h; rcases h with ⟨h18, h⟩ | ⟨h18, h⟩
       ·cases h; subst hR; simp only [zccw, simprocAttr, *]
       ·replace h := br h; rcases h with ⟨h19, h⟩ | ⟨h19, h⟩
        ·cases h; subst hR; simp only [zccw, simprocAttr, *]
        ·replace h := zcd7 M (by omega) j (by omega) _ _ _ _ _ _ _ _ _ _ _ _ _ _ h R hR
         simp only [zccw, simprocAttr, *]
 ·replace h := br h; rcases h with ⟨h20, h⟩ | ⟨h20, h⟩
  ·replace h := ob h; obtain ⟨r6, h21, h⟩ := h
   replace h21 := zccu q (M + 7) (by omega) _ _ h21
   try simp only [kf, simprocAttr] at h21
   replace h := bb h; rcases h with ⟨h22', h22, h⟩ | ⟨h22', h22, h⟩
   ·cases h; subst hR; simp only [zccw, simprocAttr, *]
   ·cases h; subst hR; simp only [zccw, simprocAttr, *]
  ·cases h; subst hR; simp only [zccw, simprocAttr, *]
theorem zccy : ∀ q, zccv q
 | 0 => by intro M hM j hj; intros; rename_i h _ _ _ _ _; cases h
 | q + 1 => by have i0 := zccy q; exact zccx q i0
theorem zccz : ∀ (q N : Nat), 8 * q ≤ N → ∀ (a0 : (Sl Int)), ∀ (r : zjs × Int), zm2 q a0 = some r → (orc T N).deep F.zm2 [(Sl.enc (V.int .u8)) a0] = some [zjs.enc r.1, (V.int .i64) r.2] := by
 intro q N hM a0 r h
 rcases q with _ | q
 ·cases h
 obtain ⟨M, rfl⟩ : ∃ M, N = M + 8 := ⟨N - 8, by omega⟩
 have zcd7 := (zccy q)
 generalize hR : some [zjs.enc r.1, (V.int .i64) r.2] = R
 rw [zh4, zbqz, y4, zh2]
 rw [zm2] at h
 replace h := br h; rcases h with ⟨h1, h⟩ | ⟨h1, h⟩
 ·cases h; subst hR; simp only [zccw, simprocAttr, *]
 ·replace h := ob h; obtain ⟨r1, h2, h⟩ := h
  replace h2 := zcbo q (M + 7) (by omega) _ _ h2
  try simp only [kf, simprocAttr] at h2
  replace h := br h; rcases h with ⟨h3, h⟩ | ⟨h3, h⟩
  ·cases h; subst hR; simp only [zccw, simprocAttr, *]
  ·replace h := br h; rcases h with ⟨h4, h⟩ | ⟨h4, h⟩
   ·cases h; subst hR; simp only [zccw, simprocAttr, *]
   ·replace h := br h; rcases h with ⟨h5, h⟩ | ⟨h5, h⟩
    ·cases h; subst hR; simp only [zccw, simprocAttr, *]
    ·replace h := zcd7 M (by omega) (M + 7) (by omega) _ _ _ _ _ _ _ _ _ _ _ _ _ _ h R hR
     simp only [zccw, simprocAttr, *]
def zcc0 (q : Nat) : Prop := ∀ (M : Nat) (hM : 8 * q ≤ M) (j : Nat) (hj : q ≤ j) (v0 : Int) (v1z : Bool) (v1l : List Int) (h0z : Bool) (h0l : List zjs) (r : (Ow zjs) × Bool) (_ : zm3 q v0 v1z v1l h0z h0l = some r) (R : Option (List V)) (_ : some [(Ow.enc 7 zjs.enc) r.1, V.bool r.2] = R) (fr : Fr) (H : Hp) (_ : canon 0 [0, 1, 6] fr H = ([(0, (.int .i64 v0)), (1, (.sl v1z (List.map (V.int .u8) v1l))), (6, (.vw 0 0 0 h0l.length 1))], [(.row 0 h0z 7 (List.map zjs.enc h0l) true)])), fin z1l (unw T (orc T (M + 7)) (M + 7) 0 [.blk 0, .code z1h] (iter 0 [0, 1, 6] (exec T (orc T (M + 7)) (M + 7) 0 z1f) j fr H)) = R
def zcc1 := And.intro @kk <| And.intro @ke <| And.intro @kn <| And.intro @zbv7 <| And.intro @zbv5 <| And.intro @zbxn <| @zbv9
theorem zcc2 (q : Nat) (zcd8 : zcc0 q) : zcc0 (q + 1) := by
 intro M hM j hj v0 v1z v1l h0z h0l r h R hR fr H hc
 obtain ⟨j, rfl⟩ : ∃ i, j = i + 1 := ⟨j - 1, by omega⟩
 rw [zhv, hc]; clear hc
 rw [zm3] at h
 replace h := br h; rcases h with ⟨h1, h⟩ | ⟨h1, h⟩
 ·replace h := ob h; obtain ⟨r1, h2, h⟩ := h
  replace h2 := zcbo q (M + 7) (by omega) _ _ h2
  try simp only [kf, simprocAttr] at h2
  replace h := br h; rcases h with ⟨h3, h⟩ | ⟨h3, h⟩
  ·cases h; subst hR; simp only [zcc1, simprocAttr, *]
  ·replace h := br h; rcases h with ⟨h4, h⟩ | ⟨h4, h⟩
   ·cases h; subst hR; simp only [zcc1, simprocAttr, *]
   ·replace h := br h; rcases h with ⟨h5, h⟩ | ⟨h5, h⟩
    ·cases h; subst hR; simp only [zcc1, simprocAttr, *]
    ·replace h := bn h; obtain ⟨h6, h⟩ := h
     replace h := ob h; obtain ⟨e2, h7, h⟩ := h
     replace h := br h; rcases h with ⟨h8, h⟩ | ⟨h8, h⟩
     ·replace h := bn h; obtain ⟨h9, h⟩ := h
      replace h := bn h; obtain ⟨h10, h⟩ := h
      replace h := ob h; obtain ⟨r3, h11, h⟩ := h
      replace h11 := zccz q (M + 7) (by omega) _ _ h11
      try simp only [kf, simprocAttr] at h11
      replace h := br h; rcases h with ⟨h12, h⟩ | ⟨h12, h⟩
      ·replace h := bn h; obtain ⟨h13, h⟩ := h
       replace h := bn h; obtain ⟨h14, h⟩ := h
       replace h := bn h; obtain ⟨h15, h⟩ := h
       replace h := zcd8 M (by omega) j (by omega) _ _ _ _ _ _ h R hR
       simp only [zcc1, simprocAttr, *]
      ·cases h; subst hR; simp only [zcc1, simprocAttr, *]
     ·cases h; subst hR; simp only [zcc1, simprocAttr, *]
 ·cases h; subst hR; simp only [zcc1, simprocAttr, *]
theorem zcc3 : ∀ q, zcc0 q
 | 0 => by intro M hM j hj; intros; rename_i h _ _ _ _ _; cases h
 | q + 1 => by have i0 := zcc3 q; exact zcc2 q i0
theorem zcc4 : ∀ (q N : Nat), 8 * q ≤ N → ∀ (a0 : Int) (a1 : (Sl Int)), ∀ (r : (Ow zjs) × Bool), zm4 q a0 a1 = some r → (orc T N).deep F.zm4 [(V.int .i64) a0, (Sl.enc (V.int .u8)) a1] = some [(Ow.enc 7 zjs.enc) r.1, V.bool r.2] := by
 intro q N hM a0 a1 r h
 rcases q with _ | q
 ·cases h
 obtain ⟨M, rfl⟩ : ∃ M, N = M + 8 := ⟨N - 8, by omega⟩
 have zcd8 := (zcc3 q)
 generalize hR : some [(Ow.enc 7 zjs.enc) r.1, V.bool r.2] = R
 rw [zh4, zbqi, y4, zh2]
 rw [zm4] at h
 replace h := zcd8 M (by omega) (M + 7) (by omega) _ _ _ _ _ _ h R hR
 simp only [zcc1, simprocAttr, *]
def zcc5 (q : Nat) : Prop := ∀ (M : Nat) (hM : 8 * q ≤ M) (j : Nat) (hj : q ≤ j) (v0z : Bool) (v0l : List zjs) (v1 v5 : Int) (r : Bool) (_ : zm5 q v0z v0l v1 v5 = some r) (R : Option (List V)) (_ : some [V.bool r] = R) (fr : Fr) (H : Hp) (_ : canon 0 [0, 1, 5] fr H = ([(0, (.sl v0z (List.map zjs.enc v0l))), (1, (.int .i64 v1)), (5, (.int .i64 v5))], [])), fin z2x (unw T (orc T (M + 7)) (M + 7) 0 [.blk 0, .code z2t] (iter 0 [0, 1, 5] (exec T (orc T (M + 7)) (M + 7) 0 z2q) j fr H)) = R
def zcc6 := And.intro @kk <| And.intro @ke <| And.intro @kn <| And.intro @zbwd <| And.intro @zbxw <| @zbwf
theorem zcc7 (q : Nat) (zcd9 : zcc5 q) : zcc5 (q + 1) := by
 intro M hM j hj v0z v0l v1 v5 r h R hR fr H hc
 obtain ⟨j, rfl⟩ : ∃ i, j = i + 1 := ⟨j - 1, by omega⟩
 rw [zhv, hc]; clear hc
 rw [zm5] at h
 replace h := br h; rcases h with ⟨h1, h⟩ | ⟨h1, h⟩
 ·replace h := bn h; obtain ⟨h2, h⟩ := h
  replace h := ob h; obtain ⟨e1, h3, h⟩ := h
  replace h := ob h; obtain ⟨r2, h4, h⟩ := h
  replace h4 := zccu q (M + 7) (by omega) _ _ h4
  try simp only [kf, simprocAttr] at h4
  replace h := bb h; rcases h with ⟨h5', h5, h⟩ | ⟨h5', h5, h⟩
  ·replace h := br h; rcases h with ⟨h6, h⟩ | ⟨h6, h⟩
   ·replace h := zcd9 M (by omega) j (by omega) _ _ _ _ _ h R hR
    simp only [zcc6, simprocAttr, *]
   ·cases h; subst hR; simp only [zcc6, simprocAttr, *]
  ·cases h; subst hR; simp only [zcc6, simprocAttr, *]
 ·cases h; subst hR; simp only [zcc6, simprocAttr, *]
theorem zcc8 : ∀ q, zcc5 q
 | 0 => by intro M hM j hj; intros; rename_i h _ _ _ _ _; cases h
 | q + 1 => by have i0 := zcc8 q; exact zcc7 q i0
theorem zcc9 : ∀ (q N : Nat), 8 * q ≤ N → ∀ (a0 : (Sl zjs)) (a1 : Int), ∀ (r : Bool), zm6 q a0 a1 = some r → (orc T N).deep F.zm6 [(Sl.enc zjs.enc) a0, (V.int .i64) a1] = some [V.bool r] := by
 intro q N hM a0 a1 r h
 rcases q with _ | q
 ·cases h
 obtain ⟨M, rfl⟩ : ∃ M, N = M + 8 := ⟨N - 8, by omega⟩
 have zcd9 := (zcc8 q)
 generalize hR : some [V.bool r] = R
 rw [zh4, zbqk, y4, zh2]
 rw [zm6] at h
 replace h := br h; rcases h with ⟨h1, h⟩ | ⟨h1, h⟩
 ·cases h; subst hR; simp only [zcc6, simprocAttr, *]
 ·replace h := zcd9 M (by omega) (M + 7) (by omega) _ _ _ _ _ h R hR
  simp only [zcc6, simprocAttr, *]
def zcda (q : Nat) : Prop := ∀ (M : Nat) (hM : 8 * q ≤ M) (j : Nat) (hj : q ≤ j) (v0z : Bool) (v0l : List zjs) (v1 v5 r : Int) (_ : zm7 q v0z v0l v1 v5 = some r) (R : Option (List V)) (_ : some [(V.int .i64) r] = R) (fr : Fr) (H : Hp) (_ : canon 0 [0, 1, 5] fr H = ([(0, (.sl v0z (List.map zjs.enc v0l))), (1, (.int .i64 v1)), (5, (.int .i64 v5))], [])), fin zbgb (unw T (orc T (M + 7)) (M + 7) 0 [.blk 0, .code zbf8] (iter 0 [0, 1, 5] (exec T (orc T (M + 7)) (M + 7) 0 zbf5) j fr H)) = R
def zcdb := And.intro @kk <| And.intro @ke <| And.intro @kn <| And.intro @zbzj <| @zbzl
theorem zcdc (q : Nat) (zcea : zcda q) : zcda (q + 1) := by
 intro M hM j hj v0z v0l v1 v5 r h R hR fr H hc
 obtain ⟨j, rfl⟩ : ∃ i, j = i + 1 := ⟨j - 1, by omega⟩
 rw [zhv, hc]; clear hc
 rw [zm7] at h
 replace h := br h; rcases h with ⟨h1, h⟩ | ⟨h1, h⟩
 ·replace h := ob h; obtain ⟨e1, h2, h⟩ := h
  replace h := br h; rcases h with ⟨h3, h⟩ | ⟨h3, h⟩
  ·cases h; subst hR; simp only [zcdb, simprocAttr, *]
  ·replace h := zcea M (by omega) j (by omega) _ _ _ _ _ h R hR
   simp only [zcdb, simprocAttr, *]
 ·cases h; subst hR; simp only [zcdb, simprocAttr, *]
theorem zcdd : ∀ q, zcda q
 | 0 => by intro M hM j hj; intros; rename_i h _ _ _ _ _; cases h
 | q + 1 => by have i0 := zcdd q; exact zcdc q i0
theorem zcde : ∀ (q N : Nat), 8 * q ≤ N → ∀ (a0 : (Sl zjs)) (a1 : Int), ∀ (r : Int), zm8 q a0 a1 = some r → (orc T N).deep F.zm8 [(Sl.enc zjs.enc) a0, (V.int .i64) a1] = some [(V.int .i64) r] := by
 intro q N hM a0 a1 r h
 rcases q with _ | q
 ·cases h
 obtain ⟨M, rfl⟩ : ∃ M, N = M + 8 := ⟨N - 8, by omega⟩
 have zcea := (zcdd q)
 generalize hR : some [(V.int .i64) r] = R
 rw [zh4, zbrm, y4, zh2]
 rw [zm8] at h
 replace h := zcea M (by omega) (M + 7) (by omega) _ _ _ _ _ h R hR
 simp only [zcdb, simprocAttr, *]
def zcdf := And.intro @kk <| And.intro @ke <| And.intro @kn <| And.intro @zbxp <| And.intro @zbv5 <| And.intro @zbze <| And.intro @zbzh <| And.intro @zbzk <| @zbxr
theorem zcdg : ∀ (q N : Nat), 8 * q ≤ N → ∀ (a0 : (Sl zjs)) (a1 : (Sl Int)), ∀ (r : zjs × Int), zm9 q a0 a1 = some r → (orc T N).deep F.zm9 [(Sl.enc zjs.enc) a0, (Sl.enc (V.int .u8)) a1] = some [zjs.enc r.1, (V.int .i64) r.2] := by
 intro q N hM a0 a1 r h
 rcases q with _ | q
 ·cases h
 obtain ⟨M, rfl⟩ : ∃ M, N = M + 8 := ⟨N - 8, by omega⟩
 generalize hR : some [zjs.enc r.1, (V.int .i64) r.2] = R
 rw [zh4, zbq0, y4, zh2]
 rw [zm9] at h
 replace h := ob h; obtain ⟨r1, h1, h⟩ := h
 replace h1 := zcbo q (M + 7) (by omega) _ _ h1
 try simp only [kf, simprocAttr] at h1
 replace h := bn h; obtain ⟨h2, h⟩ := h
 replace h := bn h; obtain ⟨h3, h⟩ := h
 replace h := ob h; obtain ⟨r2, h4, h⟩ := h
 replace h4 := zcck q (M + 7) (by omega) _ _ h4
 try simp only [kf, simprocAttr] at h4
 replace h := bn h; obtain ⟨h5, h⟩ := h
 replace h := bn h; obtain ⟨h6, h⟩ := h
 replace h := ob h; obtain ⟨r3, h7, h⟩ := h
 replace h7 := zccq q (M + 7) (by omega) _ _ h7
 try simp only [kf, simprocAttr] at h7
 replace h := bn h; obtain ⟨h8, h⟩ := h
 replace h := bn h; obtain ⟨h9, h⟩ := h
 replace h := ob h; obtain ⟨r4, h10, h⟩ := h
 replace h10 := zcck q (M + 7) (by omega) _ _ h10
 try simp only [kf, simprocAttr] at h10
 replace h := br h; rcases h with ⟨h11, h⟩ | ⟨h11, h⟩
 ·cases h; subst hR; simp only [zcdf, simprocAttr, *]
 ·replace h := br h; rcases h with ⟨h12, h⟩ | ⟨h12, h⟩
  ·cases h; subst hR; simp only [zcdf, simprocAttr, *]
  ·replace h := br h; rcases h with ⟨h13, h⟩ | ⟨h13, h⟩
   ·cases h; subst hR; simp only [zcdf, simprocAttr, *]
   ·replace h := br h; rcases h with ⟨h14, h⟩ | ⟨h14, h⟩
    ·cases h; subst hR; simp only [zcdf, simprocAttr, *]
    ·replace h := ob h; obtain ⟨r5, h15, h⟩ := h
     replace h15 := zcde q (M + 7) (by omega) _ _ _ h15
     try simp only [kf, simprocAttr] at h15
     cases h; subst hR; simp only [zcdf, simprocAttr, *]
def zcdh (q : Nat) : Prop := ∀ (M : Nat) (hM : 8 * q ≤ M) (j : Nat) (hj : q ≤ j) (v0z : Bool) (v0l : List zjs) (v3 : Int) (r : Bool) (_ : zna q v0z v0l v3 = some r) (R : Option (List V)) (_ : some [V.bool r] = R) (fr : Fr) (H : Hp) (_ : canon 0 [0, 3] fr H = ([(0, (.sl v0z (List.map zjs.enc v0l))), (3, (.int .i64 v3))], [])), fin zbgp (unw T (orc T (M + 7)) (M + 7) 0 [.blk 0, .code zbgl] (iter 0 [0, 3] (exec T (orc T (M + 7)) (M + 7) 0 zbgi) j fr H)) = R
def zcdi := And.intro @kk <| And.intro @ke <| And.intro @kn <| And.intro @zbzm <| And.intro @zbxw <| @zbzo
theorem zcdj (q : Nat) (zceb : zcdh q) : zcdh (q + 1) := by
 intro M hM j hj v0z v0l v3 r h R hR fr H hc
 obtain ⟨j, rfl⟩ : ∃ i, j = i + 1 := ⟨j - 1, by omega⟩
 rw [zhv, hc]; clear hc
 rw [zna] at h
 replace h := br h; rcases h with ⟨h1, h⟩ | ⟨h1, h⟩
 ·replace h := bn h; obtain ⟨h2, h⟩ := h
  replace h := ob h; obtain ⟨e1, h3, h⟩ := h
  replace h := ob h; obtain ⟨r2, h4, h⟩ := h
  replace h4 := zccu q (M + 7) (by omega) _ _ h4
  try simp only [kf, simprocAttr] at h4
  replace h := bb h; rcases h with ⟨h5', h5, h⟩ | ⟨h5', h5, h⟩
  ·replace h := br h; rcases h with ⟨h6, h⟩ | ⟨h6, h⟩
   ·replace h := bn h; obtain ⟨h7, h⟩ := h
    replace h := ob h; obtain ⟨e3, h8, h⟩ := h
    replace h := br h; rcases h with ⟨h9, h⟩ | ⟨h9, h⟩
    ·replace h := zceb M (by omega) j (by omega) _ _ _ _ h R hR
     simp only [zcdi, simprocAttr, *]
    ·cases h; subst hR; simp only [zcdi, simprocAttr, *]
   ·replace h := zceb M (by omega) j (by omega) _ _ _ _ h R hR
    simp only [zcdi, simprocAttr, *]
  ·cases h; subst hR; simp only [zcdi, simprocAttr, *]
 ·cases h; subst hR; simp only [zcdi, simprocAttr, *]
theorem zcdk : ∀ q, zcdh q
 | 0 => by intro M hM j hj; intros; rename_i h _ _ _ _ _; cases h
 | q + 1 => by have i0 := zcdk q; exact zcdj q i0
theorem zcdl : ∀ (q N : Nat), 8 * q ≤ N → ∀ (a0 : (Sl zjs)), ∀ (r : Bool), znb q a0 = some r → (orc T N).deep F.znb [(Sl.enc zjs.enc) a0] = some [V.bool r] := by
 intro q N hM a0 r h
 rcases q with _ | q
 ·cases h
 obtain ⟨M, rfl⟩ : ∃ M, N = M + 8 := ⟨N - 8, by omega⟩
 have zceb := (zcdk q)
 generalize hR : some [V.bool r] = R
 rw [zh4, zbrn, y4, zh2]
 rw [znb] at h
 replace h := br h; rcases h with ⟨h1, h⟩ | ⟨h1, h⟩
 ·cases h; subst hR; simp only [zcdi, simprocAttr, *]
 ·replace h := br h; rcases h with ⟨h2, h⟩ | ⟨h2, h⟩
  ·cases h; subst hR; simp only [zcdi, simprocAttr, *]
  ·replace h := zceb M (by omega) (M + 7) (by omega) _ _ _ _ h R hR
   simp only [zcdi, simprocAttr, *]
def zcdm (q : Nat) : Prop := ∀ (M : Nat) (hM : 8 * q ≤ M) (j : Nat) (hj : q ≤ j) (v0 : Int) (h0z : Bool) (h0l : List Int) (r : (Ow Int)) (_ : znc q v0 h0z h0l = some r) (R : Option (List V)) (_ : some [(Ow.enc 1 (V.int .u8)) r] = R) (fr : Fr) (H : Hp) (_ : canon 0 [0, 3] fr H = ([(0, (.int .u64 v0)), (3, (.vw 0 0 0 h0l.length 1))], [(.row 0 h0z 1 (List.map (V.int .u8) h0l) true)])), fin z23 (unw T (orc T (M + 7)) (M + 7) 0 [.blk 0, .code z2z] (iter 0 [0, 3] (exec T (orc T (M + 7)) (M + 7) 0 c_55_9) j fr H)) = R
def zcdn := And.intro @kk <| And.intro @ke <| And.intro @kn <| And.intro @zbwg <| @zbwi
theorem zcdo (q : Nat) (zcec : zcdm q) : zcdm (q + 1) := by
 intro M hM j hj v0 h0z h0l r h R hR fr H hc
 obtain ⟨j, rfl⟩ : ∃ i, j = i + 1 := ⟨j - 1, by omega⟩
 rw [zhv, hc]; clear hc
 rw [znc] at h
 replace h := br h; rcases h with ⟨h1, h⟩ | ⟨h1, h⟩
 ·replace h := bn h; obtain ⟨h2, h⟩ := h
  replace h := zcec M (by omega) j (by omega) _ _ _ _ h R hR
  simp only [zcdn, simprocAttr, *]
 ·replace h := bn h; obtain ⟨h3, h⟩ := h
  cases h; subst hR; simp only [zcdn, simprocAttr, *]
theorem zcdp : ∀ q, zcdm q
 | 0 => by intro M hM j hj; intros; rename_i h _ _ _ _ _; cases h
 | q + 1 => by have i0 := zcdp q; exact zcdo q i0
theorem zcdq : ∀ (q N : Nat), 8 * q ≤ N → ∀ (a0 : Int), ∀ (r : (Ow Int)), znd q a0 = some r → (orc T N).deep F.znd [(V.int .u64) a0] = some [(Ow.enc 1 (V.int .u8)) r] := by
 intro q N hM a0 r h
 rcases q with _ | q
 ·cases h
 obtain ⟨M, rfl⟩ : ∃ M, N = M + 8 := ⟨N - 8, by omega⟩
 have zcec := (zcdp q)
 generalize hR : some [(Ow.enc 1 (V.int .u8)) r] = R
 rw [zh4, zbql, y4, zh2]
 rw [znd] at h
 replace h := zcec M (by omega) (M + 7) (by omega) _ _ _ _ h R hR
 simp only [zcdn, simprocAttr, *]
def zcdr := And.intro @kk <| And.intro @ke <| And.intro @kn <| And.intro @zbuy <| And.intro @zbwh <| @zbu0
theorem zcds : ∀ (q N : Nat), 8 * q ≤ N → ∀ (a0 : (Sl Int)) (a1 : Int), ∀ (r : (Ow Int)), zne q a0 a1 = some r → (orc T N).deep F.zne [(Sl.enc (V.int .u8)) a0, (V.int .i64) a1] = some [(Ow.enc 1 (V.int .u8)) r] := by
 intro q N hM a0 a1 r h
 rcases q with _ | q
 ·cases h
 obtain ⟨M, rfl⟩ : ∃ M, N = M + 8 := ⟨N - 8, by omega⟩
 generalize hR : some [(Ow.enc 1 (V.int .u8)) r] = R
 rw [zh4, zbp3, y4, zh2]
 rw [zne] at h
 replace h := bn h; obtain ⟨h1, h⟩ := h
 replace h := br h; rcases h with ⟨h2, h⟩ | ⟨h2, h⟩
 ·cases h; subst hR; simp only [zcdr, simprocAttr, *]
 ·replace h := br h; rcases h with ⟨h3, h⟩ | ⟨h3, h⟩
  ·cases h; subst hR; simp only [zcdr, simprocAttr, *]
  ·replace h := ob h; obtain ⟨r1, h4, h⟩ := h
   replace h4 := zcdq q (M + 7) (by omega) _ _ h4
   try simp only [kf, simprocAttr] at h4
   replace h := bn h; obtain ⟨h5, h⟩ := h
   cases h; subst hR; simp only [zcdr, simprocAttr, *]
def zcdt := And.intro @kk <| And.intro @ke <| And.intro @kn <| And.intro @zb0p <| @zb0r
theorem zcdu : ∀ (q N : Nat), 8 * q ≤ N → ∀ (a0 r : Int), znf q a0 = some r → (orc T N).deep F.znf [(V.int .i64) a0] = some [(V.int .u64) r] := by
 intro q N hM a0 r h
 rcases q with _ | q
 ·cases h
 obtain ⟨M, rfl⟩ : ∃ M, N = M + 8 := ⟨N - 8, by omega⟩
 generalize hR : some [(V.int .u64) r] = R
 rw [zh4, zbr0, y4, zh2]
 rw [znf] at h
 replace h := br h; rcases h with ⟨h1, h⟩ | ⟨h1, h⟩
 ·cases h; subst hR; simp only [zcdt, simprocAttr, *]
 ·cases h; subst hR; simp only [zcdt, simprocAttr, *]
end Go.Dvm.C
