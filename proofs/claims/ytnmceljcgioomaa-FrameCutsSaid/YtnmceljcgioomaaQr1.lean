/- The machine comes to these answers: part 2. -/
import Derived.Test.YtnmceljcgioomaaQl0
import Derived.Test.YtnmceljcgioomaaQr0
set_option linter.all false
set_option maxRecDepth 100000
set_option maxHeartbeats 4000000
namespace Go.Dvm.C
open Go Go.Dvm Go.Dvm.I
def St_frame_walk_l0 (q : Nat) : Prop := ∀ (M : Nat) (hM : 8 * q ≤ M) (j : Nat) (hj : q ≤ j) (v0z : Bool) (v0l : List Int) (v3 : Int) (h0z : Bool) (h0l : List (Sl Int)) (r : (Ow (Sl Int)) × Int × Int) (_ : frame_walk_l0 q v0z v0l v3 h0z h0l = some r) (R : Option (List V)) (_ : some [(Ow.enc 1 (Sl.enc (V.int .u8))) r.1, (V.int .i64) r.2.1, (V.int .i64) r.2.2] = R) (fr : Fr) (H : Hp) (_ : canon 0 [0, 2, 3] fr H = ([(0, (.sl v0z (List.map (V.int .u8) v0l))), (2, (.vw 0 0 0 h0l.length 1)), (3, (.int .i64 v3))], [(.row 0 h0z 1 (List.map (Sl.enc (V.int .u8)) h0l) true)])), fin m_frame_walk (unw T (orc T (M + 7)) (M + 7) 0 [.blk 0, .code c_frame_walk_16] (iter 0 [0, 2, 3] (exec T (orc T (M + 7)) (M + 7) 0 c_frame_walk_14) j fr H)) = R
theorem step_frame_walk_l0 (q : Nat) (ih_frame_walk_l0 : St_frame_walk_l0 q) : St_frame_walk_l0 (q + 1) := by
  intro M hM j hj v0z v0l v3 h0z h0l r h R hR fr H hc
  obtain ⟨j, rfl⟩ : ∃ i, j = i + 1 := ⟨j - 1, by omega⟩
  rw [unw_iter, hc]; clear hc
  rw [frame_walk_l0] at h
  rcases Classical.em (v3 < (v0l.length : Int)) with h1 | h1
  · rw [if_pos h1] at h; replace h1 := eq_true h1
    rcases Classical.em (0 ≤ v3) with h2 | h2
    · rw [if_pos h2] at h; replace h2 := eq_true h2
      rcases Classical.em (v3 ≤ (v0l.length : Int)) with h3 | h3
      · rw [if_pos h3] at h; replace h3 := eq_true h3
        rcases h4 : frame_Decode q ⟨v0z, (List.drop v3.toNat v0l)⟩ with _ | r1
        · rw [h4] at h; cases h
        · rw [h4, Option.bind_some] at h
          replace h4 := run_frame_Decode q (M + 7) (by omega) _ _ h4
          try simp only [Ow.enc, Sl.enc, kn0, kn1, kn2, kn3, kn4, kn5, kn6, eq_self_iff_true, implies_true, forall_const, Int.cast_ofNat_Int, Nat.reduceEqDiff, Nat.reduceAdd, Nat.reduceSub, Nat.reduceMul, Nat.reduceLT, Nat.reduceLeDiff, Int.reduceEq, Int.reduceLT, Int.reduceLE, Int.reduceAdd, Int.reduceSub, Int.reduceMul, Int.reduceToNat, Int.reduceNeg, ↓reduceIte, reduceCtorEq] at h4
          rcases Classical.em (r1.2.2 = 0) with h5 | h5
          · rw [if_pos h5] at h; replace h5 := eq_true h5
            rcases Classical.em ((h0l.length + 1) ≤ 4294967296) with h6 | h6
            · rw [if_pos h6] at h; replace h6 := eq_true h6
              try simp only [kn0, kn1, kn2, kn3, kn4, kn5, kn6, eq_self_iff_true, implies_true, forall_const, Int.cast_ofNat_Int, Nat.reduceEqDiff, Nat.reduceAdd, Nat.reduceSub, Nat.reduceMul, Nat.reduceLT, Nat.reduceLeDiff, Int.reduceEq, Int.reduceLT, Int.reduceLE, Int.reduceAdd, Int.reduceSub, Int.reduceMul, Int.reduceToNat, Int.reduceNeg, ↓reduceIte, reduceCtorEq] at h6
              replace h := ih_frame_walk_l0 M (by omega) j (by omega) _ _ _ _ _ _ h R hR
              simp (maxDischargeDepth := 12) only [kk0, kk1, kk2, kk3, kk4, kk5, kk6, kk7, kk8, kk9, kk10, kk11, kk12, kk13, kk14, kk15, kk16, kn0, kn1, kn2, kn3, kn4, kn5, kn6, eq_self_iff_true, implies_true, forall_const, Int.cast_ofNat_Int, Nat.reduceEqDiff, Nat.reduceAdd, Nat.reduceSub, Nat.reduceMul, Nat.reduceLT, Nat.reduceLeDiff, Int.reduceEq, Int.reduceLT, Int.reduceLE, Int.reduceAdd, Int.reduceSub, Int.reduceMul, Int.reduceToNat, Int.reduceNeg, ↓reduceIte, reduceCtorEq, L_frame_walk, v_frame_Decode, Ow.enc, Sl.enc, rr_frame_walk, ro_frame_walk, b0_frame_walk, *]
            · rw [if_neg h6] at h; replace h6 := eq_false h6
              try simp only [kn0, kn1, kn2, kn3, kn4, kn5, kn6, eq_self_iff_true, implies_true, forall_const, Int.cast_ofNat_Int, Nat.reduceEqDiff, Nat.reduceAdd, Nat.reduceSub, Nat.reduceMul, Nat.reduceLT, Nat.reduceLeDiff, Int.reduceEq, Int.reduceLT, Int.reduceLE, Int.reduceAdd, Int.reduceSub, Int.reduceMul, Int.reduceToNat, Int.reduceNeg, ↓reduceIte, reduceCtorEq] at h6
              cases h
          · rw [if_neg h5] at h; replace h5 := eq_false h5
            cases h; subst hR; simp (maxDischargeDepth := 12) only [kk0, kk1, kk2, kk3, kk4, kk5, kk6, kk7, kk8, kk9, kk10, kk11, kk12, kk13, kk14, kk15, kk16, kn0, kn1, kn2, kn3, kn4, kn5, kn6, eq_self_iff_true, implies_true, forall_const, Int.cast_ofNat_Int, Nat.reduceEqDiff, Nat.reduceAdd, Nat.reduceSub, Nat.reduceMul, Nat.reduceLT, Nat.reduceLeDiff, Int.reduceEq, Int.reduceLT, Int.reduceLE, Int.reduceAdd, Int.reduceSub, Int.reduceMul, Int.reduceToNat, Int.reduceNeg, ↓reduceIte, reduceCtorEq, L_frame_walk, v_frame_Decode, Ow.enc, Sl.enc, rr_frame_walk, ro_frame_walk, b0_frame_walk, *]
      · rw [if_neg h3] at h; replace h3 := eq_false h3
        cases h
    · rw [if_neg h2] at h; replace h2 := eq_false h2
      cases h
  · rw [if_neg h1] at h; replace h1 := eq_false h1
    cases h; subst hR; simp (maxDischargeDepth := 12) only [kk0, kk1, kk2, kk3, kk4, kk5, kk6, kk7, kk8, kk9, kk10, kk11, kk12, kk13, kk14, kk15, kk16, kn0, kn1, kn2, kn3, kn4, kn5, kn6, eq_self_iff_true, implies_true, forall_const, Int.cast_ofNat_Int, Nat.reduceEqDiff, Nat.reduceAdd, Nat.reduceSub, Nat.reduceMul, Nat.reduceLT, Nat.reduceLeDiff, Int.reduceEq, Int.reduceLT, Int.reduceLE, Int.reduceAdd, Int.reduceSub, Int.reduceMul, Int.reduceToNat, Int.reduceNeg, ↓reduceIte, reduceCtorEq, L_frame_walk, v_frame_Decode, Ow.enc, Sl.enc, rr_frame_walk, ro_frame_walk, b0_frame_walk, *]
theorem all_frame_walk : ∀ q, St_frame_walk_l0 q
  | 0 => by intro M hM j hj; intros; rename_i h _ _ _ _ _; cases h
  | q + 1 => by have i0 := all_frame_walk q; exact step_frame_walk_l0 q i0
theorem run_frame_walk : ∀ (q N : Nat), 8 * q ≤ N → ∀ (a0 : (Sl Int)), ∀ (r : (Ow (Sl Int)) × Int × Int), frame_walk q a0 = some r → (orc T N).deep F.frame_walk [(Sl.enc (V.int .u8)) a0] = some [(Ow.enc 1 (Sl.enc (V.int .u8))) r.1, (V.int .i64) r.2.1, (V.int .i64) r.2.2] := by
  intro q N hM a0 r h
  rcases q with _ | q
  · cases h
  obtain ⟨M, rfl⟩ : ∃ M, N = M + 8 := ⟨N - 8, by omega⟩
  have ih_frame_walk_l0 := (all_frame_walk q)
  generalize hR : some [(Ow.enc 1 (Sl.enc (V.int .u8))) r.1, (V.int .i64) r.2.1, (V.int .i64) r.2.2] = R
  rw [orc_deep, T_frame_walk, Option.bind_some, runDeep_eq]
  rw [frame_walk] at h
  replace h := ih_frame_walk_l0 M (by omega) (M + 7) (by omega) _ _ _ _ _ _ h R hR
  simp (maxDischargeDepth := 12) only [kk0, kk1, kk2, kk3, kk4, kk5, kk6, kk7, kk8, kk9, kk10, kk11, kk12, kk13, kk14, kk15, kk16, kn0, kn1, kn2, kn3, kn4, kn5, kn6, eq_self_iff_true, implies_true, forall_const, Int.cast_ofNat_Int, Nat.reduceEqDiff, Nat.reduceAdd, Nat.reduceSub, Nat.reduceMul, Nat.reduceLT, Nat.reduceLeDiff, Int.reduceEq, Int.reduceLT, Int.reduceLE, Int.reduceAdd, Int.reduceSub, Int.reduceMul, Int.reduceToNat, Int.reduceNeg, ↓reduceIte, reduceCtorEq, L_frame_walk, v_frame_Decode, Ow.enc, Sl.enc, rr_frame_walk, ro_frame_walk, b0_frame_walk, *]
theorem run_frame_Whole : ∀ (q N : Nat), 8 * q ≤ N → ∀ (a0 : (Sl Int)), ∀ (r : (Ow (Sl Int)) × Int), frame_Whole q a0 = some r → (orc T N).deep F.frame_Whole [(Sl.enc (V.int .u8)) a0] = some [(Ow.enc 1 (Sl.enc (V.int .u8))) r.1, (V.int .i64) r.2] := by
  intro q N hM a0 r h
  rcases q with _ | q
  · cases h
  obtain ⟨M, rfl⟩ : ∃ M, N = M + 8 := ⟨N - 8, by omega⟩
  generalize hR : some [(Ow.enc 1 (Sl.enc (V.int .u8))) r.1, (V.int .i64) r.2] = R
  rw [orc_deep, T_frame_Whole, Option.bind_some, runDeep_eq]
  rw [frame_Whole] at h
  rcases h1 : frame_walk q a0 with _ | r1
  · rw [h1] at h; cases h
  · rw [h1, Option.bind_some] at h
    replace h1 := run_frame_walk q (M + 7) (by omega) _ _ h1
    try simp only [Ow.enc, Sl.enc, kn0, kn1, kn2, kn3, kn4, kn5, kn6, eq_self_iff_true, implies_true, forall_const, Int.cast_ofNat_Int, Nat.reduceEqDiff, Nat.reduceAdd, Nat.reduceSub, Nat.reduceMul, Nat.reduceLT, Nat.reduceLeDiff, Int.reduceEq, Int.reduceLT, Int.reduceLE, Int.reduceAdd, Int.reduceSub, Int.reduceMul, Int.reduceToNat, Int.reduceNeg, ↓reduceIte, reduceCtorEq] at h1
    cases h; subst hR; simp (maxDischargeDepth := 12) only [kk0, kk1, kk2, kk3, kk4, kk5, kk6, kk7, kk8, kk9, kk10, kk11, kk12, kk13, kk14, kk15, kk16, kn0, kn1, kn2, kn3, kn4, kn5, kn6, eq_self_iff_true, implies_true, forall_const, Int.cast_ofNat_Int, Nat.reduceEqDiff, Nat.reduceAdd, Nat.reduceSub, Nat.reduceMul, Nat.reduceLT, Nat.reduceLeDiff, Int.reduceEq, Int.reduceLT, Int.reduceLE, Int.reduceAdd, Int.reduceSub, Int.reduceMul, Int.reduceToNat, Int.reduceNeg, ↓reduceIte, reduceCtorEq, L_frame_Whole, v_frame_walk, Ow.enc, Sl.enc, rr_frame_Whole, ro_frame_Whole, b0_frame_Whole, *]
theorem run_frame_All : ∀ (q N : Nat), 8 * q ≤ N → ∀ (a0 : (Sl Int)), ∀ (r : (Ow (Sl Int)) × Int), frame_All q a0 = some r → (orc T N).deep F.frame_All [(Sl.enc (V.int .u8)) a0] = some [(Ow.enc 1 (Sl.enc (V.int .u8))) r.1, (V.int .i64) r.2] := by
  intro q N hM a0 r h
  rcases q with _ | q
  · cases h
  obtain ⟨M, rfl⟩ : ∃ M, N = M + 8 := ⟨N - 8, by omega⟩
  generalize hR : some [(Ow.enc 1 (Sl.enc (V.int .u8))) r.1, (V.int .i64) r.2] = R
  rw [orc_deep, T_frame_All, Option.bind_some, runDeep_eq]
  rw [frame_All] at h
  rcases h1 : frame_walk q a0 with _ | r1
  · rw [h1] at h; cases h
  · rw [h1, Option.bind_some] at h
    replace h1 := run_frame_walk q (M + 7) (by omega) _ _ h1
    try simp only [Ow.enc, Sl.enc, kn0, kn1, kn2, kn3, kn4, kn5, kn6, eq_self_iff_true, implies_true, forall_const, Int.cast_ofNat_Int, Nat.reduceEqDiff, Nat.reduceAdd, Nat.reduceSub, Nat.reduceMul, Nat.reduceLT, Nat.reduceLeDiff, Int.reduceEq, Int.reduceLT, Int.reduceLE, Int.reduceAdd, Int.reduceSub, Int.reduceMul, Int.reduceToNat, Int.reduceNeg, ↓reduceIte, reduceCtorEq] at h1
    rcases Classical.em (r1.2.2 = 0) with h2 | h2
    · rw [if_pos h2] at h; replace h2 := eq_true h2
      cases h; subst hR; simp (maxDischargeDepth := 12) only [kk0, kk1, kk2, kk3, kk4, kk5, kk6, kk7, kk8, kk9, kk10, kk11, kk12, kk13, kk14, kk15, kk16, kn0, kn1, kn2, kn3, kn4, kn5, kn6, eq_self_iff_true, implies_true, forall_const, Int.cast_ofNat_Int, Nat.reduceEqDiff, Nat.reduceAdd, Nat.reduceSub, Nat.reduceMul, Nat.reduceLT, Nat.reduceLeDiff, Int.reduceEq, Int.reduceLT, Int.reduceLE, Int.reduceAdd, Int.reduceSub, Int.reduceMul, Int.reduceToNat, Int.reduceNeg, ↓reduceIte, reduceCtorEq, L_frame_All, v_frame_walk, Ow.enc, Sl.enc, rr_frame_All, ro_frame_All, b0_frame_All, *]
    · rw [if_neg h2] at h; replace h2 := eq_false h2
      cases h; subst hR; simp (maxDischargeDepth := 12) only [kk0, kk1, kk2, kk3, kk4, kk5, kk6, kk7, kk8, kk9, kk10, kk11, kk12, kk13, kk14, kk15, kk16, kn0, kn1, kn2, kn3, kn4, kn5, kn6, eq_self_iff_true, implies_true, forall_const, Int.cast_ofNat_Int, Nat.reduceEqDiff, Nat.reduceAdd, Nat.reduceSub, Nat.reduceMul, Nat.reduceLT, Nat.reduceLeDiff, Int.reduceEq, Int.reduceLT, Int.reduceLE, Int.reduceAdd, Int.reduceSub, Int.reduceMul, Int.reduceToNat, Int.reduceNeg, ↓reduceIte, reduceCtorEq, L_frame_All, v_frame_walk, Ow.enc, Sl.enc, rr_frame_All, ro_frame_All, b0_frame_All, *]
def St_ferrymanref03_Same_l0 (q : Nat) : Prop := ∀ (M : Nat) (hM : 8 * q ≤ M) (j : Nat) (hj : q ≤ j) (v0z : Bool) (v0l : List (Sl Int)) (v1z : Bool) (v1l : List (Sl Int)) (v5 : Int) (r : Bool) (_ : ferrymanref03_Same_l0 q v0z v0l v1z v1l v5 = some r) (R : Option (List V)) (_ : some [V.bool r] = R) (fr : Fr) (H : Hp) (_ : canon 0 [0, 1, 5] fr H = ([(0, (.sl v0z (List.map (Sl.enc (V.int .u8)) v0l))), (1, (.sl v1z (List.map (Sl.enc (V.int .u8)) v1l))), (5, (.int .i64 v5))], [])), fin m_ferrymanref03_Same (unw T (orc T (M + 7)) (M + 7) 0 [.blk 0, .code c_ferrymanref03_Same_17] (iter 0 [0, 1, 5] (exec T (orc T (M + 7)) (M + 7) 0 c_ferrymanref03_Same_14) j fr H)) = R
theorem step_ferrymanref03_Same_l0 (q : Nat) (ih_ferrymanref03_Same_l0 : St_ferrymanref03_Same_l0 q) : St_ferrymanref03_Same_l0 (q + 1) := by
  intro M hM j hj v0z v0l v1z v1l v5 r h R hR fr H hc
  obtain ⟨j, rfl⟩ : ∃ i, j = i + 1 := ⟨j - 1, by omega⟩
  rw [unw_iter, hc]; clear hc
  rw [ferrymanref03_Same_l0] at h
  rcases Classical.em (v5 < (v0l.length : Int)) with h1 | h1
  · rw [if_pos h1] at h; replace h1 := eq_true h1
    rcases Classical.em (0 ≤ v5) with h2 | h2
    · rw [if_pos h2] at h; replace h2 := eq_true h2
      rcases h3 : v0l[v5.toNat]? with _ | e1
      · rw [h3] at h; cases h
      · rw [h3, Option.bind_some] at h
        rcases h4 : v1l[v5.toNat]? with _ | e2
        · rw [h4] at h; cases h
        · rw [h4, Option.bind_some] at h
          rcases Classical.em (e1.l = e2.l) with h5 | h5
          · rw [if_pos h5] at h; replace h5 := eq_true h5
            replace h := ih_ferrymanref03_Same_l0 M (by omega) j (by omega) _ _ _ _ _ _ h R hR
            simp (maxDischargeDepth := 12) only [kk0, kk1, kk2, kk3, kk4, kk5, kk6, kk7, kk8, kk9, kk10, kk11, kk12, kk13, kk14, kk15, kk16, kn0, kn1, kn2, kn3, kn4, kn5, kn6, eq_self_iff_true, implies_true, forall_const, Int.cast_ofNat_Int, Nat.reduceEqDiff, Nat.reduceAdd, Nat.reduceSub, Nat.reduceMul, Nat.reduceLT, Nat.reduceLeDiff, Int.reduceEq, Int.reduceLT, Int.reduceLE, Int.reduceAdd, Int.reduceSub, Int.reduceMul, Int.reduceToNat, Int.reduceNeg, ↓reduceIte, reduceCtorEq, L_ferrymanref03_Same, Ow.enc, Sl.enc, rr_ferrymanref03_Same, ro_ferrymanref03_Same, b0_ferrymanref03_Same, *]
          · rw [if_neg h5] at h; replace h5 := eq_false h5
            cases h; subst hR; simp (maxDischargeDepth := 12) only [kk0, kk1, kk2, kk3, kk4, kk5, kk6, kk7, kk8, kk9, kk10, kk11, kk12, kk13, kk14, kk15, kk16, kn0, kn1, kn2, kn3, kn4, kn5, kn6, eq_self_iff_true, implies_true, forall_const, Int.cast_ofNat_Int, Nat.reduceEqDiff, Nat.reduceAdd, Nat.reduceSub, Nat.reduceMul, Nat.reduceLT, Nat.reduceLeDiff, Int.reduceEq, Int.reduceLT, Int.reduceLE, Int.reduceAdd, Int.reduceSub, Int.reduceMul, Int.reduceToNat, Int.reduceNeg, ↓reduceIte, reduceCtorEq, L_ferrymanref03_Same, Ow.enc, Sl.enc, rr_ferrymanref03_Same, ro_ferrymanref03_Same, b0_ferrymanref03_Same, *]
    · rw [if_neg h2] at h; replace h2 := eq_false h2
      cases h
  · rw [if_neg h1] at h; replace h1 := eq_false h1
    cases h; subst hR; simp (maxDischargeDepth := 12) only [kk0, kk1, kk2, kk3, kk4, kk5, kk6, kk7, kk8, kk9, kk10, kk11, kk12, kk13, kk14, kk15, kk16, kn0, kn1, kn2, kn3, kn4, kn5, kn6, eq_self_iff_true, implies_true, forall_const, Int.cast_ofNat_Int, Nat.reduceEqDiff, Nat.reduceAdd, Nat.reduceSub, Nat.reduceMul, Nat.reduceLT, Nat.reduceLeDiff, Int.reduceEq, Int.reduceLT, Int.reduceLE, Int.reduceAdd, Int.reduceSub, Int.reduceMul, Int.reduceToNat, Int.reduceNeg, ↓reduceIte, reduceCtorEq, L_ferrymanref03_Same, Ow.enc, Sl.enc, rr_ferrymanref03_Same, ro_ferrymanref03_Same, b0_ferrymanref03_Same, *]
theorem all_ferrymanref03_Same : ∀ q, St_ferrymanref03_Same_l0 q
  | 0 => by intro M hM j hj; intros; rename_i h _ _ _ _ _; cases h
  | q + 1 => by have i0 := all_ferrymanref03_Same q; exact step_ferrymanref03_Same_l0 q i0
theorem run_ferrymanref03_Same : ∀ (q N : Nat), 8 * q ≤ N → ∀ (a0 : (Sl (Sl Int))) (a1 : (Sl (Sl Int))), ∀ (r : Bool), ferrymanref03_Same q a0 a1 = some r → (orc T N).deep F.ferrymanref03_Same [(Sl.enc (Sl.enc (V.int .u8))) a0, (Sl.enc (Sl.enc (V.int .u8))) a1] = some [V.bool r] := by
  intro q N hM a0 a1 r h
  rcases q with _ | q
  · cases h
  obtain ⟨M, rfl⟩ : ∃ M, N = M + 8 := ⟨N - 8, by omega⟩
  have ih_ferrymanref03_Same_l0 := (all_ferrymanref03_Same q)
  generalize hR : some [V.bool r] = R
  rw [orc_deep, T_ferrymanref03_Same, Option.bind_some, runDeep_eq]
  rw [ferrymanref03_Same] at h
  rcases Classical.em ((a0.l.length : Int) = (a1.l.length : Int)) with h1 | h1
  · rw [if_pos h1] at h; replace h1 := eq_true h1
    replace h := ih_ferrymanref03_Same_l0 M (by omega) (M + 7) (by omega) _ _ _ _ _ _ h R hR
    simp (maxDischargeDepth := 12) only [kk0, kk1, kk2, kk3, kk4, kk5, kk6, kk7, kk8, kk9, kk10, kk11, kk12, kk13, kk14, kk15, kk16, kn0, kn1, kn2, kn3, kn4, kn5, kn6, eq_self_iff_true, implies_true, forall_const, Int.cast_ofNat_Int, Nat.reduceEqDiff, Nat.reduceAdd, Nat.reduceSub, Nat.reduceMul, Nat.reduceLT, Nat.reduceLeDiff, Int.reduceEq, Int.reduceLT, Int.reduceLE, Int.reduceAdd, Int.reduceSub, Int.reduceMul, Int.reduceToNat, Int.reduceNeg, ↓reduceIte, reduceCtorEq, L_ferrymanref03_Same, Ow.enc, Sl.enc, rr_ferrymanref03_Same, ro_ferrymanref03_Same, b0_ferrymanref03_Same, *]
  · rw [if_neg h1] at h; replace h1 := eq_false h1
    cases h; subst hR; simp (maxDischargeDepth := 12) only [kk0, kk1, kk2, kk3, kk4, kk5, kk6, kk7, kk8, kk9, kk10, kk11, kk12, kk13, kk14, kk15, kk16, kn0, kn1, kn2, kn3, kn4, kn5, kn6, eq_self_iff_true, implies_true, forall_const, Int.cast_ofNat_Int, Nat.reduceEqDiff, Nat.reduceAdd, Nat.reduceSub, Nat.reduceMul, Nat.reduceLT, Nat.reduceLeDiff, Int.reduceEq, Int.reduceLT, Int.reduceLE, Int.reduceAdd, Int.reduceSub, Int.reduceMul, Int.reduceToNat, Int.reduceNeg, ↓reduceIte, reduceCtorEq, L_ferrymanref03_Same, Ow.enc, Sl.enc, rr_ferrymanref03_Same, ro_ferrymanref03_Same, b0_ferrymanref03_Same, *]
def St_ferrymanlaw03_FrameCuts_l0 (q : Nat) : Prop := ∀ (M : Nat) (hM : 8 * q ≤ M) (j : Nat) (hj : q ≤ j) (v0z : Bool) (v0l : List (Sl Int)) (v1 : Int) (v5 : Bool) (v8 : Int) (h0z : Bool) (h0l : List Int) (h1z : Bool) (h1l : List Int) (r : Bool) (_ : ferrymanlaw03_FrameCuts_l0 q v0z v0l v1 v5 v8 h0z h0l h1z h1l = some r) (R : Option (List V)) (_ : some [V.bool r] = R) (fr : Fr) (H : Hp) (_ : canon 0 [0, 1, 5, 6, 7, 8] fr H = ([(0, (.sl v0z (List.map (Sl.enc (V.int .u8)) v0l))), (1, (.int .i64 v1)), (5, (.bool v5)), (6, (.vw 0 0 0 h0l.length 1)), (7, (.vw 1 0 0 h1l.length 1)), (8, (.int .i64 v8))], [(.row 0 h0z 1 (List.map (V.int .u8) h0l) true), (.row 0 h1z 1 (List.map (V.int .i64) h1l) true)])), fin m_ferrymanlaw03_FrameCuts (unw T (orc T (M + 7)) (M + 7) 0 [.blk 0, .code c_ferrymanlaw03_FrameCuts_58] (iter 0 [0, 1, 5, 6, 7, 8] (exec T (orc T (M + 7)) (M + 7) 0 c_ferrymanlaw03_FrameCuts_27) j fr H)) = R
def St_ferrymanlaw03_FrameCuts_l1 (q : Nat) : Prop := ∀ (M : Nat) (hM : 8 * q ≤ M) (j : Nat) (hj : q ≤ j) (v0z : Bool) (v0l : List (Sl Int)) (v1 : Int) (v5 : Bool) (v11 : Int) (v12 : Int) (h0z : Bool) (h0l : List Int) (h1z : Bool) (h1l : List Int) (r : Bool) (_ : ferrymanlaw03_FrameCuts_l1 q v0z v0l v1 v5 v11 v12 h0z h0l h1z h1l = some r) (R : Option (List V)) (_ : some [V.bool r] = R) (fr : Fr) (H : Hp) (_ : canon 0 [0, 1, 5, 6, 7, 11, 12] fr H = ([(0, (.sl v0z (List.map (Sl.enc (V.int .u8)) v0l))), (1, (.int .i64 v1)), (5, (.bool v5)), (6, (.vw 0 0 0 h0l.length 1)), (7, (.vw 1 0 0 h1l.length 1)), (11, (.int .i64 v11)), (12, (.int .i64 v12))], [(.row 0 h0z 1 (List.map (V.int .u8) h0l) true), (.row 0 h1z 1 (List.map (V.int .i64) h1l) true)])), fin m_ferrymanlaw03_FrameCuts (unw T (orc T (M + 7)) (M + 7) 0 [.blk 2, .code c_ferrymanlaw03_FrameCuts_54] (iter 0 [0, 1, 5, 6, 7, 11, 12] (exec T (orc T (M + 7)) (M + 7) 0 c_ferrymanlaw03_FrameCuts_40) j fr H)) = R
theorem step_ferrymanlaw03_FrameCuts_l0 (q : Nat) (ih_ferrymanlaw03_FrameCuts_l0 : St_ferrymanlaw03_FrameCuts_l0 q) (ih_ferrymanlaw03_FrameCuts_l1 : St_ferrymanlaw03_FrameCuts_l1 q) : St_ferrymanlaw03_FrameCuts_l0 (q + 1) := by
  intro M hM j hj v0z v0l v1 v5 v8 h0z h0l h1z h1l r h R hR fr H hc
  obtain ⟨j, rfl⟩ : ∃ i, j = i + 1 := ⟨j - 1, by omega⟩
  rw [unw_iter, hc]; clear hc
  rw [ferrymanlaw03_FrameCuts_l0] at h
  rcases Classical.em (v8 < (v0l.length : Int)) with h1 | h1
  · rw [if_pos h1] at h; replace h1 := eq_true h1
    rcases Classical.em (0 ≤ v8) with h2 | h2
    · rw [if_pos h2] at h; replace h2 := eq_true h2
      rcases h3 : v0l[v8.toNat]? with _ | e2
      · rw [h3] at h; cases h
      · rw [h3, Option.bind_some] at h
        rcases Classical.em (300 < (e2.l.length : Int)) with h4 | h4
        · rw [if_pos h4] at h; replace h4 := eq_true h4
          cases h; subst hR; simp (maxDischargeDepth := 12) only [kk0, kk1, kk2, kk3, kk4, kk5, kk6, kk7, kk8, kk9, kk10, kk11, kk12, kk13, kk14, kk15, kk16, kn0, kn1, kn2, kn3, kn4, kn5, kn6, eq_self_iff_true, implies_true, forall_const, Int.cast_ofNat_Int, Nat.reduceEqDiff, Nat.reduceAdd, Nat.reduceSub, Nat.reduceMul, Nat.reduceLT, Nat.reduceLeDiff, Int.reduceEq, Int.reduceLT, Int.reduceLE, Int.reduceAdd, Int.reduceSub, Int.reduceMul, Int.reduceToNat, Int.reduceNeg, ↓reduceIte, reduceCtorEq, L_ferrymanlaw03_FrameCuts, v_ferrymanlaw03_awake, v_frame_Encode, v_frame_All, v_frame_Whole, v_ferrymanref03_Same, Ow.enc, Sl.enc, rr_ferrymanlaw03_FrameCuts, ro_ferrymanlaw03_FrameCuts, b0_ferrymanlaw03_FrameCuts, *]
        · rw [if_neg h4] at h; replace h4 := eq_false h4
          rcases h5 : frame_Encode q e2 with _ | r3
          · rw [h5] at h; cases h
          · rw [h5, Option.bind_some] at h
            replace h5 := run_frame_Encode q (M + 7) (by omega) _ _ h5
            try simp only [Ow.enc, Sl.enc, kn0, kn1, kn2, kn3, kn4, kn5, kn6, eq_self_iff_true, implies_true, forall_const, Int.cast_ofNat_Int, Nat.reduceEqDiff, Nat.reduceAdd, Nat.reduceSub, Nat.reduceMul, Nat.reduceLT, Nat.reduceLeDiff, Int.reduceEq, Int.reduceLT, Int.reduceLE, Int.reduceAdd, Int.reduceSub, Int.reduceMul, Int.reduceToNat, Int.reduceNeg, ↓reduceIte, reduceCtorEq] at h5
            rcases Classical.em (r3.2 = 0) with h6 | h6
            · rw [if_pos h6] at h; replace h6 := eq_true h6
              rcases Classical.em ((h0l.length + r3.1.xs.length) ≤ 4294967296) with h7 | h7
              · rw [if_pos h7] at h; replace h7 := eq_true h7
                try simp only [kn0, kn1, kn2, kn3, kn4, kn5, kn6, eq_self_iff_true, implies_true, forall_const, Int.cast_ofNat_Int, Nat.reduceEqDiff, Nat.reduceAdd, Nat.reduceSub, Nat.reduceMul, Nat.reduceLT, Nat.reduceLeDiff, Int.reduceEq, Int.reduceLT, Int.reduceLE, Int.reduceAdd, Int.reduceSub, Int.reduceMul, Int.reduceToNat, Int.reduceNeg, ↓reduceIte, reduceCtorEq] at h7
                rcases Classical.em ((h1l.length + 1) ≤ 4294967296) with h8 | h8
                · rw [if_pos h8] at h; replace h8 := eq_true h8
                  try simp only [kn0, kn1, kn2, kn3, kn4, kn5, kn6, eq_self_iff_true, implies_true, forall_const, Int.cast_ofNat_Int, Nat.reduceEqDiff, Nat.reduceAdd, Nat.reduceSub, Nat.reduceMul, Nat.reduceLT, Nat.reduceLeDiff, Int.reduceEq, Int.reduceLT, Int.reduceLE, Int.reduceAdd, Int.reduceSub, Int.reduceMul, Int.reduceToNat, Int.reduceNeg, ↓reduceIte, reduceCtorEq] at h8
                  replace h := ih_ferrymanlaw03_FrameCuts_l0 M (by omega) j (by omega) _ _ _ _ _ _ _ _ _ _ h R hR
                  simp (maxDischargeDepth := 12) only [kk0, kk1, kk2, kk3, kk4, kk5, kk6, kk7, kk8, kk9, kk10, kk11, kk12, kk13, kk14, kk15, kk16, kn0, kn1, kn2, kn3, kn4, kn5, kn6, eq_self_iff_true, implies_true, forall_const, Int.cast_ofNat_Int, Nat.reduceEqDiff, Nat.reduceAdd, Nat.reduceSub, Nat.reduceMul, Nat.reduceLT, Nat.reduceLeDiff, Int.reduceEq, Int.reduceLT, Int.reduceLE, Int.reduceAdd, Int.reduceSub, Int.reduceMul, Int.reduceToNat, Int.reduceNeg, ↓reduceIte, reduceCtorEq, L_ferrymanlaw03_FrameCuts, v_ferrymanlaw03_awake, v_frame_Encode, v_frame_All, v_frame_Whole, v_ferrymanref03_Same, Ow.enc, Sl.enc, rr_ferrymanlaw03_FrameCuts, ro_ferrymanlaw03_FrameCuts, b0_ferrymanlaw03_FrameCuts, *]
                · rw [if_neg h8] at h; replace h8 := eq_false h8
                  try simp only [kn0, kn1, kn2, kn3, kn4, kn5, kn6, eq_self_iff_true, implies_true, forall_const, Int.cast_ofNat_Int, Nat.reduceEqDiff, Nat.reduceAdd, Nat.reduceSub, Nat.reduceMul, Nat.reduceLT, Nat.reduceLeDiff, Int.reduceEq, Int.reduceLT, Int.reduceLE, Int.reduceAdd, Int.reduceSub, Int.reduceMul, Int.reduceToNat, Int.reduceNeg, ↓reduceIte, reduceCtorEq] at h8
                  cases h
              · rw [if_neg h7] at h; replace h7 := eq_false h7
                try simp only [kn0, kn1, kn2, kn3, kn4, kn5, kn6, eq_self_iff_true, implies_true, forall_const, Int.cast_ofNat_Int, Nat.reduceEqDiff, Nat.reduceAdd, Nat.reduceSub, Nat.reduceMul, Nat.reduceLT, Nat.reduceLeDiff, Int.reduceEq, Int.reduceLT, Int.reduceLE, Int.reduceAdd, Int.reduceSub, Int.reduceMul, Int.reduceToNat, Int.reduceNeg, ↓reduceIte, reduceCtorEq] at h7
                cases h
            · rw [if_neg h6] at h; replace h6 := eq_false h6
              cases h; subst hR; simp (maxDischargeDepth := 12) only [kk0, kk1, kk2, kk3, kk4, kk5, kk6, kk7, kk8, kk9, kk10, kk11, kk12, kk13, kk14, kk15, kk16, kn0, kn1, kn2, kn3, kn4, kn5, kn6, eq_self_iff_true, implies_true, forall_const, Int.cast_ofNat_Int, Nat.reduceEqDiff, Nat.reduceAdd, Nat.reduceSub, Nat.reduceMul, Nat.reduceLT, Nat.reduceLeDiff, Int.reduceEq, Int.reduceLT, Int.reduceLE, Int.reduceAdd, Int.reduceSub, Int.reduceMul, Int.reduceToNat, Int.reduceNeg, ↓reduceIte, reduceCtorEq, L_ferrymanlaw03_FrameCuts, v_ferrymanlaw03_awake, v_frame_Encode, v_frame_All, v_frame_Whole, v_ferrymanref03_Same, Ow.enc, Sl.enc, rr_ferrymanlaw03_FrameCuts, ro_ferrymanlaw03_FrameCuts, b0_ferrymanlaw03_FrameCuts, *]
    · rw [if_neg h2] at h; replace h2 := eq_false h2
      cases h
  · rw [if_neg h1] at h; replace h1 := eq_false h1
    rcases Classical.em ((h0l.length : Int) < v1) with h9 | h9
    · rw [if_pos h9] at h; replace h9 := eq_true h9
      cases h; subst hR; simp (maxDischargeDepth := 12) only [kk0, kk1, kk2, kk3, kk4, kk5, kk6, kk7, kk8, kk9, kk10, kk11, kk12, kk13, kk14, kk15, kk16, kn0, kn1, kn2, kn3, kn4, kn5, kn6, eq_self_iff_true, implies_true, forall_const, Int.cast_ofNat_Int, Nat.reduceEqDiff, Nat.reduceAdd, Nat.reduceSub, Nat.reduceMul, Nat.reduceLT, Nat.reduceLeDiff, Int.reduceEq, Int.reduceLT, Int.reduceLE, Int.reduceAdd, Int.reduceSub, Int.reduceMul, Int.reduceToNat, Int.reduceNeg, ↓reduceIte, reduceCtorEq, L_ferrymanlaw03_FrameCuts, v_ferrymanlaw03_awake, v_frame_Encode, v_frame_All, v_frame_Whole, v_ferrymanref03_Same, Ow.enc, Sl.enc, rr_ferrymanlaw03_FrameCuts, ro_ferrymanlaw03_FrameCuts, b0_ferrymanlaw03_FrameCuts, *]
    · rw [if_neg h9] at h; replace h9 := eq_false h9
      replace h := ih_ferrymanlaw03_FrameCuts_l1 M (by omega) (M + 7) (by omega) _ _ _ _ _ _ _ _ _ _ _ h R hR
      simp (maxDischargeDepth := 12) only [kk0, kk1, kk2, kk3, kk4, kk5, kk6, kk7, kk8, kk9, kk10, kk11, kk12, kk13, kk14, kk15, kk16, kn0, kn1, kn2, kn3, kn4, kn5, kn6, eq_self_iff_true, implies_true, forall_const, Int.cast_ofNat_Int, Nat.reduceEqDiff, Nat.reduceAdd, Nat.reduceSub, Nat.reduceMul, Nat.reduceLT, Nat.reduceLeDiff, Int.reduceEq, Int.reduceLT, Int.reduceLE, Int.reduceAdd, Int.reduceSub, Int.reduceMul, Int.reduceToNat, Int.reduceNeg, ↓reduceIte, reduceCtorEq, L_ferrymanlaw03_FrameCuts, v_ferrymanlaw03_awake, v_frame_Encode, v_frame_All, v_frame_Whole, v_ferrymanref03_Same, Ow.enc, Sl.enc, rr_ferrymanlaw03_FrameCuts, ro_ferrymanlaw03_FrameCuts, b0_ferrymanlaw03_FrameCuts, *]
theorem step_ferrymanlaw03_FrameCuts_l1 (q : Nat) (ih_ferrymanlaw03_FrameCuts_l1 : St_ferrymanlaw03_FrameCuts_l1 q) : St_ferrymanlaw03_FrameCuts_l1 (q + 1) := by
  intro M hM j hj v0z v0l v1 v5 v11 v12 h0z h0l h1z h1l r h R hR fr H hc
  obtain ⟨j, rfl⟩ : ∃ i, j = i + 1 := ⟨j - 1, by omega⟩
  rw [unw_iter, hc]; clear hc
  rw [ferrymanlaw03_FrameCuts_l1] at h
  rcases Classical.em (v11 < (v0l.length : Int)) with h1 | h1
  · rw [if_pos h1] at h; replace h1 := eq_true h1
    rcases Classical.em (0 ≤ v11) with h2 | h2
    · rw [if_pos h2] at h; replace h2 := eq_true h2
      rcases Classical.em (v11.toNat < h1l.length) with h3 | h3
      · rw [if_pos h3] at h; replace h3 := eq_true h3
        rcases h4 : h1l[v11.toNat]? with _ | e4
        · rw [h4] at h; cases h
        · rw [h4, Option.bind_some] at h
          rcases Classical.em (e4 ≤ v1) with h5 | h5
          · rw [if_pos h5] at h; replace h5 := eq_true h5
            replace h := ih_ferrymanlaw03_FrameCuts_l1 M (by omega) j (by omega) _ _ _ _ _ _ _ _ _ _ _ h R hR
            simp (maxDischargeDepth := 12) only [kk0, kk1, kk2, kk3, kk4, kk5, kk6, kk7, kk8, kk9, kk10, kk11, kk12, kk13, kk14, kk15, kk16, kn0, kn1, kn2, kn3, kn4, kn5, kn6, eq_self_iff_true, implies_true, forall_const, Int.cast_ofNat_Int, Nat.reduceEqDiff, Nat.reduceAdd, Nat.reduceSub, Nat.reduceMul, Nat.reduceLT, Nat.reduceLeDiff, Int.reduceEq, Int.reduceLT, Int.reduceLE, Int.reduceAdd, Int.reduceSub, Int.reduceMul, Int.reduceToNat, Int.reduceNeg, ↓reduceIte, reduceCtorEq, L_ferrymanlaw03_FrameCuts, v_ferrymanlaw03_awake, v_frame_Encode, v_frame_All, v_frame_Whole, v_ferrymanref03_Same, Ow.enc, Sl.enc, rr_ferrymanlaw03_FrameCuts, ro_ferrymanlaw03_FrameCuts, b0_ferrymanlaw03_FrameCuts, *]
          · rw [if_neg h5] at h; replace h5 := eq_false h5
            rcases Classical.em (0 ≤ v1) with h6 | h6
            · rw [if_pos h6] at h; replace h6 := eq_true h6
              rcases Classical.em (v1.toNat ≤ h0l.length) with h7 | h7
              · rw [if_pos h7] at h; replace h7 := eq_true h7
                rcases Classical.em (h0z = true) with h8 | h8
                · rw [if_pos h8] at h; have h8' := bt1 h8; replace h8 := eq_true h8
                  rcases h9 : frame_Whole q ⟨h0z, h0l⟩ with _ | r5
                  · rw [h9] at h; cases h
                  · rw [h9, Option.bind_some] at h
                    replace h9 := run_frame_Whole q (M + 7) (by omega) _ _ h9
                    try simp only [Ow.enc, Sl.enc, kn0, kn1, kn2, kn3, kn4, kn5, kn6, eq_self_iff_true, implies_true, forall_const, Int.cast_ofNat_Int, Nat.reduceEqDiff, Nat.reduceAdd, Nat.reduceSub, Nat.reduceMul, Nat.reduceLT, Nat.reduceLeDiff, Int.reduceEq, Int.reduceLT, Int.reduceLE, Int.reduceAdd, Int.reduceSub, Int.reduceMul, Int.reduceToNat, Int.reduceNeg, ↓reduceIte, reduceCtorEq] at h9
                    rcases h10 : frame_All q ⟨h0z, h0l⟩ with _ | r6
                    · rw [h10] at h; cases h
                    · rw [h10, Option.bind_some] at h
                      replace h10 := run_frame_All q (M + 7) (by omega) _ _ h10
                      try simp only [Ow.enc, Sl.enc, kn0, kn1, kn2, kn3, kn4, kn5, kn6, eq_self_iff_true, implies_true, forall_const, Int.cast_ofNat_Int, Nat.reduceEqDiff, Nat.reduceAdd, Nat.reduceSub, Nat.reduceMul, Nat.reduceLT, Nat.reduceLeDiff, Int.reduceEq, Int.reduceLT, Int.reduceLE, Int.reduceAdd, Int.reduceSub, Int.reduceMul, Int.reduceToNat, Int.reduceNeg, ↓reduceIte, reduceCtorEq] at h10
                      rcases Classical.em (v11.toNat ≤ v0l.length) with h11 | h11
                      · rw [if_pos h11] at h; replace h11 := eq_true h11
                        rcases h12 : ferrymanref03_Same q ⟨r5.1.n, r5.1.xs⟩ ⟨v0z, (List.take v11.toNat v0l)⟩ with _ | r7
                        · rw [h12] at h; cases h
                        · rw [h12, Option.bind_some] at h
                          replace h12 := run_ferrymanref03_Same q (M + 7) (by omega) _ _ _ h12
                          try simp only [Ow.enc, Sl.enc, kn0, kn1, kn2, kn3, kn4, kn5, kn6, eq_self_iff_true, implies_true, forall_const, Int.cast_ofNat_Int, Nat.reduceEqDiff, Nat.reduceAdd, Nat.reduceSub, Nat.reduceMul, Nat.reduceLT, Nat.reduceLeDiff, Int.reduceEq, Int.reduceLT, Int.reduceLE, Int.reduceAdd, Int.reduceSub, Int.reduceMul, Int.reduceToNat, Int.reduceNeg, ↓reduceIte, reduceCtorEq] at h12
                          rcases Classical.em (v12 = v1) with h13 | h13
                          · rw [if_pos h13] at h; replace h13 := eq_true h13
                            rcases h14 : ferrymanref03_Same q ⟨r6.1.n, r6.1.xs⟩ ⟨v0z, (List.take v11.toNat v0l)⟩ with _ | r8
                            · rw [h14] at h; cases h
                            · rw [h14, Option.bind_some] at h
                              replace h14 := run_ferrymanref03_Same q (M + 7) (by omega) _ _ _ h14
                              try simp only [Ow.enc, Sl.enc, kn0, kn1, kn2, kn3, kn4, kn5, kn6, eq_self_iff_true, implies_true, forall_const, Int.cast_ofNat_Int, Nat.reduceEqDiff, Nat.reduceAdd, Nat.reduceSub, Nat.reduceMul, Nat.reduceLT, Nat.reduceLeDiff, Int.reduceEq, Int.reduceLT, Int.reduceLE, Int.reduceAdd, Int.reduceSub, Int.reduceMul, Int.reduceToNat, Int.reduceNeg, ↓reduceIte, reduceCtorEq] at h14
                              rcases Classical.em (v5 = true) with h15 | h15
                              · rw [if_pos h15] at h; have h15' := bt1 h15; replace h15 := eq_true h15
                                rcases Classical.em (r7 = true) with h16 | h16
                                · rw [if_pos h16] at h; have h16' := bt1 h16; replace h16 := eq_true h16
                                  rcases Classical.em (r5.2 = v12) with h17 | h17
                                  · rw [if_pos h17] at h; replace h17 := eq_true h17
                                    rcases Classical.em (r6.2 = 0) with h18 | h18
                                    · rw [if_pos h18] at h; replace h18 := eq_true h18
                                      cases h; subst hR; simp (maxDischargeDepth := 12) only [kk0, kk1, kk2, kk3, kk4, kk5, kk6, kk7, kk8, kk9, kk10, kk11, kk12, kk13, kk14, kk15, kk16, kn0, kn1, kn2, kn3, kn4, kn5, kn6, eq_self_iff_true, implies_true, forall_const, Int.cast_ofNat_Int, Nat.reduceEqDiff, Nat.reduceAdd, Nat.reduceSub, Nat.reduceMul, Nat.reduceLT, Nat.reduceLeDiff, Int.reduceEq, Int.reduceLT, Int.reduceLE, Int.reduceAdd, Int.reduceSub, Int.reduceMul, Int.reduceToNat, Int.reduceNeg, ↓reduceIte, reduceCtorEq, L_ferrymanlaw03_FrameCuts, v_ferrymanlaw03_awake, v_frame_Encode, v_frame_All, v_frame_Whole, v_ferrymanref03_Same, Ow.enc, Sl.enc, rr_ferrymanlaw03_FrameCuts, ro_ferrymanlaw03_FrameCuts, b0_ferrymanlaw03_FrameCuts, *]
                                    · rw [if_neg h18] at h; replace h18 := eq_false h18
                                      cases h; subst hR; simp (maxDischargeDepth := 12) only [kk0, kk1, kk2, kk3, kk4, kk5, kk6, kk7, kk8, kk9, kk10, kk11, kk12, kk13, kk14, kk15, kk16, kn0, kn1, kn2, kn3, kn4, kn5, kn6, eq_self_iff_true, implies_true, forall_const, Int.cast_ofNat_Int, Nat.reduceEqDiff, Nat.reduceAdd, Nat.reduceSub, Nat.reduceMul, Nat.reduceLT, Nat.reduceLeDiff, Int.reduceEq, Int.reduceLT, Int.reduceLE, Int.reduceAdd, Int.reduceSub, Int.reduceMul, Int.reduceToNat, Int.reduceNeg, ↓reduceIte, reduceCtorEq, L_ferrymanlaw03_FrameCuts, v_ferrymanlaw03_awake, v_frame_Encode, v_frame_All, v_frame_Whole, v_ferrymanref03_Same, Ow.enc, Sl.enc, rr_ferrymanlaw03_FrameCuts, ro_ferrymanlaw03_FrameCuts, b0_ferrymanlaw03_FrameCuts, *]
                                  · rw [if_neg h17] at h; replace h17 := eq_false h17
                                    cases h; subst hR; simp (maxDischargeDepth := 12) only [kk0, kk1, kk2, kk3, kk4, kk5, kk6, kk7, kk8, kk9, kk10, kk11, kk12, kk13, kk14, kk15, kk16, kn0, kn1, kn2, kn3, kn4, kn5, kn6, eq_self_iff_true, implies_true, forall_const, Int.cast_ofNat_Int, Nat.reduceEqDiff, Nat.reduceAdd, Nat.reduceSub, Nat.reduceMul, Nat.reduceLT, Nat.reduceLeDiff, Int.reduceEq, Int.reduceLT, Int.reduceLE, Int.reduceAdd, Int.reduceSub, Int.reduceMul, Int.reduceToNat, Int.reduceNeg, ↓reduceIte, reduceCtorEq, L_ferrymanlaw03_FrameCuts, v_ferrymanlaw03_awake, v_frame_Encode, v_frame_All, v_frame_Whole, v_ferrymanref03_Same, Ow.enc, Sl.enc, rr_ferrymanlaw03_FrameCuts, ro_ferrymanlaw03_FrameCuts, b0_ferrymanlaw03_FrameCuts, *]
                                · rw [if_neg h16] at h; have h16' := bt0 h16; replace h16 := eq_false h16
                                  cases h; subst hR; simp (maxDischargeDepth := 12) only [kk0, kk1, kk2, kk3, kk4, kk5, kk6, kk7, kk8, kk9, kk10, kk11, kk12, kk13, kk14, kk15, kk16, kn0, kn1, kn2, kn3, kn4, kn5, kn6, eq_self_iff_true, implies_true, forall_const, Int.cast_ofNat_Int, Nat.reduceEqDiff, Nat.reduceAdd, Nat.reduceSub, Nat.reduceMul, Nat.reduceLT, Nat.reduceLeDiff, Int.reduceEq, Int.reduceLT, Int.reduceLE, Int.reduceAdd, Int.reduceSub, Int.reduceMul, Int.reduceToNat, Int.reduceNeg, ↓reduceIte, reduceCtorEq, L_ferrymanlaw03_FrameCuts, v_ferrymanlaw03_awake, v_frame_Encode, v_frame_All, v_frame_Whole, v_ferrymanref03_Same, Ow.enc, Sl.enc, rr_ferrymanlaw03_FrameCuts, ro_ferrymanlaw03_FrameCuts, b0_ferrymanlaw03_FrameCuts, *]
                              · rw [if_neg h15] at h; have h15' := bt0 h15; replace h15 := eq_false h15
                                cases h; subst hR; simp (maxDischargeDepth := 12) only [kk0, kk1, kk2, kk3, kk4, kk5, kk6, kk7, kk8, kk9, kk10, kk11, kk12, kk13, kk14, kk15, kk16, kn0, kn1, kn2, kn3, kn4, kn5, kn6, eq_self_iff_true, implies_true, forall_const, Int.cast_ofNat_Int, Nat.reduceEqDiff, Nat.reduceAdd, Nat.reduceSub, Nat.reduceMul, Nat.reduceLT, Nat.reduceLeDiff, Int.reduceEq, Int.reduceLT, Int.reduceLE, Int.reduceAdd, Int.reduceSub, Int.reduceMul, Int.reduceToNat, Int.reduceNeg, ↓reduceIte, reduceCtorEq, L_ferrymanlaw03_FrameCuts, v_ferrymanlaw03_awake, v_frame_Encode, v_frame_All, v_frame_Whole, v_ferrymanref03_Same, Ow.enc, Sl.enc, rr_ferrymanlaw03_FrameCuts, ro_ferrymanlaw03_FrameCuts, b0_ferrymanlaw03_FrameCuts, *]
                          · rw [if_neg h13] at h; replace h13 := eq_false h13
                            rcases Classical.em (v5 = true) with h19 | h19
                            · rw [if_pos h19] at h; have h19' := bt1 h19; replace h19 := eq_true h19
                              rcases Classical.em (r7 = true) with h20 | h20
                              · rw [if_pos h20] at h; have h20' := bt1 h20; replace h20 := eq_true h20
                                rcases Classical.em (r5.2 = v12) with h21 | h21
                                · rw [if_pos h21] at h; replace h21 := eq_true h21
                                  rcases Classical.em (r6.2 = 2) with h22 | h22
                                  · rw [if_pos h22] at h; replace h22 := eq_true h22
                                    cases h; subst hR; simp (maxDischargeDepth := 12) only [kk0, kk1, kk2, kk3, kk4, kk5, kk6, kk7, kk8, kk9, kk10, kk11, kk12, kk13, kk14, kk15, kk16, kn0, kn1, kn2, kn3, kn4, kn5, kn6, eq_self_iff_true, implies_true, forall_const, Int.cast_ofNat_Int, Nat.reduceEqDiff, Nat.reduceAdd, Nat.reduceSub, Nat.reduceMul, Nat.reduceLT, Nat.reduceLeDiff, Int.reduceEq, Int.reduceLT, Int.reduceLE, Int.reduceAdd, Int.reduceSub, Int.reduceMul, Int.reduceToNat, Int.reduceNeg, ↓reduceIte, reduceCtorEq, L_ferrymanlaw03_FrameCuts, v_ferrymanlaw03_awake, v_frame_Encode, v_frame_All, v_frame_Whole, v_ferrymanref03_Same, Ow.enc, Sl.enc, rr_ferrymanlaw03_FrameCuts, ro_ferrymanlaw03_FrameCuts, b0_ferrymanlaw03_FrameCuts, *]
                                  · rw [if_neg h22] at h; replace h22 := eq_false h22
                                    cases h; subst hR; simp (maxDischargeDepth := 12) only [kk0, kk1, kk2, kk3, kk4, kk5, kk6, kk7, kk8, kk9, kk10, kk11, kk12, kk13, kk14, kk15, kk16, kn0, kn1, kn2, kn3, kn4, kn5, kn6, eq_self_iff_true, implies_true, forall_const, Int.cast_ofNat_Int, Nat.reduceEqDiff, Nat.reduceAdd, Nat.reduceSub, Nat.reduceMul, Nat.reduceLT, Nat.reduceLeDiff, Int.reduceEq, Int.reduceLT, Int.reduceLE, Int.reduceAdd, Int.reduceSub, Int.reduceMul, Int.reduceToNat, Int.reduceNeg, ↓reduceIte, reduceCtorEq, L_ferrymanlaw03_FrameCuts, v_ferrymanlaw03_awake, v_frame_Encode, v_frame_All, v_frame_Whole, v_ferrymanref03_Same, Ow.enc, Sl.enc, rr_ferrymanlaw03_FrameCuts, ro_ferrymanlaw03_FrameCuts, b0_ferrymanlaw03_FrameCuts, *]
                                · rw [if_neg h21] at h; replace h21 := eq_false h21
                                  cases h; subst hR; simp (maxDischargeDepth := 12) only [kk0, kk1, kk2, kk3, kk4, kk5, kk6, kk7, kk8, kk9, kk10, kk11, kk12, kk13, kk14, kk15, kk16, kn0, kn1, kn2, kn3, kn4, kn5, kn6, eq_self_iff_true, implies_true, forall_const, Int.cast_ofNat_Int, Nat.reduceEqDiff, Nat.reduceAdd, Nat.reduceSub, Nat.reduceMul, Nat.reduceLT, Nat.reduceLeDiff, Int.reduceEq, Int.reduceLT, Int.reduceLE, Int.reduceAdd, Int.reduceSub, Int.reduceMul, Int.reduceToNat, Int.reduceNeg, ↓reduceIte, reduceCtorEq, L_ferrymanlaw03_FrameCuts, v_ferrymanlaw03_awake, v_frame_Encode, v_frame_All, v_frame_Whole, v_ferrymanref03_Same, Ow.enc, Sl.enc, rr_ferrymanlaw03_FrameCuts, ro_ferrymanlaw03_FrameCuts, b0_ferrymanlaw03_FrameCuts, *]
                              · rw [if_neg h20] at h; have h20' := bt0 h20; replace h20 := eq_false h20
                                cases h; subst hR; simp (maxDischargeDepth := 12) only [kk0, kk1, kk2, kk3, kk4, kk5, kk6, kk7, kk8, kk9, kk10, kk11, kk12, kk13, kk14, kk15, kk16, kn0, kn1, kn2, kn3, kn4, kn5, kn6, eq_self_iff_true, implies_true, forall_const, Int.cast_ofNat_Int, Nat.reduceEqDiff, Nat.reduceAdd, Nat.reduceSub, Nat.reduceMul, Nat.reduceLT, Nat.reduceLeDiff, Int.reduceEq, Int.reduceLT, Int.reduceLE, Int.reduceAdd, Int.reduceSub, Int.reduceMul, Int.reduceToNat, Int.reduceNeg, ↓reduceIte, reduceCtorEq, L_ferrymanlaw03_FrameCuts, v_ferrymanlaw03_awake, v_frame_Encode, v_frame_All, v_frame_Whole, v_ferrymanref03_Same, Ow.enc, Sl.enc, rr_ferrymanlaw03_FrameCuts, ro_ferrymanlaw03_FrameCuts, b0_ferrymanlaw03_FrameCuts, *]
                            · rw [if_neg h19] at h; have h19' := bt0 h19; replace h19 := eq_false h19
                              cases h; subst hR; simp (maxDischargeDepth := 12) only [kk0, kk1, kk2, kk3, kk4, kk5, kk6, kk7, kk8, kk9, kk10, kk11, kk12, kk13, kk14, kk15, kk16, kn0, kn1, kn2, kn3, kn4, kn5, kn6, eq_self_iff_true, implies_true, forall_const, Int.cast_ofNat_Int, Nat.reduceEqDiff, Nat.reduceAdd, Nat.reduceSub, Nat.reduceMul, Nat.reduceLT, Nat.reduceLeDiff, Int.reduceEq, Int.reduceLT, Int.reduceLE, Int.reduceAdd, Int.reduceSub, Int.reduceMul, Int.reduceToNat, Int.reduceNeg, ↓reduceIte, reduceCtorEq, L_ferrymanlaw03_FrameCuts, v_ferrymanlaw03_awake, v_frame_Encode, v_frame_All, v_frame_Whole, v_ferrymanref03_Same, Ow.enc, Sl.enc, rr_ferrymanlaw03_FrameCuts, ro_ferrymanlaw03_FrameCuts, b0_ferrymanlaw03_FrameCuts, *]
                      · rw [if_neg h11] at h; replace h11 := eq_false h11
                        cases h
                · rw [if_neg h8] at h; have h8' := bt0 h8; replace h8 := eq_false h8
                  rcases h23 : frame_Whole q ⟨h0z, (List.take v1.toNat h0l)⟩ with _ | r9
                  · rw [h23] at h; cases h
                  · rw [h23, Option.bind_some] at h
                    replace h23 := run_frame_Whole q (M + 7) (by omega) _ _ h23
                    try simp only [Ow.enc, Sl.enc, kn0, kn1, kn2, kn3, kn4, kn5, kn6, eq_self_iff_true, implies_true, forall_const, Int.cast_ofNat_Int, Nat.reduceEqDiff, Nat.reduceAdd, Nat.reduceSub, Nat.reduceMul, Nat.reduceLT, Nat.reduceLeDiff, Int.reduceEq, Int.reduceLT, Int.reduceLE, Int.reduceAdd, Int.reduceSub, Int.reduceMul, Int.reduceToNat, Int.reduceNeg, ↓reduceIte, reduceCtorEq] at h23
                    rcases h24 : frame_All q ⟨h0z, (List.take v1.toNat h0l)⟩ with _ | r10
                    · rw [h24] at h; cases h
                    · rw [h24, Option.bind_some] at h
                      replace h24 := run_frame_All q (M + 7) (by omega) _ _ h24
                      try simp only [Ow.enc, Sl.enc, kn0, kn1, kn2, kn3, kn4, kn5, kn6, eq_self_iff_true, implies_true, forall_const, Int.cast_ofNat_Int, Nat.reduceEqDiff, Nat.reduceAdd, Nat.reduceSub, Nat.reduceMul, Nat.reduceLT, Nat.reduceLeDiff, Int.reduceEq, Int.reduceLT, Int.reduceLE, Int.reduceAdd, Int.reduceSub, Int.reduceMul, Int.reduceToNat, Int.reduceNeg, ↓reduceIte, reduceCtorEq] at h24
                      rcases Classical.em (v11.toNat ≤ v0l.length) with h25 | h25
                      · rw [if_pos h25] at h; replace h25 := eq_true h25
                        rcases h26 : ferrymanref03_Same q ⟨r9.1.n, r9.1.xs⟩ ⟨v0z, (List.take v11.toNat v0l)⟩ with _ | r11
                        · rw [h26] at h; cases h
                        · rw [h26, Option.bind_some] at h
                          replace h26 := run_ferrymanref03_Same q (M + 7) (by omega) _ _ _ h26
                          try simp only [Ow.enc, Sl.enc, kn0, kn1, kn2, kn3, kn4, kn5, kn6, eq_self_iff_true, implies_true, forall_const, Int.cast_ofNat_Int, Nat.reduceEqDiff, Nat.reduceAdd, Nat.reduceSub, Nat.reduceMul, Nat.reduceLT, Nat.reduceLeDiff, Int.reduceEq, Int.reduceLT, Int.reduceLE, Int.reduceAdd, Int.reduceSub, Int.reduceMul, Int.reduceToNat, Int.reduceNeg, ↓reduceIte, reduceCtorEq] at h26
                          rcases Classical.em (v12 = v1) with h27 | h27
                          · rw [if_pos h27] at h; replace h27 := eq_true h27
                            rcases h28 : ferrymanref03_Same q ⟨r10.1.n, r10.1.xs⟩ ⟨v0z, (List.take v11.toNat v0l)⟩ with _ | r12
                            · rw [h28] at h; cases h
                            · rw [h28, Option.bind_some] at h
                              replace h28 := run_ferrymanref03_Same q (M + 7) (by omega) _ _ _ h28
                              try simp only [Ow.enc, Sl.enc, kn0, kn1, kn2, kn3, kn4, kn5, kn6, eq_self_iff_true, implies_true, forall_const, Int.cast_ofNat_Int, Nat.reduceEqDiff, Nat.reduceAdd, Nat.reduceSub, Nat.reduceMul, Nat.reduceLT, Nat.reduceLeDiff, Int.reduceEq, Int.reduceLT, Int.reduceLE, Int.reduceAdd, Int.reduceSub, Int.reduceMul, Int.reduceToNat, Int.reduceNeg, ↓reduceIte, reduceCtorEq] at h28
                              rcases Classical.em (v5 = true) with h29 | h29
                              · rw [if_pos h29] at h; have h29' := bt1 h29; replace h29 := eq_true h29
                                rcases Classical.em (r11 = true) with h30 | h30
                                · rw [if_pos h30] at h; have h30' := bt1 h30; replace h30 := eq_true h30
                                  rcases Classical.em (r9.2 = v12) with h31 | h31
                                  · rw [if_pos h31] at h; replace h31 := eq_true h31
                                    rcases Classical.em (r10.2 = 0) with h32 | h32
                                    · rw [if_pos h32] at h; replace h32 := eq_true h32
                                      cases h; subst hR; simp (maxDischargeDepth := 12) only [kk0, kk1, kk2, kk3, kk4, kk5, kk6, kk7, kk8, kk9, kk10, kk11, kk12, kk13, kk14, kk15, kk16, kn0, kn1, kn2, kn3, kn4, kn5, kn6, eq_self_iff_true, implies_true, forall_const, Int.cast_ofNat_Int, Nat.reduceEqDiff, Nat.reduceAdd, Nat.reduceSub, Nat.reduceMul, Nat.reduceLT, Nat.reduceLeDiff, Int.reduceEq, Int.reduceLT, Int.reduceLE, Int.reduceAdd, Int.reduceSub, Int.reduceMul, Int.reduceToNat, Int.reduceNeg, ↓reduceIte, reduceCtorEq, L_ferrymanlaw03_FrameCuts, v_ferrymanlaw03_awake, v_frame_Encode, v_frame_All, v_frame_Whole, v_ferrymanref03_Same, Ow.enc, Sl.enc, rr_ferrymanlaw03_FrameCuts, ro_ferrymanlaw03_FrameCuts, b0_ferrymanlaw03_FrameCuts, *]
                                    · rw [if_neg h32] at h; replace h32 := eq_false h32
                                      cases h; subst hR; simp (maxDischargeDepth := 12) only [kk0, kk1, kk2, kk3, kk4, kk5, kk6, kk7, kk8, kk9, kk10, kk11, kk12, kk13, kk14, kk15, kk16, kn0, kn1, kn2, kn3, kn4, kn5, kn6, eq_self_iff_true, implies_true, forall_const, Int.cast_ofNat_Int, Nat.reduceEqDiff, Nat.reduceAdd, Nat.reduceSub, Nat.reduceMul, Nat.reduceLT, Nat.reduceLeDiff, Int.reduceEq, Int.reduceLT, Int.reduceLE, Int.reduceAdd, Int.reduceSub, Int.reduceMul, Int.reduceToNat, Int.reduceNeg, ↓reduceIte, reduceCtorEq, L_ferrymanlaw03_FrameCuts, v_ferrymanlaw03_awake, v_frame_Encode, v_frame_All, v_frame_Whole, v_ferrymanref03_Same, Ow.enc, Sl.enc, rr_ferrymanlaw03_FrameCuts, ro_ferrymanlaw03_FrameCuts, b0_ferrymanlaw03_FrameCuts, *]
                                  · rw [if_neg h31] at h; replace h31 := eq_false h31
                                    cases h; subst hR; simp (maxDischargeDepth := 12) only [kk0, kk1, kk2, kk3, kk4, kk5, kk6, kk7, kk8, kk9, kk10, kk11, kk12, kk13, kk14, kk15, kk16, kn0, kn1, kn2, kn3, kn4, kn5, kn6, eq_self_iff_true, implies_true, forall_const, Int.cast_ofNat_Int, Nat.reduceEqDiff, Nat.reduceAdd, Nat.reduceSub, Nat.reduceMul, Nat.reduceLT, Nat.reduceLeDiff, Int.reduceEq, Int.reduceLT, Int.reduceLE, Int.reduceAdd, Int.reduceSub, Int.reduceMul, Int.reduceToNat, Int.reduceNeg, ↓reduceIte, reduceCtorEq, L_ferrymanlaw03_FrameCuts, v_ferrymanlaw03_awake, v_frame_Encode, v_frame_All, v_frame_Whole, v_ferrymanref03_Same, Ow.enc, Sl.enc, rr_ferrymanlaw03_FrameCuts, ro_ferrymanlaw03_FrameCuts, b0_ferrymanlaw03_FrameCuts, *]
                                · rw [if_neg h30] at h; have h30' := bt0 h30; replace h30 := eq_false h30
                                  cases h; subst hR; simp (maxDischargeDepth := 12) only [kk0, kk1, kk2, kk3, kk4, kk5, kk6, kk7, kk8, kk9, kk10, kk11, kk12, kk13, kk14, kk15, kk16, kn0, kn1, kn2, kn3, kn4, kn5, kn6, eq_self_iff_true, implies_true, forall_const, Int.cast_ofNat_Int, Nat.reduceEqDiff, Nat.reduceAdd, Nat.reduceSub, Nat.reduceMul, Nat.reduceLT, Nat.reduceLeDiff, Int.reduceEq, Int.reduceLT, Int.reduceLE, Int.reduceAdd, Int.reduceSub, Int.reduceMul, Int.reduceToNat, Int.reduceNeg, ↓reduceIte, reduceCtorEq, L_ferrymanlaw03_FrameCuts, v_ferrymanlaw03_awake, v_frame_Encode, v_frame_All, v_frame_Whole, v_ferrymanref03_Same, Ow.enc, Sl.enc, rr_ferrymanlaw03_FrameCuts, ro_ferrymanlaw03_FrameCuts, b0_ferrymanlaw03_FrameCuts, *]
                              · rw [if_neg h29] at h; have h29' := bt0 h29; replace h29 := eq_false h29
                                cases h; subst hR; simp (maxDischargeDepth := 12) only [kk0, kk1, kk2, kk3, kk4, kk5, kk6, kk7, kk8, kk9, kk10, kk11, kk12, kk13, kk14, kk15, kk16, kn0, kn1, kn2, kn3, kn4, kn5, kn6, eq_self_iff_true, implies_true, forall_const, Int.cast_ofNat_Int, Nat.reduceEqDiff, Nat.reduceAdd, Nat.reduceSub, Nat.reduceMul, Nat.reduceLT, Nat.reduceLeDiff, Int.reduceEq, Int.reduceLT, Int.reduceLE, Int.reduceAdd, Int.reduceSub, Int.reduceMul, Int.reduceToNat, Int.reduceNeg, ↓reduceIte, reduceCtorEq, L_ferrymanlaw03_FrameCuts, v_ferrymanlaw03_awake, v_frame_Encode, v_frame_All, v_frame_Whole, v_ferrymanref03_Same, Ow.enc, Sl.enc, rr_ferrymanlaw03_FrameCuts, ro_ferrymanlaw03_FrameCuts, b0_ferrymanlaw03_FrameCuts, *]
                          · rw [if_neg h27] at h; replace h27 := eq_false h27
                            rcases Classical.em (v5 = true) with h33 | h33
                            · rw [if_pos h33] at h; have h33' := bt1 h33; replace h33 := eq_true h33
                              rcases Classical.em (r11 = true) with h34 | h34
                              · rw [if_pos h34] at h; have h34' := bt1 h34; replace h34 := eq_true h34
                                rcases Classical.em (r9.2 = v12) with h35 | h35
                                · rw [if_pos h35] at h; replace h35 := eq_true h35
                                  rcases Classical.em (r10.2 = 2) with h36 | h36
                                  · rw [if_pos h36] at h; replace h36 := eq_true h36
                                    cases h; subst hR; simp (maxDischargeDepth := 12) only [kk0, kk1, kk2, kk3, kk4, kk5, kk6, kk7, kk8, kk9, kk10, kk11, kk12, kk13, kk14, kk15, kk16, kn0, kn1, kn2, kn3, kn4, kn5, kn6, eq_self_iff_true, implies_true, forall_const, Int.cast_ofNat_Int, Nat.reduceEqDiff, Nat.reduceAdd, Nat.reduceSub, Nat.reduceMul, Nat.reduceLT, Nat.reduceLeDiff, Int.reduceEq, Int.reduceLT, Int.reduceLE, Int.reduceAdd, Int.reduceSub, Int.reduceMul, Int.reduceToNat, Int.reduceNeg, ↓reduceIte, reduceCtorEq, L_ferrymanlaw03_FrameCuts, v_ferrymanlaw03_awake, v_frame_Encode, v_frame_All, v_frame_Whole, v_ferrymanref03_Same, Ow.enc, Sl.enc, rr_ferrymanlaw03_FrameCuts, ro_ferrymanlaw03_FrameCuts, b0_ferrymanlaw03_FrameCuts, *]
                                  · rw [if_neg h36] at h; replace h36 := eq_false h36
                                    cases h; subst hR; simp (maxDischargeDepth := 12) only [kk0, kk1, kk2, kk3, kk4, kk5, kk6, kk7, kk8, kk9, kk10, kk11, kk12, kk13, kk14, kk15, kk16, kn0, kn1, kn2, kn3, kn4, kn5, kn6, eq_self_iff_true, implies_true, forall_const, Int.cast_ofNat_Int, Nat.reduceEqDiff, Nat.reduceAdd, Nat.reduceSub, Nat.reduceMul, Nat.reduceLT, Nat.reduceLeDiff, Int.reduceEq, Int.reduceLT, Int.reduceLE, Int.reduceAdd, Int.reduceSub, Int.reduceMul, Int.reduceToNat, Int.reduceNeg, ↓reduceIte, reduceCtorEq, L_ferrymanlaw03_FrameCuts, v_ferrymanlaw03_awake, v_frame_Encode, v_frame_All, v_frame_Whole, v_ferrymanref03_Same, Ow.enc, Sl.enc, rr_ferrymanlaw03_FrameCuts, ro_ferrymanlaw03_FrameCuts, b0_ferrymanlaw03_FrameCuts, *]
                                · rw [if_neg h35] at h; replace h35 := eq_false h35
                                  cases h; subst hR; simp (maxDischargeDepth := 12) only [kk0, kk1, kk2, kk3, kk4, kk5, kk6, kk7, kk8, kk9, kk10, kk11, kk12, kk13, kk14, kk15, kk16, kn0, kn1, kn2, kn3, kn4, kn5, kn6, eq_self_iff_true, implies_true, forall_const, Int.cast_ofNat_Int, Nat.reduceEqDiff, Nat.reduceAdd, Nat.reduceSub, Nat.reduceMul, Nat.reduceLT, Nat.reduceLeDiff, Int.reduceEq, Int.reduceLT, Int.reduceLE, Int.reduceAdd, Int.reduceSub, Int.reduceMul, Int.reduceToNat, Int.reduceNeg, ↓reduceIte, reduceCtorEq, L_ferrymanlaw03_FrameCuts, v_ferrymanlaw03_awake, v_frame_Encode, v_frame_All, v_frame_Whole, v_ferrymanref03_Same, Ow.enc, Sl.enc, rr_ferrymanlaw03_FrameCuts, ro_ferrymanlaw03_FrameCuts, b0_ferrymanlaw03_FrameCuts, *]
                              · rw [if_neg h34] at h; have h34' := bt0 h34; replace h34 := eq_false h34
                                cases h; subst hR; simp (maxDischargeDepth := 12) only [kk0, kk1, kk2, kk3, kk4, kk5, kk6, kk7, kk8, kk9, kk10, kk11, kk12, kk13, kk14, kk15, kk16, kn0, kn1, kn2, kn3, kn4, kn5, kn6, eq_self_iff_true, implies_true, forall_const, Int.cast_ofNat_Int, Nat.reduceEqDiff, Nat.reduceAdd, Nat.reduceSub, Nat.reduceMul, Nat.reduceLT, Nat.reduceLeDiff, Int.reduceEq, Int.reduceLT, Int.reduceLE, Int.reduceAdd, Int.reduceSub, Int.reduceMul, Int.reduceToNat, Int.reduceNeg, ↓reduceIte, reduceCtorEq, L_ferrymanlaw03_FrameCuts, v_ferrymanlaw03_awake, v_frame_Encode, v_frame_All, v_frame_Whole, v_ferrymanref03_Same, Ow.enc, Sl.enc, rr_ferrymanlaw03_FrameCuts, ro_ferrymanlaw03_FrameCuts, b0_ferrymanlaw03_FrameCuts, *]
                            · rw [if_neg h33] at h; have h33' := bt0 h33; replace h33 := eq_false h33
                              cases h; subst hR; simp (maxDischargeDepth := 12) only [kk0, kk1, kk2, kk3, kk4, kk5, kk6, kk7, kk8, kk9, kk10, kk11, kk12, kk13, kk14, kk15, kk16, kn0, kn1, kn2, kn3, kn4, kn5, kn6, eq_self_iff_true, implies_true, forall_const, Int.cast_ofNat_Int, Nat.reduceEqDiff, Nat.reduceAdd, Nat.reduceSub, Nat.reduceMul, Nat.reduceLT, Nat.reduceLeDiff, Int.reduceEq, Int.reduceLT, Int.reduceLE, Int.reduceAdd, Int.reduceSub, Int.reduceMul, Int.reduceToNat, Int.reduceNeg, ↓reduceIte, reduceCtorEq, L_ferrymanlaw03_FrameCuts, v_ferrymanlaw03_awake, v_frame_Encode, v_frame_All, v_frame_Whole, v_ferrymanref03_Same, Ow.enc, Sl.enc, rr_ferrymanlaw03_FrameCuts, ro_ferrymanlaw03_FrameCuts, b0_ferrymanlaw03_FrameCuts, *]
                      · rw [if_neg h25] at h; replace h25 := eq_false h25
                        cases h
              · rw [if_neg h7] at h; replace h7 := eq_false h7
                cases h
            · rw [if_neg h6] at h; replace h6 := eq_false h6
              cases h
      · rw [if_neg h3] at h; replace h3 := eq_false h3
        cases h
    · rw [if_neg h2] at h; replace h2 := eq_false h2
      cases h
  · rw [if_neg h1] at h; replace h1 := eq_false h1
    rcases Classical.em (0 ≤ v1) with h37 | h37
    · rw [if_pos h37] at h; replace h37 := eq_true h37
      rcases Classical.em (v1.toNat ≤ h0l.length) with h38 | h38
      · rw [if_pos h38] at h; replace h38 := eq_true h38
        rcases Classical.em (h0z = true) with h39 | h39
        · rw [if_pos h39] at h; have h39' := bt1 h39; replace h39 := eq_true h39
          rcases h40 : frame_Whole q ⟨h0z, h0l⟩ with _ | r13
          · rw [h40] at h; cases h
          · rw [h40, Option.bind_some] at h
            replace h40 := run_frame_Whole q (M + 7) (by omega) _ _ h40
            try simp only [Ow.enc, Sl.enc, kn0, kn1, kn2, kn3, kn4, kn5, kn6, eq_self_iff_true, implies_true, forall_const, Int.cast_ofNat_Int, Nat.reduceEqDiff, Nat.reduceAdd, Nat.reduceSub, Nat.reduceMul, Nat.reduceLT, Nat.reduceLeDiff, Int.reduceEq, Int.reduceLT, Int.reduceLE, Int.reduceAdd, Int.reduceSub, Int.reduceMul, Int.reduceToNat, Int.reduceNeg, ↓reduceIte, reduceCtorEq] at h40
            rcases h41 : frame_All q ⟨h0z, h0l⟩ with _ | r14
            · rw [h41] at h; cases h
            · rw [h41, Option.bind_some] at h
              replace h41 := run_frame_All q (M + 7) (by omega) _ _ h41
              try simp only [Ow.enc, Sl.enc, kn0, kn1, kn2, kn3, kn4, kn5, kn6, eq_self_iff_true, implies_true, forall_const, Int.cast_ofNat_Int, Nat.reduceEqDiff, Nat.reduceAdd, Nat.reduceSub, Nat.reduceMul, Nat.reduceLT, Nat.reduceLeDiff, Int.reduceEq, Int.reduceLT, Int.reduceLE, Int.reduceAdd, Int.reduceSub, Int.reduceMul, Int.reduceToNat, Int.reduceNeg, ↓reduceIte, reduceCtorEq] at h41
              rcases Classical.em (0 ≤ v11) with h42 | h42
              · rw [if_pos h42] at h; replace h42 := eq_true h42
                rcases Classical.em (v11.toNat ≤ v0l.length) with h43 | h43
                · rw [if_pos h43] at h; replace h43 := eq_true h43
                  rcases h44 : ferrymanref03_Same q ⟨r13.1.n, r13.1.xs⟩ ⟨v0z, (List.take v11.toNat v0l)⟩ with _ | r15
                  · rw [h44] at h; cases h
                  · rw [h44, Option.bind_some] at h
                    replace h44 := run_ferrymanref03_Same q (M + 7) (by omega) _ _ _ h44
                    try simp only [Ow.enc, Sl.enc, kn0, kn1, kn2, kn3, kn4, kn5, kn6, eq_self_iff_true, implies_true, forall_const, Int.cast_ofNat_Int, Nat.reduceEqDiff, Nat.reduceAdd, Nat.reduceSub, Nat.reduceMul, Nat.reduceLT, Nat.reduceLeDiff, Int.reduceEq, Int.reduceLT, Int.reduceLE, Int.reduceAdd, Int.reduceSub, Int.reduceMul, Int.reduceToNat, Int.reduceNeg, ↓reduceIte, reduceCtorEq] at h44
                    rcases Classical.em (v12 = v1) with h45 | h45
                    · rw [if_pos h45] at h; replace h45 := eq_true h45
                      rcases h46 : ferrymanref03_Same q ⟨r14.1.n, r14.1.xs⟩ ⟨v0z, (List.take v11.toNat v0l)⟩ with _ | r16
                      · rw [h46] at h; cases h
                      · rw [h46, Option.bind_some] at h
                        replace h46 := run_ferrymanref03_Same q (M + 7) (by omega) _ _ _ h46
                        try simp only [Ow.enc, Sl.enc, kn0, kn1, kn2, kn3, kn4, kn5, kn6, eq_self_iff_true, implies_true, forall_const, Int.cast_ofNat_Int, Nat.reduceEqDiff, Nat.reduceAdd, Nat.reduceSub, Nat.reduceMul, Nat.reduceLT, Nat.reduceLeDiff, Int.reduceEq, Int.reduceLT, Int.reduceLE, Int.reduceAdd, Int.reduceSub, Int.reduceMul, Int.reduceToNat, Int.reduceNeg, ↓reduceIte, reduceCtorEq] at h46
                        rcases Classical.em (v5 = true) with h47 | h47
                        · rw [if_pos h47] at h; have h47' := bt1 h47; replace h47 := eq_true h47
                          rcases Classical.em (r15 = true) with h48 | h48
                          · rw [if_pos h48] at h; have h48' := bt1 h48; replace h48 := eq_true h48
                            rcases Classical.em (r13.2 = v12) with h49 | h49
                            · rw [if_pos h49] at h; replace h49 := eq_true h49
                              rcases Classical.em (r14.2 = 0) with h50 | h50
                              · rw [if_pos h50] at h; replace h50 := eq_true h50
                                cases h; subst hR; simp (maxDischargeDepth := 12) only [kk0, kk1, kk2, kk3, kk4, kk5, kk6, kk7, kk8, kk9, kk10, kk11, kk12, kk13, kk14, kk15, kk16, kn0, kn1, kn2, kn3, kn4, kn5, kn6, eq_self_iff_true, implies_true, forall_const, Int.cast_ofNat_Int, Nat.reduceEqDiff, Nat.reduceAdd, Nat.reduceSub, Nat.reduceMul, Nat.reduceLT, Nat.reduceLeDiff, Int.reduceEq, Int.reduceLT, Int.reduceLE, Int.reduceAdd, Int.reduceSub, Int.reduceMul, Int.reduceToNat, Int.reduceNeg, ↓reduceIte, reduceCtorEq, L_ferrymanlaw03_FrameCuts, v_ferrymanlaw03_awake, v_frame_Encode, v_frame_All, v_frame_Whole, v_ferrymanref03_Same, Ow.enc, Sl.enc, rr_ferrymanlaw03_FrameCuts, ro_ferrymanlaw03_FrameCuts, b0_ferrymanlaw03_FrameCuts, *]
                              · rw [if_neg h50] at h; replace h50 := eq_false h50
                                cases h; subst hR; simp (maxDischargeDepth := 12) only [kk0, kk1, kk2, kk3, kk4, kk5, kk6, kk7, kk8, kk9, kk10, kk11, kk12, kk13, kk14, kk15, kk16, kn0, kn1, kn2, kn3, kn4, kn5, kn6, eq_self_iff_true, implies_true, forall_const, Int.cast_ofNat_Int, Nat.reduceEqDiff, Nat.reduceAdd, Nat.reduceSub, Nat.reduceMul, Nat.reduceLT, Nat.reduceLeDiff, Int.reduceEq, Int.reduceLT, Int.reduceLE, Int.reduceAdd, Int.reduceSub, Int.reduceMul, Int.reduceToNat, Int.reduceNeg, ↓reduceIte, reduceCtorEq, L_ferrymanlaw03_FrameCuts, v_ferrymanlaw03_awake, v_frame_Encode, v_frame_All, v_frame_Whole, v_ferrymanref03_Same, Ow.enc, Sl.enc, rr_ferrymanlaw03_FrameCuts, ro_ferrymanlaw03_FrameCuts, b0_ferrymanlaw03_FrameCuts, *]
                            · rw [if_neg h49] at h; replace h49 := eq_false h49
                              cases h; subst hR; simp (maxDischargeDepth := 12) only [kk0, kk1, kk2, kk3, kk4, kk5, kk6, kk7, kk8, kk9, kk10, kk11, kk12, kk13, kk14, kk15, kk16, kn0, kn1, kn2, kn3, kn4, kn5, kn6, eq_self_iff_true, implies_true, forall_const, Int.cast_ofNat_Int, Nat.reduceEqDiff, Nat.reduceAdd, Nat.reduceSub, Nat.reduceMul, Nat.reduceLT, Nat.reduceLeDiff, Int.reduceEq, Int.reduceLT, Int.reduceLE, Int.reduceAdd, Int.reduceSub, Int.reduceMul, Int.reduceToNat, Int.reduceNeg, ↓reduceIte, reduceCtorEq, L_ferrymanlaw03_FrameCuts, v_ferrymanlaw03_awake, v_frame_Encode, v_frame_All, v_frame_Whole, v_ferrymanref03_Same, Ow.enc, Sl.enc, rr_ferrymanlaw03_FrameCuts, ro_ferrymanlaw03_FrameCuts, b0_ferrymanlaw03_FrameCuts, *]
                          · rw [if_neg h48] at h; have h48' := bt0 h48; replace h48 := eq_false h48
                            cases h; subst hR; simp (maxDischargeDepth := 12) only [kk0, kk1, kk2, kk3, kk4, kk5, kk6, kk7, kk8, kk9, kk10, kk11, kk12, kk13, kk14, kk15, kk16, kn0, kn1, kn2, kn3, kn4, kn5, kn6, eq_self_iff_true, implies_true, forall_const, Int.cast_ofNat_Int, Nat.reduceEqDiff, Nat.reduceAdd, Nat.reduceSub, Nat.reduceMul, Nat.reduceLT, Nat.reduceLeDiff, Int.reduceEq, Int.reduceLT, Int.reduceLE, Int.reduceAdd, Int.reduceSub, Int.reduceMul, Int.reduceToNat, Int.reduceNeg, ↓reduceIte, reduceCtorEq, L_ferrymanlaw03_FrameCuts, v_ferrymanlaw03_awake, v_frame_Encode, v_frame_All, v_frame_Whole, v_ferrymanref03_Same, Ow.enc, Sl.enc, rr_ferrymanlaw03_FrameCuts, ro_ferrymanlaw03_FrameCuts, b0_ferrymanlaw03_FrameCuts, *]
                        · rw [if_neg h47] at h; have h47' := bt0 h47; replace h47 := eq_false h47
                          cases h; subst hR; simp (maxDischargeDepth := 12) only [kk0, kk1, kk2, kk3, kk4, kk5, kk6, kk7, kk8, kk9, kk10, kk11, kk12, kk13, kk14, kk15, kk16, kn0, kn1, kn2, kn3, kn4, kn5, kn6, eq_self_iff_true, implies_true, forall_const, Int.cast_ofNat_Int, Nat.reduceEqDiff, Nat.reduceAdd, Nat.reduceSub, Nat.reduceMul, Nat.reduceLT, Nat.reduceLeDiff, Int.reduceEq, Int.reduceLT, Int.reduceLE, Int.reduceAdd, Int.reduceSub, Int.reduceMul, Int.reduceToNat, Int.reduceNeg, ↓reduceIte, reduceCtorEq, L_ferrymanlaw03_FrameCuts, v_ferrymanlaw03_awake, v_frame_Encode, v_frame_All, v_frame_Whole, v_ferrymanref03_Same, Ow.enc, Sl.enc, rr_ferrymanlaw03_FrameCuts, ro_ferrymanlaw03_FrameCuts, b0_ferrymanlaw03_FrameCuts, *]
                    · rw [if_neg h45] at h; replace h45 := eq_false h45
                      rcases Classical.em (v5 = true) with h51 | h51
                      · rw [if_pos h51] at h; have h51' := bt1 h51; replace h51 := eq_true h51
                        rcases Classical.em (r15 = true) with h52 | h52
                        · rw [if_pos h52] at h; have h52' := bt1 h52; replace h52 := eq_true h52
                          rcases Classical.em (r13.2 = v12) with h53 | h53
                          · rw [if_pos h53] at h; replace h53 := eq_true h53
                            rcases Classical.em (r14.2 = 2) with h54 | h54
                            · rw [if_pos h54] at h; replace h54 := eq_true h54
                              cases h; subst hR; simp (maxDischargeDepth := 12) only [kk0, kk1, kk2, kk3, kk4, kk5, kk6, kk7, kk8, kk9, kk10, kk11, kk12, kk13, kk14, kk15, kk16, kn0, kn1, kn2, kn3, kn4, kn5, kn6, eq_self_iff_true, implies_true, forall_const, Int.cast_ofNat_Int, Nat.reduceEqDiff, Nat.reduceAdd, Nat.reduceSub, Nat.reduceMul, Nat.reduceLT, Nat.reduceLeDiff, Int.reduceEq, Int.reduceLT, Int.reduceLE, Int.reduceAdd, Int.reduceSub, Int.reduceMul, Int.reduceToNat, Int.reduceNeg, ↓reduceIte, reduceCtorEq, L_ferrymanlaw03_FrameCuts, v_ferrymanlaw03_awake, v_frame_Encode, v_frame_All, v_frame_Whole, v_ferrymanref03_Same, Ow.enc, Sl.enc, rr_ferrymanlaw03_FrameCuts, ro_ferrymanlaw03_FrameCuts, b0_ferrymanlaw03_FrameCuts, *]
                            · rw [if_neg h54] at h; replace h54 := eq_false h54
                              cases h; subst hR; simp (maxDischargeDepth := 12) only [kk0, kk1, kk2, kk3, kk4, kk5, kk6, kk7, kk8, kk9, kk10, kk11, kk12, kk13, kk14, kk15, kk16, kn0, kn1, kn2, kn3, kn4, kn5, kn6, eq_self_iff_true, implies_true, forall_const, Int.cast_ofNat_Int, Nat.reduceEqDiff, Nat.reduceAdd, Nat.reduceSub, Nat.reduceMul, Nat.reduceLT, Nat.reduceLeDiff, Int.reduceEq, Int.reduceLT, Int.reduceLE, Int.reduceAdd, Int.reduceSub, Int.reduceMul, Int.reduceToNat, Int.reduceNeg, ↓reduceIte, reduceCtorEq, L_ferrymanlaw03_FrameCuts, v_ferrymanlaw03_awake, v_frame_Encode, v_frame_All, v_frame_Whole, v_ferrymanref03_Same, Ow.enc, Sl.enc, rr_ferrymanlaw03_FrameCuts, ro_ferrymanlaw03_FrameCuts, b0_ferrymanlaw03_FrameCuts, *]
                          · rw [if_neg h53] at h; replace h53 := eq_false h53
                            cases h; subst hR; simp (maxDischargeDepth := 12) only [kk0, kk1, kk2, kk3, kk4, kk5, kk6, kk7, kk8, kk9, kk10, kk11, kk12, kk13, kk14, kk15, kk16, kn0, kn1, kn2, kn3, kn4, kn5, kn6, eq_self_iff_true, implies_true, forall_const, Int.cast_ofNat_Int, Nat.reduceEqDiff, Nat.reduceAdd, Nat.reduceSub, Nat.reduceMul, Nat.reduceLT, Nat.reduceLeDiff, Int.reduceEq, Int.reduceLT, Int.reduceLE, Int.reduceAdd, Int.reduceSub, Int.reduceMul, Int.reduceToNat, Int.reduceNeg, ↓reduceIte, reduceCtorEq, L_ferrymanlaw03_FrameCuts, v_ferrymanlaw03_awake, v_frame_Encode, v_frame_All, v_frame_Whole, v_ferrymanref03_Same, Ow.enc, Sl.enc, rr_ferrymanlaw03_FrameCuts, ro_ferrymanlaw03_FrameCuts, b0_ferrymanlaw03_FrameCuts, *]
                        · rw [if_neg h52] at h; have h52' := bt0 h52; replace h52 := eq_false h52
                          cases h; subst hR; simp (maxDischargeDepth := 12) only [kk0, kk1, kk2, kk3, kk4, kk5, kk6, kk7, kk8, kk9, kk10, kk11, kk12, kk13, kk14, kk15, kk16, kn0, kn1, kn2, kn3, kn4, kn5, kn6, eq_self_iff_true, implies_true, forall_const, Int.cast_ofNat_Int, Nat.reduceEqDiff, Nat.reduceAdd, Nat.reduceSub, Nat.reduceMul, Nat.reduceLT, Nat.reduceLeDiff, Int.reduceEq, Int.reduceLT, Int.reduceLE, Int.reduceAdd, Int.reduceSub, Int.reduceMul, Int.reduceToNat, Int.reduceNeg, ↓reduceIte, reduceCtorEq, L_ferrymanlaw03_FrameCuts, v_ferrymanlaw03_awake, v_frame_Encode, v_frame_All, v_frame_Whole, v_ferrymanref03_Same, Ow.enc, Sl.enc, rr_ferrymanlaw03_FrameCuts, ro_ferrymanlaw03_FrameCuts, b0_ferrymanlaw03_FrameCuts, *]
                      · rw [if_neg h51] at h; have h51' := bt0 h51; replace h51 := eq_false h51
                        cases h; subst hR; simp (maxDischargeDepth := 12) only [kk0, kk1, kk2, kk3, kk4, kk5, kk6, kk7, kk8, kk9, kk10, kk11, kk12, kk13, kk14, kk15, kk16, kn0, kn1, kn2, kn3, kn4, kn5, kn6, eq_self_iff_true, implies_true, forall_const, Int.cast_ofNat_Int, Nat.reduceEqDiff, Nat.reduceAdd, Nat.reduceSub, Nat.reduceMul, Nat.reduceLT, Nat.reduceLeDiff, Int.reduceEq, Int.reduceLT, Int.reduceLE, Int.reduceAdd, Int.reduceSub, Int.reduceMul, Int.reduceToNat, Int.reduceNeg, ↓reduceIte, reduceCtorEq, L_ferrymanlaw03_FrameCuts, v_ferrymanlaw03_awake, v_frame_Encode, v_frame_All, v_frame_Whole, v_ferrymanref03_Same, Ow.enc, Sl.enc, rr_ferrymanlaw03_FrameCuts, ro_ferrymanlaw03_FrameCuts, b0_ferrymanlaw03_FrameCuts, *]
                · rw [if_neg h43] at h; replace h43 := eq_false h43
                  cases h
              · rw [if_neg h42] at h; replace h42 := eq_false h42
                cases h
        · rw [if_neg h39] at h; have h39' := bt0 h39; replace h39 := eq_false h39
          rcases h55 : frame_Whole q ⟨h0z, (List.take v1.toNat h0l)⟩ with _ | r17
          · rw [h55] at h; cases h
          · rw [h55, Option.bind_some] at h
            replace h55 := run_frame_Whole q (M + 7) (by omega) _ _ h55
            try simp only [Ow.enc, Sl.enc, kn0, kn1, kn2, kn3, kn4, kn5, kn6, eq_self_iff_true, implies_true, forall_const, Int.cast_ofNat_Int, Nat.reduceEqDiff, Nat.reduceAdd, Nat.reduceSub, Nat.reduceMul, Nat.reduceLT, Nat.reduceLeDiff, Int.reduceEq, Int.reduceLT, Int.reduceLE, Int.reduceAdd, Int.reduceSub, Int.reduceMul, Int.reduceToNat, Int.reduceNeg, ↓reduceIte, reduceCtorEq] at h55
            rcases h56 : frame_All q ⟨h0z, (List.take v1.toNat h0l)⟩ with _ | r18
            · rw [h56] at h; cases h
            · rw [h56, Option.bind_some] at h
              replace h56 := run_frame_All q (M + 7) (by omega) _ _ h56
              try simp only [Ow.enc, Sl.enc, kn0, kn1, kn2, kn3, kn4, kn5, kn6, eq_self_iff_true, implies_true, forall_const, Int.cast_ofNat_Int, Nat.reduceEqDiff, Nat.reduceAdd, Nat.reduceSub, Nat.reduceMul, Nat.reduceLT, Nat.reduceLeDiff, Int.reduceEq, Int.reduceLT, Int.reduceLE, Int.reduceAdd, Int.reduceSub, Int.reduceMul, Int.reduceToNat, Int.reduceNeg, ↓reduceIte, reduceCtorEq] at h56
              rcases Classical.em (0 ≤ v11) with h57 | h57
              · rw [if_pos h57] at h; replace h57 := eq_true h57
                rcases Classical.em (v11.toNat ≤ v0l.length) with h58 | h58
                · rw [if_pos h58] at h; replace h58 := eq_true h58
                  rcases h59 : ferrymanref03_Same q ⟨r17.1.n, r17.1.xs⟩ ⟨v0z, (List.take v11.toNat v0l)⟩ with _ | r19
                  · rw [h59] at h; cases h
                  · rw [h59, Option.bind_some] at h
                    replace h59 := run_ferrymanref03_Same q (M + 7) (by omega) _ _ _ h59
                    try simp only [Ow.enc, Sl.enc, kn0, kn1, kn2, kn3, kn4, kn5, kn6, eq_self_iff_true, implies_true, forall_const, Int.cast_ofNat_Int, Nat.reduceEqDiff, Nat.reduceAdd, Nat.reduceSub, Nat.reduceMul, Nat.reduceLT, Nat.reduceLeDiff, Int.reduceEq, Int.reduceLT, Int.reduceLE, Int.reduceAdd, Int.reduceSub, Int.reduceMul, Int.reduceToNat, Int.reduceNeg, ↓reduceIte, reduceCtorEq] at h59
                    rcases Classical.em (v12 = v1) with h60 | h60
                    · rw [if_pos h60] at h; replace h60 := eq_true h60
                      rcases h61 : ferrymanref03_Same q ⟨r18.1.n, r18.1.xs⟩ ⟨v0z, (List.take v11.toNat v0l)⟩ with _ | r20
                      · rw [h61] at h; cases h
                      · rw [h61, Option.bind_some] at h
                        replace h61 := run_ferrymanref03_Same q (M + 7) (by omega) _ _ _ h61
                        try simp only [Ow.enc, Sl.enc, kn0, kn1, kn2, kn3, kn4, kn5, kn6, eq_self_iff_true, implies_true, forall_const, Int.cast_ofNat_Int, Nat.reduceEqDiff, Nat.reduceAdd, Nat.reduceSub, Nat.reduceMul, Nat.reduceLT, Nat.reduceLeDiff, Int.reduceEq, Int.reduceLT, Int.reduceLE, Int.reduceAdd, Int.reduceSub, Int.reduceMul, Int.reduceToNat, Int.reduceNeg, ↓reduceIte, reduceCtorEq] at h61
                        rcases Classical.em (v5 = true) with h62 | h62
                        · rw [if_pos h62] at h; have h62' := bt1 h62; replace h62 := eq_true h62
                          rcases Classical.em (r19 = true) with h63 | h63
                          · rw [if_pos h63] at h; have h63' := bt1 h63; replace h63 := eq_true h63
                            rcases Classical.em (r17.2 = v12) with h64 | h64
                            · rw [if_pos h64] at h; replace h64 := eq_true h64
                              rcases Classical.em (r18.2 = 0) with h65 | h65
                              · rw [if_pos h65] at h; replace h65 := eq_true h65
                                cases h; subst hR; simp (maxDischargeDepth := 12) only [kk0, kk1, kk2, kk3, kk4, kk5, kk6, kk7, kk8, kk9, kk10, kk11, kk12, kk13, kk14, kk15, kk16, kn0, kn1, kn2, kn3, kn4, kn5, kn6, eq_self_iff_true, implies_true, forall_const, Int.cast_ofNat_Int, Nat.reduceEqDiff, Nat.reduceAdd, Nat.reduceSub, Nat.reduceMul, Nat.reduceLT, Nat.reduceLeDiff, Int.reduceEq, Int.reduceLT, Int.reduceLE, Int.reduceAdd, Int.reduceSub, Int.reduceMul, Int.reduceToNat, Int.reduceNeg, ↓reduceIte, reduceCtorEq, L_ferrymanlaw03_FrameCuts, v_ferrymanlaw03_awake, v_frame_Encode, v_frame_All, v_frame_Whole, v_ferrymanref03_Same, Ow.enc, Sl.enc, rr_ferrymanlaw03_FrameCuts, ro_ferrymanlaw03_FrameCuts, b0_ferrymanlaw03_FrameCuts, *]
                              · rw [if_neg h65] at h; replace h65 := eq_false h65
                                cases h; subst hR; simp (maxDischargeDepth := 12) only [kk0, kk1, kk2, kk3, kk4, kk5, kk6, kk7, kk8, kk9, kk10, kk11, kk12, kk13, kk14, kk15, kk16, kn0, kn1, kn2, kn3, kn4, kn5, kn6, eq_self_iff_true, implies_true, forall_const, Int.cast_ofNat_Int, Nat.reduceEqDiff, Nat.reduceAdd, Nat.reduceSub, Nat.reduceMul, Nat.reduceLT, Nat.reduceLeDiff, Int.reduceEq, Int.reduceLT, Int.reduceLE, Int.reduceAdd, Int.reduceSub, Int.reduceMul, Int.reduceToNat, Int.reduceNeg, ↓reduceIte, reduceCtorEq, L_ferrymanlaw03_FrameCuts, v_ferrymanlaw03_awake, v_frame_Encode, v_frame_All, v_frame_Whole, v_ferrymanref03_Same, Ow.enc, Sl.enc, rr_ferrymanlaw03_FrameCuts, ro_ferrymanlaw03_FrameCuts, b0_ferrymanlaw03_FrameCuts, *]
                            · rw [if_neg h64] at h; replace h64 := eq_false h64
                              cases h; subst hR; simp (maxDischargeDepth := 12) only [kk0, kk1, kk2, kk3, kk4, kk5, kk6, kk7, kk8, kk9, kk10, kk11, kk12, kk13, kk14, kk15, kk16, kn0, kn1, kn2, kn3, kn4, kn5, kn6, eq_self_iff_true, implies_true, forall_const, Int.cast_ofNat_Int, Nat.reduceEqDiff, Nat.reduceAdd, Nat.reduceSub, Nat.reduceMul, Nat.reduceLT, Nat.reduceLeDiff, Int.reduceEq, Int.reduceLT, Int.reduceLE, Int.reduceAdd, Int.reduceSub, Int.reduceMul, Int.reduceToNat, Int.reduceNeg, ↓reduceIte, reduceCtorEq, L_ferrymanlaw03_FrameCuts, v_ferrymanlaw03_awake, v_frame_Encode, v_frame_All, v_frame_Whole, v_ferrymanref03_Same, Ow.enc, Sl.enc, rr_ferrymanlaw03_FrameCuts, ro_ferrymanlaw03_FrameCuts, b0_ferrymanlaw03_FrameCuts, *]
                          · rw [if_neg h63] at h; have h63' := bt0 h63; replace h63 := eq_false h63
                            cases h; subst hR; simp (maxDischargeDepth := 12) only [kk0, kk1, kk2, kk3, kk4, kk5, kk6, kk7, kk8, kk9, kk10, kk11, kk12, kk13, kk14, kk15, kk16, kn0, kn1, kn2, kn3, kn4, kn5, kn6, eq_self_iff_true, implies_true, forall_const, Int.cast_ofNat_Int, Nat.reduceEqDiff, Nat.reduceAdd, Nat.reduceSub, Nat.reduceMul, Nat.reduceLT, Nat.reduceLeDiff, Int.reduceEq, Int.reduceLT, Int.reduceLE, Int.reduceAdd, Int.reduceSub, Int.reduceMul, Int.reduceToNat, Int.reduceNeg, ↓reduceIte, reduceCtorEq, L_ferrymanlaw03_FrameCuts, v_ferrymanlaw03_awake, v_frame_Encode, v_frame_All, v_frame_Whole, v_ferrymanref03_Same, Ow.enc, Sl.enc, rr_ferrymanlaw03_FrameCuts, ro_ferrymanlaw03_FrameCuts, b0_ferrymanlaw03_FrameCuts, *]
                        · rw [if_neg h62] at h; have h62' := bt0 h62; replace h62 := eq_false h62
                          cases h; subst hR; simp (maxDischargeDepth := 12) only [kk0, kk1, kk2, kk3, kk4, kk5, kk6, kk7, kk8, kk9, kk10, kk11, kk12, kk13, kk14, kk15, kk16, kn0, kn1, kn2, kn3, kn4, kn5, kn6, eq_self_iff_true, implies_true, forall_const, Int.cast_ofNat_Int, Nat.reduceEqDiff, Nat.reduceAdd, Nat.reduceSub, Nat.reduceMul, Nat.reduceLT, Nat.reduceLeDiff, Int.reduceEq, Int.reduceLT, Int.reduceLE, Int.reduceAdd, Int.reduceSub, Int.reduceMul, Int.reduceToNat, Int.reduceNeg, ↓reduceIte, reduceCtorEq, L_ferrymanlaw03_FrameCuts, v_ferrymanlaw03_awake, v_frame_Encode, v_frame_All, v_frame_Whole, v_ferrymanref03_Same, Ow.enc, Sl.enc, rr_ferrymanlaw03_FrameCuts, ro_ferrymanlaw03_FrameCuts, b0_ferrymanlaw03_FrameCuts, *]
                    · rw [if_neg h60] at h; replace h60 := eq_false h60
                      rcases Classical.em (v5 = true) with h66 | h66
                      · rw [if_pos h66] at h; have h66' := bt1 h66; replace h66 := eq_true h66
                        rcases Classical.em (r19 = true) with h67 | h67
                        · rw [if_pos h67] at h; have h67' := bt1 h67; replace h67 := eq_true h67
                          rcases Classical.em (r17.2 = v12) with h68 | h68
                          · rw [if_pos h68] at h; replace h68 := eq_true h68
                            rcases Classical.em (r18.2 = 2) with h69 | h69
                            · rw [if_pos h69] at h; replace h69 := eq_true h69
                              cases h; subst hR; simp (maxDischargeDepth := 12) only [kk0, kk1, kk2, kk3, kk4, kk5, kk6, kk7, kk8, kk9, kk10, kk11, kk12, kk13, kk14, kk15, kk16, kn0, kn1, kn2, kn3, kn4, kn5, kn6, eq_self_iff_true, implies_true, forall_const, Int.cast_ofNat_Int, Nat.reduceEqDiff, Nat.reduceAdd, Nat.reduceSub, Nat.reduceMul, Nat.reduceLT, Nat.reduceLeDiff, Int.reduceEq, Int.reduceLT, Int.reduceLE, Int.reduceAdd, Int.reduceSub, Int.reduceMul, Int.reduceToNat, Int.reduceNeg, ↓reduceIte, reduceCtorEq, L_ferrymanlaw03_FrameCuts, v_ferrymanlaw03_awake, v_frame_Encode, v_frame_All, v_frame_Whole, v_ferrymanref03_Same, Ow.enc, Sl.enc, rr_ferrymanlaw03_FrameCuts, ro_ferrymanlaw03_FrameCuts, b0_ferrymanlaw03_FrameCuts, *]
                            · rw [if_neg h69] at h; replace h69 := eq_false h69
                              cases h; subst hR; simp (maxDischargeDepth := 12) only [kk0, kk1, kk2, kk3, kk4, kk5, kk6, kk7, kk8, kk9, kk10, kk11, kk12, kk13, kk14, kk15, kk16, kn0, kn1, kn2, kn3, kn4, kn5, kn6, eq_self_iff_true, implies_true, forall_const, Int.cast_ofNat_Int, Nat.reduceEqDiff, Nat.reduceAdd, Nat.reduceSub, Nat.reduceMul, Nat.reduceLT, Nat.reduceLeDiff, Int.reduceEq, Int.reduceLT, Int.reduceLE, Int.reduceAdd, Int.reduceSub, Int.reduceMul, Int.reduceToNat, Int.reduceNeg, ↓reduceIte, reduceCtorEq, L_ferrymanlaw03_FrameCuts, v_ferrymanlaw03_awake, v_frame_Encode, v_frame_All, v_frame_Whole, v_ferrymanref03_Same, Ow.enc, Sl.enc, rr_ferrymanlaw03_FrameCuts, ro_ferrymanlaw03_FrameCuts, b0_ferrymanlaw03_FrameCuts, *]
                          · rw [if_neg h68] at h; replace h68 := eq_false h68
                            cases h; subst hR; simp (maxDischargeDepth := 12) only [kk0, kk1, kk2, kk3, kk4, kk5, kk6, kk7, kk8, kk9, kk10, kk11, kk12, kk13, kk14, kk15, kk16, kn0, kn1, kn2, kn3, kn4, kn5, kn6, eq_self_iff_true, implies_true, forall_const, Int.cast_ofNat_Int, Nat.reduceEqDiff, Nat.reduceAdd, Nat.reduceSub, Nat.reduceMul, Nat.reduceLT, Nat.reduceLeDiff, Int.reduceEq, Int.reduceLT, Int.reduceLE, Int.reduceAdd, Int.reduceSub, Int.reduceMul, Int.reduceToNat, Int.reduceNeg, ↓reduceIte, reduceCtorEq, L_ferrymanlaw03_FrameCuts, v_ferrymanlaw03_awake, v_frame_Encode, v_frame_All, v_frame_Whole, v_ferrymanref03_Same, Ow.enc, Sl.enc, rr_ferrymanlaw03_FrameCuts, ro_ferrymanlaw03_FrameCuts, b0_ferrymanlaw03_FrameCuts, *]
                        · rw [if_neg h67] at h; have h67' := bt0 h67; replace h67 := eq_false h67
                          cases h; subst hR; simp (maxDischargeDepth := 12) only [kk0, kk1, kk2, kk3, kk4, kk5, kk6, kk7, kk8, kk9, kk10, kk11, kk12, kk13, kk14, kk15, kk16, kn0, kn1, kn2, kn3, kn4, kn5, kn6, eq_self_iff_true, implies_true, forall_const, Int.cast_ofNat_Int, Nat.reduceEqDiff, Nat.reduceAdd, Nat.reduceSub, Nat.reduceMul, Nat.reduceLT, Nat.reduceLeDiff, Int.reduceEq, Int.reduceLT, Int.reduceLE, Int.reduceAdd, Int.reduceSub, Int.reduceMul, Int.reduceToNat, Int.reduceNeg, ↓reduceIte, reduceCtorEq, L_ferrymanlaw03_FrameCuts, v_ferrymanlaw03_awake, v_frame_Encode, v_frame_All, v_frame_Whole, v_ferrymanref03_Same, Ow.enc, Sl.enc, rr_ferrymanlaw03_FrameCuts, ro_ferrymanlaw03_FrameCuts, b0_ferrymanlaw03_FrameCuts, *]
                      · rw [if_neg h66] at h; have h66' := bt0 h66; replace h66 := eq_false h66
                        cases h; subst hR; simp (maxDischargeDepth := 12) only [kk0, kk1, kk2, kk3, kk4, kk5, kk6, kk7, kk8, kk9, kk10, kk11, kk12, kk13, kk14, kk15, kk16, kn0, kn1, kn2, kn3, kn4, kn5, kn6, eq_self_iff_true, implies_true, forall_const, Int.cast_ofNat_Int, Nat.reduceEqDiff, Nat.reduceAdd, Nat.reduceSub, Nat.reduceMul, Nat.reduceLT, Nat.reduceLeDiff, Int.reduceEq, Int.reduceLT, Int.reduceLE, Int.reduceAdd, Int.reduceSub, Int.reduceMul, Int.reduceToNat, Int.reduceNeg, ↓reduceIte, reduceCtorEq, L_ferrymanlaw03_FrameCuts, v_ferrymanlaw03_awake, v_frame_Encode, v_frame_All, v_frame_Whole, v_ferrymanref03_Same, Ow.enc, Sl.enc, rr_ferrymanlaw03_FrameCuts, ro_ferrymanlaw03_FrameCuts, b0_ferrymanlaw03_FrameCuts, *]
                · rw [if_neg h58] at h; replace h58 := eq_false h58
                  cases h
              · rw [if_neg h57] at h; replace h57 := eq_false h57
                cases h
      · rw [if_neg h38] at h; replace h38 := eq_false h38
        cases h
    · rw [if_neg h37] at h; replace h37 := eq_false h37
      cases h
theorem all_ferrymanlaw03_FrameCuts : ∀ q, St_ferrymanlaw03_FrameCuts_l0 q ∧ St_ferrymanlaw03_FrameCuts_l1 q
  | 0 => by refine ⟨?_, ?_⟩ <;> (intro M hM j hj; intros; rename_i h _ _ _ _ _; cases h)
  | q + 1 => by have ⟨i0, i1⟩ := all_ferrymanlaw03_FrameCuts q; exact ⟨step_ferrymanlaw03_FrameCuts_l0 q i0 i1, step_ferrymanlaw03_FrameCuts_l1 q i1⟩
theorem run_ferrymanlaw03_FrameCuts : ∀ (q N : Nat), 8 * q ≤ N → ∀ (a0 : (Sl (Sl Int))) (a1 : Int), ∀ (r : Bool), ferrymanlaw03_FrameCuts q a0 a1 = some r → (orc T N).deep F.ferrymanlaw03_FrameCuts [(Sl.enc (Sl.enc (V.int .u8))) a0, (V.int .i64) a1] = some [V.bool r] := by
  intro q N hM a0 a1 r h
  rcases q with _ | q
  · cases h
  obtain ⟨M, rfl⟩ : ∃ M, N = M + 8 := ⟨N - 8, by omega⟩
  have ih_ferrymanlaw03_FrameCuts_l0 := (all_ferrymanlaw03_FrameCuts q).1
  generalize hR : some [V.bool r] = R
  rw [orc_deep, T_ferrymanlaw03_FrameCuts, Option.bind_some, runDeep_eq]
  rw [ferrymanlaw03_FrameCuts] at h
  rcases h1 : ferrymanlaw03_awake q with _ | r1
  · rw [h1] at h; cases h
  · rw [h1, Option.bind_some] at h
    replace h1 := run_ferrymanlaw03_awake q (M + 7) (by omega)  _ h1
    skip
    rcases Classical.em (30 < (a0.l.length : Int)) with h2 | h2
    · rw [if_pos h2] at h; replace h2 := eq_true h2
      cases h; subst hR; simp (maxDischargeDepth := 12) only [kk0, kk1, kk2, kk3, kk4, kk5, kk6, kk7, kk8, kk9, kk10, kk11, kk12, kk13, kk14, kk15, kk16, kn0, kn1, kn2, kn3, kn4, kn5, kn6, eq_self_iff_true, implies_true, forall_const, Int.cast_ofNat_Int, Nat.reduceEqDiff, Nat.reduceAdd, Nat.reduceSub, Nat.reduceMul, Nat.reduceLT, Nat.reduceLeDiff, Int.reduceEq, Int.reduceLT, Int.reduceLE, Int.reduceAdd, Int.reduceSub, Int.reduceMul, Int.reduceToNat, Int.reduceNeg, ↓reduceIte, reduceCtorEq, L_ferrymanlaw03_FrameCuts, v_ferrymanlaw03_awake, v_frame_Encode, v_frame_All, v_frame_Whole, v_ferrymanref03_Same, Ow.enc, Sl.enc, rr_ferrymanlaw03_FrameCuts, ro_ferrymanlaw03_FrameCuts, b0_ferrymanlaw03_FrameCuts, *]
    · rw [if_neg h2] at h; replace h2 := eq_false h2
      rcases Classical.em (a1 < 0) with h3 | h3
      · rw [if_pos h3] at h; replace h3 := eq_true h3
        cases h; subst hR; simp (maxDischargeDepth := 12) only [kk0, kk1, kk2, kk3, kk4, kk5, kk6, kk7, kk8, kk9, kk10, kk11, kk12, kk13, kk14, kk15, kk16, kn0, kn1, kn2, kn3, kn4, kn5, kn6, eq_self_iff_true, implies_true, forall_const, Int.cast_ofNat_Int, Nat.reduceEqDiff, Nat.reduceAdd, Nat.reduceSub, Nat.reduceMul, Nat.reduceLT, Nat.reduceLeDiff, Int.reduceEq, Int.reduceLT, Int.reduceLE, Int.reduceAdd, Int.reduceSub, Int.reduceMul, Int.reduceToNat, Int.reduceNeg, ↓reduceIte, reduceCtorEq, L_ferrymanlaw03_FrameCuts, v_ferrymanlaw03_awake, v_frame_Encode, v_frame_All, v_frame_Whole, v_ferrymanref03_Same, Ow.enc, Sl.enc, rr_ferrymanlaw03_FrameCuts, ro_ferrymanlaw03_FrameCuts, b0_ferrymanlaw03_FrameCuts, *]
      · rw [if_neg h3] at h; replace h3 := eq_false h3
        replace h := ih_ferrymanlaw03_FrameCuts_l0 M (by omega) (M + 7) (by omega) _ _ _ _ _ _ _ _ _ _ h R hR
        simp (maxDischargeDepth := 12) only [kk0, kk1, kk2, kk3, kk4, kk5, kk6, kk7, kk8, kk9, kk10, kk11, kk12, kk13, kk14, kk15, kk16, kn0, kn1, kn2, kn3, kn4, kn5, kn6, eq_self_iff_true, implies_true, forall_const, Int.cast_ofNat_Int, Nat.reduceEqDiff, Nat.reduceAdd, Nat.reduceSub, Nat.reduceMul, Nat.reduceLT, Nat.reduceLeDiff, Int.reduceEq, Int.reduceLT, Int.reduceLE, Int.reduceAdd, Int.reduceSub, Int.reduceMul, Int.reduceToNat, Int.reduceNeg, ↓reduceIte, reduceCtorEq, L_ferrymanlaw03_FrameCuts, v_ferrymanlaw03_awake, v_frame_Encode, v_frame_All, v_frame_Whole, v_ferrymanref03_Same, Ow.enc, Sl.enc, rr_ferrymanlaw03_FrameCuts, ro_ferrymanlaw03_FrameCuts, b0_ferrymanlaw03_FrameCuts, *]
end Go.Dvm.C
