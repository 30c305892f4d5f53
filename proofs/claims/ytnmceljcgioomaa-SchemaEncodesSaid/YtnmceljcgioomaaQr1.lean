/- The machine comes to these answers: part 2. -/
import Derived.Test.YtnmceljcgioomaaQl0
import Derived.Test.YtnmceljcgioomaaQr0
set_option linter.all false
set_option maxRecDepth 100000
set_option maxHeartbeats 4000000
namespace Go.Dvm.C
open Go Go.Dvm Go.Dvm.I
def St_slices_Index_int_int_l0 (q : Nat) : Prop := ∀ (M : Nat) (hM : 8 * q ≤ M) (j : Nat) (hj : q ≤ j) (v0z : Bool) (v0l : List Int) (v1 : Int) (v7 : Int) (v8 : Int) (r : Int) (_ : slices_Index_int_int_l0 q v0z v0l v1 v7 v8 = some r) (R : Option (List V)) (_ : some [(V.int .i64) r] = R) (fr : Fr) (H : Hp) (_ : canon 0 [0, 1, 7, 8] fr H = ([(0, (.sl v0z (List.map (V.int .i64) v0l))), (1, (.int .i64 v1)), (7, (.int .i64 v7)), (8, (.int .i64 v8))], [])), fin m_slices_Index_int_int (unw T (orc T (M + 7)) (M + 7) 0 [.blk 0, .code c_slices_Index_int_int_16] (iter 0 [0, 1, 7, 8] (exec T (orc T (M + 7)) (M + 7) 0 c_slices_Index_int_int_13) j fr H)) = R
theorem step_slices_Index_int_int_l0 (q : Nat) (ih_slices_Index_int_int_l0 : St_slices_Index_int_int_l0 q) : St_slices_Index_int_int_l0 (q + 1) := by
  intro M hM j hj v0z v0l v1 v7 v8 r h R hR fr H hc
  obtain ⟨j, rfl⟩ : ∃ i, j = i + 1 := ⟨j - 1, by omega⟩
  rw [unw_iter, hc]; clear hc
  rw [slices_Index_int_int_l0] at h
  rcases Classical.em (v8 < v7) with h1 | h1
  · rw [if_pos h1] at h; replace h1 := eq_true h1
    rcases Classical.em (0 ≤ v8) with h2 | h2
    · rw [if_pos h2] at h; replace h2 := eq_true h2
      rcases h3 : v0l[v8.toNat]? with _ | e1
      · rw [h3] at h; cases h
      · rw [h3, Option.bind_some] at h
        rcases Classical.em (v1 = e1) with h4 | h4
        · rw [if_pos h4] at h; replace h4 := eq_true h4
          cases h; subst hR; simp (maxDischargeDepth := 12) only [kk0, kk1, kk2, kk3, kk4, kk5, kk6, kk7, kk8, kk9, kk10, kk11, kk12, kk13, kk14, kk15, kk16, kn0, kn1, kn2, kn3, kn4, kn5, kn6, eq_self_iff_true, implies_true, forall_const, Int.cast_ofNat_Int, Nat.reduceEqDiff, Nat.reduceAdd, Nat.reduceSub, Nat.reduceMul, Nat.reduceLT, Nat.reduceLeDiff, Int.reduceEq, Int.reduceLT, Int.reduceLE, Int.reduceAdd, Int.reduceSub, Int.reduceMul, Int.reduceToNat, Int.reduceNeg, ↓reduceIte, reduceCtorEq, L_slices_Index_int_int, Ow.enc, Sl.enc, rr_slices_Index_int_int, ro_slices_Index_int_int, b0_slices_Index_int_int, *]
        · rw [if_neg h4] at h; replace h4 := eq_false h4
          replace h := ih_slices_Index_int_int_l0 M (by omega) j (by omega) _ _ _ _ _ _ h R hR
          simp (maxDischargeDepth := 12) only [kk0, kk1, kk2, kk3, kk4, kk5, kk6, kk7, kk8, kk9, kk10, kk11, kk12, kk13, kk14, kk15, kk16, kn0, kn1, kn2, kn3, kn4, kn5, kn6, eq_self_iff_true, implies_true, forall_const, Int.cast_ofNat_Int, Nat.reduceEqDiff, Nat.reduceAdd, Nat.reduceSub, Nat.reduceMul, Nat.reduceLT, Nat.reduceLeDiff, Int.reduceEq, Int.reduceLT, Int.reduceLE, Int.reduceAdd, Int.reduceSub, Int.reduceMul, Int.reduceToNat, Int.reduceNeg, ↓reduceIte, reduceCtorEq, L_slices_Index_int_int, Ow.enc, Sl.enc, rr_slices_Index_int_int, ro_slices_Index_int_int, b0_slices_Index_int_int, *]
    · rw [if_neg h2] at h; replace h2 := eq_false h2
      cases h
  · rw [if_neg h1] at h; replace h1 := eq_false h1
    cases h; subst hR; simp (maxDischargeDepth := 12) only [kk0, kk1, kk2, kk3, kk4, kk5, kk6, kk7, kk8, kk9, kk10, kk11, kk12, kk13, kk14, kk15, kk16, kn0, kn1, kn2, kn3, kn4, kn5, kn6, eq_self_iff_true, implies_true, forall_const, Int.cast_ofNat_Int, Nat.reduceEqDiff, Nat.reduceAdd, Nat.reduceSub, Nat.reduceMul, Nat.reduceLT, Nat.reduceLeDiff, Int.reduceEq, Int.reduceLT, Int.reduceLE, Int.reduceAdd, Int.reduceSub, Int.reduceMul, Int.reduceToNat, Int.reduceNeg, ↓reduceIte, reduceCtorEq, L_slices_Index_int_int, Ow.enc, Sl.enc, rr_slices_Index_int_int, ro_slices_Index_int_int, b0_slices_Index_int_int, *]
theorem all_slices_Index_int_int : ∀ q, St_slices_Index_int_int_l0 q
  | 0 => by intro M hM j hj; intros; rename_i h _ _ _ _ _; cases h
  | q + 1 => by have i0 := all_slices_Index_int_int q; exact step_slices_Index_int_int_l0 q i0
theorem run_slices_Index_int_int : ∀ (q N : Nat), 8 * q ≤ N → ∀ (a0 : (Sl Int)) (a1 : Int), ∀ (r : Int), slices_Index_int_int q a0 a1 = some r → (orc T N).deep F.slices_Index_int_int [(Sl.enc (V.int .i64)) a0, (V.int .i64) a1] = some [(V.int .i64) r] := by
  intro q N hM a0 a1 r h
  rcases q with _ | q
  · cases h
  obtain ⟨M, rfl⟩ : ∃ M, N = M + 8 := ⟨N - 8, by omega⟩
  have ih_slices_Index_int_int_l0 := (all_slices_Index_int_int q)
  generalize hR : some [(V.int .i64) r] = R
  rw [orc_deep, T_slices_Index_int_int, Option.bind_some, runDeep_eq]
  rw [slices_Index_int_int] at h
  replace h := ih_slices_Index_int_int_l0 M (by omega) (M + 7) (by omega) _ _ _ _ _ _ h R hR
  simp (maxDischargeDepth := 12) only [kk0, kk1, kk2, kk3, kk4, kk5, kk6, kk7, kk8, kk9, kk10, kk11, kk12, kk13, kk14, kk15, kk16, kn0, kn1, kn2, kn3, kn4, kn5, kn6, eq_self_iff_true, implies_true, forall_const, Int.cast_ofNat_Int, Nat.reduceEqDiff, Nat.reduceAdd, Nat.reduceSub, Nat.reduceMul, Nat.reduceLT, Nat.reduceLeDiff, Int.reduceEq, Int.reduceLT, Int.reduceLE, Int.reduceAdd, Int.reduceSub, Int.reduceMul, Int.reduceToNat, Int.reduceNeg, ↓reduceIte, reduceCtorEq, L_slices_Index_int_int, Ow.enc, Sl.enc, rr_slices_Index_int_int, ro_slices_Index_int_int, b0_slices_Index_int_int, *]
theorem run_slices_Contains_int_int : ∀ (q N : Nat), 8 * q ≤ N → ∀ (a0 : (Sl Int)) (a1 : Int), ∀ (r : Bool), slices_Contains_int_int q a0 a1 = some r → (orc T N).deep F.slices_Contains_int_int [(Sl.enc (V.int .i64)) a0, (V.int .i64) a1] = some [V.bool r] := by
  intro q N hM a0 a1 r h
  rcases q with _ | q
  · cases h
  obtain ⟨M, rfl⟩ : ∃ M, N = M + 8 := ⟨N - 8, by omega⟩
  generalize hR : some [V.bool r] = R
  rw [orc_deep, T_slices_Contains_int_int, Option.bind_some, runDeep_eq]
  rw [slices_Contains_int_int] at h
  rcases h1 : slices_Index_int_int q a0 a1 with _ | r1
  · rw [h1] at h; cases h
  · rw [h1, Option.bind_some] at h
    replace h1 := run_slices_Index_int_int q (M + 7) (by omega) _ _ _ h1
    try simp only [Ow.enc, Sl.enc, kn0, kn1, kn2, kn3, kn4, kn5, kn6, eq_self_iff_true, implies_true, forall_const, Int.cast_ofNat_Int, Nat.reduceEqDiff, Nat.reduceAdd, Nat.reduceSub, Nat.reduceMul, Nat.reduceLT, Nat.reduceLeDiff, Int.reduceEq, Int.reduceLT, Int.reduceLE, Int.reduceAdd, Int.reduceSub, Int.reduceMul, Int.reduceToNat, Int.reduceNeg, ↓reduceIte, reduceCtorEq] at h1
    cases h; subst hR; simp (maxDischargeDepth := 12) only [kk0, kk1, kk2, kk3, kk4, kk5, kk6, kk7, kk8, kk9, kk10, kk11, kk12, kk13, kk14, kk15, kk16, kn0, kn1, kn2, kn3, kn4, kn5, kn6, eq_self_iff_true, implies_true, forall_const, Int.cast_ofNat_Int, Nat.reduceEqDiff, Nat.reduceAdd, Nat.reduceSub, Nat.reduceMul, Nat.reduceLT, Nat.reduceLeDiff, Int.reduceEq, Int.reduceLT, Int.reduceLE, Int.reduceAdd, Int.reduceSub, Int.reduceMul, Int.reduceToNat, Int.reduceNeg, ↓reduceIte, reduceCtorEq, L_slices_Contains_int_int, v_slices_Index_int_int, Ow.enc, Sl.enc, rr_slices_Contains_int_int, ro_slices_Contains_int_int, b0_slices_Contains_int_int, *]
theorem run_schema_Upgrade : ∀ (q N : Nat), 8 * q ≤ N → ∀ (a0 : Int) (a1 : S_api_Record), ∀ (r : S_api_Record × Int), schema_Upgrade q a0 a1 = some r → (orc T N).deep F.schema_Upgrade [(V.int .i64) a0, S_api_Record.enc a1] = some [S_api_Record.enc r.1, (V.int .i64) r.2] := by
  intro q N hM a0 a1 r h
  rcases q with _ | q
  · cases h
  obtain ⟨M, rfl⟩ : ∃ M, N = M + 8 := ⟨N - 8, by omega⟩
  generalize hR : some [S_api_Record.enc r.1, (V.int .i64) r.2] = R
  rw [orc_deep, T_schema_Upgrade, Option.bind_some, runDeep_eq]
  rw [schema_Upgrade] at h
  rcases h1 : schema_fields q a0 with _ | r1
  · rw [h1] at h; cases h
  · rw [h1, Option.bind_some] at h
    replace h1 := run_schema_fields q (M + 7) (by omega) _ _ h1
    try simp only [Ow.enc, kn0, kn1, kn2, kn3, kn4, kn5, kn6, eq_self_iff_true, implies_true, forall_const, Int.cast_ofNat_Int, Nat.reduceEqDiff, Nat.reduceAdd, Nat.reduceSub, Nat.reduceMul, Nat.reduceLT, Nat.reduceLeDiff, Int.reduceEq, Int.reduceLT, Int.reduceLE, Int.reduceAdd, Int.reduceSub, Int.reduceMul, Int.reduceToNat, Int.reduceNeg, ↓reduceIte, reduceCtorEq] at h1
    rcases Classical.em (r1.n = true) with h2 | h2
    · rw [if_pos h2] at h; have h2' := bt1 h2; replace h2 := eq_true h2
      cases h; subst hR; simp (maxDischargeDepth := 12) only [kk0, kk1, kk2, kk3, kk4, kk5, kk6, kk7, kk8, kk9, kk10, kk11, kk12, kk13, kk14, kk15, kk16, kn0, kn1, kn2, kn3, kn4, kn5, kn6, eq_self_iff_true, implies_true, forall_const, Int.cast_ofNat_Int, Nat.reduceEqDiff, Nat.reduceAdd, Nat.reduceSub, Nat.reduceMul, Nat.reduceLT, Nat.reduceLeDiff, Int.reduceEq, Int.reduceLT, Int.reduceLE, Int.reduceAdd, Int.reduceSub, Int.reduceMul, Int.reduceToNat, Int.reduceNeg, ↓reduceIte, reduceCtorEq, L_schema_Upgrade, v_schema_fields, v_slices_Contains_int_int, Ow.enc, S_api_Op.enc, S_api_Record.enc, Sl.enc, rr_schema_Upgrade, ro_schema_Upgrade, b0_schema_Upgrade, *]
    · rw [if_neg h2] at h; have h2' := bt0 h2; replace h2 := eq_false h2
      rcases h3 : slices_Contains_int_int q ⟨r1.n, r1.xs⟩ 3 with _ | r2
      · rw [h3] at h; cases h
      · rw [h3, Option.bind_some] at h
        replace h3 := run_slices_Contains_int_int q (M + 7) (by omega) _ _ _ h3
        try simp only [Ow.enc, Sl.enc, kn0, kn1, kn2, kn3, kn4, kn5, kn6, eq_self_iff_true, implies_true, forall_const, Int.cast_ofNat_Int, Nat.reduceEqDiff, Nat.reduceAdd, Nat.reduceSub, Nat.reduceMul, Nat.reduceLT, Nat.reduceLeDiff, Int.reduceEq, Int.reduceLT, Int.reduceLE, Int.reduceAdd, Int.reduceSub, Int.reduceMul, Int.reduceToNat, Int.reduceNeg, ↓reduceIte, reduceCtorEq] at h3
        rcases Classical.em (r2 = true) with h4 | h4
        · rw [if_pos h4] at h; have h4' := bt1 h4; replace h4 := eq_true h4
          rcases h5 : slices_Contains_int_int q ⟨r1.n, r1.xs⟩ 5 with _ | r3
          · rw [h5] at h; cases h
          · rw [h5, Option.bind_some] at h
            replace h5 := run_slices_Contains_int_int q (M + 7) (by omega) _ _ _ h5
            try simp only [Ow.enc, Sl.enc, kn0, kn1, kn2, kn3, kn4, kn5, kn6, eq_self_iff_true, implies_true, forall_const, Int.cast_ofNat_Int, Nat.reduceEqDiff, Nat.reduceAdd, Nat.reduceSub, Nat.reduceMul, Nat.reduceLT, Nat.reduceLeDiff, Int.reduceEq, Int.reduceLT, Int.reduceLE, Int.reduceAdd, Int.reduceSub, Int.reduceMul, Int.reduceToNat, Int.reduceNeg, ↓reduceIte, reduceCtorEq] at h5
            rcases Classical.em (r3 = true) with h6 | h6
            · rw [if_pos h6] at h; have h6' := bt1 h6; replace h6 := eq_true h6
              cases h; subst hR; simp (maxDischargeDepth := 12) only [kk0, kk1, kk2, kk3, kk4, kk5, kk6, kk7, kk8, kk9, kk10, kk11, kk12, kk13, kk14, kk15, kk16, kn0, kn1, kn2, kn3, kn4, kn5, kn6, eq_self_iff_true, implies_true, forall_const, Int.cast_ofNat_Int, Nat.reduceEqDiff, Nat.reduceAdd, Nat.reduceSub, Nat.reduceMul, Nat.reduceLT, Nat.reduceLeDiff, Int.reduceEq, Int.reduceLT, Int.reduceLE, Int.reduceAdd, Int.reduceSub, Int.reduceMul, Int.reduceToNat, Int.reduceNeg, ↓reduceIte, reduceCtorEq, L_schema_Upgrade, v_schema_fields, v_slices_Contains_int_int, Ow.enc, S_api_Op.enc, S_api_Record.enc, Sl.enc, rr_schema_Upgrade, ro_schema_Upgrade, b0_schema_Upgrade, *]
            · rw [if_neg h6] at h; have h6' := bt0 h6; replace h6 := eq_false h6
              cases h; subst hR; simp (maxDischargeDepth := 12) only [kk0, kk1, kk2, kk3, kk4, kk5, kk6, kk7, kk8, kk9, kk10, kk11, kk12, kk13, kk14, kk15, kk16, kn0, kn1, kn2, kn3, kn4, kn5, kn6, eq_self_iff_true, implies_true, forall_const, Int.cast_ofNat_Int, Nat.reduceEqDiff, Nat.reduceAdd, Nat.reduceSub, Nat.reduceMul, Nat.reduceLT, Nat.reduceLeDiff, Int.reduceEq, Int.reduceLT, Int.reduceLE, Int.reduceAdd, Int.reduceSub, Int.reduceMul, Int.reduceToNat, Int.reduceNeg, ↓reduceIte, reduceCtorEq, L_schema_Upgrade, v_schema_fields, v_slices_Contains_int_int, Ow.enc, S_api_Op.enc, S_api_Record.enc, Sl.enc, rr_schema_Upgrade, ro_schema_Upgrade, b0_schema_Upgrade, *]
        · rw [if_neg h4] at h; have h4' := bt0 h4; replace h4 := eq_false h4
          rcases h7 : slices_Contains_int_int q ⟨r1.n, r1.xs⟩ 5 with _ | r4
          · rw [h7] at h; cases h
          · rw [h7, Option.bind_some] at h
            replace h7 := run_slices_Contains_int_int q (M + 7) (by omega) _ _ _ h7
            try simp only [Ow.enc, Sl.enc, kn0, kn1, kn2, kn3, kn4, kn5, kn6, eq_self_iff_true, implies_true, forall_const, Int.cast_ofNat_Int, Nat.reduceEqDiff, Nat.reduceAdd, Nat.reduceSub, Nat.reduceMul, Nat.reduceLT, Nat.reduceLeDiff, Int.reduceEq, Int.reduceLT, Int.reduceLE, Int.reduceAdd, Int.reduceSub, Int.reduceMul, Int.reduceToNat, Int.reduceNeg, ↓reduceIte, reduceCtorEq] at h7
            rcases Classical.em (r4 = true) with h8 | h8
            · rw [if_pos h8] at h; have h8' := bt1 h8; replace h8 := eq_true h8
              cases h; subst hR; simp (maxDischargeDepth := 12) only [kk0, kk1, kk2, kk3, kk4, kk5, kk6, kk7, kk8, kk9, kk10, kk11, kk12, kk13, kk14, kk15, kk16, kn0, kn1, kn2, kn3, kn4, kn5, kn6, eq_self_iff_true, implies_true, forall_const, Int.cast_ofNat_Int, Nat.reduceEqDiff, Nat.reduceAdd, Nat.reduceSub, Nat.reduceMul, Nat.reduceLT, Nat.reduceLeDiff, Int.reduceEq, Int.reduceLT, Int.reduceLE, Int.reduceAdd, Int.reduceSub, Int.reduceMul, Int.reduceToNat, Int.reduceNeg, ↓reduceIte, reduceCtorEq, L_schema_Upgrade, v_schema_fields, v_slices_Contains_int_int, Ow.enc, S_api_Op.enc, S_api_Record.enc, Sl.enc, rr_schema_Upgrade, ro_schema_Upgrade, b0_schema_Upgrade, *]
            · rw [if_neg h8] at h; have h8' := bt0 h8; replace h8 := eq_false h8
              cases h; subst hR; simp (maxDischargeDepth := 12) only [kk0, kk1, kk2, kk3, kk4, kk5, kk6, kk7, kk8, kk9, kk10, kk11, kk12, kk13, kk14, kk15, kk16, kn0, kn1, kn2, kn3, kn4, kn5, kn6, eq_self_iff_true, implies_true, forall_const, Int.cast_ofNat_Int, Nat.reduceEqDiff, Nat.reduceAdd, Nat.reduceSub, Nat.reduceMul, Nat.reduceLT, Nat.reduceLeDiff, Int.reduceEq, Int.reduceLT, Int.reduceLE, Int.reduceAdd, Int.reduceSub, Int.reduceMul, Int.reduceToNat, Int.reduceNeg, ↓reduceIte, reduceCtorEq, L_schema_Upgrade, v_schema_fields, v_slices_Contains_int_int, Ow.enc, S_api_Op.enc, S_api_Record.enc, Sl.enc, rr_schema_Upgrade, ro_schema_Upgrade, b0_schema_Upgrade, *]
theorem run_ferrymanref06_Upgrade : ∀ (q N : Nat), 8 * q ≤ N → ∀ (a0 : Int) (a1 : S_api_Record), ∀ (r : S_api_Record × Int), ferrymanref06_Upgrade q a0 a1 = some r → (orc T N).deep F.ferrymanref06_Upgrade [(V.int .i64) a0, S_api_Record.enc a1] = some [S_api_Record.enc r.1, (V.int .i64) r.2] := by
  intro q N hM a0 a1 r h
  rcases q with _ | q
  · cases h
  obtain ⟨M, rfl⟩ : ∃ M, N = M + 8 := ⟨N - 8, by omega⟩
  generalize hR : some [S_api_Record.enc r.1, (V.int .i64) r.2] = R
  rw [orc_deep, T_ferrymanref06_Upgrade, Option.bind_some, runDeep_eq]
  rw [ferrymanref06_Upgrade] at h
  rcases Classical.em (a0 < 1) with h1 | h1
  · rw [if_pos h1] at h; replace h1 := eq_true h1
    cases h; subst hR; simp (maxDischargeDepth := 12) only [kk0, kk1, kk2, kk3, kk4, kk5, kk6, kk7, kk8, kk9, kk10, kk11, kk12, kk13, kk14, kk15, kk16, kn0, kn1, kn2, kn3, kn4, kn5, kn6, eq_self_iff_true, implies_true, forall_const, Int.cast_ofNat_Int, Nat.reduceEqDiff, Nat.reduceAdd, Nat.reduceSub, Nat.reduceMul, Nat.reduceLT, Nat.reduceLeDiff, Int.reduceEq, Int.reduceLT, Int.reduceLE, Int.reduceAdd, Int.reduceSub, Int.reduceMul, Int.reduceToNat, Int.reduceNeg, ↓reduceIte, reduceCtorEq, L_ferrymanref06_Upgrade, Ow.enc, S_api_Op.enc, S_api_Record.enc, Sl.enc, rr_ferrymanref06_Upgrade, ro_ferrymanref06_Upgrade, b0_ferrymanref06_Upgrade, *]
  · rw [if_neg h1] at h; replace h1 := eq_false h1
    rcases Classical.em (3 < a0) with h2 | h2
    · rw [if_pos h2] at h; replace h2 := eq_true h2
      cases h; subst hR; simp (maxDischargeDepth := 12) only [kk0, kk1, kk2, kk3, kk4, kk5, kk6, kk7, kk8, kk9, kk10, kk11, kk12, kk13, kk14, kk15, kk16, kn0, kn1, kn2, kn3, kn4, kn5, kn6, eq_self_iff_true, implies_true, forall_const, Int.cast_ofNat_Int, Nat.reduceEqDiff, Nat.reduceAdd, Nat.reduceSub, Nat.reduceMul, Nat.reduceLT, Nat.reduceLeDiff, Int.reduceEq, Int.reduceLT, Int.reduceLE, Int.reduceAdd, Int.reduceSub, Int.reduceMul, Int.reduceToNat, Int.reduceNeg, ↓reduceIte, reduceCtorEq, L_ferrymanref06_Upgrade, Ow.enc, S_api_Op.enc, S_api_Record.enc, Sl.enc, rr_ferrymanref06_Upgrade, ro_ferrymanref06_Upgrade, b0_ferrymanref06_Upgrade, *]
    · rw [if_neg h2] at h; replace h2 := eq_false h2
      rcases Classical.em (a0 < 2) with h3 | h3
      · rw [if_pos h3] at h; replace h3 := eq_true h3
        rcases Classical.em (a0 < 3) with h4 | h4
        · rw [if_pos h4] at h; replace h4 := eq_true h4
          cases h; subst hR; simp (maxDischargeDepth := 12) only [kk0, kk1, kk2, kk3, kk4, kk5, kk6, kk7, kk8, kk9, kk10, kk11, kk12, kk13, kk14, kk15, kk16, kn0, kn1, kn2, kn3, kn4, kn5, kn6, eq_self_iff_true, implies_true, forall_const, Int.cast_ofNat_Int, Nat.reduceEqDiff, Nat.reduceAdd, Nat.reduceSub, Nat.reduceMul, Nat.reduceLT, Nat.reduceLeDiff, Int.reduceEq, Int.reduceLT, Int.reduceLE, Int.reduceAdd, Int.reduceSub, Int.reduceMul, Int.reduceToNat, Int.reduceNeg, ↓reduceIte, reduceCtorEq, L_ferrymanref06_Upgrade, Ow.enc, S_api_Op.enc, S_api_Record.enc, Sl.enc, rr_ferrymanref06_Upgrade, ro_ferrymanref06_Upgrade, b0_ferrymanref06_Upgrade, *]
        · rw [if_neg h4] at h; replace h4 := eq_false h4
          cases h; subst hR; simp (maxDischargeDepth := 12) only [kk0, kk1, kk2, kk3, kk4, kk5, kk6, kk7, kk8, kk9, kk10, kk11, kk12, kk13, kk14, kk15, kk16, kn0, kn1, kn2, kn3, kn4, kn5, kn6, eq_self_iff_true, implies_true, forall_const, Int.cast_ofNat_Int, Nat.reduceEqDiff, Nat.reduceAdd, Nat.reduceSub, Nat.reduceMul, Nat.reduceLT, Nat.reduceLeDiff, Int.reduceEq, Int.reduceLT, Int.reduceLE, Int.reduceAdd, Int.reduceSub, Int.reduceMul, Int.reduceToNat, Int.reduceNeg, ↓reduceIte, reduceCtorEq, L_ferrymanref06_Upgrade, Ow.enc, S_api_Op.enc, S_api_Record.enc, Sl.enc, rr_ferrymanref06_Upgrade, ro_ferrymanref06_Upgrade, b0_ferrymanref06_Upgrade, *]
      · rw [if_neg h3] at h; replace h3 := eq_false h3
        rcases Classical.em (a0 < 3) with h5 | h5
        · rw [if_pos h5] at h; replace h5 := eq_true h5
          cases h; subst hR; simp (maxDischargeDepth := 12) only [kk0, kk1, kk2, kk3, kk4, kk5, kk6, kk7, kk8, kk9, kk10, kk11, kk12, kk13, kk14, kk15, kk16, kn0, kn1, kn2, kn3, kn4, kn5, kn6, eq_self_iff_true, implies_true, forall_const, Int.cast_ofNat_Int, Nat.reduceEqDiff, Nat.reduceAdd, Nat.reduceSub, Nat.reduceMul, Nat.reduceLT, Nat.reduceLeDiff, Int.reduceEq, Int.reduceLT, Int.reduceLE, Int.reduceAdd, Int.reduceSub, Int.reduceMul, Int.reduceToNat, Int.reduceNeg, ↓reduceIte, reduceCtorEq, L_ferrymanref06_Upgrade, Ow.enc, S_api_Op.enc, S_api_Record.enc, Sl.enc, rr_ferrymanref06_Upgrade, ro_ferrymanref06_Upgrade, b0_ferrymanref06_Upgrade, *]
        · rw [if_neg h5] at h; replace h5 := eq_false h5
          cases h; subst hR; simp (maxDischargeDepth := 12) only [kk0, kk1, kk2, kk3, kk4, kk5, kk6, kk7, kk8, kk9, kk10, kk11, kk12, kk13, kk14, kk15, kk16, kn0, kn1, kn2, kn3, kn4, kn5, kn6, eq_self_iff_true, implies_true, forall_const, Int.cast_ofNat_Int, Nat.reduceEqDiff, Nat.reduceAdd, Nat.reduceSub, Nat.reduceMul, Nat.reduceLT, Nat.reduceLeDiff, Int.reduceEq, Int.reduceLT, Int.reduceLE, Int.reduceAdd, Int.reduceSub, Int.reduceMul, Int.reduceToNat, Int.reduceNeg, ↓reduceIte, reduceCtorEq, L_ferrymanref06_Upgrade, Ow.enc, S_api_Op.enc, S_api_Record.enc, Sl.enc, rr_ferrymanref06_Upgrade, ro_ferrymanref06_Upgrade, b0_ferrymanref06_Upgrade, *]
theorem run_ferrymanlaw06_SchemaEncodes : ∀ (q N : Nat), 8 * q ≤ N → ∀ (a0 : Int) (a1 : S_api_Record), ∀ (r : Bool), ferrymanlaw06_SchemaEncodes q a0 a1 = some r → (orc T N).deep F.ferrymanlaw06_SchemaEncodes [(V.int .i64) a0, S_api_Record.enc a1] = some [V.bool r] := by
  intro q N hM a0 a1 r h
  rcases q with _ | q
  · cases h
  obtain ⟨M, rfl⟩ : ∃ M, N = M + 8 := ⟨N - 8, by omega⟩
  generalize hR : some [V.bool r] = R
  rw [orc_deep, T_ferrymanlaw06_SchemaEncodes, Option.bind_some, runDeep_eq]
  rw [ferrymanlaw06_SchemaEncodes] at h
  rcases h1 : ferrymanlaw06_awake q with _ | r1
  · rw [h1] at h; cases h
  · rw [h1, Option.bind_some] at h
    replace h1 := run_ferrymanlaw06_awake q (M + 7) (by omega)  _ h1
    skip
    rcases h2 : schema_Encode q a0 a1 with _ | r2
    · rw [h2] at h; cases h
    · rw [h2, Option.bind_some] at h
      replace h2 := run_schema_Encode q (M + 7) (by omega) _ _ _ h2
      try simp only [Ow.enc, S_api_Op.enc, S_api_Record.enc, kn0, kn1, kn2, kn3, kn4, kn5, kn6, eq_self_iff_true, implies_true, forall_const, Int.cast_ofNat_Int, Nat.reduceEqDiff, Nat.reduceAdd, Nat.reduceSub, Nat.reduceMul, Nat.reduceLT, Nat.reduceLeDiff, Int.reduceEq, Int.reduceLT, Int.reduceLE, Int.reduceAdd, Int.reduceSub, Int.reduceMul, Int.reduceToNat, Int.reduceNeg, ↓reduceIte, reduceCtorEq] at h2
      rcases h3 : ferrymanref06_Encode q a0 a1 with _ | r3
      · rw [h3] at h; cases h
      · rw [h3, Option.bind_some] at h
        replace h3 := run_ferrymanref06_Encode q (M + 7) (by omega) _ _ _ h3
        try simp only [Ow.enc, S_api_Op.enc, S_api_Record.enc, kn0, kn1, kn2, kn3, kn4, kn5, kn6, eq_self_iff_true, implies_true, forall_const, Int.cast_ofNat_Int, Nat.reduceEqDiff, Nat.reduceAdd, Nat.reduceSub, Nat.reduceMul, Nat.reduceLT, Nat.reduceLeDiff, Int.reduceEq, Int.reduceLT, Int.reduceLE, Int.reduceAdd, Int.reduceSub, Int.reduceMul, Int.reduceToNat, Int.reduceNeg, ↓reduceIte, reduceCtorEq] at h3
        rcases h4 : schema_Upgrade q a0 a1 with _ | r4
        · rw [h4] at h; cases h
        · rw [h4, Option.bind_some] at h
          replace h4 := run_schema_Upgrade q (M + 7) (by omega) _ _ _ h4
          try simp only [Ow.enc, S_api_Op.enc, S_api_Record.enc, kn0, kn1, kn2, kn3, kn4, kn5, kn6, eq_self_iff_true, implies_true, forall_const, Int.cast_ofNat_Int, Nat.reduceEqDiff, Nat.reduceAdd, Nat.reduceSub, Nat.reduceMul, Nat.reduceLT, Nat.reduceLeDiff, Int.reduceEq, Int.reduceLT, Int.reduceLE, Int.reduceAdd, Int.reduceSub, Int.reduceMul, Int.reduceToNat, Int.reduceNeg, ↓reduceIte, reduceCtorEq] at h4
          rcases h5 : ferrymanref06_Upgrade q a0 a1 with _ | r5
          · rw [h5] at h; cases h
          · rw [h5, Option.bind_some] at h
            replace h5 := run_ferrymanref06_Upgrade q (M + 7) (by omega) _ _ _ h5
            try simp only [Ow.enc, S_api_Op.enc, S_api_Record.enc, kn0, kn1, kn2, kn3, kn4, kn5, kn6, eq_self_iff_true, implies_true, forall_const, Int.cast_ofNat_Int, Nat.reduceEqDiff, Nat.reduceAdd, Nat.reduceSub, Nat.reduceMul, Nat.reduceLT, Nat.reduceLeDiff, Int.reduceEq, Int.reduceLT, Int.reduceLE, Int.reduceAdd, Int.reduceSub, Int.reduceMul, Int.reduceToNat, Int.reduceNeg, ↓reduceIte, reduceCtorEq] at h5
            rcases Classical.em (r1 = true) with h6 | h6
            · rw [if_pos h6] at h; have h6' := bt1 h6; replace h6 := eq_true h6
              rcases Classical.em (r2.1.xs = r3.1.xs) with h7 | h7
              · rw [if_pos h7] at h; replace h7 := eq_true h7
                rcases Classical.em (r2.2 = r3.2) with h8 | h8
                · rw [if_pos h8] at h; replace h8 := eq_true h8
                  rcases Classical.em (r4.1.Index = r5.1.Index) with h9 | h9
                  · rw [if_pos h9] at h; replace h9 := eq_true h9
                    rcases Classical.em (r4.1.Proc = r5.1.Proc) with h10 | h10
                    · rw [if_pos h10] at h; replace h10 := eq_true h10
                      rcases Classical.em (r4.1.Seq = r5.1.Seq) with h11 | h11
                      · rw [if_pos h11] at h; replace h11 := eq_true h11
                        rcases Classical.em (r4.1.Op.Code = r5.1.Op.Code) with h12 | h12
                        · rw [if_pos h12] at h; replace h12 := eq_true h12
                          rcases Classical.em (r4.1.Op.A = r5.1.Op.A) with h13 | h13
                          · rw [if_pos h13] at h; replace h13 := eq_true h13
                            rcases Classical.em (r4.1.Op.B = r5.1.Op.B) with h14 | h14
                            · rw [if_pos h14] at h; replace h14 := eq_true h14
                              rcases Classical.em (r4.1.Resp = r5.1.Resp) with h15 | h15
                              · rw [if_pos h15] at h; replace h15 := eq_true h15
                                rcases Classical.em (r4.2 = r5.2) with h16 | h16
                                · rw [if_pos h16] at h; replace h16 := eq_true h16
                                  rcases h17 : schema_Fits q a1 with _ | r6
                                  · rw [h17] at h; cases h
                                  · rw [h17, Option.bind_some] at h
                                    replace h17 := run_schema_Fits q (M + 7) (by omega) _ _ h17
                                    try simp only [Ow.enc, S_api_Op.enc, S_api_Record.enc, kn0, kn1, kn2, kn3, kn4, kn5, kn6, eq_self_iff_true, implies_true, forall_const, Int.cast_ofNat_Int, Nat.reduceEqDiff, Nat.reduceAdd, Nat.reduceSub, Nat.reduceMul, Nat.reduceLT, Nat.reduceLeDiff, Int.reduceEq, Int.reduceLT, Int.reduceLE, Int.reduceAdd, Int.reduceSub, Int.reduceMul, Int.reduceToNat, Int.reduceNeg, ↓reduceIte, reduceCtorEq] at h17
                                    rcases h18 : ferrymanref06_Fits q a1 with _ | r7
                                    · rw [h18] at h; cases h
                                    · rw [h18, Option.bind_some] at h
                                      replace h18 := run_ferrymanref06_Fits q (M + 7) (by omega) _ _ h18
                                      try simp only [Ow.enc, S_api_Op.enc, S_api_Record.enc, kn0, kn1, kn2, kn3, kn4, kn5, kn6, eq_self_iff_true, implies_true, forall_const, Int.cast_ofNat_Int, Nat.reduceEqDiff, Nat.reduceAdd, Nat.reduceSub, Nat.reduceMul, Nat.reduceLT, Nat.reduceLeDiff, Int.reduceEq, Int.reduceLT, Int.reduceLE, Int.reduceAdd, Int.reduceSub, Int.reduceMul, Int.reduceToNat, Int.reduceNeg, ↓reduceIte, reduceCtorEq] at h18
                                      cases h; subst hR; simp (maxDischargeDepth := 12) only [kk0, kk1, kk2, kk3, kk4, kk5, kk6, kk7, kk8, kk9, kk10, kk11, kk12, kk13, kk14, kk15, kk16, kn0, kn1, kn2, kn3, kn4, kn5, kn6, eq_self_iff_true, implies_true, forall_const, Int.cast_ofNat_Int, Nat.reduceEqDiff, Nat.reduceAdd, Nat.reduceSub, Nat.reduceMul, Nat.reduceLT, Nat.reduceLeDiff, Int.reduceEq, Int.reduceLT, Int.reduceLE, Int.reduceAdd, Int.reduceSub, Int.reduceMul, Int.reduceToNat, Int.reduceNeg, ↓reduceIte, reduceCtorEq, L_ferrymanlaw06_SchemaEncodes, v_ferrymanlaw06_awake, v_schema_Encode, v_ferrymanref06_Encode, v_schema_Upgrade, v_ferrymanref06_Upgrade, v_schema_Fits, v_ferrymanref06_Fits, Ow.enc, S_api_Op.enc, S_api_Record.enc, Sl.enc, rr_ferrymanlaw06_SchemaEncodes, ro_ferrymanlaw06_SchemaEncodes, b0_ferrymanlaw06_SchemaEncodes, *]
                                · rw [if_neg h16] at h; replace h16 := eq_false h16
                                  cases h; subst hR; simp (maxDischargeDepth := 12) only [kk0, kk1, kk2, kk3, kk4, kk5, kk6, kk7, kk8, kk9, kk10, kk11, kk12, kk13, kk14, kk15, kk16, kn0, kn1, kn2, kn3, kn4, kn5, kn6, eq_self_iff_true, implies_true, forall_const, Int.cast_ofNat_Int, Nat.reduceEqDiff, Nat.reduceAdd, Nat.reduceSub, Nat.reduceMul, Nat.reduceLT, Nat.reduceLeDiff, Int.reduceEq, Int.reduceLT, Int.reduceLE, Int.reduceAdd, Int.reduceSub, Int.reduceMul, Int.reduceToNat, Int.reduceNeg, ↓reduceIte, reduceCtorEq, L_ferrymanlaw06_SchemaEncodes, v_ferrymanlaw06_awake, v_schema_Encode, v_ferrymanref06_Encode, v_schema_Upgrade, v_ferrymanref06_Upgrade, v_schema_Fits, v_ferrymanref06_Fits, Ow.enc, S_api_Op.enc, S_api_Record.enc, Sl.enc, rr_ferrymanlaw06_SchemaEncodes, ro_ferrymanlaw06_SchemaEncodes, b0_ferrymanlaw06_SchemaEncodes, *]
                              · rw [if_neg h15] at h; replace h15 := eq_false h15
                                cases h; subst hR; simp (maxDischargeDepth := 12) only [kk0, kk1, kk2, kk3, kk4, kk5, kk6, kk7, kk8, kk9, kk10, kk11, kk12, kk13, kk14, kk15, kk16, kn0, kn1, kn2, kn3, kn4, kn5, kn6, eq_self_iff_true, implies_true, forall_const, Int.cast_ofNat_Int, Nat.reduceEqDiff, Nat.reduceAdd, Nat.reduceSub, Nat.reduceMul, Nat.reduceLT, Nat.reduceLeDiff, Int.reduceEq, Int.reduceLT, Int.reduceLE, Int.reduceAdd, Int.reduceSub, Int.reduceMul, Int.reduceToNat, Int.reduceNeg, ↓reduceIte, reduceCtorEq, L_ferrymanlaw06_SchemaEncodes, v_ferrymanlaw06_awake, v_schema_Encode, v_ferrymanref06_Encode, v_schema_Upgrade, v_ferrymanref06_Upgrade, v_schema_Fits, v_ferrymanref06_Fits, Ow.enc, S_api_Op.enc, S_api_Record.enc, Sl.enc, rr_ferrymanlaw06_SchemaEncodes, ro_ferrymanlaw06_SchemaEncodes, b0_ferrymanlaw06_SchemaEncodes, *]
                            · rw [if_neg h14] at h; replace h14 := eq_false h14
                              cases h; subst hR; simp (maxDischargeDepth := 12) only [kk0, kk1, kk2, kk3, kk4, kk5, kk6, kk7, kk8, kk9, kk10, kk11, kk12, kk13, kk14, kk15, kk16, kn0, kn1, kn2, kn3, kn4, kn5, kn6, eq_self_iff_true, implies_true, forall_const, Int.cast_ofNat_Int, Nat.reduceEqDiff, Nat.reduceAdd, Nat.reduceSub, Nat.reduceMul, Nat.reduceLT, Nat.reduceLeDiff, Int.reduceEq, Int.reduceLT, Int.reduceLE, Int.reduceAdd, Int.reduceSub, Int.reduceMul, Int.reduceToNat, Int.reduceNeg, ↓reduceIte, reduceCtorEq, L_ferrymanlaw06_SchemaEncodes, v_ferrymanlaw06_awake, v_schema_Encode, v_ferrymanref06_Encode, v_schema_Upgrade, v_ferrymanref06_Upgrade, v_schema_Fits, v_ferrymanref06_Fits, Ow.enc, S_api_Op.enc, S_api_Record.enc, Sl.enc, rr_ferrymanlaw06_SchemaEncodes, ro_ferrymanlaw06_SchemaEncodes, b0_ferrymanlaw06_SchemaEncodes, *]
                          · rw [if_neg h13] at h; replace h13 := eq_false h13
                            cases h; subst hR; simp (maxDischargeDepth := 12) only [kk0, kk1, kk2, kk3, kk4, kk5, kk6, kk7, kk8, kk9, kk10, kk11, kk12, kk13, kk14, kk15, kk16, kn0, kn1, kn2, kn3, kn4, kn5, kn6, eq_self_iff_true, implies_true, forall_const, Int.cast_ofNat_Int, Nat.reduceEqDiff, Nat.reduceAdd, Nat.reduceSub, Nat.reduceMul, Nat.reduceLT, Nat.reduceLeDiff, Int.reduceEq, Int.reduceLT, Int.reduceLE, Int.reduceAdd, Int.reduceSub, Int.reduceMul, Int.reduceToNat, Int.reduceNeg, ↓reduceIte, reduceCtorEq, L_ferrymanlaw06_SchemaEncodes, v_ferrymanlaw06_awake, v_schema_Encode, v_ferrymanref06_Encode, v_schema_Upgrade, v_ferrymanref06_Upgrade, v_schema_Fits, v_ferrymanref06_Fits, Ow.enc, S_api_Op.enc, S_api_Record.enc, Sl.enc, rr_ferrymanlaw06_SchemaEncodes, ro_ferrymanlaw06_SchemaEncodes, b0_ferrymanlaw06_SchemaEncodes, *]
                        · rw [if_neg h12] at h; replace h12 := eq_false h12
                          cases h; subst hR; simp (maxDischargeDepth := 12) only [kk0, kk1, kk2, kk3, kk4, kk5, kk6, kk7, kk8, kk9, kk10, kk11, kk12, kk13, kk14, kk15, kk16, kn0, kn1, kn2, kn3, kn4, kn5, kn6, eq_self_iff_true, implies_true, forall_const, Int.cast_ofNat_Int, Nat.reduceEqDiff, Nat.reduceAdd, Nat.reduceSub, Nat.reduceMul, Nat.reduceLT, Nat.reduceLeDiff, Int.reduceEq, Int.reduceLT, Int.reduceLE, Int.reduceAdd, Int.reduceSub, Int.reduceMul, Int.reduceToNat, Int.reduceNeg, ↓reduceIte, reduceCtorEq, L_ferrymanlaw06_SchemaEncodes, v_ferrymanlaw06_awake, v_schema_Encode, v_ferrymanref06_Encode, v_schema_Upgrade, v_ferrymanref06_Upgrade, v_schema_Fits, v_ferrymanref06_Fits, Ow.enc, S_api_Op.enc, S_api_Record.enc, Sl.enc, rr_ferrymanlaw06_SchemaEncodes, ro_ferrymanlaw06_SchemaEncodes, b0_ferrymanlaw06_SchemaEncodes, *]
                      · rw [if_neg h11] at h; replace h11 := eq_false h11
                        cases h; subst hR; simp (maxDischargeDepth := 12) only [kk0, kk1, kk2, kk3, kk4, kk5, kk6, kk7, kk8, kk9, kk10, kk11, kk12, kk13, kk14, kk15, kk16, kn0, kn1, kn2, kn3, kn4, kn5, kn6, eq_self_iff_true, implies_true, forall_const, Int.cast_ofNat_Int, Nat.reduceEqDiff, Nat.reduceAdd, Nat.reduceSub, Nat.reduceMul, Nat.reduceLT, Nat.reduceLeDiff, Int.reduceEq, Int.reduceLT, Int.reduceLE, Int.reduceAdd, Int.reduceSub, Int.reduceMul, Int.reduceToNat, Int.reduceNeg, ↓reduceIte, reduceCtorEq, L_ferrymanlaw06_SchemaEncodes, v_ferrymanlaw06_awake, v_schema_Encode, v_ferrymanref06_Encode, v_schema_Upgrade, v_ferrymanref06_Upgrade, v_schema_Fits, v_ferrymanref06_Fits, Ow.enc, S_api_Op.enc, S_api_Record.enc, Sl.enc, rr_ferrymanlaw06_SchemaEncodes, ro_ferrymanlaw06_SchemaEncodes, b0_ferrymanlaw06_SchemaEncodes, *]
                    · rw [if_neg h10] at h; replace h10 := eq_false h10
                      cases h; subst hR; simp (maxDischargeDepth := 12) only [kk0, kk1, kk2, kk3, kk4, kk5, kk6, kk7, kk8, kk9, kk10, kk11, kk12, kk13, kk14, kk15, kk16, kn0, kn1, kn2, kn3, kn4, kn5, kn6, eq_self_iff_true, implies_true, forall_const, Int.cast_ofNat_Int, Nat.reduceEqDiff, Nat.reduceAdd, Nat.reduceSub, Nat.reduceMul, Nat.reduceLT, Nat.reduceLeDiff, Int.reduceEq, Int.reduceLT, Int.reduceLE, Int.reduceAdd, Int.reduceSub, Int.reduceMul, Int.reduceToNat, Int.reduceNeg, ↓reduceIte, reduceCtorEq, L_ferrymanlaw06_SchemaEncodes, v_ferrymanlaw06_awake, v_schema_Encode, v_ferrymanref06_Encode, v_schema_Upgrade, v_ferrymanref06_Upgrade, v_schema_Fits, v_ferrymanref06_Fits, Ow.enc, S_api_Op.enc, S_api_Record.enc, Sl.enc, rr_ferrymanlaw06_SchemaEncodes, ro_ferrymanlaw06_SchemaEncodes, b0_ferrymanlaw06_SchemaEncodes, *]
                  · rw [if_neg h9] at h; replace h9 := eq_false h9
                    cases h; subst hR; simp (maxDischargeDepth := 12) only [kk0, kk1, kk2, kk3, kk4, kk5, kk6, kk7, kk8, kk9, kk10, kk11, kk12, kk13, kk14, kk15, kk16, kn0, kn1, kn2, kn3, kn4, kn5, kn6, eq_self_iff_true, implies_true, forall_const, Int.cast_ofNat_Int, Nat.reduceEqDiff, Nat.reduceAdd, Nat.reduceSub, Nat.reduceMul, Nat.reduceLT, Nat.reduceLeDiff, Int.reduceEq, Int.reduceLT, Int.reduceLE, Int.reduceAdd, Int.reduceSub, Int.reduceMul, Int.reduceToNat, Int.reduceNeg, ↓reduceIte, reduceCtorEq, L_ferrymanlaw06_SchemaEncodes, v_ferrymanlaw06_awake, v_schema_Encode, v_ferrymanref06_Encode, v_schema_Upgrade, v_ferrymanref06_Upgrade, v_schema_Fits, v_ferrymanref06_Fits, Ow.enc, S_api_Op.enc, S_api_Record.enc, Sl.enc, rr_ferrymanlaw06_SchemaEncodes, ro_ferrymanlaw06_SchemaEncodes, b0_ferrymanlaw06_SchemaEncodes, *]
                · rw [if_neg h8] at h; replace h8 := eq_false h8
                  cases h; subst hR; simp (maxDischargeDepth := 12) only [kk0, kk1, kk2, kk3, kk4, kk5, kk6, kk7, kk8, kk9, kk10, kk11, kk12, kk13, kk14, kk15, kk16, kn0, kn1, kn2, kn3, kn4, kn5, kn6, eq_self_iff_true, implies_true, forall_const, Int.cast_ofNat_Int, Nat.reduceEqDiff, Nat.reduceAdd, Nat.reduceSub, Nat.reduceMul, Nat.reduceLT, Nat.reduceLeDiff, Int.reduceEq, Int.reduceLT, Int.reduceLE, Int.reduceAdd, Int.reduceSub, Int.reduceMul, Int.reduceToNat, Int.reduceNeg, ↓reduceIte, reduceCtorEq, L_ferrymanlaw06_SchemaEncodes, v_ferrymanlaw06_awake, v_schema_Encode, v_ferrymanref06_Encode, v_schema_Upgrade, v_ferrymanref06_Upgrade, v_schema_Fits, v_ferrymanref06_Fits, Ow.enc, S_api_Op.enc, S_api_Record.enc, Sl.enc, rr_ferrymanlaw06_SchemaEncodes, ro_ferrymanlaw06_SchemaEncodes, b0_ferrymanlaw06_SchemaEncodes, *]
              · rw [if_neg h7] at h; replace h7 := eq_false h7
                cases h; subst hR; simp (maxDischargeDepth := 12) only [kk0, kk1, kk2, kk3, kk4, kk5, kk6, kk7, kk8, kk9, kk10, kk11, kk12, kk13, kk14, kk15, kk16, kn0, kn1, kn2, kn3, kn4, kn5, kn6, eq_self_iff_true, implies_true, forall_const, Int.cast_ofNat_Int, Nat.reduceEqDiff, Nat.reduceAdd, Nat.reduceSub, Nat.reduceMul, Nat.reduceLT, Nat.reduceLeDiff, Int.reduceEq, Int.reduceLT, Int.reduceLE, Int.reduceAdd, Int.reduceSub, Int.reduceMul, Int.reduceToNat, Int.reduceNeg, ↓reduceIte, reduceCtorEq, L_ferrymanlaw06_SchemaEncodes, v_ferrymanlaw06_awake, v_schema_Encode, v_ferrymanref06_Encode, v_schema_Upgrade, v_ferrymanref06_Upgrade, v_schema_Fits, v_ferrymanref06_Fits, Ow.enc, S_api_Op.enc, S_api_Record.enc, Sl.enc, rr_ferrymanlaw06_SchemaEncodes, ro_ferrymanlaw06_SchemaEncodes, b0_ferrymanlaw06_SchemaEncodes, *]
            · rw [if_neg h6] at h; have h6' := bt0 h6; replace h6 := eq_false h6
              cases h; subst hR; simp (maxDischargeDepth := 12) only [kk0, kk1, kk2, kk3, kk4, kk5, kk6, kk7, kk8, kk9, kk10, kk11, kk12, kk13, kk14, kk15, kk16, kn0, kn1, kn2, kn3, kn4, kn5, kn6, eq_self_iff_true, implies_true, forall_const, Int.cast_ofNat_Int, Nat.reduceEqDiff, Nat.reduceAdd, Nat.reduceSub, Nat.reduceMul, Nat.reduceLT, Nat.reduceLeDiff, Int.reduceEq, Int.reduceLT, Int.reduceLE, Int.reduceAdd, Int.reduceSub, Int.reduceMul, Int.reduceToNat, Int.reduceNeg, ↓reduceIte, reduceCtorEq, L_ferrymanlaw06_SchemaEncodes, v_ferrymanlaw06_awake, v_schema_Encode, v_ferrymanref06_Encode, v_schema_Upgrade, v_ferrymanref06_Upgrade, v_schema_Fits, v_ferrymanref06_Fits, Ow.enc, S_api_Op.enc, S_api_Record.enc, Sl.enc, rr_ferrymanlaw06_SchemaEncodes, ro_ferrymanlaw06_SchemaEncodes, b0_ferrymanlaw06_SchemaEncodes, *]
end Go.Dvm.C
