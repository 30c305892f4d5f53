/- The machine comes to these answers: part 1. -/
import Derived.Test.YtnmceljcgioomaaQl0
set_option linter.all false
set_option maxRecDepth 100000
set_option maxHeartbeats 4000000
namespace Go.Dvm.C
open Go Go.Dvm Go.Dvm.I
theorem run_schema_fields : ∀ (q N : Nat), 8 * q ≤ N → ∀ (a0 : Int), ∀ (r : (Ow Int)), schema_fields q a0 = some r → (orc T N).deep F.schema_fields [(V.int .i64) a0] = some [(Ow.enc 1 (V.int .i64)) r] := by
  intro q N hM a0 r h
  rcases q with _ | q
  · cases h
  obtain ⟨M, rfl⟩ : ∃ M, N = M + 8 := ⟨N - 8, by omega⟩
  generalize hR : some [(Ow.enc 1 (V.int .i64)) r] = R
  rw [orc_deep, T_schema_fields, Option.bind_some, runDeep_eq]
  rw [schema_fields] at h
  rcases Classical.em (a0 < 1) with h1 | h1
  · rw [if_pos h1] at h; replace h1 := eq_true h1
    cases h; subst hR; simp (maxDischargeDepth := 12) only [kk0, kk1, kk2, kk3, kk4, kk5, kk6, kk7, kk8, kk9, kk10, kk11, kk12, kk13, kk14, kk15, kk16, kn0, kn1, kn2, kn3, kn4, kn5, kn6, eq_self_iff_true, implies_true, forall_const, Int.cast_ofNat_Int, Nat.reduceEqDiff, Nat.reduceAdd, Nat.reduceSub, Nat.reduceMul, Nat.reduceLT, Nat.reduceLeDiff, Int.reduceEq, Int.reduceLT, Int.reduceLE, Int.reduceAdd, Int.reduceSub, Int.reduceMul, Int.reduceToNat, Int.reduceNeg, ↓reduceIte, reduceCtorEq, L_schema_fields, Ow.enc, Sl.enc, rr_schema_fields, ro_schema_fields, b0_schema_fields, *]
  · rw [if_neg h1] at h; replace h1 := eq_false h1
    rcases Classical.em (4 ≤ a0) with h2 | h2
    · rw [if_pos h2] at h; replace h2 := eq_true h2
      cases h; subst hR; simp (maxDischargeDepth := 12) only [kk0, kk1, kk2, kk3, kk4, kk5, kk6, kk7, kk8, kk9, kk10, kk11, kk12, kk13, kk14, kk15, kk16, kn0, kn1, kn2, kn3, kn4, kn5, kn6, eq_self_iff_true, implies_true, forall_const, Int.cast_ofNat_Int, Nat.reduceEqDiff, Nat.reduceAdd, Nat.reduceSub, Nat.reduceMul, Nat.reduceLT, Nat.reduceLeDiff, Int.reduceEq, Int.reduceLT, Int.reduceLE, Int.reduceAdd, Int.reduceSub, Int.reduceMul, Int.reduceToNat, Int.reduceNeg, ↓reduceIte, reduceCtorEq, L_schema_fields, Ow.enc, Sl.enc, rr_schema_fields, ro_schema_fields, b0_schema_fields, *]
    · rw [if_neg h2] at h; replace h2 := eq_false h2
      rcases Classical.em (0 ≤ a0) with h3 | h3
      · rw [if_pos h3] at h; replace h3 := eq_true h3
        rcases Classical.em (a0.toNat < 4) with h4 | h4
        · rw [if_pos h4] at h; replace h4 := eq_true h4
          rcases Classical.em (a0.toNat = 0) with h5 | h5
          · rw [if_pos h5] at h
            cases h; subst hR; simp (maxDischargeDepth := 12) only [kk0, kk1, kk2, kk3, kk4, kk5, kk6, kk7, kk8, kk9, kk10, kk11, kk12, kk13, kk14, kk15, kk16, kn0, kn1, kn2, kn3, kn4, kn5, kn6, eq_self_iff_true, implies_true, forall_const, Int.cast_ofNat_Int, Nat.reduceEqDiff, Nat.reduceAdd, Nat.reduceSub, Nat.reduceMul, Nat.reduceLT, Nat.reduceLeDiff, Int.reduceEq, Int.reduceLT, Int.reduceLE, Int.reduceAdd, Int.reduceSub, Int.reduceMul, Int.reduceToNat, Int.reduceNeg, ↓reduceIte, reduceCtorEq, L_schema_fields, Ow.enc, Sl.enc, rr_schema_fields, ro_schema_fields, b0_schema_fields, *]
          · rw [if_neg h5] at h; replace h5 := eq_false h5
            rcases Classical.em (a0.toNat = 1) with h6 | h6
            · rw [if_pos h6] at h
              cases h; subst hR; simp (maxDischargeDepth := 12) only [kk0, kk1, kk2, kk3, kk4, kk5, kk6, kk7, kk8, kk9, kk10, kk11, kk12, kk13, kk14, kk15, kk16, kn0, kn1, kn2, kn3, kn4, kn5, kn6, eq_self_iff_true, implies_true, forall_const, Int.cast_ofNat_Int, Nat.reduceEqDiff, Nat.reduceAdd, Nat.reduceSub, Nat.reduceMul, Nat.reduceLT, Nat.reduceLeDiff, Int.reduceEq, Int.reduceLT, Int.reduceLE, Int.reduceAdd, Int.reduceSub, Int.reduceMul, Int.reduceToNat, Int.reduceNeg, ↓reduceIte, reduceCtorEq, L_schema_fields, Ow.enc, Sl.enc, rr_schema_fields, ro_schema_fields, b0_schema_fields, *]
            · rw [if_neg h6] at h; replace h6 := eq_false h6
              rcases Classical.em (a0.toNat = 2) with h7 | h7
              · rw [if_pos h7] at h
                cases h; subst hR; simp (maxDischargeDepth := 12) only [kk0, kk1, kk2, kk3, kk4, kk5, kk6, kk7, kk8, kk9, kk10, kk11, kk12, kk13, kk14, kk15, kk16, kn0, kn1, kn2, kn3, kn4, kn5, kn6, eq_self_iff_true, implies_true, forall_const, Int.cast_ofNat_Int, Nat.reduceEqDiff, Nat.reduceAdd, Nat.reduceSub, Nat.reduceMul, Nat.reduceLT, Nat.reduceLeDiff, Int.reduceEq, Int.reduceLT, Int.reduceLE, Int.reduceAdd, Int.reduceSub, Int.reduceMul, Int.reduceToNat, Int.reduceNeg, ↓reduceIte, reduceCtorEq, L_schema_fields, Ow.enc, Sl.enc, rr_schema_fields, ro_schema_fields, b0_schema_fields, *]
              · rw [if_neg h7] at h; replace h7 := eq_false h7
                rcases Classical.em (a0.toNat = 3) with h8 | h8
                · rw [if_pos h8] at h
                  cases h; subst hR; simp (maxDischargeDepth := 12) only [kk0, kk1, kk2, kk3, kk4, kk5, kk6, kk7, kk8, kk9, kk10, kk11, kk12, kk13, kk14, kk15, kk16, kn0, kn1, kn2, kn3, kn4, kn5, kn6, eq_self_iff_true, implies_true, forall_const, Int.cast_ofNat_Int, Nat.reduceEqDiff, Nat.reduceAdd, Nat.reduceSub, Nat.reduceMul, Nat.reduceLT, Nat.reduceLeDiff, Int.reduceEq, Int.reduceLT, Int.reduceLE, Int.reduceAdd, Int.reduceSub, Int.reduceMul, Int.reduceToNat, Int.reduceNeg, ↓reduceIte, reduceCtorEq, L_schema_fields, Ow.enc, Sl.enc, rr_schema_fields, ro_schema_fields, b0_schema_fields, *]
                · rw [if_neg h8] at h; replace h8 := eq_false h8
                  cases h
        · rw [if_neg h4] at h; replace h4 := eq_false h4
          cases h
      · rw [if_neg h3] at h; replace h3 := eq_false h3
        cases h
theorem run_objs_cut : ∀ (q N : Nat), 8 * q ≤ N → ∀ (a0 : Int), ∀ (r : Int), objs_cut q a0 = some r → (orc T N).deep F.objs_cut [(V.int .i64) a0] = some [(V.int .i64) r] := by
  intro q N hM a0 r h
  rcases q with _ | q
  · cases h
  obtain ⟨M, rfl⟩ : ∃ M, N = M + 8 := ⟨N - 8, by omega⟩
  generalize hR : some [(V.int .i64) r] = R
  rw [orc_deep, T_objs_cut, Option.bind_some, runDeep_eq]
  rw [objs_cut] at h
  cases h; subst hR; simp (maxDischargeDepth := 12) only [kk0, kk1, kk2, kk3, kk4, kk5, kk6, kk7, kk8, kk9, kk10, kk11, kk12, kk13, kk14, kk15, kk16, kn0, kn1, kn2, kn3, kn4, kn5, kn6, eq_self_iff_true, implies_true, forall_const, Int.cast_ofNat_Int, Nat.reduceEqDiff, Nat.reduceAdd, Nat.reduceSub, Nat.reduceMul, Nat.reduceLT, Nat.reduceLeDiff, Int.reduceEq, Int.reduceLT, Int.reduceLE, Int.reduceAdd, Int.reduceSub, Int.reduceMul, Int.reduceToNat, Int.reduceNeg, ↓reduceIte, reduceCtorEq, L_objs_cut, Ow.enc, Sl.enc, rr_objs_cut, ro_objs_cut, b0_objs_cut, *]
theorem run_objs_Fits : ∀ (q N : Nat), 8 * q ≤ N → ∀ (a0 : S_api_Op), ∀ (r : Bool), objs_Fits q a0 = some r → (orc T N).deep F.objs_Fits [S_api_Op.enc a0] = some [V.bool r] := by
  intro q N hM a0 r h
  rcases q with _ | q
  · cases h
  obtain ⟨M, rfl⟩ : ∃ M, N = M + 8 := ⟨N - 8, by omega⟩
  generalize hR : some [V.bool r] = R
  rw [orc_deep, T_objs_Fits, Option.bind_some, runDeep_eq]
  rw [objs_Fits] at h
  rcases Classical.em (0 ≤ a0.Code) with h1 | h1
  · rw [if_pos h1] at h; replace h1 := eq_true h1
    rcases Classical.em (a0.Code ≤ 10) with h2 | h2
    · rw [if_pos h2] at h; replace h2 := eq_true h2
      rcases h3 : objs_cut q a0.A with _ | r1
      · rw [h3] at h; cases h
      · rw [h3, Option.bind_some] at h
        replace h3 := run_objs_cut q (M + 7) (by omega) _ _ h3
        skip
        rcases Classical.em (a0.A = r1) with h4 | h4
        · rw [if_pos h4] at h; replace h4 := eq_true h4
          rcases h5 : objs_cut q a0.B with _ | r2
          · rw [h5] at h; cases h
          · rw [h5, Option.bind_some] at h
            replace h5 := run_objs_cut q (M + 7) (by omega) _ _ h5
            skip
            cases h; subst hR; simp (maxDischargeDepth := 12) only [kk0, kk1, kk2, kk3, kk4, kk5, kk6, kk7, kk8, kk9, kk10, kk11, kk12, kk13, kk14, kk15, kk16, kn0, kn1, kn2, kn3, kn4, kn5, kn6, eq_self_iff_true, implies_true, forall_const, Int.cast_ofNat_Int, Nat.reduceEqDiff, Nat.reduceAdd, Nat.reduceSub, Nat.reduceMul, Nat.reduceLT, Nat.reduceLeDiff, Int.reduceEq, Int.reduceLT, Int.reduceLE, Int.reduceAdd, Int.reduceSub, Int.reduceMul, Int.reduceToNat, Int.reduceNeg, ↓reduceIte, reduceCtorEq, L_objs_Fits, v_objs_cut, Ow.enc, S_api_Op.enc, Sl.enc, rr_objs_Fits, ro_objs_Fits, b0_objs_Fits, *]
        · rw [if_neg h4] at h; replace h4 := eq_false h4
          cases h; subst hR; simp (maxDischargeDepth := 12) only [kk0, kk1, kk2, kk3, kk4, kk5, kk6, kk7, kk8, kk9, kk10, kk11, kk12, kk13, kk14, kk15, kk16, kn0, kn1, kn2, kn3, kn4, kn5, kn6, eq_self_iff_true, implies_true, forall_const, Int.cast_ofNat_Int, Nat.reduceEqDiff, Nat.reduceAdd, Nat.reduceSub, Nat.reduceMul, Nat.reduceLT, Nat.reduceLeDiff, Int.reduceEq, Int.reduceLT, Int.reduceLE, Int.reduceAdd, Int.reduceSub, Int.reduceMul, Int.reduceToNat, Int.reduceNeg, ↓reduceIte, reduceCtorEq, L_objs_Fits, v_objs_cut, Ow.enc, S_api_Op.enc, Sl.enc, rr_objs_Fits, ro_objs_Fits, b0_objs_Fits, *]
    · rw [if_neg h2] at h; replace h2 := eq_false h2
      cases h; subst hR; simp (maxDischargeDepth := 12) only [kk0, kk1, kk2, kk3, kk4, kk5, kk6, kk7, kk8, kk9, kk10, kk11, kk12, kk13, kk14, kk15, kk16, kn0, kn1, kn2, kn3, kn4, kn5, kn6, eq_self_iff_true, implies_true, forall_const, Int.cast_ofNat_Int, Nat.reduceEqDiff, Nat.reduceAdd, Nat.reduceSub, Nat.reduceMul, Nat.reduceLT, Nat.reduceLeDiff, Int.reduceEq, Int.reduceLT, Int.reduceLE, Int.reduceAdd, Int.reduceSub, Int.reduceMul, Int.reduceToNat, Int.reduceNeg, ↓reduceIte, reduceCtorEq, L_objs_Fits, v_objs_cut, Ow.enc, S_api_Op.enc, Sl.enc, rr_objs_Fits, ro_objs_Fits, b0_objs_Fits, *]
  · rw [if_neg h1] at h; replace h1 := eq_false h1
    cases h; subst hR; simp (maxDischargeDepth := 12) only [kk0, kk1, kk2, kk3, kk4, kk5, kk6, kk7, kk8, kk9, kk10, kk11, kk12, kk13, kk14, kk15, kk16, kn0, kn1, kn2, kn3, kn4, kn5, kn6, eq_self_iff_true, implies_true, forall_const, Int.cast_ofNat_Int, Nat.reduceEqDiff, Nat.reduceAdd, Nat.reduceSub, Nat.reduceMul, Nat.reduceLT, Nat.reduceLeDiff, Int.reduceEq, Int.reduceLT, Int.reduceLE, Int.reduceAdd, Int.reduceSub, Int.reduceMul, Int.reduceToNat, Int.reduceNeg, ↓reduceIte, reduceCtorEq, L_objs_Fits, v_objs_cut, Ow.enc, S_api_Op.enc, Sl.enc, rr_objs_Fits, ro_objs_Fits, b0_objs_Fits, *]
theorem run_schema_Fits : ∀ (q N : Nat), 8 * q ≤ N → ∀ (a0 : S_api_Record), ∀ (r : Bool), schema_Fits q a0 = some r → (orc T N).deep F.schema_Fits [S_api_Record.enc a0] = some [V.bool r] := by
  intro q N hM a0 r h
  rcases q with _ | q
  · cases h
  obtain ⟨M, rfl⟩ : ∃ M, N = M + 8 := ⟨N - 8, by omega⟩
  generalize hR : some [V.bool r] = R
  rw [orc_deep, T_schema_Fits, Option.bind_some, runDeep_eq]
  rw [schema_Fits] at h
  rcases Classical.em (0 ≤ a0.Index) with h1 | h1
  · rw [if_pos h1] at h; replace h1 := eq_true h1
    rcases Classical.em (a0.Index < 4611686018427387904) with h2 | h2
    · rw [if_pos h2] at h; replace h2 := eq_true h2
      rcases Classical.em (0 ≤ a0.Proc) with h3 | h3
      · rw [if_pos h3] at h; replace h3 := eq_true h3
        rcases Classical.em (a0.Proc ≤ 64) with h4 | h4
        · rw [if_pos h4] at h; replace h4 := eq_true h4
          rcases Classical.em (0 ≤ a0.Seq) with h5 | h5
          · rw [if_pos h5] at h; replace h5 := eq_true h5
            rcases Classical.em (a0.Seq < 4611686018427387904) with h6 | h6
            · rw [if_pos h6] at h; replace h6 := eq_true h6
              rcases h7 : objs_Fits q a0.Op with _ | r1
              · rw [h7] at h; cases h
              · rw [h7, Option.bind_some] at h
                replace h7 := run_objs_Fits q (M + 7) (by omega) _ _ h7
                try simp only [Ow.enc, S_api_Op.enc, kn0, kn1, kn2, kn3, kn4, kn5, kn6, eq_self_iff_true, implies_true, forall_const, Int.cast_ofNat_Int, Nat.reduceEqDiff, Nat.reduceAdd, Nat.reduceSub, Nat.reduceMul, Nat.reduceLT, Nat.reduceLeDiff, Int.reduceEq, Int.reduceLT, Int.reduceLE, Int.reduceAdd, Int.reduceSub, Int.reduceMul, Int.reduceToNat, Int.reduceNeg, ↓reduceIte, reduceCtorEq] at h7
                rcases Classical.em (r1 = true) with h8 | h8
                · rw [if_pos h8] at h; have h8' := bt1 h8; replace h8 := eq_true h8
                  rcases Classical.em ((-1125899906842624) ≤ a0.Resp) with h9 | h9
                  · rw [if_pos h9] at h; replace h9 := eq_true h9
                    cases h; subst hR; simp (maxDischargeDepth := 12) only [kk0, kk1, kk2, kk3, kk4, kk5, kk6, kk7, kk8, kk9, kk10, kk11, kk12, kk13, kk14, kk15, kk16, kn0, kn1, kn2, kn3, kn4, kn5, kn6, eq_self_iff_true, implies_true, forall_const, Int.cast_ofNat_Int, Nat.reduceEqDiff, Nat.reduceAdd, Nat.reduceSub, Nat.reduceMul, Nat.reduceLT, Nat.reduceLeDiff, Int.reduceEq, Int.reduceLT, Int.reduceLE, Int.reduceAdd, Int.reduceSub, Int.reduceMul, Int.reduceToNat, Int.reduceNeg, ↓reduceIte, reduceCtorEq, L_schema_Fits, v_objs_Fits, Ow.enc, S_api_Op.enc, S_api_Record.enc, Sl.enc, rr_schema_Fits, ro_schema_Fits, b0_schema_Fits, *]
                  · rw [if_neg h9] at h; replace h9 := eq_false h9
                    cases h; subst hR; simp (maxDischargeDepth := 12) only [kk0, kk1, kk2, kk3, kk4, kk5, kk6, kk7, kk8, kk9, kk10, kk11, kk12, kk13, kk14, kk15, kk16, kn0, kn1, kn2, kn3, kn4, kn5, kn6, eq_self_iff_true, implies_true, forall_const, Int.cast_ofNat_Int, Nat.reduceEqDiff, Nat.reduceAdd, Nat.reduceSub, Nat.reduceMul, Nat.reduceLT, Nat.reduceLeDiff, Int.reduceEq, Int.reduceLT, Int.reduceLE, Int.reduceAdd, Int.reduceSub, Int.reduceMul, Int.reduceToNat, Int.reduceNeg, ↓reduceIte, reduceCtorEq, L_schema_Fits, v_objs_Fits, Ow.enc, S_api_Op.enc, S_api_Record.enc, Sl.enc, rr_schema_Fits, ro_schema_Fits, b0_schema_Fits, *]
                · rw [if_neg h8] at h; have h8' := bt0 h8; replace h8 := eq_false h8
                  cases h; subst hR; simp (maxDischargeDepth := 12) only [kk0, kk1, kk2, kk3, kk4, kk5, kk6, kk7, kk8, kk9, kk10, kk11, kk12, kk13, kk14, kk15, kk16, kn0, kn1, kn2, kn3, kn4, kn5, kn6, eq_self_iff_true, implies_true, forall_const, Int.cast_ofNat_Int, Nat.reduceEqDiff, Nat.reduceAdd, Nat.reduceSub, Nat.reduceMul, Nat.reduceLT, Nat.reduceLeDiff, Int.reduceEq, Int.reduceLT, Int.reduceLE, Int.reduceAdd, Int.reduceSub, Int.reduceMul, Int.reduceToNat, Int.reduceNeg, ↓reduceIte, reduceCtorEq, L_schema_Fits, v_objs_Fits, Ow.enc, S_api_Op.enc, S_api_Record.enc, Sl.enc, rr_schema_Fits, ro_schema_Fits, b0_schema_Fits, *]
            · rw [if_neg h6] at h; replace h6 := eq_false h6
              cases h; subst hR; simp (maxDischargeDepth := 12) only [kk0, kk1, kk2, kk3, kk4, kk5, kk6, kk7, kk8, kk9, kk10, kk11, kk12, kk13, kk14, kk15, kk16, kn0, kn1, kn2, kn3, kn4, kn5, kn6, eq_self_iff_true, implies_true, forall_const, Int.cast_ofNat_Int, Nat.reduceEqDiff, Nat.reduceAdd, Nat.reduceSub, Nat.reduceMul, Nat.reduceLT, Nat.reduceLeDiff, Int.reduceEq, Int.reduceLT, Int.reduceLE, Int.reduceAdd, Int.reduceSub, Int.reduceMul, Int.reduceToNat, Int.reduceNeg, ↓reduceIte, reduceCtorEq, L_schema_Fits, v_objs_Fits, Ow.enc, S_api_Op.enc, S_api_Record.enc, Sl.enc, rr_schema_Fits, ro_schema_Fits, b0_schema_Fits, *]
          · rw [if_neg h5] at h; replace h5 := eq_false h5
            cases h; subst hR; simp (maxDischargeDepth := 12) only [kk0, kk1, kk2, kk3, kk4, kk5, kk6, kk7, kk8, kk9, kk10, kk11, kk12, kk13, kk14, kk15, kk16, kn0, kn1, kn2, kn3, kn4, kn5, kn6, eq_self_iff_true, implies_true, forall_const, Int.cast_ofNat_Int, Nat.reduceEqDiff, Nat.reduceAdd, Nat.reduceSub, Nat.reduceMul, Nat.reduceLT, Nat.reduceLeDiff, Int.reduceEq, Int.reduceLT, Int.reduceLE, Int.reduceAdd, Int.reduceSub, Int.reduceMul, Int.reduceToNat, Int.reduceNeg, ↓reduceIte, reduceCtorEq, L_schema_Fits, v_objs_Fits, Ow.enc, S_api_Op.enc, S_api_Record.enc, Sl.enc, rr_schema_Fits, ro_schema_Fits, b0_schema_Fits, *]
        · rw [if_neg h4] at h; replace h4 := eq_false h4
          cases h; subst hR; simp (maxDischargeDepth := 12) only [kk0, kk1, kk2, kk3, kk4, kk5, kk6, kk7, kk8, kk9, kk10, kk11, kk12, kk13, kk14, kk15, kk16, kn0, kn1, kn2, kn3, kn4, kn5, kn6, eq_self_iff_true, implies_true, forall_const, Int.cast_ofNat_Int, Nat.reduceEqDiff, Nat.reduceAdd, Nat.reduceSub, Nat.reduceMul, Nat.reduceLT, Nat.reduceLeDiff, Int.reduceEq, Int.reduceLT, Int.reduceLE, Int.reduceAdd, Int.reduceSub, Int.reduceMul, Int.reduceToNat, Int.reduceNeg, ↓reduceIte, reduceCtorEq, L_schema_Fits, v_objs_Fits, Ow.enc, S_api_Op.enc, S_api_Record.enc, Sl.enc, rr_schema_Fits, ro_schema_Fits, b0_schema_Fits, *]
      · rw [if_neg h3] at h; replace h3 := eq_false h3
        cases h; subst hR; simp (maxDischargeDepth := 12) only [kk0, kk1, kk2, kk3, kk4, kk5, kk6, kk7, kk8, kk9, kk10, kk11, kk12, kk13, kk14, kk15, kk16, kn0, kn1, kn2, kn3, kn4, kn5, kn6, eq_self_iff_true, implies_true, forall_const, Int.cast_ofNat_Int, Nat.reduceEqDiff, Nat.reduceAdd, Nat.reduceSub, Nat.reduceMul, Nat.reduceLT, Nat.reduceLeDiff, Int.reduceEq, Int.reduceLT, Int.reduceLE, Int.reduceAdd, Int.reduceSub, Int.reduceMul, Int.reduceToNat, Int.reduceNeg, ↓reduceIte, reduceCtorEq, L_schema_Fits, v_objs_Fits, Ow.enc, S_api_Op.enc, S_api_Record.enc, Sl.enc, rr_schema_Fits, ro_schema_Fits, b0_schema_Fits, *]
    · rw [if_neg h2] at h; replace h2 := eq_false h2
      cases h; subst hR; simp (maxDischargeDepth := 12) only [kk0, kk1, kk2, kk3, kk4, kk5, kk6, kk7, kk8, kk9, kk10, kk11, kk12, kk13, kk14, kk15, kk16, kn0, kn1, kn2, kn3, kn4, kn5, kn6, eq_self_iff_true, implies_true, forall_const, Int.cast_ofNat_Int, Nat.reduceEqDiff, Nat.reduceAdd, Nat.reduceSub, Nat.reduceMul, Nat.reduceLT, Nat.reduceLeDiff, Int.reduceEq, Int.reduceLT, Int.reduceLE, Int.reduceAdd, Int.reduceSub, Int.reduceMul, Int.reduceToNat, Int.reduceNeg, ↓reduceIte, reduceCtorEq, L_schema_Fits, v_objs_Fits, Ow.enc, S_api_Op.enc, S_api_Record.enc, Sl.enc, rr_schema_Fits, ro_schema_Fits, b0_schema_Fits, *]
  · rw [if_neg h1] at h; replace h1 := eq_false h1
    cases h; subst hR; simp (maxDischargeDepth := 12) only [kk0, kk1, kk2, kk3, kk4, kk5, kk6, kk7, kk8, kk9, kk10, kk11, kk12, kk13, kk14, kk15, kk16, kn0, kn1, kn2, kn3, kn4, kn5, kn6, eq_self_iff_true, implies_true, forall_const, Int.cast_ofNat_Int, Nat.reduceEqDiff, Nat.reduceAdd, Nat.reduceSub, Nat.reduceMul, Nat.reduceLT, Nat.reduceLeDiff, Int.reduceEq, Int.reduceLT, Int.reduceLE, Int.reduceAdd, Int.reduceSub, Int.reduceMul, Int.reduceToNat, Int.reduceNeg, ↓reduceIte, reduceCtorEq, L_schema_Fits, v_objs_Fits, Ow.enc, S_api_Op.enc, S_api_Record.enc, Sl.enc, rr_schema_Fits, ro_schema_Fits, b0_schema_Fits, *]
def St_num_groups_l0 (q : Nat) : Prop := ∀ (M : Nat) (hM : 8 * q ≤ M) (j : Nat) (hj : q ≤ j) (w0 : Nat) (v1 : Int) (h0z : Bool) (h0l : List Int) (h0x : Bool) (r : (Ow Int)) (_ : num_groups_l0 q v1 h0z h0l h0x = some r) (R : Option (List V)) (_ : some [(Ow.enc 1 (V.int .u8)) r] = R) (fr : Fr) (H : Hp) (_ : canon 1 [0, 1] fr H = ([(0, (.vw 0 w0 0 h0l.length 1)), (1, (.int .u64 v1))], [(.row w0 h0z 1 (List.map (V.int .u8) h0l) h0x)])), fin m_num_groups (unw T (orc T (M + 7)) (M + 7) 1 [.blk 0, .code c_num_groups_10] (iter 1 [0, 1] (exec T (orc T (M + 7)) (M + 7) 1 c_num_groups_8) j fr H)) = R
theorem step_num_groups_l0 (q : Nat) (ih_num_groups_l0 : St_num_groups_l0 q) : St_num_groups_l0 (q + 1) := by
  intro M hM j hj w0 v1 h0z h0l h0x r h R hR fr H hc
  obtain ⟨j, rfl⟩ : ∃ i, j = i + 1 := ⟨j - 1, by omega⟩
  rw [unw_iter, hc]; clear hc
  rw [num_groups_l0] at h
  rcases Classical.em (128 ≤ v1) with h1 | h1
  · rw [if_pos h1] at h; replace h1 := eq_true h1
    rcases Classical.em ((h0l.length + 1) ≤ 4294967296) with h2 | h2
    · rw [if_pos h2] at h; replace h2 := eq_true h2
      try simp only [kn0, kn1, kn2, kn3, kn4, kn5, kn6, eq_self_iff_true, implies_true, forall_const, Int.cast_ofNat_Int, Nat.reduceEqDiff, Nat.reduceAdd, Nat.reduceSub, Nat.reduceMul, Nat.reduceLT, Nat.reduceLeDiff, Int.reduceEq, Int.reduceLT, Int.reduceLE, Int.reduceAdd, Int.reduceSub, Int.reduceMul, Int.reduceToNat, Int.reduceNeg, ↓reduceIte, reduceCtorEq] at h2
      replace h := ih_num_groups_l0 M (by omega) j (by omega) (w0 + 1) _ _ _ _ _ h R hR
      simp (maxDischargeDepth := 12) only [kk0, kk1, kk2, kk3, kk4, kk5, kk6, kk7, kk8, kk9, kk10, kk11, kk12, kk13, kk14, kk15, kk16, kn0, kn1, kn2, kn3, kn4, kn5, kn6, eq_self_iff_true, implies_true, forall_const, Int.cast_ofNat_Int, Nat.reduceEqDiff, Nat.reduceAdd, Nat.reduceSub, Nat.reduceMul, Nat.reduceLT, Nat.reduceLeDiff, Int.reduceEq, Int.reduceLT, Int.reduceLE, Int.reduceAdd, Int.reduceSub, Int.reduceMul, Int.reduceToNat, Int.reduceNeg, ↓reduceIte, reduceCtorEq, L_num_groups, Ow.enc, Sl.enc, rr_num_groups, ro_num_groups, b0_num_groups, *]
    · rw [if_neg h2] at h; replace h2 := eq_false h2
      try simp only [kn0, kn1, kn2, kn3, kn4, kn5, kn6, eq_self_iff_true, implies_true, forall_const, Int.cast_ofNat_Int, Nat.reduceEqDiff, Nat.reduceAdd, Nat.reduceSub, Nat.reduceMul, Nat.reduceLT, Nat.reduceLeDiff, Int.reduceEq, Int.reduceLT, Int.reduceLE, Int.reduceAdd, Int.reduceSub, Int.reduceMul, Int.reduceToNat, Int.reduceNeg, ↓reduceIte, reduceCtorEq] at h2
      cases h
  · rw [if_neg h1] at h; replace h1 := eq_false h1
    rcases Classical.em ((h0l.length + 1) ≤ 4294967296) with h3 | h3
    · rw [if_pos h3] at h; replace h3 := eq_true h3
      try simp only [kn0, kn1, kn2, kn3, kn4, kn5, kn6, eq_self_iff_true, implies_true, forall_const, Int.cast_ofNat_Int, Nat.reduceEqDiff, Nat.reduceAdd, Nat.reduceSub, Nat.reduceMul, Nat.reduceLT, Nat.reduceLeDiff, Int.reduceEq, Int.reduceLT, Int.reduceLE, Int.reduceAdd, Int.reduceSub, Int.reduceMul, Int.reduceToNat, Int.reduceNeg, ↓reduceIte, reduceCtorEq] at h3
      cases h; subst hR; simp (maxDischargeDepth := 12) only [kk0, kk1, kk2, kk3, kk4, kk5, kk6, kk7, kk8, kk9, kk10, kk11, kk12, kk13, kk14, kk15, kk16, kn0, kn1, kn2, kn3, kn4, kn5, kn6, eq_self_iff_true, implies_true, forall_const, Int.cast_ofNat_Int, Nat.reduceEqDiff, Nat.reduceAdd, Nat.reduceSub, Nat.reduceMul, Nat.reduceLT, Nat.reduceLeDiff, Int.reduceEq, Int.reduceLT, Int.reduceLE, Int.reduceAdd, Int.reduceSub, Int.reduceMul, Int.reduceToNat, Int.reduceNeg, ↓reduceIte, reduceCtorEq, L_num_groups, Ow.enc, Sl.enc, rr_num_groups, ro_num_groups, b0_num_groups, *]
    · rw [if_neg h3] at h; replace h3 := eq_false h3
      try simp only [kn0, kn1, kn2, kn3, kn4, kn5, kn6, eq_self_iff_true, implies_true, forall_const, Int.cast_ofNat_Int, Nat.reduceEqDiff, Nat.reduceAdd, Nat.reduceSub, Nat.reduceMul, Nat.reduceLT, Nat.reduceLeDiff, Int.reduceEq, Int.reduceLT, Int.reduceLE, Int.reduceAdd, Int.reduceSub, Int.reduceMul, Int.reduceToNat, Int.reduceNeg, ↓reduceIte, reduceCtorEq] at h3
      cases h
theorem all_num_groups : ∀ q, St_num_groups_l0 q
  | 0 => by intro M hM j hj; intros; rename_i h _ _ _ _ _; cases h
  | q + 1 => by have i0 := all_num_groups q; exact step_num_groups_l0 q i0
theorem run_num_groups : ∀ (q N : Nat), 8 * q ≤ N → ∀ (a0 : (Ow Int)) (a1 : Int), ∀ (r : (Ow Int)), num_groups q a0 a1 = some r → (orc T N).deep F.num_groups [(Ow.enc 1 (V.int .u8)) a0, (V.int .u64) a1] = some [(Ow.enc 1 (V.int .u8)) r] := by
  intro q N hM a0 a1 r h
  rcases q with _ | q
  · cases h
  obtain ⟨M, rfl⟩ : ∃ M, N = M + 8 := ⟨N - 8, by omega⟩
  have ih_num_groups_l0 := (all_num_groups q)
  generalize hR : some [(Ow.enc 1 (V.int .u8)) r] = R
  rw [orc_deep, T_num_groups, Option.bind_some, runDeep_eq]
  rw [num_groups] at h
  replace h := ih_num_groups_l0 M (by omega) (M + 7) (by omega) 0 _ _ _ _ _ h R hR
  simp (maxDischargeDepth := 12) only [kk0, kk1, kk2, kk3, kk4, kk5, kk6, kk7, kk8, kk9, kk10, kk11, kk12, kk13, kk14, kk15, kk16, kn0, kn1, kn2, kn3, kn4, kn5, kn6, eq_self_iff_true, implies_true, forall_const, Int.cast_ofNat_Int, Nat.reduceEqDiff, Nat.reduceAdd, Nat.reduceSub, Nat.reduceMul, Nat.reduceLT, Nat.reduceLeDiff, Int.reduceEq, Int.reduceLT, Int.reduceLE, Int.reduceAdd, Int.reduceSub, Int.reduceMul, Int.reduceToNat, Int.reduceNeg, ↓reduceIte, reduceCtorEq, L_num_groups, Ow.enc, Sl.enc, rr_num_groups, ro_num_groups, b0_num_groups, *]
theorem run_num_Put : ∀ (q N : Nat), 8 * q ≤ N → ∀ (a0 : (Ow Int)) (a1 : Int), ∀ (r : (Ow Int)), num_Put q a0 a1 = some r → (orc T N).deep F.num_Put [(Ow.enc 1 (V.int .u8)) a0, (V.int .i64) a1] = some [(Ow.enc 1 (V.int .u8)) r] := by
  intro q N hM a0 a1 r h
  rcases q with _ | q
  · cases h
  obtain ⟨M, rfl⟩ : ∃ M, N = M + 8 := ⟨N - 8, by omega⟩
  generalize hR : some [(Ow.enc 1 (V.int .u8)) r] = R
  rw [orc_deep, T_num_Put, Option.bind_some, runDeep_eq]
  rw [num_Put] at h
  rcases Classical.em (a1 < 0) with h1 | h1
  · rw [if_pos h1] at h; replace h1 := eq_true h1
    cases h; subst hR; simp (maxDischargeDepth := 12) only [kk0, kk1, kk2, kk3, kk4, kk5, kk6, kk7, kk8, kk9, kk10, kk11, kk12, kk13, kk14, kk15, kk16, kn0, kn1, kn2, kn3, kn4, kn5, kn6, eq_self_iff_true, implies_true, forall_const, Int.cast_ofNat_Int, Nat.reduceEqDiff, Nat.reduceAdd, Nat.reduceSub, Nat.reduceMul, Nat.reduceLT, Nat.reduceLeDiff, Int.reduceEq, Int.reduceLT, Int.reduceLE, Int.reduceAdd, Int.reduceSub, Int.reduceMul, Int.reduceToNat, Int.reduceNeg, ↓reduceIte, reduceCtorEq, L_num_Put, v_num_groups, Ow.enc, Sl.enc, rr_num_Put, ro_num_Put, b0_num_Put, *]
  · rw [if_neg h1] at h; replace h1 := eq_false h1
    rcases Classical.em (4611686018427387904 ≤ a1) with h2 | h2
    · rw [if_pos h2] at h; replace h2 := eq_true h2
      cases h; subst hR; simp (maxDischargeDepth := 12) only [kk0, kk1, kk2, kk3, kk4, kk5, kk6, kk7, kk8, kk9, kk10, kk11, kk12, kk13, kk14, kk15, kk16, kn0, kn1, kn2, kn3, kn4, kn5, kn6, eq_self_iff_true, implies_true, forall_const, Int.cast_ofNat_Int, Nat.reduceEqDiff, Nat.reduceAdd, Nat.reduceSub, Nat.reduceMul, Nat.reduceLT, Nat.reduceLeDiff, Int.reduceEq, Int.reduceLT, Int.reduceLE, Int.reduceAdd, Int.reduceSub, Int.reduceMul, Int.reduceToNat, Int.reduceNeg, ↓reduceIte, reduceCtorEq, L_num_Put, v_num_groups, Ow.enc, Sl.enc, rr_num_Put, ro_num_Put, b0_num_Put, *]
    · rw [if_neg h2] at h; replace h2 := eq_false h2
      rcases h3 : num_groups q a0 (wrp .u64 a1) with _ | r1
      · rw [h3] at h; cases h
      · rw [h3, Option.bind_some] at h
        replace h3 := run_num_groups q (M + 7) (by omega) _ _ _ h3
        try simp only [Ow.enc, Sl.enc, kn0, kn1, kn2, kn3, kn4, kn5, kn6, eq_self_iff_true, implies_true, forall_const, Int.cast_ofNat_Int, Nat.reduceEqDiff, Nat.reduceAdd, Nat.reduceSub, Nat.reduceMul, Nat.reduceLT, Nat.reduceLeDiff, Int.reduceEq, Int.reduceLT, Int.reduceLE, Int.reduceAdd, Int.reduceSub, Int.reduceMul, Int.reduceToNat, Int.reduceNeg, ↓reduceIte, reduceCtorEq] at h3
        cases h; subst hR; simp (maxDischargeDepth := 12) only [kk0, kk1, kk2, kk3, kk4, kk5, kk6, kk7, kk8, kk9, kk10, kk11, kk12, kk13, kk14, kk15, kk16, kn0, kn1, kn2, kn3, kn4, kn5, kn6, eq_self_iff_true, implies_true, forall_const, Int.cast_ofNat_Int, Nat.reduceEqDiff, Nat.reduceAdd, Nat.reduceSub, Nat.reduceMul, Nat.reduceLT, Nat.reduceLeDiff, Int.reduceEq, Int.reduceLT, Int.reduceLE, Int.reduceAdd, Int.reduceSub, Int.reduceMul, Int.reduceToNat, Int.reduceNeg, ↓reduceIte, reduceCtorEq, L_num_Put, v_num_groups, Ow.enc, Sl.enc, rr_num_Put, ro_num_Put, b0_num_Put, *]
theorem run_num_Zig : ∀ (q N : Nat), 8 * q ≤ N → ∀ (a0 : Int), ∀ (r : Int), num_Zig q a0 = some r → (orc T N).deep F.num_Zig [(V.int .i64) a0] = some [(V.int .u64) r] := by
  intro q N hM a0 r h
  rcases q with _ | q
  · cases h
  obtain ⟨M, rfl⟩ : ∃ M, N = M + 8 := ⟨N - 8, by omega⟩
  generalize hR : some [(V.int .u64) r] = R
  rw [orc_deep, T_num_Zig, Option.bind_some, runDeep_eq]
  rw [num_Zig] at h
  cases h; subst hR; simp (maxDischargeDepth := 12) only [kk0, kk1, kk2, kk3, kk4, kk5, kk6, kk7, kk8, kk9, kk10, kk11, kk12, kk13, kk14, kk15, kk16, kn0, kn1, kn2, kn3, kn4, kn5, kn6, eq_self_iff_true, implies_true, forall_const, Int.cast_ofNat_Int, Nat.reduceEqDiff, Nat.reduceAdd, Nat.reduceSub, Nat.reduceMul, Nat.reduceLT, Nat.reduceLeDiff, Int.reduceEq, Int.reduceLT, Int.reduceLE, Int.reduceAdd, Int.reduceSub, Int.reduceMul, Int.reduceToNat, Int.reduceNeg, ↓reduceIte, reduceCtorEq, L_num_Zig, Ow.enc, Sl.enc, rr_num_Zig, ro_num_Zig, b0_num_Zig, *]
theorem run_num_PutSigned : ∀ (q N : Nat), 8 * q ≤ N → ∀ (a0 : (Ow Int)) (a1 : Int), ∀ (r : (Ow Int)), num_PutSigned q a0 a1 = some r → (orc T N).deep F.num_PutSigned [(Ow.enc 1 (V.int .u8)) a0, (V.int .i64) a1] = some [(Ow.enc 1 (V.int .u8)) r] := by
  intro q N hM a0 a1 r h
  rcases q with _ | q
  · cases h
  obtain ⟨M, rfl⟩ : ∃ M, N = M + 8 := ⟨N - 8, by omega⟩
  generalize hR : some [(Ow.enc 1 (V.int .u8)) r] = R
  rw [orc_deep, T_num_PutSigned, Option.bind_some, runDeep_eq]
  rw [num_PutSigned] at h
  rcases h1 : num_Zig q a1 with _ | r1
  · rw [h1] at h; cases h
  · rw [h1, Option.bind_some] at h
    replace h1 := run_num_Zig q (M + 7) (by omega) _ _ h1
    skip
    rcases h2 : num_groups q a0 r1 with _ | r2
    · rw [h2] at h; cases h
    · rw [h2, Option.bind_some] at h
      replace h2 := run_num_groups q (M + 7) (by omega) _ _ _ h2
      try simp only [Ow.enc, Sl.enc, kn0, kn1, kn2, kn3, kn4, kn5, kn6, eq_self_iff_true, implies_true, forall_const, Int.cast_ofNat_Int, Nat.reduceEqDiff, Nat.reduceAdd, Nat.reduceSub, Nat.reduceMul, Nat.reduceLT, Nat.reduceLeDiff, Int.reduceEq, Int.reduceLT, Int.reduceLE, Int.reduceAdd, Int.reduceSub, Int.reduceMul, Int.reduceToNat, Int.reduceNeg, ↓reduceIte, reduceCtorEq] at h2
      cases h; subst hR; simp (maxDischargeDepth := 12) only [kk0, kk1, kk2, kk3, kk4, kk5, kk6, kk7, kk8, kk9, kk10, kk11, kk12, kk13, kk14, kk15, kk16, kn0, kn1, kn2, kn3, kn4, kn5, kn6, eq_self_iff_true, implies_true, forall_const, Int.cast_ofNat_Int, Nat.reduceEqDiff, Nat.reduceAdd, Nat.reduceSub, Nat.reduceMul, Nat.reduceLT, Nat.reduceLeDiff, Int.reduceEq, Int.reduceLT, Int.reduceLE, Int.reduceAdd, Int.reduceSub, Int.reduceMul, Int.reduceToNat, Int.reduceNeg, ↓reduceIte, reduceCtorEq, L_num_PutSigned, v_num_groups, v_num_Zig, Ow.enc, Sl.enc, rr_num_PutSigned, ro_num_PutSigned, b0_num_PutSigned, *]
theorem run_codec_PutOp : ∀ (q N : Nat), 8 * q ≤ N → ∀ (a0 : (Ow Int)) (a1 : S_api_Op), ∀ (r : (Ow Int) × Int), codec_PutOp q a0 a1 = some r → (orc T N).deep F.codec_PutOp [(Ow.enc 1 (V.int .u8)) a0, S_api_Op.enc a1] = some [(Ow.enc 1 (V.int .u8)) r.1, (V.int .i64) r.2] := by
  intro q N hM a0 a1 r h
  rcases q with _ | q
  · cases h
  obtain ⟨M, rfl⟩ : ∃ M, N = M + 8 := ⟨N - 8, by omega⟩
  generalize hR : some [(Ow.enc 1 (V.int .u8)) r.1, (V.int .i64) r.2] = R
  rw [orc_deep, T_codec_PutOp, Option.bind_some, runDeep_eq]
  rw [codec_PutOp] at h
  rcases h1 : objs_Fits q a1 with _ | r1
  · rw [h1] at h; cases h
  · rw [h1, Option.bind_some] at h
    replace h1 := run_objs_Fits q (M + 7) (by omega) _ _ h1
    try simp only [Ow.enc, S_api_Op.enc, kn0, kn1, kn2, kn3, kn4, kn5, kn6, eq_self_iff_true, implies_true, forall_const, Int.cast_ofNat_Int, Nat.reduceEqDiff, Nat.reduceAdd, Nat.reduceSub, Nat.reduceMul, Nat.reduceLT, Nat.reduceLeDiff, Int.reduceEq, Int.reduceLT, Int.reduceLE, Int.reduceAdd, Int.reduceSub, Int.reduceMul, Int.reduceToNat, Int.reduceNeg, ↓reduceIte, reduceCtorEq] at h1
    rcases Classical.em (r1 = true) with h2 | h2
    · rw [if_pos h2] at h; have h2' := bt1 h2; replace h2 := eq_true h2
      rcases h3 : num_Put q a0 a1.Code with _ | r2
      · rw [h3] at h; cases h
      · rw [h3, Option.bind_some] at h
        replace h3 := run_num_Put q (M + 7) (by omega) _ _ _ h3
        try simp only [Ow.enc, Sl.enc, kn0, kn1, kn2, kn3, kn4, kn5, kn6, eq_self_iff_true, implies_true, forall_const, Int.cast_ofNat_Int, Nat.reduceEqDiff, Nat.reduceAdd, Nat.reduceSub, Nat.reduceMul, Nat.reduceLT, Nat.reduceLeDiff, Int.reduceEq, Int.reduceLT, Int.reduceLE, Int.reduceAdd, Int.reduceSub, Int.reduceMul, Int.reduceToNat, Int.reduceNeg, ↓reduceIte, reduceCtorEq] at h3
        rcases h4 : num_PutSigned q r2 a1.A with _ | r3
        · rw [h4] at h; cases h
        · rw [h4, Option.bind_some] at h
          replace h4 := run_num_PutSigned q (M + 7) (by omega) _ _ _ h4
          try simp only [Ow.enc, Sl.enc, kn0, kn1, kn2, kn3, kn4, kn5, kn6, eq_self_iff_true, implies_true, forall_const, Int.cast_ofNat_Int, Nat.reduceEqDiff, Nat.reduceAdd, Nat.reduceSub, Nat.reduceMul, Nat.reduceLT, Nat.reduceLeDiff, Int.reduceEq, Int.reduceLT, Int.reduceLE, Int.reduceAdd, Int.reduceSub, Int.reduceMul, Int.reduceToNat, Int.reduceNeg, ↓reduceIte, reduceCtorEq] at h4
          rcases h5 : num_PutSigned q r3 a1.B with _ | r4
          · rw [h5] at h; cases h
          · rw [h5, Option.bind_some] at h
            replace h5 := run_num_PutSigned q (M + 7) (by omega) _ _ _ h5
            try simp only [Ow.enc, Sl.enc, kn0, kn1, kn2, kn3, kn4, kn5, kn6, eq_self_iff_true, implies_true, forall_const, Int.cast_ofNat_Int, Nat.reduceEqDiff, Nat.reduceAdd, Nat.reduceSub, Nat.reduceMul, Nat.reduceLT, Nat.reduceLeDiff, Int.reduceEq, Int.reduceLT, Int.reduceLE, Int.reduceAdd, Int.reduceSub, Int.reduceMul, Int.reduceToNat, Int.reduceNeg, ↓reduceIte, reduceCtorEq] at h5
            cases h; subst hR; simp (maxDischargeDepth := 12) only [kk0, kk1, kk2, kk3, kk4, kk5, kk6, kk7, kk8, kk9, kk10, kk11, kk12, kk13, kk14, kk15, kk16, kn0, kn1, kn2, kn3, kn4, kn5, kn6, eq_self_iff_true, implies_true, forall_const, Int.cast_ofNat_Int, Nat.reduceEqDiff, Nat.reduceAdd, Nat.reduceSub, Nat.reduceMul, Nat.reduceLT, Nat.reduceLeDiff, Int.reduceEq, Int.reduceLT, Int.reduceLE, Int.reduceAdd, Int.reduceSub, Int.reduceMul, Int.reduceToNat, Int.reduceNeg, ↓reduceIte, reduceCtorEq, L_codec_PutOp, v_num_Put, v_objs_Fits, v_num_PutSigned, Ow.enc, S_api_Op.enc, Sl.enc, rr_codec_PutOp, ro_codec_PutOp, b0_codec_PutOp, *]
    · rw [if_neg h2] at h; have h2' := bt0 h2; replace h2 := eq_false h2
      cases h; subst hR; simp (maxDischargeDepth := 12) only [kk0, kk1, kk2, kk3, kk4, kk5, kk6, kk7, kk8, kk9, kk10, kk11, kk12, kk13, kk14, kk15, kk16, kn0, kn1, kn2, kn3, kn4, kn5, kn6, eq_self_iff_true, implies_true, forall_const, Int.cast_ofNat_Int, Nat.reduceEqDiff, Nat.reduceAdd, Nat.reduceSub, Nat.reduceMul, Nat.reduceLT, Nat.reduceLeDiff, Int.reduceEq, Int.reduceLT, Int.reduceLE, Int.reduceAdd, Int.reduceSub, Int.reduceMul, Int.reduceToNat, Int.reduceNeg, ↓reduceIte, reduceCtorEq, L_codec_PutOp, v_num_Put, v_objs_Fits, v_num_PutSigned, Ow.enc, S_api_Op.enc, Sl.enc, rr_codec_PutOp, ro_codec_PutOp, b0_codec_PutOp, *]
theorem run_schema_put : ∀ (q N : Nat), 8 * q ≤ N → ∀ (a0 : (Ow Int)) (a1 : Int) (a2 : S_api_Record), ∀ (r : (Ow Int)), schema_put q a0 a1 a2 = some r → (orc T N).deep F.schema_put [(Ow.enc 1 (V.int .u8)) a0, (V.int .i64) a1, S_api_Record.enc a2] = some [(Ow.enc 1 (V.int .u8)) r] := by
  intro q N hM a0 a1 a2 r h
  rcases q with _ | q
  · cases h
  obtain ⟨M, rfl⟩ : ∃ M, N = M + 8 := ⟨N - 8, by omega⟩
  generalize hR : some [(Ow.enc 1 (V.int .u8)) r] = R
  rw [orc_deep, T_schema_put, Option.bind_some, runDeep_eq]
  rw [schema_put] at h
  rcases h1 : num_Put q a0 a1 with _ | r1
  · rw [h1] at h; cases h
  · rw [h1, Option.bind_some] at h
    replace h1 := run_num_Put q (M + 7) (by omega) _ _ _ h1
    try simp only [Ow.enc, Sl.enc, kn0, kn1, kn2, kn3, kn4, kn5, kn6, eq_self_iff_true, implies_true, forall_const, Int.cast_ofNat_Int, Nat.reduceEqDiff, Nat.reduceAdd, Nat.reduceSub, Nat.reduceMul, Nat.reduceLT, Nat.reduceLeDiff, Int.reduceEq, Int.reduceLT, Int.reduceLE, Int.reduceAdd, Int.reduceSub, Int.reduceMul, Int.reduceToNat, Int.reduceNeg, ↓reduceIte, reduceCtorEq] at h1
    rcases Classical.em (a1 = 1) with h2 | h2
    · rw [if_pos h2] at h; replace h2 := eq_true h2
      rcases h3 : num_Put q r1 a2.Index with _ | r2
      · rw [h3] at h; cases h
      · rw [h3, Option.bind_some] at h
        replace h3 := run_num_Put q (M + 7) (by omega) _ _ _ h3
        try simp only [Ow.enc, Sl.enc, kn0, kn1, kn2, kn3, kn4, kn5, kn6, eq_self_iff_true, implies_true, forall_const, Int.cast_ofNat_Int, Nat.reduceEqDiff, Nat.reduceAdd, Nat.reduceSub, Nat.reduceMul, Nat.reduceLT, Nat.reduceLeDiff, Int.reduceEq, Int.reduceLT, Int.reduceLE, Int.reduceAdd, Int.reduceSub, Int.reduceMul, Int.reduceToNat, Int.reduceNeg, ↓reduceIte, reduceCtorEq] at h3
        cases h; subst hR; simp (maxDischargeDepth := 12) only [kk0, kk1, kk2, kk3, kk4, kk5, kk6, kk7, kk8, kk9, kk10, kk11, kk12, kk13, kk14, kk15, kk16, kn0, kn1, kn2, kn3, kn4, kn5, kn6, eq_self_iff_true, implies_true, forall_const, Int.cast_ofNat_Int, Nat.reduceEqDiff, Nat.reduceAdd, Nat.reduceSub, Nat.reduceMul, Nat.reduceLT, Nat.reduceLeDiff, Int.reduceEq, Int.reduceLT, Int.reduceLE, Int.reduceAdd, Int.reduceSub, Int.reduceMul, Int.reduceToNat, Int.reduceNeg, ↓reduceIte, reduceCtorEq, L_schema_put, v_num_Put, v_codec_PutOp, v_num_PutSigned, Ow.enc, S_api_Op.enc, S_api_Record.enc, Sl.enc, rr_schema_put, ro_schema_put, b0_schema_put, *]
    · rw [if_neg h2] at h; replace h2 := eq_false h2
      rcases Classical.em (a1 = 2) with h4 | h4
      · rw [if_pos h4] at h; replace h4 := eq_true h4
        rcases h5 : num_Put q r1 a2.Proc with _ | r3
        · rw [h5] at h; cases h
        · rw [h5, Option.bind_some] at h
          replace h5 := run_num_Put q (M + 7) (by omega) _ _ _ h5
          try simp only [Ow.enc, Sl.enc, kn0, kn1, kn2, kn3, kn4, kn5, kn6, eq_self_iff_true, implies_true, forall_const, Int.cast_ofNat_Int, Nat.reduceEqDiff, Nat.reduceAdd, Nat.reduceSub, Nat.reduceMul, Nat.reduceLT, Nat.reduceLeDiff, Int.reduceEq, Int.reduceLT, Int.reduceLE, Int.reduceAdd, Int.reduceSub, Int.reduceMul, Int.reduceToNat, Int.reduceNeg, ↓reduceIte, reduceCtorEq] at h5
          cases h; subst hR; simp (maxDischargeDepth := 12) only [kk0, kk1, kk2, kk3, kk4, kk5, kk6, kk7, kk8, kk9, kk10, kk11, kk12, kk13, kk14, kk15, kk16, kn0, kn1, kn2, kn3, kn4, kn5, kn6, eq_self_iff_true, implies_true, forall_const, Int.cast_ofNat_Int, Nat.reduceEqDiff, Nat.reduceAdd, Nat.reduceSub, Nat.reduceMul, Nat.reduceLT, Nat.reduceLeDiff, Int.reduceEq, Int.reduceLT, Int.reduceLE, Int.reduceAdd, Int.reduceSub, Int.reduceMul, Int.reduceToNat, Int.reduceNeg, ↓reduceIte, reduceCtorEq, L_schema_put, v_num_Put, v_codec_PutOp, v_num_PutSigned, Ow.enc, S_api_Op.enc, S_api_Record.enc, Sl.enc, rr_schema_put, ro_schema_put, b0_schema_put, *]
      · rw [if_neg h4] at h; replace h4 := eq_false h4
        rcases Classical.em (a1 = 3) with h6 | h6
        · rw [if_pos h6] at h; replace h6 := eq_true h6
          rcases h7 : num_Put q r1 a2.Seq with _ | r4
          · rw [h7] at h; cases h
          · rw [h7, Option.bind_some] at h
            replace h7 := run_num_Put q (M + 7) (by omega) _ _ _ h7
            try simp only [Ow.enc, Sl.enc, kn0, kn1, kn2, kn3, kn4, kn5, kn6, eq_self_iff_true, implies_true, forall_const, Int.cast_ofNat_Int, Nat.reduceEqDiff, Nat.reduceAdd, Nat.reduceSub, Nat.reduceMul, Nat.reduceLT, Nat.reduceLeDiff, Int.reduceEq, Int.reduceLT, Int.reduceLE, Int.reduceAdd, Int.reduceSub, Int.reduceMul, Int.reduceToNat, Int.reduceNeg, ↓reduceIte, reduceCtorEq] at h7
            cases h; subst hR; simp (maxDischargeDepth := 12) only [kk0, kk1, kk2, kk3, kk4, kk5, kk6, kk7, kk8, kk9, kk10, kk11, kk12, kk13, kk14, kk15, kk16, kn0, kn1, kn2, kn3, kn4, kn5, kn6, eq_self_iff_true, implies_true, forall_const, Int.cast_ofNat_Int, Nat.reduceEqDiff, Nat.reduceAdd, Nat.reduceSub, Nat.reduceMul, Nat.reduceLT, Nat.reduceLeDiff, Int.reduceEq, Int.reduceLT, Int.reduceLE, Int.reduceAdd, Int.reduceSub, Int.reduceMul, Int.reduceToNat, Int.reduceNeg, ↓reduceIte, reduceCtorEq, L_schema_put, v_num_Put, v_codec_PutOp, v_num_PutSigned, Ow.enc, S_api_Op.enc, S_api_Record.enc, Sl.enc, rr_schema_put, ro_schema_put, b0_schema_put, *]
        · rw [if_neg h6] at h; replace h6 := eq_false h6
          rcases Classical.em (a1 = 4) with h8 | h8
          · rw [if_pos h8] at h; replace h8 := eq_true h8
            rcases h9 : codec_PutOp q r1 a2.Op with _ | r5
            · rw [h9] at h; cases h
            · rw [h9, Option.bind_some] at h
              replace h9 := run_codec_PutOp q (M + 7) (by omega) _ _ _ h9
              try simp only [Ow.enc, S_api_Op.enc, Sl.enc, kn0, kn1, kn2, kn3, kn4, kn5, kn6, eq_self_iff_true, implies_true, forall_const, Int.cast_ofNat_Int, Nat.reduceEqDiff, Nat.reduceAdd, Nat.reduceSub, Nat.reduceMul, Nat.reduceLT, Nat.reduceLeDiff, Int.reduceEq, Int.reduceLT, Int.reduceLE, Int.reduceAdd, Int.reduceSub, Int.reduceMul, Int.reduceToNat, Int.reduceNeg, ↓reduceIte, reduceCtorEq] at h9
              cases h; subst hR; simp (maxDischargeDepth := 12) only [kk0, kk1, kk2, kk3, kk4, kk5, kk6, kk7, kk8, kk9, kk10, kk11, kk12, kk13, kk14, kk15, kk16, kn0, kn1, kn2, kn3, kn4, kn5, kn6, eq_self_iff_true, implies_true, forall_const, Int.cast_ofNat_Int, Nat.reduceEqDiff, Nat.reduceAdd, Nat.reduceSub, Nat.reduceMul, Nat.reduceLT, Nat.reduceLeDiff, Int.reduceEq, Int.reduceLT, Int.reduceLE, Int.reduceAdd, Int.reduceSub, Int.reduceMul, Int.reduceToNat, Int.reduceNeg, ↓reduceIte, reduceCtorEq, L_schema_put, v_num_Put, v_codec_PutOp, v_num_PutSigned, Ow.enc, S_api_Op.enc, S_api_Record.enc, Sl.enc, rr_schema_put, ro_schema_put, b0_schema_put, *]
          · rw [if_neg h8] at h; replace h8 := eq_false h8
            rcases h10 : num_PutSigned q r1 a2.Resp with _ | r6
            · rw [h10] at h; cases h
            · rw [h10, Option.bind_some] at h
              replace h10 := run_num_PutSigned q (M + 7) (by omega) _ _ _ h10
              try simp only [Ow.enc, Sl.enc, kn0, kn1, kn2, kn3, kn4, kn5, kn6, eq_self_iff_true, implies_true, forall_const, Int.cast_ofNat_Int, Nat.reduceEqDiff, Nat.reduceAdd, Nat.reduceSub, Nat.reduceMul, Nat.reduceLT, Nat.reduceLeDiff, Int.reduceEq, Int.reduceLT, Int.reduceLE, Int.reduceAdd, Int.reduceSub, Int.reduceMul, Int.reduceToNat, Int.reduceNeg, ↓reduceIte, reduceCtorEq] at h10
              cases h; subst hR; simp (maxDischargeDepth := 12) only [kk0, kk1, kk2, kk3, kk4, kk5, kk6, kk7, kk8, kk9, kk10, kk11, kk12, kk13, kk14, kk15, kk16, kn0, kn1, kn2, kn3, kn4, kn5, kn6, eq_self_iff_true, implies_true, forall_const, Int.cast_ofNat_Int, Nat.reduceEqDiff, Nat.reduceAdd, Nat.reduceSub, Nat.reduceMul, Nat.reduceLT, Nat.reduceLeDiff, Int.reduceEq, Int.reduceLT, Int.reduceLE, Int.reduceAdd, Int.reduceSub, Int.reduceMul, Int.reduceToNat, Int.reduceNeg, ↓reduceIte, reduceCtorEq, L_schema_put, v_num_Put, v_codec_PutOp, v_num_PutSigned, Ow.enc, S_api_Op.enc, S_api_Record.enc, Sl.enc, rr_schema_put, ro_schema_put, b0_schema_put, *]
def St_schema_Encode_l0 (q : Nat) : Prop := ∀ (M : Nat) (hM : 8 * q ≤ M) (j : Nat) (hj : q ≤ j) (v22 : Int) (v23 : Int) (h0_0 : Int) (h0_1 : Int) (h0_2 : Int) (h0_3 : Int) (h0_4 : Int) (h0_5 : Int) (h0_6 : Int) (h1z : Bool) (h1l : List Int) (h1x : Bool) (h2z : Bool) (h2l : List Int) (h2x : Bool) (r : (Ow Int) × Int) (_ : schema_Encode_l0 q v22 v23 h0_0 h0_1 h0_2 h0_3 h0_4 h0_5 h0_6 h1z h1l h1x h2z h2l h2x = some r) (R : Option (List V)) (_ : some [(Ow.enc 1 (V.int .u8)) r.1, (V.int .i64) r.2] = R) (fr : Fr) (H : Hp) (_ : canon 0 [3, 7, 21, 22, 23] fr H = ([(3, (.ptr 0 0)), (7, (.vw 1 0 0 h1l.length 1)), (21, (.vw 2 0 0 h2l.length 1)), (22, (.int .i64 v22)), (23, (.int .i64 v23))], [(.box [(.int .i64 h0_0), (.int .i64 h0_1), (.int .i64 h0_2), (.int .i64 h0_3), (.int .i64 h0_4), (.int .i64 h0_5), (.int .i64 h0_6)]), (.row 0 h1z 1 (List.map (V.int .u8) h1l) h1x), (.row 0 h2z 1 (List.map (V.int .i64) h2l) h2x)])), fin m_schema_Encode (unw T (orc T (M + 7)) (M + 7) 0 [.blk 1, .code c_schema_Encode_22] (iter 0 [3, 7, 21, 22, 23] (exec T (orc T (M + 7)) (M + 7) 0 c_schema_Encode_19) j fr H)) = R
theorem step_schema_Encode_l0 (q : Nat) (ih_schema_Encode_l0 : St_schema_Encode_l0 q) : St_schema_Encode_l0 (q + 1) := by
  intro M hM j hj v22 v23 h0_0 h0_1 h0_2 h0_3 h0_4 h0_5 h0_6 h1z h1l h1x h2z h2l h2x r h R hR fr H hc
  obtain ⟨j, rfl⟩ : ∃ i, j = i + 1 := ⟨j - 1, by omega⟩
  rw [unw_iter, hc]; clear hc
  rw [schema_Encode_l0] at h
  rcases Classical.em (v23 < v22) with h1 | h1
  · rw [if_pos h1] at h; replace h1 := eq_true h1
    rcases Classical.em (0 ≤ v23) with h2 | h2
    · rw [if_pos h2] at h; replace h2 := eq_true h2
      rcases Classical.em (v23.toNat < h2l.length) with h3 | h3
      · rw [if_pos h3] at h; replace h3 := eq_true h3
        rcases h4 : h2l[v23.toNat]? with _ | e4
        · rw [h4] at h; cases h
        · rw [h4, Option.bind_some] at h
          rcases h5 : schema_put q ⟨h1z, h1x, h1l⟩ e4 (⟨h0_0, h0_1, h0_2, (⟨h0_3, h0_4, h0_5⟩ : S_api_Op), h0_6⟩ : S_api_Record) with _ | r5
          · rw [h5] at h; cases h
          · rw [h5, Option.bind_some] at h
            replace h5 := run_schema_put q (M + 7) (by omega) _ _ _ _ h5
            try simp only [Ow.enc, S_api_Op.enc, S_api_Record.enc, Sl.enc, kn0, kn1, kn2, kn3, kn4, kn5, kn6, eq_self_iff_true, implies_true, forall_const, Int.cast_ofNat_Int, Nat.reduceEqDiff, Nat.reduceAdd, Nat.reduceSub, Nat.reduceMul, Nat.reduceLT, Nat.reduceLeDiff, Int.reduceEq, Int.reduceLT, Int.reduceLE, Int.reduceAdd, Int.reduceSub, Int.reduceMul, Int.reduceToNat, Int.reduceNeg, ↓reduceIte, reduceCtorEq] at h5
            replace h := ih_schema_Encode_l0 M (by omega) j (by omega) _ _ _ _ _ _ _ _ _ _ _ _ _ _ _ _ h R hR
            simp (maxDischargeDepth := 12) only [kk0, kk1, kk2, kk3, kk4, kk5, kk6, kk7, kk8, kk9, kk10, kk11, kk12, kk13, kk14, kk15, kk16, kn0, kn1, kn2, kn3, kn4, kn5, kn6, eq_self_iff_true, implies_true, forall_const, Int.cast_ofNat_Int, Nat.reduceEqDiff, Nat.reduceAdd, Nat.reduceSub, Nat.reduceMul, Nat.reduceLT, Nat.reduceLeDiff, Int.reduceEq, Int.reduceLT, Int.reduceLE, Int.reduceAdd, Int.reduceSub, Int.reduceMul, Int.reduceToNat, Int.reduceNeg, ↓reduceIte, reduceCtorEq, L_schema_Encode, v_schema_Fits, v_schema_fields, v_num_Put, v_schema_put, Ow.enc, S_api_Op.enc, S_api_Record.enc, Sl.enc, rr_schema_Encode, ro_schema_Encode, b0_schema_Encode, *]
      · rw [if_neg h3] at h; replace h3 := eq_false h3
        cases h
    · rw [if_neg h2] at h; replace h2 := eq_false h2
      cases h
  · rw [if_neg h1] at h; replace h1 := eq_false h1
    cases h; subst hR; simp (maxDischargeDepth := 12) only [kk0, kk1, kk2, kk3, kk4, kk5, kk6, kk7, kk8, kk9, kk10, kk11, kk12, kk13, kk14, kk15, kk16, kn0, kn1, kn2, kn3, kn4, kn5, kn6, eq_self_iff_true, implies_true, forall_const, Int.cast_ofNat_Int, Nat.reduceEqDiff, Nat.reduceAdd, Nat.reduceSub, Nat.reduceMul, Nat.reduceLT, Nat.reduceLeDiff, Int.reduceEq, Int.reduceLT, Int.reduceLE, Int.reduceAdd, Int.reduceSub, Int.reduceMul, Int.reduceToNat, Int.reduceNeg, ↓reduceIte, reduceCtorEq, L_schema_Encode, v_schema_Fits, v_schema_fields, v_num_Put, v_schema_put, Ow.enc, S_api_Op.enc, S_api_Record.enc, Sl.enc, rr_schema_Encode, ro_schema_Encode, b0_schema_Encode, *]
theorem all_schema_Encode : ∀ q, St_schema_Encode_l0 q
  | 0 => by intro M hM j hj; intros; rename_i h _ _ _ _ _; cases h
  | q + 1 => by have i0 := all_schema_Encode q; exact step_schema_Encode_l0 q i0
theorem run_schema_Encode : ∀ (q N : Nat), 8 * q ≤ N → ∀ (a0 : Int) (a1 : S_api_Record), ∀ (r : (Ow Int) × Int), schema_Encode q a0 a1 = some r → (orc T N).deep F.schema_Encode [(V.int .i64) a0, S_api_Record.enc a1] = some [(Ow.enc 1 (V.int .u8)) r.1, (V.int .i64) r.2] := by
  intro q N hM a0 a1 r h
  rcases q with _ | q
  · cases h
  obtain ⟨M, rfl⟩ : ∃ M, N = M + 8 := ⟨N - 8, by omega⟩
  have ih_schema_Encode_l0 := (all_schema_Encode q)
  generalize hR : some [(Ow.enc 1 (V.int .u8)) r.1, (V.int .i64) r.2] = R
  rw [orc_deep, T_schema_Encode, Option.bind_some, runDeep_eq]
  rw [schema_Encode] at h
  rcases h1 : schema_fields q a0 with _ | r1
  · rw [h1] at h; cases h
  · rw [h1, Option.bind_some] at h
    replace h1 := run_schema_fields q (M + 7) (by omega) _ _ h1
    try simp only [Ow.enc, kn0, kn1, kn2, kn3, kn4, kn5, kn6, eq_self_iff_true, implies_true, forall_const, Int.cast_ofNat_Int, Nat.reduceEqDiff, Nat.reduceAdd, Nat.reduceSub, Nat.reduceMul, Nat.reduceLT, Nat.reduceLeDiff, Int.reduceEq, Int.reduceLT, Int.reduceLE, Int.reduceAdd, Int.reduceSub, Int.reduceMul, Int.reduceToNat, Int.reduceNeg, ↓reduceIte, reduceCtorEq] at h1
    rcases Classical.em (r1.n = true) with h2 | h2
    · rw [if_pos h2] at h; have h2' := bt1 h2; replace h2 := eq_true h2
      cases h; subst hR; simp (maxDischargeDepth := 12) only [kk0, kk1, kk2, kk3, kk4, kk5, kk6, kk7, kk8, kk9, kk10, kk11, kk12, kk13, kk14, kk15, kk16, kn0, kn1, kn2, kn3, kn4, kn5, kn6, eq_self_iff_true, implies_true, forall_const, Int.cast_ofNat_Int, Nat.reduceEqDiff, Nat.reduceAdd, Nat.reduceSub, Nat.reduceMul, Nat.reduceLT, Nat.reduceLeDiff, Int.reduceEq, Int.reduceLT, Int.reduceLE, Int.reduceAdd, Int.reduceSub, Int.reduceMul, Int.reduceToNat, Int.reduceNeg, ↓reduceIte, reduceCtorEq, L_schema_Encode, v_schema_Fits, v_schema_fields, v_num_Put, v_schema_put, Ow.enc, S_api_Op.enc, S_api_Record.enc, Sl.enc, rr_schema_Encode, ro_schema_Encode, b0_schema_Encode, *]
    · rw [if_neg h2] at h; have h2' := bt0 h2; replace h2 := eq_false h2
      rcases h3 : schema_Fits q a1 with _ | r2
      · rw [h3] at h; cases h
      · rw [h3, Option.bind_some] at h
        replace h3 := run_schema_Fits q (M + 7) (by omega) _ _ h3
        try simp only [Ow.enc, S_api_Op.enc, S_api_Record.enc, kn0, kn1, kn2, kn3, kn4, kn5, kn6, eq_self_iff_true, implies_true, forall_const, Int.cast_ofNat_Int, Nat.reduceEqDiff, Nat.reduceAdd, Nat.reduceSub, Nat.reduceMul, Nat.reduceLT, Nat.reduceLeDiff, Int.reduceEq, Int.reduceLT, Int.reduceLE, Int.reduceAdd, Int.reduceSub, Int.reduceMul, Int.reduceToNat, Int.reduceNeg, ↓reduceIte, reduceCtorEq] at h3
        rcases Classical.em (r2 = true) with h4 | h4
        · rw [if_pos h4] at h; have h4' := bt1 h4; replace h4 := eq_true h4
          rcases h5 : num_Put q ⟨true, true, []⟩ a0 with _ | r3
          · rw [h5] at h; cases h
          · rw [h5, Option.bind_some] at h
            replace h5 := run_num_Put q (M + 7) (by omega) _ _ _ h5
            try simp only [Ow.enc, Sl.enc, kn0, kn1, kn2, kn3, kn4, kn5, kn6, eq_self_iff_true, implies_true, forall_const, Int.cast_ofNat_Int, Nat.reduceEqDiff, Nat.reduceAdd, Nat.reduceSub, Nat.reduceMul, Nat.reduceLT, Nat.reduceLeDiff, Int.reduceEq, Int.reduceLT, Int.reduceLE, Int.reduceAdd, Int.reduceSub, Int.reduceMul, Int.reduceToNat, Int.reduceNeg, ↓reduceIte, reduceCtorEq] at h5
            replace h := ih_schema_Encode_l0 M (by omega) (M + 7) (by omega) _ _ _ _ _ _ _ _ _ _ _ _ _ _ _ _ h R hR
            simp (maxDischargeDepth := 12) only [kk0, kk1, kk2, kk3, kk4, kk5, kk6, kk7, kk8, kk9, kk10, kk11, kk12, kk13, kk14, kk15, kk16, kn0, kn1, kn2, kn3, kn4, kn5, kn6, eq_self_iff_true, implies_true, forall_const, Int.cast_ofNat_Int, Nat.reduceEqDiff, Nat.reduceAdd, Nat.reduceSub, Nat.reduceMul, Nat.reduceLT, Nat.reduceLeDiff, Int.reduceEq, Int.reduceLT, Int.reduceLE, Int.reduceAdd, Int.reduceSub, Int.reduceMul, Int.reduceToNat, Int.reduceNeg, ↓reduceIte, reduceCtorEq, L_schema_Encode, v_schema_Fits, v_schema_fields, v_num_Put, v_schema_put, Ow.enc, S_api_Op.enc, S_api_Record.enc, Sl.enc, rr_schema_Encode, ro_schema_Encode, b0_schema_Encode, *]
        · rw [if_neg h4] at h; have h4' := bt0 h4; replace h4 := eq_false h4
          cases h; subst hR; simp (maxDischargeDepth := 12) only [kk0, kk1, kk2, kk3, kk4, kk5, kk6, kk7, kk8, kk9, kk10, kk11, kk12, kk13, kk14, kk15, kk16, kn0, kn1, kn2, kn3, kn4, kn5, kn6, eq_self_iff_true, implies_true, forall_const, Int.cast_ofNat_Int, Nat.reduceEqDiff, Nat.reduceAdd, Nat.reduceSub, Nat.reduceMul, Nat.reduceLT, Nat.reduceLeDiff, Int.reduceEq, Int.reduceLT, Int.reduceLE, Int.reduceAdd, Int.reduceSub, Int.reduceMul, Int.reduceToNat, Int.reduceNeg, ↓reduceIte, reduceCtorEq, L_schema_Encode, v_schema_Fits, v_schema_fields, v_num_Put, v_schema_put, Ow.enc, S_api_Op.enc, S_api_Record.enc, Sl.enc, rr_schema_Encode, ro_schema_Encode, b0_schema_Encode, *]
theorem run_ferrymanlaw06_awake : ∀ (q N : Nat), 8 * q ≤ N → ∀ (r : Bool), ferrymanlaw06_awake q = some r → (orc T N).deep F.ferrymanlaw06_awake [] = some [V.bool r] := by
  intro q N hM r h
  rcases q with _ | q
  · cases h
  obtain ⟨M, rfl⟩ : ∃ M, N = M + 8 := ⟨N - 8, by omega⟩
  generalize hR : some [V.bool r] = R
  rw [orc_deep, T_ferrymanlaw06_awake, Option.bind_some, runDeep_eq]
  rw [ferrymanlaw06_awake] at h
  rcases h1 : schema_Encode q 1 (⟨5, 2, 0, (⟨0, 0, 0⟩ : S_api_Op), 0⟩ : S_api_Record) with _ | r1
  · rw [h1] at h; cases h
  · rw [h1, Option.bind_some] at h
    replace h1 := run_schema_Encode q (M + 7) (by omega) _ _ _ h1
    try simp only [Ow.enc, S_api_Op.enc, S_api_Record.enc, kn0, kn1, kn2, kn3, kn4, kn5, kn6, eq_self_iff_true, implies_true, forall_const, Int.cast_ofNat_Int, Nat.reduceEqDiff, Nat.reduceAdd, Nat.reduceSub, Nat.reduceMul, Nat.reduceLT, Nat.reduceLeDiff, Int.reduceEq, Int.reduceLT, Int.reduceLE, Int.reduceAdd, Int.reduceSub, Int.reduceMul, Int.reduceToNat, Int.reduceNeg, ↓reduceIte, reduceCtorEq] at h1
    rcases Classical.em (r1.2 = 0) with h2 | h2
    · rw [if_pos h2] at h; replace h2 := eq_true h2
      cases h; subst hR; simp (maxDischargeDepth := 12) only [kk0, kk1, kk2, kk3, kk4, kk5, kk6, kk7, kk8, kk9, kk10, kk11, kk12, kk13, kk14, kk15, kk16, kn0, kn1, kn2, kn3, kn4, kn5, kn6, eq_self_iff_true, implies_true, forall_const, Int.cast_ofNat_Int, Nat.reduceEqDiff, Nat.reduceAdd, Nat.reduceSub, Nat.reduceMul, Nat.reduceLT, Nat.reduceLeDiff, Int.reduceEq, Int.reduceLT, Int.reduceLE, Int.reduceAdd, Int.reduceSub, Int.reduceMul, Int.reduceToNat, Int.reduceNeg, ↓reduceIte, reduceCtorEq, L_ferrymanlaw06_awake, v_schema_Encode, Ow.enc, S_api_Op.enc, S_api_Record.enc, Sl.enc, rr_ferrymanlaw06_awake, ro_ferrymanlaw06_awake, b0_ferrymanlaw06_awake, *]
    · rw [if_neg h2] at h; replace h2 := eq_false h2
      cases h; subst hR; simp (maxDischargeDepth := 12) only [kk0, kk1, kk2, kk3, kk4, kk5, kk6, kk7, kk8, kk9, kk10, kk11, kk12, kk13, kk14, kk15, kk16, kn0, kn1, kn2, kn3, kn4, kn5, kn6, eq_self_iff_true, implies_true, forall_const, Int.cast_ofNat_Int, Nat.reduceEqDiff, Nat.reduceAdd, Nat.reduceSub, Nat.reduceMul, Nat.reduceLT, Nat.reduceLeDiff, Int.reduceEq, Int.reduceLT, Int.reduceLE, Int.reduceAdd, Int.reduceSub, Int.reduceMul, Int.reduceToNat, Int.reduceNeg, ↓reduceIte, reduceCtorEq, L_ferrymanlaw06_awake, v_schema_Encode, Ow.enc, S_api_Op.enc, S_api_Record.enc, Sl.enc, rr_ferrymanlaw06_awake, ro_ferrymanlaw06_awake, b0_ferrymanlaw06_awake, *]
def St_num_read_l0 (q : Nat) : Prop := ∀ (M : Nat) (hM : 8 * q ≤ M) (j : Nat) (hj : q ≤ j) (v0z : Bool) (v0l : List Int) (v4 : Int) (v9 : Int) (v10 : Int) (r : Int × Int) (_ : num_read_l0 q v0z v0l v4 v9 v10 = some r) (R : Option (List V)) (_ : some [(V.int .u64) r.1, (V.int .i64) r.2] = R) (fr : Fr) (H : Hp) (_ : canon 0 [0, 4, 9, 10] fr H = ([(0, (.sl v0z (List.map (V.int .u8) v0l))), (4, (.int .u64 v4)), (9, (.int .i64 v9)), (10, (.int .i64 v10))], [])), fin m_num_read (unw T (orc T (M + 7)) (M + 7) 0 [.blk 0, .code c_num_read_30] (iter 0 [0, 4, 9, 10] (exec T (orc T (M + 7)) (M + 7) 0 c_num_read_27) j fr H)) = R
theorem step_num_read_l0 (q : Nat) (ih_num_read_l0 : St_num_read_l0 q) : St_num_read_l0 (q + 1) := by
  intro M hM j hj v0z v0l v4 v9 v10 r h R hR fr H hc
  obtain ⟨j, rfl⟩ : ∃ i, j = i + 1 := ⟨j - 1, by omega⟩
  rw [unw_iter, hc]; clear hc
  rw [num_read_l0] at h
  rcases Classical.em (v10 < v9) with h1 | h1
  · rw [if_pos h1] at h; replace h1 := eq_true h1
    rcases Classical.em (0 ≤ v10) with h2 | h2
    · rw [if_pos h2] at h; replace h2 := eq_true h2
      rcases h3 : v0l[v10.toNat]? with _ | e1
      · rw [h3] at h; cases h
      · rw [h3, Option.bind_some] at h
        rcases Classical.em ((wrp .i64 (7 * v10)) < 0) with h4 | h4
        · rw [if_pos h4] at h; replace h4 := eq_true h4
          cases h
        · rw [if_neg h4] at h; replace h4 := eq_false h4
          rcases Classical.em (v10 = 9) with h5 | h5
          · rw [if_pos h5] at h; replace h5 := eq_true h5
            rcases Classical.em (1 < e1) with h6 | h6
            · rw [if_pos h6] at h; replace h6 := eq_true h6
              cases h; subst hR; simp (maxDischargeDepth := 12) only [kk0, kk1, kk2, kk3, kk4, kk5, kk6, kk7, kk8, kk9, kk10, kk11, kk12, kk13, kk14, kk15, kk16, kn0, kn1, kn2, kn3, kn4, kn5, kn6, eq_self_iff_true, implies_true, forall_const, Int.cast_ofNat_Int, Nat.reduceEqDiff, Nat.reduceAdd, Nat.reduceSub, Nat.reduceMul, Nat.reduceLT, Nat.reduceLeDiff, Int.reduceEq, Int.reduceLT, Int.reduceLE, Int.reduceAdd, Int.reduceSub, Int.reduceMul, Int.reduceToNat, Int.reduceNeg, ↓reduceIte, reduceCtorEq, L_num_read, Ow.enc, Sl.enc, rr_num_read, ro_num_read, b0_num_read, *]
            · rw [if_neg h6] at h; replace h6 := eq_false h6
              rcases Classical.em (e1 = 0) with h7 | h7
              · rw [if_pos h7] at h; replace h7 := eq_true h7
                rcases Classical.em (0 < v10) with h8 | h8
                · rw [if_pos h8] at h; replace h8 := eq_true h8
                  cases h; subst hR; simp (maxDischargeDepth := 12) only [kk0, kk1, kk2, kk3, kk4, kk5, kk6, kk7, kk8, kk9, kk10, kk11, kk12, kk13, kk14, kk15, kk16, kn0, kn1, kn2, kn3, kn4, kn5, kn6, eq_self_iff_true, implies_true, forall_const, Int.cast_ofNat_Int, Nat.reduceEqDiff, Nat.reduceAdd, Nat.reduceSub, Nat.reduceMul, Nat.reduceLT, Nat.reduceLeDiff, Int.reduceEq, Int.reduceLT, Int.reduceLE, Int.reduceAdd, Int.reduceSub, Int.reduceMul, Int.reduceToNat, Int.reduceNeg, ↓reduceIte, reduceCtorEq, L_num_read, Ow.enc, Sl.enc, rr_num_read, ro_num_read, b0_num_read, *]
                · rw [if_neg h8] at h; replace h8 := eq_false h8
                  rcases Classical.em (e1 < 128) with h9 | h9
                  · rw [if_pos h9] at h; replace h9 := eq_true h9
                    cases h; subst hR; simp (maxDischargeDepth := 12) only [kk0, kk1, kk2, kk3, kk4, kk5, kk6, kk7, kk8, kk9, kk10, kk11, kk12, kk13, kk14, kk15, kk16, kn0, kn1, kn2, kn3, kn4, kn5, kn6, eq_self_iff_true, implies_true, forall_const, Int.cast_ofNat_Int, Nat.reduceEqDiff, Nat.reduceAdd, Nat.reduceSub, Nat.reduceMul, Nat.reduceLT, Nat.reduceLeDiff, Int.reduceEq, Int.reduceLT, Int.reduceLE, Int.reduceAdd, Int.reduceSub, Int.reduceMul, Int.reduceToNat, Int.reduceNeg, ↓reduceIte, reduceCtorEq, L_num_read, Ow.enc, Sl.enc, rr_num_read, ro_num_read, b0_num_read, *]
                  · rw [if_neg h9] at h; replace h9 := eq_false h9
                    replace h := ih_num_read_l0 M (by omega) j (by omega) _ _ _ _ _ _ h R hR
                    simp (maxDischargeDepth := 12) only [kk0, kk1, kk2, kk3, kk4, kk5, kk6, kk7, kk8, kk9, kk10, kk11, kk12, kk13, kk14, kk15, kk16, kn0, kn1, kn2, kn3, kn4, kn5, kn6, eq_self_iff_true, implies_true, forall_const, Int.cast_ofNat_Int, Nat.reduceEqDiff, Nat.reduceAdd, Nat.reduceSub, Nat.reduceMul, Nat.reduceLT, Nat.reduceLeDiff, Int.reduceEq, Int.reduceLT, Int.reduceLE, Int.reduceAdd, Int.reduceSub, Int.reduceMul, Int.reduceToNat, Int.reduceNeg, ↓reduceIte, reduceCtorEq, L_num_read, Ow.enc, Sl.enc, rr_num_read, ro_num_read, b0_num_read, *]
              · rw [if_neg h7] at h; replace h7 := eq_false h7
                rcases Classical.em (e1 < 128) with h10 | h10
                · rw [if_pos h10] at h; replace h10 := eq_true h10
                  cases h; subst hR; simp (maxDischargeDepth := 12) only [kk0, kk1, kk2, kk3, kk4, kk5, kk6, kk7, kk8, kk9, kk10, kk11, kk12, kk13, kk14, kk15, kk16, kn0, kn1, kn2, kn3, kn4, kn5, kn6, eq_self_iff_true, implies_true, forall_const, Int.cast_ofNat_Int, Nat.reduceEqDiff, Nat.reduceAdd, Nat.reduceSub, Nat.reduceMul, Nat.reduceLT, Nat.reduceLeDiff, Int.reduceEq, Int.reduceLT, Int.reduceLE, Int.reduceAdd, Int.reduceSub, Int.reduceMul, Int.reduceToNat, Int.reduceNeg, ↓reduceIte, reduceCtorEq, L_num_read, Ow.enc, Sl.enc, rr_num_read, ro_num_read, b0_num_read, *]
                · rw [if_neg h10] at h; replace h10 := eq_false h10
                  replace h := ih_num_read_l0 M (by omega) j (by omega) _ _ _ _ _ _ h R hR
                  simp (maxDischargeDepth := 12) only [kk0, kk1, kk2, kk3, kk4, kk5, kk6, kk7, kk8, kk9, kk10, kk11, kk12, kk13, kk14, kk15, kk16, kn0, kn1, kn2, kn3, kn4, kn5, kn6, eq_self_iff_true, implies_true, forall_const, Int.cast_ofNat_Int, Nat.reduceEqDiff, Nat.reduceAdd, Nat.reduceSub, Nat.reduceMul, Nat.reduceLT, Nat.reduceLeDiff, Int.reduceEq, Int.reduceLT, Int.reduceLE, Int.reduceAdd, Int.reduceSub, Int.reduceMul, Int.reduceToNat, Int.reduceNeg, ↓reduceIte, reduceCtorEq, L_num_read, Ow.enc, Sl.enc, rr_num_read, ro_num_read, b0_num_read, *]
          · rw [if_neg h5] at h; replace h5 := eq_false h5
            rcases Classical.em (e1 = 0) with h11 | h11
            · rw [if_pos h11] at h; replace h11 := eq_true h11
              rcases Classical.em (0 < v10) with h12 | h12
              · rw [if_pos h12] at h; replace h12 := eq_true h12
                cases h; subst hR; simp (maxDischargeDepth := 12) only [kk0, kk1, kk2, kk3, kk4, kk5, kk6, kk7, kk8, kk9, kk10, kk11, kk12, kk13, kk14, kk15, kk16, kn0, kn1, kn2, kn3, kn4, kn5, kn6, eq_self_iff_true, implies_true, forall_const, Int.cast_ofNat_Int, Nat.reduceEqDiff, Nat.reduceAdd, Nat.reduceSub, Nat.reduceMul, Nat.reduceLT, Nat.reduceLeDiff, Int.reduceEq, Int.reduceLT, Int.reduceLE, Int.reduceAdd, Int.reduceSub, Int.reduceMul, Int.reduceToNat, Int.reduceNeg, ↓reduceIte, reduceCtorEq, L_num_read, Ow.enc, Sl.enc, rr_num_read, ro_num_read, b0_num_read, *]
              · rw [if_neg h12] at h; replace h12 := eq_false h12
                rcases Classical.em (e1 < 128) with h13 | h13
                · rw [if_pos h13] at h; replace h13 := eq_true h13
                  cases h; subst hR; simp (maxDischargeDepth := 12) only [kk0, kk1, kk2, kk3, kk4, kk5, kk6, kk7, kk8, kk9, kk10, kk11, kk12, kk13, kk14, kk15, kk16, kn0, kn1, kn2, kn3, kn4, kn5, kn6, eq_self_iff_true, implies_true, forall_const, Int.cast_ofNat_Int, Nat.reduceEqDiff, Nat.reduceAdd, Nat.reduceSub, Nat.reduceMul, Nat.reduceLT, Nat.reduceLeDiff, Int.reduceEq, Int.reduceLT, Int.reduceLE, Int.reduceAdd, Int.reduceSub, Int.reduceMul, Int.reduceToNat, Int.reduceNeg, ↓reduceIte, reduceCtorEq, L_num_read, Ow.enc, Sl.enc, rr_num_read, ro_num_read, b0_num_read, *]
                · rw [if_neg h13] at h; replace h13 := eq_false h13
                  replace h := ih_num_read_l0 M (by omega) j (by omega) _ _ _ _ _ _ h R hR
                  simp (maxDischargeDepth := 12) only [kk0, kk1, kk2, kk3, kk4, kk5, kk6, kk7, kk8, kk9, kk10, kk11, kk12, kk13, kk14, kk15, kk16, kn0, kn1, kn2, kn3, kn4, kn5, kn6, eq_self_iff_true, implies_true, forall_const, Int.cast_ofNat_Int, Nat.reduceEqDiff, Nat.reduceAdd, Nat.reduceSub, Nat.reduceMul, Nat.reduceLT, Nat.reduceLeDiff, Int.reduceEq, Int.reduceLT, Int.reduceLE, Int.reduceAdd, Int.reduceSub, Int.reduceMul, Int.reduceToNat, Int.reduceNeg, ↓reduceIte, reduceCtorEq, L_num_read, Ow.enc, Sl.enc, rr_num_read, ro_num_read, b0_num_read, *]
            · rw [if_neg h11] at h; replace h11 := eq_false h11
              rcases Classical.em (e1 < 128) with h14 | h14
              · rw [if_pos h14] at h; replace h14 := eq_true h14
                cases h; subst hR; simp (maxDischargeDepth := 12) only [kk0, kk1, kk2, kk3, kk4, kk5, kk6, kk7, kk8, kk9, kk10, kk11, kk12, kk13, kk14, kk15, kk16, kn0, kn1, kn2, kn3, kn4, kn5, kn6, eq_self_iff_true, implies_true, forall_const, Int.cast_ofNat_Int, Nat.reduceEqDiff, Nat.reduceAdd, Nat.reduceSub, Nat.reduceMul, Nat.reduceLT, Nat.reduceLeDiff, Int.reduceEq, Int.reduceLT, Int.reduceLE, Int.reduceAdd, Int.reduceSub, Int.reduceMul, Int.reduceToNat, Int.reduceNeg, ↓reduceIte, reduceCtorEq, L_num_read, Ow.enc, Sl.enc, rr_num_read, ro_num_read, b0_num_read, *]
              · rw [if_neg h14] at h; replace h14 := eq_false h14
                replace h := ih_num_read_l0 M (by omega) j (by omega) _ _ _ _ _ _ h R hR
                simp (maxDischargeDepth := 12) only [kk0, kk1, kk2, kk3, kk4, kk5, kk6, kk7, kk8, kk9, kk10, kk11, kk12, kk13, kk14, kk15, kk16, kn0, kn1, kn2, kn3, kn4, kn5, kn6, eq_self_iff_true, implies_true, forall_const, Int.cast_ofNat_Int, Nat.reduceEqDiff, Nat.reduceAdd, Nat.reduceSub, Nat.reduceMul, Nat.reduceLT, Nat.reduceLeDiff, Int.reduceEq, Int.reduceLT, Int.reduceLE, Int.reduceAdd, Int.reduceSub, Int.reduceMul, Int.reduceToNat, Int.reduceNeg, ↓reduceIte, reduceCtorEq, L_num_read, Ow.enc, Sl.enc, rr_num_read, ro_num_read, b0_num_read, *]
    · rw [if_neg h2] at h; replace h2 := eq_false h2
      cases h
  · rw [if_neg h1] at h; replace h1 := eq_false h1
    cases h; subst hR; simp (maxDischargeDepth := 12) only [kk0, kk1, kk2, kk3, kk4, kk5, kk6, kk7, kk8, kk9, kk10, kk11, kk12, kk13, kk14, kk15, kk16, kn0, kn1, kn2, kn3, kn4, kn5, kn6, eq_self_iff_true, implies_true, forall_const, Int.cast_ofNat_Int, Nat.reduceEqDiff, Nat.reduceAdd, Nat.reduceSub, Nat.reduceMul, Nat.reduceLT, Nat.reduceLeDiff, Int.reduceEq, Int.reduceLT, Int.reduceLE, Int.reduceAdd, Int.reduceSub, Int.reduceMul, Int.reduceToNat, Int.reduceNeg, ↓reduceIte, reduceCtorEq, L_num_read, Ow.enc, Sl.enc, rr_num_read, ro_num_read, b0_num_read, *]
theorem all_num_read : ∀ q, St_num_read_l0 q
  | 0 => by intro M hM j hj; intros; rename_i h _ _ _ _ _; cases h
  | q + 1 => by have i0 := all_num_read q; exact step_num_read_l0 q i0
theorem run_num_read : ∀ (q N : Nat), 8 * q ≤ N → ∀ (a0 : (Sl Int)), ∀ (r : Int × Int), num_read q a0 = some r → (orc T N).deep F.num_read [(Sl.enc (V.int .u8)) a0] = some [(V.int .u64) r.1, (V.int .i64) r.2] := by
  intro q N hM a0 r h
  rcases q with _ | q
  · cases h
  obtain ⟨M, rfl⟩ : ∃ M, N = M + 8 := ⟨N - 8, by omega⟩
  have ih_num_read_l0 := (all_num_read q)
  generalize hR : some [(V.int .u64) r.1, (V.int .i64) r.2] = R
  rw [orc_deep, T_num_read, Option.bind_some, runDeep_eq]
  rw [num_read] at h
  replace h := ih_num_read_l0 M (by omega) (M + 7) (by omega) _ _ _ _ _ _ h R hR
  simp (maxDischargeDepth := 12) only [kk0, kk1, kk2, kk3, kk4, kk5, kk6, kk7, kk8, kk9, kk10, kk11, kk12, kk13, kk14, kk15, kk16, kn0, kn1, kn2, kn3, kn4, kn5, kn6, eq_self_iff_true, implies_true, forall_const, Int.cast_ofNat_Int, Nat.reduceEqDiff, Nat.reduceAdd, Nat.reduceSub, Nat.reduceMul, Nat.reduceLT, Nat.reduceLeDiff, Int.reduceEq, Int.reduceLT, Int.reduceLE, Int.reduceAdd, Int.reduceSub, Int.reduceMul, Int.reduceToNat, Int.reduceNeg, ↓reduceIte, reduceCtorEq, L_num_read, Ow.enc, Sl.enc, rr_num_read, ro_num_read, b0_num_read, *]
theorem run_num_Get : ∀ (q N : Nat), 8 * q ≤ N → ∀ (a0 : (Sl Int)), ∀ (r : Int × Int), num_Get q a0 = some r → (orc T N).deep F.num_Get [(Sl.enc (V.int .u8)) a0] = some [(V.int .i64) r.1, (V.int .i64) r.2] := by
  intro q N hM a0 r h
  rcases q with _ | q
  · cases h
  obtain ⟨M, rfl⟩ : ∃ M, N = M + 8 := ⟨N - 8, by omega⟩
  generalize hR : some [(V.int .i64) r.1, (V.int .i64) r.2] = R
  rw [orc_deep, T_num_Get, Option.bind_some, runDeep_eq]
  rw [num_Get] at h
  rcases h1 : num_read q a0 with _ | r1
  · rw [h1] at h; cases h
  · rw [h1, Option.bind_some] at h
    replace h1 := run_num_read q (M + 7) (by omega) _ _ h1
    try simp only [Ow.enc, Sl.enc, kn0, kn1, kn2, kn3, kn4, kn5, kn6, eq_self_iff_true, implies_true, forall_const, Int.cast_ofNat_Int, Nat.reduceEqDiff, Nat.reduceAdd, Nat.reduceSub, Nat.reduceMul, Nat.reduceLT, Nat.reduceLeDiff, Int.reduceEq, Int.reduceLT, Int.reduceLE, Int.reduceAdd, Int.reduceSub, Int.reduceMul, Int.reduceToNat, Int.reduceNeg, ↓reduceIte, reduceCtorEq] at h1
    rcases Classical.em (4611686018427387904 ≤ r1.1) with h2 | h2
    · rw [if_pos h2] at h; replace h2 := eq_true h2
      cases h; subst hR; simp (maxDischargeDepth := 12) only [kk0, kk1, kk2, kk3, kk4, kk5, kk6, kk7, kk8, kk9, kk10, kk11, kk12, kk13, kk14, kk15, kk16, kn0, kn1, kn2, kn3, kn4, kn5, kn6, eq_self_iff_true, implies_true, forall_const, Int.cast_ofNat_Int, Nat.reduceEqDiff, Nat.reduceAdd, Nat.reduceSub, Nat.reduceMul, Nat.reduceLT, Nat.reduceLeDiff, Int.reduceEq, Int.reduceLT, Int.reduceLE, Int.reduceAdd, Int.reduceSub, Int.reduceMul, Int.reduceToNat, Int.reduceNeg, ↓reduceIte, reduceCtorEq, L_num_Get, v_num_read, Ow.enc, Sl.enc, rr_num_Get, ro_num_Get, b0_num_Get, *]
    · rw [if_neg h2] at h; replace h2 := eq_false h2
      cases h; subst hR; simp (maxDischargeDepth := 12) only [kk0, kk1, kk2, kk3, kk4, kk5, kk6, kk7, kk8, kk9, kk10, kk11, kk12, kk13, kk14, kk15, kk16, kn0, kn1, kn2, kn3, kn4, kn5, kn6, eq_self_iff_true, implies_true, forall_const, Int.cast_ofNat_Int, Nat.reduceEqDiff, Nat.reduceAdd, Nat.reduceSub, Nat.reduceMul, Nat.reduceLT, Nat.reduceLeDiff, Int.reduceEq, Int.reduceLT, Int.reduceLE, Int.reduceAdd, Int.reduceSub, Int.reduceMul, Int.reduceToNat, Int.reduceNeg, ↓reduceIte, reduceCtorEq, L_num_Get, v_num_read, Ow.enc, Sl.enc, rr_num_Get, ro_num_Get, b0_num_Get, *]
theorem run_slices_Clone_int_int : ∀ (q N : Nat), 8 * q ≤ N → ∀ (a0 : (Sl Int)), ∀ (r : (Ow Int)), slices_Clone_int_int q a0 = some r → (orc T N).deep F.slices_Clone_int_int [(Sl.enc (V.int .i64)) a0] = some [(Ow.enc 1 (V.int .i64)) r] := by
  intro q N hM a0 r h
  rcases q with _ | q
  · cases h
  obtain ⟨M, rfl⟩ : ∃ M, N = M + 8 := ⟨N - 8, by omega⟩
  generalize hR : some [(Ow.enc 1 (V.int .i64)) r] = R
  rw [orc_deep, T_slices_Clone_int_int, Option.bind_some, runDeep_eq]
  rw [slices_Clone_int_int] at h
  rcases Classical.em (a0.z = true) with h1 | h1
  · rw [if_pos h1] at h; have h1' := bt1 h1; replace h1 := eq_true h1
    cases h; subst hR; simp (maxDischargeDepth := 12) only [kk0, kk1, kk2, kk3, kk4, kk5, kk6, kk7, kk8, kk9, kk10, kk11, kk12, kk13, kk14, kk15, kk16, kn0, kn1, kn2, kn3, kn4, kn5, kn6, eq_self_iff_true, implies_true, forall_const, Int.cast_ofNat_Int, Nat.reduceEqDiff, Nat.reduceAdd, Nat.reduceSub, Nat.reduceMul, Nat.reduceLT, Nat.reduceLeDiff, Int.reduceEq, Int.reduceLT, Int.reduceLE, Int.reduceAdd, Int.reduceSub, Int.reduceMul, Int.reduceToNat, Int.reduceNeg, ↓reduceIte, reduceCtorEq, L_slices_Clone_int_int, Ow.enc, Sl.enc, rr_slices_Clone_int_int, ro_slices_Clone_int_int, b0_slices_Clone_int_int, *]
  · rw [if_neg h1] at h; have h1' := bt0 h1; replace h1 := eq_false h1
    rcases Classical.em (a0.l.length ≤ 4294967296) with h2 | h2
    · rw [if_pos h2] at h; replace h2 := eq_true h2
      cases h; subst hR; simp (maxDischargeDepth := 12) only [kk0, kk1, kk2, kk3, kk4, kk5, kk6, kk7, kk8, kk9, kk10, kk11, kk12, kk13, kk14, kk15, kk16, kn0, kn1, kn2, kn3, kn4, kn5, kn6, eq_self_iff_true, implies_true, forall_const, Int.cast_ofNat_Int, Nat.reduceEqDiff, Nat.reduceAdd, Nat.reduceSub, Nat.reduceMul, Nat.reduceLT, Nat.reduceLeDiff, Int.reduceEq, Int.reduceLT, Int.reduceLE, Int.reduceAdd, Int.reduceSub, Int.reduceMul, Int.reduceToNat, Int.reduceNeg, ↓reduceIte, reduceCtorEq, L_slices_Clone_int_int, Ow.enc, Sl.enc, rr_slices_Clone_int_int, ro_slices_Clone_int_int, b0_slices_Clone_int_int, *]
    · rw [if_neg h2] at h; replace h2 := eq_false h2
      cases h
def St_slices_Index_int_int_l0 (q : Nat) : Prop := ∀ (M : Nat) (hM : 8 * q ≤ M) (j : Nat) (hj : q ≤ j) (v0z : Bool) (v0l : List Int) (v1 : Int) (v7 : Int) (v8 : Int) (r : Int) (_ : slices_Index_int_int_l0 q v0z v0l v1 v7 v8 = some r) (R : Option (List V)) (_ : some [(V.int .i64) r] = R) (fr : Fr) (H : Hp) (_ : canon 0 [0, 1, 7, 8] fr H = ([(0, (.sl v0z (List.map (V.int .i64) v0l))), (1, (.int .i64 v1)), (7, (.int .i64 v7)), (8, (.int .i64 v8))], [])), fin m_slices_Index_int_int (unw T (orc T (M + 7)) (M + 7) 0 [.blk 0, .code c_slices_Index_int_int_16] (iter 0 [0, 1, 7, 8] (exec T (orc T (M + 7)) (M + 7) 0 c_slices_Index_int_int_13) j fr H)) = R
theorem step_slices_Index_int_int_l0 (q : Nat) (ih_slices_Index_int_int_l0 : St_slices_Index_int_int_l0 q) : St_slices_Index_int_int_l0 (q + 1) := by
  intro M hM j hj v0z v0l v1 v7 v8 r h R hR fr H hc
  obtain ⟨j, rfl⟩ : ∃ i, j = i + 1 := ⟨j - 1, by omega⟩
  rw [unw_iter, hc]; clear hc
  rw [slices_Index_int_int_l0] at h
  rcases Classical.em (v8 < v7) with h1 | h1
  · rw [if_pos h1] at h; replace h1 := eq_true h1
    rcases Classical.em (0 ≤ v8) with h2 | h2
    · rw [if_pos h2] at h; replace h2 := eq_true h2
      rcases h3 : v0l[v8.toNat]? with _ | e1
      · rw [h3] at h; cases h
      · rw [h3, Option.bind_some] at h
        rcases Classical.em (v1 = e1) with h4 | h4
        · rw [if_pos h4] at h; replace h4 := eq_true h4
          cases h; subst hR; simp (maxDischargeDepth := 12) only [kk0, kk1, kk2, kk3, kk4, kk5, kk6, kk7, kk8, kk9, kk10, kk11, kk12, kk13, kk14, kk15, kk16, kn0, kn1, kn2, kn3, kn4, kn5, kn6, eq_self_iff_true, implies_true, forall_const, Int.cast_ofNat_Int, Nat.reduceEqDiff, Nat.reduceAdd, Nat.reduceSub, Nat.reduceMul, Nat.reduceLT, Nat.reduceLeDiff, Int.reduceEq, Int.reduceLT, Int.reduceLE, Int.reduceAdd, Int.reduceSub, Int.reduceMul, Int.reduceToNat, Int.reduceNeg, ↓reduceIte, reduceCtorEq, L_slices_Index_int_int, Ow.enc, Sl.enc, rr_slices_Index_int_int, ro_slices_Index_int_int, b0_slices_Index_int_int, *]
        · rw [if_neg h4] at h; replace h4 := eq_false h4
          replace h := ih_slices_Index_int_int_l0 M (by omega) j (by omega) _ _ _ _ _ _ h R hR
          simp (maxDischargeDepth := 12) only [kk0, kk1, kk2, kk3, kk4, kk5, kk6, kk7, kk8, kk9, kk10, kk11, kk12, kk13, kk14, kk15, kk16, kn0, kn1, kn2, kn3, kn4, kn5, kn6, eq_self_iff_true, implies_true, forall_const, Int.cast_ofNat_Int, Nat.reduceEqDiff, Nat.reduceAdd, Nat.reduceSub, Nat.reduceMul, Nat.reduceLT, Nat.reduceLeDiff, Int.reduceEq, Int.reduceLT, Int.reduceLE, Int.reduceAdd, Int.reduceSub, Int.reduceMul, Int.reduceToNat, Int.reduceNeg, ↓reduceIte, reduceCtorEq, L_slices_Index_int_int, Ow.enc, Sl.enc, rr_slices_Index_int_int, ro_slices_Index_int_int, b0_slices_Index_int_int, *]
    · rw [if_neg h2] at h; replace h2 := eq_false h2
      cases h
  · rw [if_neg h1] at h; replace h1 := eq_false h1
    cases h; subst hR; simp (maxDischargeDepth := 12) only [kk0, kk1, kk2, kk3, kk4, kk5, kk6, kk7, kk8, kk9, kk10, kk11, kk12, kk13, kk14, kk15, kk16, kn0, kn1, kn2, kn3, kn4, kn5, kn6, eq_self_iff_true, implies_true, forall_const, Int.cast_ofNat_Int, Nat.reduceEqDiff, Nat.reduceAdd, Nat.reduceSub, Nat.reduceMul, Nat.reduceLT, Nat.reduceLeDiff, Int.reduceEq, Int.reduceLT, Int.reduceLE, Int.reduceAdd, Int.reduceSub, Int.reduceMul, Int.reduceToNat, Int.reduceNeg, ↓reduceIte, reduceCtorEq, L_slices_Index_int_int, Ow.enc, Sl.enc, rr_slices_Index_int_int, ro_slices_Index_int_int, b0_slices_Index_int_int, *]
theorem all_slices_Index_int_int : ∀ q, St_slices_Index_int_int_l0 q
  | 0 => by intro M hM j hj; intros; rename_i h _ _ _ _ _; cases h
  | q + 1 => by have i0 := all_slices_Index_int_int q; exact step_slices_Index_int_int_l0 q i0
theorem run_slices_Index_int_int : ∀ (q N : Nat), 8 * q ≤ N → ∀ (a0 : (Sl Int)) (a1 : Int), ∀ (r : Int), slices_Index_int_int q a0 a1 = some r → (orc T N).deep F.slices_Index_int_int [(Sl.enc (V.int .i64)) a0, (V.int .i64) a1] = some [(V.int .i64) r] := by
  intro q N hM a0 a1 r h
  rcases q with _ | q
  · cases h
  obtain ⟨M, rfl⟩ : ∃ M, N = M + 8 := ⟨N - 8, by omega⟩
  have ih_slices_Index_int_int_l0 := (all_slices_Index_int_int q)
  generalize hR : some [(V.int .i64) r] = R
  rw [orc_deep, T_slices_Index_int_int, Option.bind_some, runDeep_eq]
  rw [slices_Index_int_int] at h
  replace h := ih_slices_Index_int_int_l0 M (by omega) (M + 7) (by omega) _ _ _ _ _ _ h R hR
  simp (maxDischargeDepth := 12) only [kk0, kk1, kk2, kk3, kk4, kk5, kk6, kk7, kk8, kk9, kk10, kk11, kk12, kk13, kk14, kk15, kk16, kn0, kn1, kn2, kn3, kn4, kn5, kn6, eq_self_iff_true, implies_true, forall_const, Int.cast_ofNat_Int, Nat.reduceEqDiff, Nat.reduceAdd, Nat.reduceSub, Nat.reduceMul, Nat.reduceLT, Nat.reduceLeDiff, Int.reduceEq, Int.reduceLT, Int.reduceLE, Int.reduceAdd, Int.reduceSub, Int.reduceMul, Int.reduceToNat, Int.reduceNeg, ↓reduceIte, reduceCtorEq, L_slices_Index_int_int, Ow.enc, Sl.enc, rr_slices_Index_int_int, ro_slices_Index_int_int, b0_slices_Index_int_int, *]
theorem run_slices_Delete_int_int : ∀ (q N : Nat), 8 * q ≤ N → ∀ (a0 : (Ow Int)) (a1 : Int) (a2 : Int), ∀ (r : (Ow Int)), slices_Delete_int_int q a0 a1 a2 = some r → (orc T N).deep F.slices_Delete_int_int [(Ow.enc 1 (V.int .i64)) a0, (V.int .i64) a1, (V.int .i64) a2] = some [(Ow.enc 1 (V.int .i64)) r] := by
  intro q N hM a0 a1 a2 r h
  rcases q with _ | q
  · cases h
  obtain ⟨M, rfl⟩ : ∃ M, N = M + 8 := ⟨N - 8, by omega⟩
  generalize hR : some [(Ow.enc 1 (V.int .i64)) r] = R
  rw [orc_deep, T_slices_Delete_int_int, Option.bind_some, runDeep_eq]
  rw [slices_Delete_int_int] at h
  rcases Classical.em (0 ≤ a1) with h1 | h1
  · rw [if_pos h1] at h; replace h1 := eq_true h1
    rcases Classical.em (a1 ≤ a2) with h2 | h2
    · rw [if_pos h2] at h; replace h2 := eq_true h2
      rcases Classical.em (a2 ≤ (a0.xs.length : Int)) with h3 | h3
      · rw [if_pos h3] at h; replace h3 := eq_true h3
        rcases Classical.em (a1 = a2) with h4 | h4
        · rw [if_pos h4] at h; replace h4 := eq_true h4
          cases h; subst hR; simp (maxDischargeDepth := 12) only [kk0, kk1, kk2, kk3, kk4, kk5, kk6, kk7, kk8, kk9, kk10, kk11, kk12, kk13, kk14, kk15, kk16, kn0, kn1, kn2, kn3, kn4, kn5, kn6, eq_self_iff_true, implies_true, forall_const, Int.cast_ofNat_Int, Nat.reduceEqDiff, Nat.reduceAdd, Nat.reduceSub, Nat.reduceMul, Nat.reduceLT, Nat.reduceLeDiff, Int.reduceEq, Int.reduceLT, Int.reduceLE, Int.reduceAdd, Int.reduceSub, Int.reduceMul, Int.reduceToNat, Int.reduceNeg, ↓reduceIte, reduceCtorEq, L_slices_Delete_int_int, Ow.enc, Sl.enc, rr_slices_Delete_int_int, ro_slices_Delete_int_int, b0_slices_Delete_int_int, *]
        · rw [if_neg h4] at h; replace h4 := eq_false h4
          rcases Classical.em (a1.toNat ≤ a0.xs.length) with h5 | h5
          · rw [if_pos h5] at h; replace h5 := eq_true h5
            rcases Classical.em (a0.n = true) with h6 | h6
            · rw [if_pos h6] at h; have h6' := bt1 h6; replace h6 := eq_true h6
              rcases Classical.em (0 ≤ a2) with h7 | h7
              · rw [if_pos h7] at h; replace h7 := eq_true h7
                rcases Classical.em (a2.toNat ≤ a0.xs.length) with h8 | h8
                · rw [if_pos h8] at h; replace h8 := eq_true h8
                  rcases Classical.em ((a0.xs.length + (a0.xs.length - a2.toNat)) ≤ 4294967296) with h9 | h9
                  · rw [if_pos h9] at h; replace h9 := eq_true h9
                    try simp only [kn0, kn1, kn2, kn3, kn4, kn5, kn6, eq_self_iff_true, implies_true, forall_const, Int.cast_ofNat_Int, Nat.reduceEqDiff, Nat.reduceAdd, Nat.reduceSub, Nat.reduceMul, Nat.reduceLT, Nat.reduceLeDiff, Int.reduceEq, Int.reduceLT, Int.reduceLE, Int.reduceAdd, Int.reduceSub, Int.reduceMul, Int.reduceToNat, Int.reduceNeg, ↓reduceIte, reduceCtorEq] at h9
                    rcases Classical.em ((((a0.xs.length + (a0.xs.length - a2.toNat)) : Nat) : Int) ≤ (a0.xs.length : Int)) with h10 | h10
                    · rw [if_pos h10] at h; replace h10 := eq_true h10
                      try simp only [kn0, kn1, kn2, kn3, kn4, kn5, kn6, eq_self_iff_true, implies_true, forall_const, Int.cast_ofNat_Int, Nat.reduceEqDiff, Nat.reduceAdd, Nat.reduceSub, Nat.reduceMul, Nat.reduceLT, Nat.reduceLeDiff, Int.reduceEq, Int.reduceLT, Int.reduceLE, Int.reduceAdd, Int.reduceSub, Int.reduceMul, Int.reduceToNat, Int.reduceNeg, ↓reduceIte, reduceCtorEq] at h10
                      rcases Classical.em (a0.xs.length ≤ (a0.xs.length + (a0.xs.length - a2.toNat))) with h11 | h11
                      · rw [if_pos h11] at h; replace h11 := eq_true h11
                        try simp only [kn0, kn1, kn2, kn3, kn4, kn5, kn6, eq_self_iff_true, implies_true, forall_const, Int.cast_ofNat_Int, Nat.reduceEqDiff, Nat.reduceAdd, Nat.reduceSub, Nat.reduceMul, Nat.reduceLT, Nat.reduceLeDiff, Int.reduceEq, Int.reduceLT, Int.reduceLE, Int.reduceAdd, Int.reduceSub, Int.reduceMul, Int.reduceToNat, Int.reduceNeg, ↓reduceIte, reduceCtorEq] at h11
                        rcases Classical.em ((a0.xs.length - a2.toNat) = 0) with h12 | h12
                        · rw [if_pos h12] at h; replace h12 := eq_true h12
                          try simp only [kn0, kn1, kn2, kn3, kn4, kn5, kn6, eq_self_iff_true, implies_true, forall_const, Int.cast_ofNat_Int, Nat.reduceEqDiff, Nat.reduceAdd, Nat.reduceSub, Nat.reduceMul, Nat.reduceLT, Nat.reduceLeDiff, Int.reduceEq, Int.reduceLT, Int.reduceLE, Int.reduceAdd, Int.reduceSub, Int.reduceMul, Int.reduceToNat, Int.reduceNeg, ↓reduceIte, reduceCtorEq] at h12
                          cases h
                        · rw [if_neg h12] at h; replace h12 := eq_false h12
                          try simp only [kn0, kn1, kn2, kn3, kn4, kn5, kn6, eq_self_iff_true, implies_true, forall_const, Int.cast_ofNat_Int, Nat.reduceEqDiff, Nat.reduceAdd, Nat.reduceSub, Nat.reduceMul, Nat.reduceLT, Nat.reduceLeDiff, Int.reduceEq, Int.reduceLT, Int.reduceLE, Int.reduceAdd, Int.reduceSub, Int.reduceMul, Int.reduceToNat, Int.reduceNeg, ↓reduceIte, reduceCtorEq] at h12
                          rcases Classical.em (a0.x = true) with h13 | h13
                          · rw [if_pos h13] at h; have h13' := bt1 h13; replace h13 := eq_true h13
                            cases h; subst hR; simp (maxDischargeDepth := 12) only [kk0, kk1, kk2, kk3, kk4, kk5, kk6, kk7, kk8, kk9, kk10, kk11, kk12, kk13, kk14, kk15, kk16, kn0, kn1, kn2, kn3, kn4, kn5, kn6, eq_self_iff_true, implies_true, forall_const, Int.cast_ofNat_Int, Nat.reduceEqDiff, Nat.reduceAdd, Nat.reduceSub, Nat.reduceMul, Nat.reduceLT, Nat.reduceLeDiff, Int.reduceEq, Int.reduceLT, Int.reduceLE, Int.reduceAdd, Int.reduceSub, Int.reduceMul, Int.reduceToNat, Int.reduceNeg, ↓reduceIte, reduceCtorEq, L_slices_Delete_int_int, Ow.enc, Sl.enc, rr_slices_Delete_int_int, ro_slices_Delete_int_int, b0_slices_Delete_int_int, *]
                          · rw [if_neg h13] at h; have h13' := bt0 h13; replace h13 := eq_false h13
                            cases h
                      · rw [if_neg h11] at h; replace h11 := eq_false h11
                        try simp only [kn0, kn1, kn2, kn3, kn4, kn5, kn6, eq_self_iff_true, implies_true, forall_const, Int.cast_ofNat_Int, Nat.reduceEqDiff, Nat.reduceAdd, Nat.reduceSub, Nat.reduceMul, Nat.reduceLT, Nat.reduceLeDiff, Int.reduceEq, Int.reduceLT, Int.reduceLE, Int.reduceAdd, Int.reduceSub, Int.reduceMul, Int.reduceToNat, Int.reduceNeg, ↓reduceIte, reduceCtorEq] at h11
                        cases h
                    · rw [if_neg h10] at h; replace h10 := eq_false h10
                      try simp only [kn0, kn1, kn2, kn3, kn4, kn5, kn6, eq_self_iff_true, implies_true, forall_const, Int.cast_ofNat_Int, Nat.reduceEqDiff, Nat.reduceAdd, Nat.reduceSub, Nat.reduceMul, Nat.reduceLT, Nat.reduceLeDiff, Int.reduceEq, Int.reduceLT, Int.reduceLE, Int.reduceAdd, Int.reduceSub, Int.reduceMul, Int.reduceToNat, Int.reduceNeg, ↓reduceIte, reduceCtorEq] at h10
                      cases h
                  · rw [if_neg h9] at h; replace h9 := eq_false h9
                    try simp only [kn0, kn1, kn2, kn3, kn4, kn5, kn6, eq_self_iff_true, implies_true, forall_const, Int.cast_ofNat_Int, Nat.reduceEqDiff, Nat.reduceAdd, Nat.reduceSub, Nat.reduceMul, Nat.reduceLT, Nat.reduceLeDiff, Int.reduceEq, Int.reduceLT, Int.reduceLE, Int.reduceAdd, Int.reduceSub, Int.reduceMul, Int.reduceToNat, Int.reduceNeg, ↓reduceIte, reduceCtorEq] at h9
                    cases h
                · rw [if_neg h8] at h; replace h8 := eq_false h8
                  cases h
              · rw [if_neg h7] at h; replace h7 := eq_false h7
                cases h
            · rw [if_neg h6] at h; have h6' := bt0 h6; replace h6 := eq_false h6
              rcases Classical.em (0 ≤ a2) with h14 | h14
              · rw [if_pos h14] at h; replace h14 := eq_true h14
                rcases Classical.em (a2.toNat ≤ a0.xs.length) with h15 | h15
                · rw [if_pos h15] at h; replace h15 := eq_true h15
                  rcases Classical.em ((a1.toNat + (a0.xs.length - a2.toNat)) ≤ a0.xs.length) with h16 | h16
                  · rw [if_pos h16] at h; replace h16 := eq_true h16
                    try simp only [kn0, kn1, kn2, kn3, kn4, kn5, kn6, eq_self_iff_true, implies_true, forall_const, Int.cast_ofNat_Int, Nat.reduceEqDiff, Nat.reduceAdd, Nat.reduceSub, Nat.reduceMul, Nat.reduceLT, Nat.reduceLeDiff, Int.reduceEq, Int.reduceLT, Int.reduceLE, Int.reduceAdd, Int.reduceSub, Int.reduceMul, Int.reduceToNat, Int.reduceNeg, ↓reduceIte, reduceCtorEq] at h16
                    rcases Classical.em (a0.x = true) with h17 | h17
                    · rw [if_pos h17] at h; have h17' := bt1 h17; replace h17 := eq_true h17
                      rcases Classical.em ((((a1.toNat + (a0.xs.length - a2.toNat)) : Nat) : Int) ≤ (a0.xs.length : Int)) with h18 | h18
                      · rw [if_pos h18] at h; replace h18 := eq_true h18
                        try simp only [kn0, kn1, kn2, kn3, kn4, kn5, kn6, eq_self_iff_true, implies_true, forall_const, Int.cast_ofNat_Int, Nat.reduceEqDiff, Nat.reduceAdd, Nat.reduceSub, Nat.reduceMul, Nat.reduceLT, Nat.reduceLeDiff, Int.reduceEq, Int.reduceLT, Int.reduceLE, Int.reduceAdd, Int.reduceSub, Int.reduceMul, Int.reduceToNat, Int.reduceNeg, ↓reduceIte, reduceCtorEq] at h18
                        rcases Classical.em (a0.xs.length ≤ (((min a1.toNat a0.xs.length) + (a0.xs.length - a2.toNat)) + (a0.xs.length - (a1.toNat + (a0.xs.length - a2.toNat))))) with h19 | h19
                        · rw [if_pos h19] at h; replace h19 := eq_true h19
                          try simp only [kn0, kn1, kn2, kn3, kn4, kn5, kn6, eq_self_iff_true, implies_true, forall_const, Int.cast_ofNat_Int, Nat.reduceEqDiff, Nat.reduceAdd, Nat.reduceSub, Nat.reduceMul, Nat.reduceLT, Nat.reduceLeDiff, Int.reduceEq, Int.reduceLT, Int.reduceLE, Int.reduceAdd, Int.reduceSub, Int.reduceMul, Int.reduceToNat, Int.reduceNeg, ↓reduceIte, reduceCtorEq] at h19
                          cases h; subst hR; simp (maxDischargeDepth := 12) only [kk0, kk1, kk2, kk3, kk4, kk5, kk6, kk7, kk8, kk9, kk10, kk11, kk12, kk13, kk14, kk15, kk16, kn0, kn1, kn2, kn3, kn4, kn5, kn6, eq_self_iff_true, implies_true, forall_const, Int.cast_ofNat_Int, Nat.reduceEqDiff, Nat.reduceAdd, Nat.reduceSub, Nat.reduceMul, Nat.reduceLT, Nat.reduceLeDiff, Int.reduceEq, Int.reduceLT, Int.reduceLE, Int.reduceAdd, Int.reduceSub, Int.reduceMul, Int.reduceToNat, Int.reduceNeg, ↓reduceIte, reduceCtorEq, L_slices_Delete_int_int, Ow.enc, Sl.enc, rr_slices_Delete_int_int, ro_slices_Delete_int_int, b0_slices_Delete_int_int, *]
                        · rw [if_neg h19] at h; replace h19 := eq_false h19
                          try simp only [kn0, kn1, kn2, kn3, kn4, kn5, kn6, eq_self_iff_true, implies_true, forall_const, Int.cast_ofNat_Int, Nat.reduceEqDiff, Nat.reduceAdd, Nat.reduceSub, Nat.reduceMul, Nat.reduceLT, Nat.reduceLeDiff, Int.reduceEq, Int.reduceLT, Int.reduceLE, Int.reduceAdd, Int.reduceSub, Int.reduceMul, Int.reduceToNat, Int.reduceNeg, ↓reduceIte, reduceCtorEq] at h19
                          cases h
                      · rw [if_neg h18] at h; replace h18 := eq_false h18
                        try simp only [kn0, kn1, kn2, kn3, kn4, kn5, kn6, eq_self_iff_true, implies_true, forall_const, Int.cast_ofNat_Int, Nat.reduceEqDiff, Nat.reduceAdd, Nat.reduceSub, Nat.reduceMul, Nat.reduceLT, Nat.reduceLeDiff, Int.reduceEq, Int.reduceLT, Int.reduceLE, Int.reduceAdd, Int.reduceSub, Int.reduceMul, Int.reduceToNat, Int.reduceNeg, ↓reduceIte, reduceCtorEq] at h18
                        cases h
                    · rw [if_neg h17] at h; have h17' := bt0 h17; replace h17 := eq_false h17
                      cases h
                  · rw [if_neg h16] at h; replace h16 := eq_false h16
                    try simp only [kn0, kn1, kn2, kn3, kn4, kn5, kn6, eq_self_iff_true, implies_true, forall_const, Int.cast_ofNat_Int, Nat.reduceEqDiff, Nat.reduceAdd, Nat.reduceSub, Nat.reduceMul, Nat.reduceLT, Nat.reduceLeDiff, Int.reduceEq, Int.reduceLT, Int.reduceLE, Int.reduceAdd, Int.reduceSub, Int.reduceMul, Int.reduceToNat, Int.reduceNeg, ↓reduceIte, reduceCtorEq] at h16
                    cases h
                · rw [if_neg h15] at h; replace h15 := eq_false h15
                  cases h
              · rw [if_neg h14] at h; replace h14 := eq_false h14
                cases h
          · rw [if_neg h5] at h; replace h5 := eq_false h5
            cases h
      · rw [if_neg h3] at h; replace h3 := eq_false h3
        cases h
    · rw [if_neg h2] at h; replace h2 := eq_false h2
      cases h
  · rw [if_neg h1] at h; replace h1 := eq_false h1
    cases h
theorem run_num_Zag : ∀ (q N : Nat), 8 * q ≤ N → ∀ (a0 : Int), ∀ (r : Int), num_Zag q a0 = some r → (orc T N).deep F.num_Zag [(V.int .u64) a0] = some [(V.int .i64) r] := by
  intro q N hM a0 r h
  rcases q with _ | q
  · cases h
  obtain ⟨M, rfl⟩ : ∃ M, N = M + 8 := ⟨N - 8, by omega⟩
  generalize hR : some [(V.int .i64) r] = R
  rw [orc_deep, T_num_Zag, Option.bind_some, runDeep_eq]
  rw [num_Zag] at h
  cases h; subst hR; simp (maxDischargeDepth := 12) only [kk0, kk1, kk2, kk3, kk4, kk5, kk6, kk7, kk8, kk9, kk10, kk11, kk12, kk13, kk14, kk15, kk16, kn0, kn1, kn2, kn3, kn4, kn5, kn6, eq_self_iff_true, implies_true, forall_const, Int.cast_ofNat_Int, Nat.reduceEqDiff, Nat.reduceAdd, Nat.reduceSub, Nat.reduceMul, Nat.reduceLT, Nat.reduceLeDiff, Int.reduceEq, Int.reduceLT, Int.reduceLE, Int.reduceAdd, Int.reduceSub, Int.reduceMul, Int.reduceToNat, Int.reduceNeg, ↓reduceIte, reduceCtorEq, L_num_Zag, Ow.enc, Sl.enc, rr_num_Zag, ro_num_Zag, b0_num_Zag, *]
theorem run_num_GetSigned : ∀ (q N : Nat), 8 * q ≤ N → ∀ (a0 : (Sl Int)), ∀ (r : Int × Int), num_GetSigned q a0 = some r → (orc T N).deep F.num_GetSigned [(Sl.enc (V.int .u8)) a0] = some [(V.int .i64) r.1, (V.int .i64) r.2] := by
  intro q N hM a0 r h
  rcases q with _ | q
  · cases h
  obtain ⟨M, rfl⟩ : ∃ M, N = M + 8 := ⟨N - 8, by omega⟩
  generalize hR : some [(V.int .i64) r.1, (V.int .i64) r.2] = R
  rw [orc_deep, T_num_GetSigned, Option.bind_some, runDeep_eq]
  rw [num_GetSigned] at h
  rcases h1 : num_read q a0 with _ | r1
  · rw [h1] at h; cases h
  · rw [h1, Option.bind_some] at h
    replace h1 := run_num_read q (M + 7) (by omega) _ _ h1
    try simp only [Ow.enc, Sl.enc, kn0, kn1, kn2, kn3, kn4, kn5, kn6, eq_self_iff_true, implies_true, forall_const, Int.cast_ofNat_Int, Nat.reduceEqDiff, Nat.reduceAdd, Nat.reduceSub, Nat.reduceMul, Nat.reduceLT, Nat.reduceLeDiff, Int.reduceEq, Int.reduceLT, Int.reduceLE, Int.reduceAdd, Int.reduceSub, Int.reduceMul, Int.reduceToNat, Int.reduceNeg, ↓reduceIte, reduceCtorEq] at h1
    rcases Classical.em (r1.2 = 0) with h2 | h2
    · rw [if_pos h2] at h; replace h2 := eq_true h2
      cases h; subst hR; simp (maxDischargeDepth := 12) only [kk0, kk1, kk2, kk3, kk4, kk5, kk6, kk7, kk8, kk9, kk10, kk11, kk12, kk13, kk14, kk15, kk16, kn0, kn1, kn2, kn3, kn4, kn5, kn6, eq_self_iff_true, implies_true, forall_const, Int.cast_ofNat_Int, Nat.reduceEqDiff, Nat.reduceAdd, Nat.reduceSub, Nat.reduceMul, Nat.reduceLT, Nat.reduceLeDiff, Int.reduceEq, Int.reduceLT, Int.reduceLE, Int.reduceAdd, Int.reduceSub, Int.reduceMul, Int.reduceToNat, Int.reduceNeg, ↓reduceIte, reduceCtorEq, L_num_GetSigned, v_num_read, v_num_Zag, Ow.enc, Sl.enc, rr_num_GetSigned, ro_num_GetSigned, b0_num_GetSigned, *]
    · rw [if_neg h2] at h; replace h2 := eq_false h2
      rcases h3 : num_Zag q r1.1 with _ | r2
      · rw [h3] at h; cases h
      · rw [h3, Option.bind_some] at h
        replace h3 := run_num_Zag q (M + 7) (by omega) _ _ h3
        skip
        cases h; subst hR; simp (maxDischargeDepth := 12) only [kk0, kk1, kk2, kk3, kk4, kk5, kk6, kk7, kk8, kk9, kk10, kk11, kk12, kk13, kk14, kk15, kk16, kn0, kn1, kn2, kn3, kn4, kn5, kn6, eq_self_iff_true, implies_true, forall_const, Int.cast_ofNat_Int, Nat.reduceEqDiff, Nat.reduceAdd, Nat.reduceSub, Nat.reduceMul, Nat.reduceLT, Nat.reduceLeDiff, Int.reduceEq, Int.reduceLT, Int.reduceLE, Int.reduceAdd, Int.reduceSub, Int.reduceMul, Int.reduceToNat, Int.reduceNeg, ↓reduceIte, reduceCtorEq, L_num_GetSigned, v_num_read, v_num_Zag, Ow.enc, Sl.enc, rr_num_GetSigned, ro_num_GetSigned, b0_num_GetSigned, *]
theorem run_codec_GetOp : ∀ (q N : Nat), 8 * q ≤ N → ∀ (a0 : (Sl Int)), ∀ (r : S_api_Op × Int), codec_GetOp q a0 = some r → (orc T N).deep F.codec_GetOp [(Sl.enc (V.int .u8)) a0] = some [S_api_Op.enc r.1, (V.int .i64) r.2] := by
  intro q N hM a0 r h
  rcases q with _ | q
  · cases h
  obtain ⟨M, rfl⟩ : ∃ M, N = M + 8 := ⟨N - 8, by omega⟩
  generalize hR : some [S_api_Op.enc r.1, (V.int .i64) r.2] = R
  rw [orc_deep, T_codec_GetOp, Option.bind_some, runDeep_eq]
  rw [codec_GetOp] at h
  rcases h1 : num_Get q a0 with _ | r1
  · rw [h1] at h; cases h
  · rw [h1, Option.bind_some] at h
    replace h1 := run_num_Get q (M + 6) (by omega) _ _ h1
    try simp only [Ow.enc, Sl.enc, kn0, kn1, kn2, kn3, kn4, kn5, kn6, eq_self_iff_true, implies_true, forall_const, Int.cast_ofNat_Int, Nat.reduceEqDiff, Nat.reduceAdd, Nat.reduceSub, Nat.reduceMul, Nat.reduceLT, Nat.reduceLeDiff, Int.reduceEq, Int.reduceLT, Int.reduceLE, Int.reduceAdd, Int.reduceSub, Int.reduceMul, Int.reduceToNat, Int.reduceNeg, ↓reduceIte, reduceCtorEq] at h1
    rcases Classical.em (0 ≤ r1.2) with h2 | h2
    · rw [if_pos h2] at h; replace h2 := eq_true h2
      rcases Classical.em (r1.2 ≤ (a0.l.length : Int)) with h3 | h3
      · rw [if_pos h3] at h; replace h3 := eq_true h3
        rcases h4 : num_GetSigned q ⟨a0.z, (List.drop r1.2.toNat a0.l)⟩ with _ | r2
        · rw [h4] at h; cases h
        · rw [h4, Option.bind_some] at h
          replace h4 := run_num_GetSigned q (M + 6) (by omega) _ _ h4
          try simp only [Ow.enc, Sl.enc, kn0, kn1, kn2, kn3, kn4, kn5, kn6, eq_self_iff_true, implies_true, forall_const, Int.cast_ofNat_Int, Nat.reduceEqDiff, Nat.reduceAdd, Nat.reduceSub, Nat.reduceMul, Nat.reduceLT, Nat.reduceLeDiff, Int.reduceEq, Int.reduceLT, Int.reduceLE, Int.reduceAdd, Int.reduceSub, Int.reduceMul, Int.reduceToNat, Int.reduceNeg, ↓reduceIte, reduceCtorEq] at h4
          rcases Classical.em (0 < r1.2) with h5 | h5
          · rw [if_pos h5] at h; replace h5 := eq_true h5
            rcases Classical.em (0 ≤ r2.2) with h6 | h6
            · rw [if_pos h6] at h; replace h6 := eq_true h6
              rcases Classical.em (r2.2 ≤ (((a0.l.length - r1.2.toNat) : Nat) : Int)) with h7 | h7
              · rw [if_pos h7] at h; replace h7 := eq_true h7
                try simp only [kn0, kn1, kn2, kn3, kn4, kn5, kn6, eq_self_iff_true, implies_true, forall_const, Int.cast_ofNat_Int, Nat.reduceEqDiff, Nat.reduceAdd, Nat.reduceSub, Nat.reduceMul, Nat.reduceLT, Nat.reduceLeDiff, Int.reduceEq, Int.reduceLT, Int.reduceLE, Int.reduceAdd, Int.reduceSub, Int.reduceMul, Int.reduceToNat, Int.reduceNeg, ↓reduceIte, reduceCtorEq] at h7
                rcases h8 : num_GetSigned q ⟨a0.z, (List.drop r2.2.toNat (List.drop r1.2.toNat a0.l))⟩ with _ | r3
                · rw [h8] at h; cases h
                · rw [h8, Option.bind_some] at h
                  replace h8 := run_num_GetSigned q (M + 6) (by omega) _ _ h8
                  try simp only [Ow.enc, Sl.enc, kn0, kn1, kn2, kn3, kn4, kn5, kn6, eq_self_iff_true, implies_true, forall_const, Int.cast_ofNat_Int, Nat.reduceEqDiff, Nat.reduceAdd, Nat.reduceSub, Nat.reduceMul, Nat.reduceLT, Nat.reduceLeDiff, Int.reduceEq, Int.reduceLT, Int.reduceLE, Int.reduceAdd, Int.reduceSub, Int.reduceMul, Int.reduceToNat, Int.reduceNeg, ↓reduceIte, reduceCtorEq] at h8
                  rcases Classical.em (0 < r2.2) with h9 | h9
                  · rw [if_pos h9] at h; replace h9 := eq_true h9
                    rcases Classical.em (0 ≤ r3.2) with h10 | h10
                    · rw [if_pos h10] at h; replace h10 := eq_true h10
                      rcases Classical.em (r3.2 ≤ ((((a0.l.length - r1.2.toNat) - r2.2.toNat) : Nat) : Int)) with h11 | h11
                      · rw [if_pos h11] at h; replace h11 := eq_true h11
                        try simp only [kn0, kn1, kn2, kn3, kn4, kn5, kn6, eq_self_iff_true, implies_true, forall_const, Int.cast_ofNat_Int, Nat.reduceEqDiff, Nat.reduceAdd, Nat.reduceSub, Nat.reduceMul, Nat.reduceLT, Nat.reduceLeDiff, Int.reduceEq, Int.reduceLT, Int.reduceLE, Int.reduceAdd, Int.reduceSub, Int.reduceMul, Int.reduceToNat, Int.reduceNeg, ↓reduceIte, reduceCtorEq] at h11
                        rcases Classical.em (0 < r3.2) with h12 | h12
                        · rw [if_pos h12] at h; replace h12 := eq_true h12
                          rcases h13 : objs_Fits q (⟨r1.1, r2.1, r3.1⟩ : S_api_Op) with _ | r4
                          · rw [h13] at h; cases h
                          · rw [h13, Option.bind_some] at h
                            replace h13 := run_objs_Fits q (M + 7) (by omega) _ _ h13
                            try simp only [Ow.enc, S_api_Op.enc, kn0, kn1, kn2, kn3, kn4, kn5, kn6, eq_self_iff_true, implies_true, forall_const, Int.cast_ofNat_Int, Nat.reduceEqDiff, Nat.reduceAdd, Nat.reduceSub, Nat.reduceMul, Nat.reduceLT, Nat.reduceLeDiff, Int.reduceEq, Int.reduceLT, Int.reduceLE, Int.reduceAdd, Int.reduceSub, Int.reduceMul, Int.reduceToNat, Int.reduceNeg, ↓reduceIte, reduceCtorEq] at h13
                            rcases Classical.em (r4 = true) with h14 | h14
                            · rw [if_pos h14] at h; have h14' := bt1 h14; replace h14 := eq_true h14
                              cases h; subst hR; simp (maxDischargeDepth := 12) only [kk0, kk1, kk2, kk3, kk4, kk5, kk6, kk7, kk8, kk9, kk10, kk11, kk12, kk13, kk14, kk15, kk16, kn0, kn1, kn2, kn3, kn4, kn5, kn6, eq_self_iff_true, implies_true, forall_const, Int.cast_ofNat_Int, Nat.reduceEqDiff, Nat.reduceAdd, Nat.reduceSub, Nat.reduceMul, Nat.reduceLT, Nat.reduceLeDiff, Int.reduceEq, Int.reduceLT, Int.reduceLE, Int.reduceAdd, Int.reduceSub, Int.reduceMul, Int.reduceToNat, Int.reduceNeg, ↓reduceIte, reduceCtorEq, L_codec_GetOp, L_codec_reader, L_codec_reader_1, L_codec_reader_2, L_codec_reader_3, v_objs_Fits, v_num_Get, v_num_GetSigned, v_codec_reader, i_codec_reader, v_codec_reader_1, i_codec_reader_1, v_codec_reader_2, i_codec_reader_2, v_codec_reader_3, i_codec_reader_3, Ow.enc, S_api_Op.enc, Sl.enc, rr_codec_GetOp, ro_codec_GetOp, b0_codec_GetOp, *]
                            · rw [if_neg h14] at h; have h14' := bt0 h14; replace h14 := eq_false h14
                              cases h; subst hR; simp (maxDischargeDepth := 12) only [kk0, kk1, kk2, kk3, kk4, kk5, kk6, kk7, kk8, kk9, kk10, kk11, kk12, kk13, kk14, kk15, kk16, kn0, kn1, kn2, kn3, kn4, kn5, kn6, eq_self_iff_true, implies_true, forall_const, Int.cast_ofNat_Int, Nat.reduceEqDiff, Nat.reduceAdd, Nat.reduceSub, Nat.reduceMul, Nat.reduceLT, Nat.reduceLeDiff, Int.reduceEq, Int.reduceLT, Int.reduceLE, Int.reduceAdd, Int.reduceSub, Int.reduceMul, Int.reduceToNat, Int.reduceNeg, ↓reduceIte, reduceCtorEq, L_codec_GetOp, L_codec_reader, L_codec_reader_1, L_codec_reader_2, L_codec_reader_3, v_objs_Fits, v_num_Get, v_num_GetSigned, v_codec_reader, i_codec_reader, v_codec_reader_1, i_codec_reader_1, v_codec_reader_2, i_codec_reader_2, v_codec_reader_3, i_codec_reader_3, Ow.enc, S_api_Op.enc, Sl.enc, rr_codec_GetOp, ro_codec_GetOp, b0_codec_GetOp, *]
                        · rw [if_neg h12] at h; replace h12 := eq_false h12
                          cases h; subst hR; simp (maxDischargeDepth := 12) only [kk0, kk1, kk2, kk3, kk4, kk5, kk6, kk7, kk8, kk9, kk10, kk11, kk12, kk13, kk14, kk15, kk16, kn0, kn1, kn2, kn3, kn4, kn5, kn6, eq_self_iff_true, implies_true, forall_const, Int.cast_ofNat_Int, Nat.reduceEqDiff, Nat.reduceAdd, Nat.reduceSub, Nat.reduceMul, Nat.reduceLT, Nat.reduceLeDiff, Int.reduceEq, Int.reduceLT, Int.reduceLE, Int.reduceAdd, Int.reduceSub, Int.reduceMul, Int.reduceToNat, Int.reduceNeg, ↓reduceIte, reduceCtorEq, L_codec_GetOp, L_codec_reader, L_codec_reader_1, L_codec_reader_2, L_codec_reader_3, v_objs_Fits, v_num_Get, v_num_GetSigned, v_codec_reader, i_codec_reader, v_codec_reader_1, i_codec_reader_1, v_codec_reader_2, i_codec_reader_2, v_codec_reader_3, i_codec_reader_3, Ow.enc, S_api_Op.enc, Sl.enc, rr_codec_GetOp, ro_codec_GetOp, b0_codec_GetOp, *]
                      · rw [if_neg h11] at h; replace h11 := eq_false h11
                        try simp only [kn0, kn1, kn2, kn3, kn4, kn5, kn6, eq_self_iff_true, implies_true, forall_const, Int.cast_ofNat_Int, Nat.reduceEqDiff, Nat.reduceAdd, Nat.reduceSub, Nat.reduceMul, Nat.reduceLT, Nat.reduceLeDiff, Int.reduceEq, Int.reduceLT, Int.reduceLE, Int.reduceAdd, Int.reduceSub, Int.reduceMul, Int.reduceToNat, Int.reduceNeg, ↓reduceIte, reduceCtorEq] at h11
                        cases h
                    · rw [if_neg h10] at h; replace h10 := eq_false h10
                      cases h
                  · rw [if_neg h9] at h; replace h9 := eq_false h9
                    rcases Classical.em (0 ≤ r3.2) with h15 | h15
                    · rw [if_pos h15] at h; replace h15 := eq_true h15
                      rcases Classical.em (r3.2 ≤ ((((a0.l.length - r1.2.toNat) - r2.2.toNat) : Nat) : Int)) with h16 | h16
                      · rw [if_pos h16] at h; replace h16 := eq_true h16
                        try simp only [kn0, kn1, kn2, kn3, kn4, kn5, kn6, eq_self_iff_true, implies_true, forall_const, Int.cast_ofNat_Int, Nat.reduceEqDiff, Nat.reduceAdd, Nat.reduceSub, Nat.reduceMul, Nat.reduceLT, Nat.reduceLeDiff, Int.reduceEq, Int.reduceLT, Int.reduceLE, Int.reduceAdd, Int.reduceSub, Int.reduceMul, Int.reduceToNat, Int.reduceNeg, ↓reduceIte, reduceCtorEq] at h16
                        cases h; subst hR; simp (maxDischargeDepth := 12) only [kk0, kk1, kk2, kk3, kk4, kk5, kk6, kk7, kk8, kk9, kk10, kk11, kk12, kk13, kk14, kk15, kk16, kn0, kn1, kn2, kn3, kn4, kn5, kn6, eq_self_iff_true, implies_true, forall_const, Int.cast_ofNat_Int, Nat.reduceEqDiff, Nat.reduceAdd, Nat.reduceSub, Nat.reduceMul, Nat.reduceLT, Nat.reduceLeDiff, Int.reduceEq, Int.reduceLT, Int.reduceLE, Int.reduceAdd, Int.reduceSub, Int.reduceMul, Int.reduceToNat, Int.reduceNeg, ↓reduceIte, reduceCtorEq, L_codec_GetOp, L_codec_reader, L_codec_reader_1, L_codec_reader_2, L_codec_reader_3, v_objs_Fits, v_num_Get, v_num_GetSigned, v_codec_reader, i_codec_reader, v_codec_reader_1, i_codec_reader_1, v_codec_reader_2, i_codec_reader_2, v_codec_reader_3, i_codec_reader_3, Ow.enc, S_api_Op.enc, Sl.enc, rr_codec_GetOp, ro_codec_GetOp, b0_codec_GetOp, *]
                      · rw [if_neg h16] at h; replace h16 := eq_false h16
                        try simp only [kn0, kn1, kn2, kn3, kn4, kn5, kn6, eq_self_iff_true, implies_true, forall_const, Int.cast_ofNat_Int, Nat.reduceEqDiff, Nat.reduceAdd, Nat.reduceSub, Nat.reduceMul, Nat.reduceLT, Nat.reduceLeDiff, Int.reduceEq, Int.reduceLT, Int.reduceLE, Int.reduceAdd, Int.reduceSub, Int.reduceMul, Int.reduceToNat, Int.reduceNeg, ↓reduceIte, reduceCtorEq] at h16
                        cases h
                    · rw [if_neg h15] at h; replace h15 := eq_false h15
                      cases h
              · rw [if_neg h7] at h; replace h7 := eq_false h7
                try simp only [kn0, kn1, kn2, kn3, kn4, kn5, kn6, eq_self_iff_true, implies_true, forall_const, Int.cast_ofNat_Int, Nat.reduceEqDiff, Nat.reduceAdd, Nat.reduceSub, Nat.reduceMul, Nat.reduceLT, Nat.reduceLeDiff, Int.reduceEq, Int.reduceLT, Int.reduceLE, Int.reduceAdd, Int.reduceSub, Int.reduceMul, Int.reduceToNat, Int.reduceNeg, ↓reduceIte, reduceCtorEq] at h7
                cases h
            · rw [if_neg h6] at h; replace h6 := eq_false h6
              cases h
          · rw [if_neg h5] at h; replace h5 := eq_false h5
            rcases Classical.em (0 ≤ r2.2) with h17 | h17
            · rw [if_pos h17] at h; replace h17 := eq_true h17
              rcases Classical.em (r2.2 ≤ (((a0.l.length - r1.2.toNat) : Nat) : Int)) with h18 | h18
              · rw [if_pos h18] at h; replace h18 := eq_true h18
                try simp only [kn0, kn1, kn2, kn3, kn4, kn5, kn6, eq_self_iff_true, implies_true, forall_const, Int.cast_ofNat_Int, Nat.reduceEqDiff, Nat.reduceAdd, Nat.reduceSub, Nat.reduceMul, Nat.reduceLT, Nat.reduceLeDiff, Int.reduceEq, Int.reduceLT, Int.reduceLE, Int.reduceAdd, Int.reduceSub, Int.reduceMul, Int.reduceToNat, Int.reduceNeg, ↓reduceIte, reduceCtorEq] at h18
                rcases h19 : num_GetSigned q ⟨a0.z, (List.drop r2.2.toNat (List.drop r1.2.toNat a0.l))⟩ with _ | r5
                · rw [h19] at h; cases h
                · rw [h19, Option.bind_some] at h
                  replace h19 := run_num_GetSigned q (M + 6) (by omega) _ _ h19
                  try simp only [Ow.enc, Sl.enc, kn0, kn1, kn2, kn3, kn4, kn5, kn6, eq_self_iff_true, implies_true, forall_const, Int.cast_ofNat_Int, Nat.reduceEqDiff, Nat.reduceAdd, Nat.reduceSub, Nat.reduceMul, Nat.reduceLT, Nat.reduceLeDiff, Int.reduceEq, Int.reduceLT, Int.reduceLE, Int.reduceAdd, Int.reduceSub, Int.reduceMul, Int.reduceToNat, Int.reduceNeg, ↓reduceIte, reduceCtorEq] at h19
                  rcases Classical.em (0 ≤ r5.2) with h20 | h20
                  · rw [if_pos h20] at h; replace h20 := eq_true h20
                    rcases Classical.em (r5.2 ≤ ((((a0.l.length - r1.2.toNat) - r2.2.toNat) : Nat) : Int)) with h21 | h21
                    · rw [if_pos h21] at h; replace h21 := eq_true h21
                      try simp only [kn0, kn1, kn2, kn3, kn4, kn5, kn6, eq_self_iff_true, implies_true, forall_const, Int.cast_ofNat_Int, Nat.reduceEqDiff, Nat.reduceAdd, Nat.reduceSub, Nat.reduceMul, Nat.reduceLT, Nat.reduceLeDiff, Int.reduceEq, Int.reduceLT, Int.reduceLE, Int.reduceAdd, Int.reduceSub, Int.reduceMul, Int.reduceToNat, Int.reduceNeg, ↓reduceIte, reduceCtorEq] at h21
                      cases h; subst hR; simp (maxDischargeDepth := 12) only [kk0, kk1, kk2, kk3, kk4, kk5, kk6, kk7, kk8, kk9, kk10, kk11, kk12, kk13, kk14, kk15, kk16, kn0, kn1, kn2, kn3, kn4, kn5, kn6, eq_self_iff_true, implies_true, forall_const, Int.cast_ofNat_Int, Nat.reduceEqDiff, Nat.reduceAdd, Nat.reduceSub, Nat.reduceMul, Nat.reduceLT, Nat.reduceLeDiff, Int.reduceEq, Int.reduceLT, Int.reduceLE, Int.reduceAdd, Int.reduceSub, Int.reduceMul, Int.reduceToNat, Int.reduceNeg, ↓reduceIte, reduceCtorEq, L_codec_GetOp, L_codec_reader, L_codec_reader_1, L_codec_reader_2, L_codec_reader_3, v_objs_Fits, v_num_Get, v_num_GetSigned, v_codec_reader, i_codec_reader, v_codec_reader_1, i_codec_reader_1, v_codec_reader_2, i_codec_reader_2, v_codec_reader_3, i_codec_reader_3, Ow.enc, S_api_Op.enc, Sl.enc, rr_codec_GetOp, ro_codec_GetOp, b0_codec_GetOp, *]
                    · rw [if_neg h21] at h; replace h21 := eq_false h21
                      try simp only [kn0, kn1, kn2, kn3, kn4, kn5, kn6, eq_self_iff_true, implies_true, forall_const, Int.cast_ofNat_Int, Nat.reduceEqDiff, Nat.reduceAdd, Nat.reduceSub, Nat.reduceMul, Nat.reduceLT, Nat.reduceLeDiff, Int.reduceEq, Int.reduceLT, Int.reduceLE, Int.reduceAdd, Int.reduceSub, Int.reduceMul, Int.reduceToNat, Int.reduceNeg, ↓reduceIte, reduceCtorEq] at h21
                      cases h
                  · rw [if_neg h20] at h; replace h20 := eq_false h20
                    cases h
              · rw [if_neg h18] at h; replace h18 := eq_false h18
                try simp only [kn0, kn1, kn2, kn3, kn4, kn5, kn6, eq_self_iff_true, implies_true, forall_const, Int.cast_ofNat_Int, Nat.reduceEqDiff, Nat.reduceAdd, Nat.reduceSub, Nat.reduceMul, Nat.reduceLT, Nat.reduceLeDiff, Int.reduceEq, Int.reduceLT, Int.reduceLE, Int.reduceAdd, Int.reduceSub, Int.reduceMul, Int.reduceToNat, Int.reduceNeg, ↓reduceIte, reduceCtorEq] at h18
                cases h
            · rw [if_neg h17] at h; replace h17 := eq_false h17
              cases h
      · rw [if_neg h3] at h; replace h3 := eq_false h3
        cases h
    · rw [if_neg h2] at h; replace h2 := eq_false h2
      cases h
theorem run_schema_pass : ∀ (q N : Nat), 8 * q ≤ N → ∀ (a0 : (Sl Int)), ∀ (r : Int), schema_pass q a0 = some r → (orc T N).deep F.schema_pass [(Sl.enc (V.int .u8)) a0] = some [(V.int .i64) r] := by
  intro q N hM a0 r h
  rcases q with _ | q
  · cases h
  obtain ⟨M, rfl⟩ : ∃ M, N = M + 8 := ⟨N - 8, by omega⟩
  generalize hR : some [(V.int .i64) r] = R
  rw [orc_deep, T_schema_pass, Option.bind_some, runDeep_eq]
  rw [schema_pass] at h
  rcases h1 : num_Get q a0 with _ | r1
  · rw [h1] at h; cases h
  · rw [h1, Option.bind_some] at h
    replace h1 := run_num_Get q (M + 7) (by omega) _ _ h1
    try simp only [Ow.enc, Sl.enc, kn0, kn1, kn2, kn3, kn4, kn5, kn6, eq_self_iff_true, implies_true, forall_const, Int.cast_ofNat_Int, Nat.reduceEqDiff, Nat.reduceAdd, Nat.reduceSub, Nat.reduceMul, Nat.reduceLT, Nat.reduceLeDiff, Int.reduceEq, Int.reduceLT, Int.reduceLE, Int.reduceAdd, Int.reduceSub, Int.reduceMul, Int.reduceToNat, Int.reduceNeg, ↓reduceIte, reduceCtorEq] at h1
    rcases Classical.em (r1.2 = 0) with h2 | h2
    · rw [if_pos h2] at h; replace h2 := eq_true h2
      cases h; subst hR; simp (maxDischargeDepth := 12) only [kk0, kk1, kk2, kk3, kk4, kk5, kk6, kk7, kk8, kk9, kk10, kk11, kk12, kk13, kk14, kk15, kk16, kn0, kn1, kn2, kn3, kn4, kn5, kn6, eq_self_iff_true, implies_true, forall_const, Int.cast_ofNat_Int, Nat.reduceEqDiff, Nat.reduceAdd, Nat.reduceSub, Nat.reduceMul, Nat.reduceLT, Nat.reduceLeDiff, Int.reduceEq, Int.reduceLT, Int.reduceLE, Int.reduceAdd, Int.reduceSub, Int.reduceMul, Int.reduceToNat, Int.reduceNeg, ↓reduceIte, reduceCtorEq, L_schema_pass, v_num_Get, Ow.enc, Sl.enc, rr_schema_pass, ro_schema_pass, b0_schema_pass, *]
    · rw [if_neg h2] at h; replace h2 := eq_false h2
      rcases Classical.em ((wrp .i64 ((a0.l.length : Int) - r1.2)) < r1.1) with h3 | h3
      · rw [if_pos h3] at h; replace h3 := eq_true h3
        try simp only [kn0, kn1, kn2, kn3, kn4, kn5, kn6, eq_self_iff_true, implies_true, forall_const, Int.cast_ofNat_Int, Nat.reduceEqDiff, Nat.reduceAdd, Nat.reduceSub, Nat.reduceMul, Nat.reduceLT, Nat.reduceLeDiff, Int.reduceEq, Int.reduceLT, Int.reduceLE, Int.reduceAdd, Int.reduceSub, Int.reduceMul, Int.reduceToNat, Int.reduceNeg, ↓reduceIte, reduceCtorEq] at h3
        cases h; subst hR; simp (maxDischargeDepth := 12) only [kk0, kk1, kk2, kk3, kk4, kk5, kk6, kk7, kk8, kk9, kk10, kk11, kk12, kk13, kk14, kk15, kk16, kn0, kn1, kn2, kn3, kn4, kn5, kn6, eq_self_iff_true, implies_true, forall_const, Int.cast_ofNat_Int, Nat.reduceEqDiff, Nat.reduceAdd, Nat.reduceSub, Nat.reduceMul, Nat.reduceLT, Nat.reduceLeDiff, Int.reduceEq, Int.reduceLT, Int.reduceLE, Int.reduceAdd, Int.reduceSub, Int.reduceMul, Int.reduceToNat, Int.reduceNeg, ↓reduceIte, reduceCtorEq, L_schema_pass, v_num_Get, Ow.enc, Sl.enc, rr_schema_pass, ro_schema_pass, b0_schema_pass, *]
      · rw [if_neg h3] at h; replace h3 := eq_false h3
        try simp only [kn0, kn1, kn2, kn3, kn4, kn5, kn6, eq_self_iff_true, implies_true, forall_const, Int.cast_ofNat_Int, Nat.reduceEqDiff, Nat.reduceAdd, Nat.reduceSub, Nat.reduceMul, Nat.reduceLT, Nat.reduceLeDiff, Int.reduceEq, Int.reduceLT, Int.reduceLE, Int.reduceAdd, Int.reduceSub, Int.reduceMul, Int.reduceToNat, Int.reduceNeg, ↓reduceIte, reduceCtorEq] at h3
        cases h; subst hR; simp (maxDischargeDepth := 12) only [kk0, kk1, kk2, kk3, kk4, kk5, kk6, kk7, kk8, kk9, kk10, kk11, kk12, kk13, kk14, kk15, kk16, kn0, kn1, kn2, kn3, kn4, kn5, kn6, eq_self_iff_true, implies_true, forall_const, Int.cast_ofNat_Int, Nat.reduceEqDiff, Nat.reduceAdd, Nat.reduceSub, Nat.reduceMul, Nat.reduceLT, Nat.reduceLeDiff, Int.reduceEq, Int.reduceLT, Int.reduceLE, Int.reduceAdd, Int.reduceSub, Int.reduceMul, Int.reduceToNat, Int.reduceNeg, ↓reduceIte, reduceCtorEq, L_schema_pass, v_num_Get, Ow.enc, Sl.enc, rr_schema_pass, ro_schema_pass, b0_schema_pass, *]
end Go.Dvm.C
