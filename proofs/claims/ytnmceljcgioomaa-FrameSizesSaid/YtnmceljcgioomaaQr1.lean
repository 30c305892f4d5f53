/- The machine comes to these answers: part 2. -/
import Derived.Test.YtnmceljcgioomaaQl0
import Derived.Test.YtnmceljcgioomaaQr0
set_option linter.all false
set_option maxRecDepth 100000
set_option maxHeartbeats 4000000
namespace Go.Dvm.C
open Go Go.Dvm Go.Dvm.I
theorem run_ferrymanlaw03_FrameSizes : ∀ (q N : Nat), 8 * q ≤ N → ∀ (a0 : Int) (a1 : Int), ∀ (r : Bool), ferrymanlaw03_FrameSizes q a0 a1 = some r → (orc T N).deep F.ferrymanlaw03_FrameSizes [(V.int .i64) a0, (V.int .i64) a1] = some [V.bool r] := by
  intro q N hM a0 a1 r h
  rcases q with _ | q
  · cases h
  obtain ⟨M, rfl⟩ : ∃ M, N = M + 8 := ⟨N - 8, by omega⟩
  generalize hR : some [V.bool r] = R
  rw [orc_deep, T_ferrymanlaw03_FrameSizes, Option.bind_some, runDeep_eq]
  rw [ferrymanlaw03_FrameSizes] at h
  rcases h1 : ferrymanlaw03_awake q with _ | r1
  · rw [h1] at h; cases h
  · rw [h1, Option.bind_some] at h
    replace h1 := run_ferrymanlaw03_awake q (M + 7) (by omega)  _ h1
    skip
    rcases Classical.em (a0 < 0) with h2 | h2
    · rw [if_pos h2] at h; replace h2 := eq_true h2
      cases h; subst hR; simp (maxDischargeDepth := 12) only [kk0, kk1, kk2, kk3, kk4, kk5, kk6, kk7, kk8, kk9, kk10, kk11, kk12, kk13, kk14, kk15, kk16, kn0, kn1, kn2, kn3, kn4, kn5, kn6, eq_self_iff_true, implies_true, forall_const, Int.cast_ofNat_Int, Nat.reduceEqDiff, Nat.reduceAdd, Nat.reduceSub, Nat.reduceMul, Nat.reduceLT, Nat.reduceLeDiff, Int.reduceEq, Int.reduceLT, Int.reduceLE, Int.reduceAdd, Int.reduceSub, Int.reduceMul, Int.reduceToNat, Int.reduceNeg, ↓reduceIte, reduceCtorEq, L_ferrymanlaw03_FrameSizes, v_ferrymanlaw03_awake, v_frame_Size, Ow.enc, Sl.enc, rr_ferrymanlaw03_FrameSizes, ro_ferrymanlaw03_FrameSizes, b0_ferrymanlaw03_FrameSizes, *]
    · rw [if_neg h2] at h; replace h2 := eq_false h2
      rcases Classical.em (1048576 < a0) with h3 | h3
      · rw [if_pos h3] at h; replace h3 := eq_true h3
        cases h; subst hR; simp (maxDischargeDepth := 12) only [kk0, kk1, kk2, kk3, kk4, kk5, kk6, kk7, kk8, kk9, kk10, kk11, kk12, kk13, kk14, kk15, kk16, kn0, kn1, kn2, kn3, kn4, kn5, kn6, eq_self_iff_true, implies_true, forall_const, Int.cast_ofNat_Int, Nat.reduceEqDiff, Nat.reduceAdd, Nat.reduceSub, Nat.reduceMul, Nat.reduceLT, Nat.reduceLeDiff, Int.reduceEq, Int.reduceLT, Int.reduceLE, Int.reduceAdd, Int.reduceSub, Int.reduceMul, Int.reduceToNat, Int.reduceNeg, ↓reduceIte, reduceCtorEq, L_ferrymanlaw03_FrameSizes, v_ferrymanlaw03_awake, v_frame_Size, Ow.enc, Sl.enc, rr_ferrymanlaw03_FrameSizes, ro_ferrymanlaw03_FrameSizes, b0_ferrymanlaw03_FrameSizes, *]
      · rw [if_neg h3] at h; replace h3 := eq_false h3
        rcases Classical.em (a1 < 1) with h4 | h4
        · rw [if_pos h4] at h; replace h4 := eq_true h4
          cases h; subst hR; simp (maxDischargeDepth := 12) only [kk0, kk1, kk2, kk3, kk4, kk5, kk6, kk7, kk8, kk9, kk10, kk11, kk12, kk13, kk14, kk15, kk16, kn0, kn1, kn2, kn3, kn4, kn5, kn6, eq_self_iff_true, implies_true, forall_const, Int.cast_ofNat_Int, Nat.reduceEqDiff, Nat.reduceAdd, Nat.reduceSub, Nat.reduceMul, Nat.reduceLT, Nat.reduceLeDiff, Int.reduceEq, Int.reduceLT, Int.reduceLE, Int.reduceAdd, Int.reduceSub, Int.reduceMul, Int.reduceToNat, Int.reduceNeg, ↓reduceIte, reduceCtorEq, L_ferrymanlaw03_FrameSizes, v_ferrymanlaw03_awake, v_frame_Size, Ow.enc, Sl.enc, rr_ferrymanlaw03_FrameSizes, ro_ferrymanlaw03_FrameSizes, b0_ferrymanlaw03_FrameSizes, *]
        · rw [if_neg h4] at h; replace h4 := eq_false h4
          rcases Classical.em (1048576 < a1) with h5 | h5
          · rw [if_pos h5] at h; replace h5 := eq_true h5
            cases h; subst hR; simp (maxDischargeDepth := 12) only [kk0, kk1, kk2, kk3, kk4, kk5, kk6, kk7, kk8, kk9, kk10, kk11, kk12, kk13, kk14, kk15, kk16, kn0, kn1, kn2, kn3, kn4, kn5, kn6, eq_self_iff_true, implies_true, forall_const, Int.cast_ofNat_Int, Nat.reduceEqDiff, Nat.reduceAdd, Nat.reduceSub, Nat.reduceMul, Nat.reduceLT, Nat.reduceLeDiff, Int.reduceEq, Int.reduceLT, Int.reduceLE, Int.reduceAdd, Int.reduceSub, Int.reduceMul, Int.reduceToNat, Int.reduceNeg, ↓reduceIte, reduceCtorEq, L_ferrymanlaw03_FrameSizes, v_ferrymanlaw03_awake, v_frame_Size, Ow.enc, Sl.enc, rr_ferrymanlaw03_FrameSizes, ro_ferrymanlaw03_FrameSizes, b0_ferrymanlaw03_FrameSizes, *]
          · rw [if_neg h5] at h; replace h5 := eq_false h5
            rcases h6 : frame_Size q a0 with _ | r2
            · rw [h6] at h; cases h
            · rw [h6, Option.bind_some] at h
              replace h6 := run_frame_Size q (M + 7) (by omega) _ _ h6
              skip
              rcases Classical.em (r1 = true) with h7 | h7
              · rw [if_pos h7] at h; have h7' := bt1 h7; replace h7 := eq_true h7
                rcases Classical.em (5 ≤ (wrp .i64 (r2 - a0))) with h8 | h8
                · rw [if_pos h8] at h; replace h8 := eq_true h8
                  try simp only [kn0, kn1, kn2, kn3, kn4, kn5, kn6, eq_self_iff_true, implies_true, forall_const, Int.cast_ofNat_Int, Nat.reduceEqDiff, Nat.reduceAdd, Nat.reduceSub, Nat.reduceMul, Nat.reduceLT, Nat.reduceLeDiff, Int.reduceEq, Int.reduceLT, Int.reduceLE, Int.reduceAdd, Int.reduceSub, Int.reduceMul, Int.reduceToNat, Int.reduceNeg, ↓reduceIte, reduceCtorEq] at h8
                  rcases Classical.em ((wrp .i64 (r2 - a0)) ≤ 7) with h9 | h9
                  · rw [if_pos h9] at h; replace h9 := eq_true h9
                    try simp only [kn0, kn1, kn2, kn3, kn4, kn5, kn6, eq_self_iff_true, implies_true, forall_const, Int.cast_ofNat_Int, Nat.reduceEqDiff, Nat.reduceAdd, Nat.reduceSub, Nat.reduceMul, Nat.reduceLT, Nat.reduceLeDiff, Int.reduceEq, Int.reduceLT, Int.reduceLE, Int.reduceAdd, Int.reduceSub, Int.reduceMul, Int.reduceToNat, Int.reduceNeg, ↓reduceIte, reduceCtorEq] at h9
                    rcases Classical.em (1048576 < (wrp .i64 (a0 + a1))) with h10 | h10
                    · rw [if_pos h10] at h; replace h10 := eq_true h10
                      try simp only [kn0, kn1, kn2, kn3, kn4, kn5, kn6, eq_self_iff_true, implies_true, forall_const, Int.cast_ofNat_Int, Nat.reduceEqDiff, Nat.reduceAdd, Nat.reduceSub, Nat.reduceMul, Nat.reduceLT, Nat.reduceLeDiff, Int.reduceEq, Int.reduceLT, Int.reduceLE, Int.reduceAdd, Int.reduceSub, Int.reduceMul, Int.reduceToNat, Int.reduceNeg, ↓reduceIte, reduceCtorEq] at h10
                      rcases h11 : frame_Size q (wrp .i64 (a0 + a1)) with _ | r3
                      · rw [h11] at h; cases h
                      · rw [h11, Option.bind_some] at h
                        replace h11 := run_frame_Size q (M + 7) (by omega) _ _ h11
                        skip
                        rcases Classical.em (r3 = 0) with h12 | h12
                        · rw [if_pos h12] at h; replace h12 := eq_true h12
                          cases h; subst hR; simp (maxDischargeDepth := 12) only [kk0, kk1, kk2, kk3, kk4, kk5, kk6, kk7, kk8, kk9, kk10, kk11, kk12, kk13, kk14, kk15, kk16, kn0, kn1, kn2, kn3, kn4, kn5, kn6, eq_self_iff_true, implies_true, forall_const, Int.cast_ofNat_Int, Nat.reduceEqDiff, Nat.reduceAdd, Nat.reduceSub, Nat.reduceMul, Nat.reduceLT, Nat.reduceLeDiff, Int.reduceEq, Int.reduceLT, Int.reduceLE, Int.reduceAdd, Int.reduceSub, Int.reduceMul, Int.reduceToNat, Int.reduceNeg, ↓reduceIte, reduceCtorEq, L_ferrymanlaw03_FrameSizes, v_ferrymanlaw03_awake, v_frame_Size, Ow.enc, Sl.enc, rr_ferrymanlaw03_FrameSizes, ro_ferrymanlaw03_FrameSizes, b0_ferrymanlaw03_FrameSizes, *]
                        · rw [if_neg h12] at h; replace h12 := eq_false h12
                          cases h; subst hR; simp (maxDischargeDepth := 12) only [kk0, kk1, kk2, kk3, kk4, kk5, kk6, kk7, kk8, kk9, kk10, kk11, kk12, kk13, kk14, kk15, kk16, kn0, kn1, kn2, kn3, kn4, kn5, kn6, eq_self_iff_true, implies_true, forall_const, Int.cast_ofNat_Int, Nat.reduceEqDiff, Nat.reduceAdd, Nat.reduceSub, Nat.reduceMul, Nat.reduceLT, Nat.reduceLeDiff, Int.reduceEq, Int.reduceLT, Int.reduceLE, Int.reduceAdd, Int.reduceSub, Int.reduceMul, Int.reduceToNat, Int.reduceNeg, ↓reduceIte, reduceCtorEq, L_ferrymanlaw03_FrameSizes, v_ferrymanlaw03_awake, v_frame_Size, Ow.enc, Sl.enc, rr_ferrymanlaw03_FrameSizes, ro_ferrymanlaw03_FrameSizes, b0_ferrymanlaw03_FrameSizes, *]
                    · rw [if_neg h10] at h; replace h10 := eq_false h10
                      try simp only [kn0, kn1, kn2, kn3, kn4, kn5, kn6, eq_self_iff_true, implies_true, forall_const, Int.cast_ofNat_Int, Nat.reduceEqDiff, Nat.reduceAdd, Nat.reduceSub, Nat.reduceMul, Nat.reduceLT, Nat.reduceLeDiff, Int.reduceEq, Int.reduceLT, Int.reduceLE, Int.reduceAdd, Int.reduceSub, Int.reduceMul, Int.reduceToNat, Int.reduceNeg, ↓reduceIte, reduceCtorEq] at h10
                      rcases h13 : frame_Size q (wrp .i64 (a0 + a1)) with _ | r4
                      · rw [h13] at h; cases h
                      · rw [h13, Option.bind_some] at h
                        replace h13 := run_frame_Size q (M + 7) (by omega) _ _ h13
                        skip
                        cases h; subst hR; simp (maxDischargeDepth := 12) only [kk0, kk1, kk2, kk3, kk4, kk5, kk6, kk7, kk8, kk9, kk10, kk11, kk12, kk13, kk14, kk15, kk16, kn0, kn1, kn2, kn3, kn4, kn5, kn6, eq_self_iff_true, implies_true, forall_const, Int.cast_ofNat_Int, Nat.reduceEqDiff, Nat.reduceAdd, Nat.reduceSub, Nat.reduceMul, Nat.reduceLT, Nat.reduceLeDiff, Int.reduceEq, Int.reduceLT, Int.reduceLE, Int.reduceAdd, Int.reduceSub, Int.reduceMul, Int.reduceToNat, Int.reduceNeg, ↓reduceIte, reduceCtorEq, L_ferrymanlaw03_FrameSizes, v_ferrymanlaw03_awake, v_frame_Size, Ow.enc, Sl.enc, rr_ferrymanlaw03_FrameSizes, ro_ferrymanlaw03_FrameSizes, b0_ferrymanlaw03_FrameSizes, *]
                  · rw [if_neg h9] at h; replace h9 := eq_false h9
                    try simp only [kn0, kn1, kn2, kn3, kn4, kn5, kn6, eq_self_iff_true, implies_true, forall_const, Int.cast_ofNat_Int, Nat.reduceEqDiff, Nat.reduceAdd, Nat.reduceSub, Nat.reduceMul, Nat.reduceLT, Nat.reduceLeDiff, Int.reduceEq, Int.reduceLT, Int.reduceLE, Int.reduceAdd, Int.reduceSub, Int.reduceMul, Int.reduceToNat, Int.reduceNeg, ↓reduceIte, reduceCtorEq] at h9
                    cases h; subst hR; simp (maxDischargeDepth := 12) only [kk0, kk1, kk2, kk3, kk4, kk5, kk6, kk7, kk8, kk9, kk10, kk11, kk12, kk13, kk14, kk15, kk16, kn0, kn1, kn2, kn3, kn4, kn5, kn6, eq_self_iff_true, implies_true, forall_const, Int.cast_ofNat_Int, Nat.reduceEqDiff, Nat.reduceAdd, Nat.reduceSub, Nat.reduceMul, Nat.reduceLT, Nat.reduceLeDiff, Int.reduceEq, Int.reduceLT, Int.reduceLE, Int.reduceAdd, Int.reduceSub, Int.reduceMul, Int.reduceToNat, Int.reduceNeg, ↓reduceIte, reduceCtorEq, L_ferrymanlaw03_FrameSizes, v_ferrymanlaw03_awake, v_frame_Size, Ow.enc, Sl.enc, rr_ferrymanlaw03_FrameSizes, ro_ferrymanlaw03_FrameSizes, b0_ferrymanlaw03_FrameSizes, *]
                · rw [if_neg h8] at h; replace h8 := eq_false h8
                  try simp only [kn0, kn1, kn2, kn3, kn4, kn5, kn6, eq_self_iff_true, implies_true, forall_const, Int.cast_ofNat_Int, Nat.reduceEqDiff, Nat.reduceAdd, Nat.reduceSub, Nat.reduceMul, Nat.reduceLT, Nat.reduceLeDiff, Int.reduceEq, Int.reduceLT, Int.reduceLE, Int.reduceAdd, Int.reduceSub, Int.reduceMul, Int.reduceToNat, Int.reduceNeg, ↓reduceIte, reduceCtorEq] at h8
                  cases h; subst hR; simp (maxDischargeDepth := 12) only [kk0, kk1, kk2, kk3, kk4, kk5, kk6, kk7, kk8, kk9, kk10, kk11, kk12, kk13, kk14, kk15, kk16, kn0, kn1, kn2, kn3, kn4, kn5, kn6, eq_self_iff_true, implies_true, forall_const, Int.cast_ofNat_Int, Nat.reduceEqDiff, Nat.reduceAdd, Nat.reduceSub, Nat.reduceMul, Nat.reduceLT, Nat.reduceLeDiff, Int.reduceEq, Int.reduceLT, Int.reduceLE, Int.reduceAdd, Int.reduceSub, Int.reduceMul, Int.reduceToNat, Int.reduceNeg, ↓reduceIte, reduceCtorEq, L_ferrymanlaw03_FrameSizes, v_ferrymanlaw03_awake, v_frame_Size, Ow.enc, Sl.enc, rr_ferrymanlaw03_FrameSizes, ro_ferrymanlaw03_FrameSizes, b0_ferrymanlaw03_FrameSizes, *]
              · rw [if_neg h7] at h; have h7' := bt0 h7; replace h7 := eq_false h7
                cases h; subst hR; simp (maxDischargeDepth := 12) only [kk0, kk1, kk2, kk3, kk4, kk5, kk6, kk7, kk8, kk9, kk10, kk11, kk12, kk13, kk14, kk15, kk16, kn0, kn1, kn2, kn3, kn4, kn5, kn6, eq_self_iff_true, implies_true, forall_const, Int.cast_ofNat_Int, Nat.reduceEqDiff, Nat.reduceAdd, Nat.reduceSub, Nat.reduceMul, Nat.reduceLT, Nat.reduceLeDiff, Int.reduceEq, Int.reduceLT, Int.reduceLE, Int.reduceAdd, Int.reduceSub, Int.reduceMul, Int.reduceToNat, Int.reduceNeg, ↓reduceIte, reduceCtorEq, L_ferrymanlaw03_FrameSizes, v_ferrymanlaw03_awake, v_frame_Size, Ow.enc, Sl.enc, rr_ferrymanlaw03_FrameSizes, ro_ferrymanlaw03_FrameSizes, b0_ferrymanlaw03_FrameSizes, *]
end Go.Dvm.C
