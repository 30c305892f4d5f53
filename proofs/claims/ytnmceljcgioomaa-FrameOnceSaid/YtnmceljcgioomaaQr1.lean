/- The machine comes to these answers: part 2. -/
import Derived.Test.YtnmceljcgioomaaQl0
import Derived.Test.YtnmceljcgioomaaQr0
set_option linter.all false
set_option maxRecDepth 100000
set_option maxHeartbeats 4000000
namespace Go.Dvm.C
open Go Go.Dvm Go.Dvm.I
theorem run_ferrymanlaw03_FrameOnce : ∀ (q N : Nat), 8 * q ≤ N → ∀ (a0 : (Sl Int)), ∀ (r : Bool), ferrymanlaw03_FrameOnce q a0 = some r → (orc T N).deep F.ferrymanlaw03_FrameOnce [(Sl.enc (V.int .u8)) a0] = some [V.bool r] := by
  intro q N hM a0 r h
  rcases q with _ | q
  · cases h
  obtain ⟨M, rfl⟩ : ∃ M, N = M + 8 := ⟨N - 8, by omega⟩
  generalize hR : some [V.bool r] = R
  rw [orc_deep, T_ferrymanlaw03_FrameOnce, Option.bind_some, runDeep_eq]
  rw [ferrymanlaw03_FrameOnce] at h
  rcases h1 : ferrymanlaw03_awake q with _ | r1
  · rw [h1] at h; cases h
  · rw [h1, Option.bind_some] at h
    replace h1 := run_ferrymanlaw03_awake q (M + 7) (by omega)  _ h1
    skip
    rcases Classical.em (5000 < (a0.l.length : Int)) with h2 | h2
    · rw [if_pos h2] at h; replace h2 := eq_true h2
      cases h; subst hR; simp (maxDischargeDepth := 12) only [kk0, kk1, kk2, kk3, kk4, kk5, kk6, kk7, kk8, kk9, kk10, kk11, kk12, kk13, kk14, kk15, kk16, kn0, kn1, kn2, kn3, kn4, kn5, kn6, eq_self_iff_true, implies_true, forall_const, Int.cast_ofNat_Int, Nat.reduceEqDiff, Nat.reduceAdd, Nat.reduceSub, Nat.reduceMul, Nat.reduceLT, Nat.reduceLeDiff, Int.reduceEq, Int.reduceLT, Int.reduceLE, Int.reduceAdd, Int.reduceSub, Int.reduceMul, Int.reduceToNat, Int.reduceNeg, ↓reduceIte, reduceCtorEq, L_ferrymanlaw03_FrameOnce, v_ferrymanlaw03_awake, v_frame_Encode, v_frame_Decode, Ow.enc, Sl.enc, rr_ferrymanlaw03_FrameOnce, ro_ferrymanlaw03_FrameOnce, b0_ferrymanlaw03_FrameOnce, *]
    · rw [if_neg h2] at h; replace h2 := eq_false h2
      rcases h3 : frame_Decode q a0 with _ | r2
      · rw [h3] at h; cases h
      · rw [h3, Option.bind_some] at h
        replace h3 := run_frame_Decode q (M + 7) (by omega) _ _ h3
        try simp only [Ow.enc, Sl.enc, kn0, kn1, kn2, kn3, kn4, kn5, kn6, eq_self_iff_true, implies_true, forall_const, Int.cast_ofNat_Int, Nat.reduceEqDiff, Nat.reduceAdd, Nat.reduceSub, Nat.reduceMul, Nat.reduceLT, Nat.reduceLeDiff, Int.reduceEq, Int.reduceLT, Int.reduceLE, Int.reduceAdd, Int.reduceSub, Int.reduceMul, Int.reduceToNat, Int.reduceNeg, ↓reduceIte, reduceCtorEq] at h3
        rcases Classical.em (r2.2.2 = 0) with h4 | h4
        · rw [if_pos h4] at h; replace h4 := eq_true h4
          rcases h5 : frame_Encode q ⟨r2.1.n, r2.1.xs⟩ with _ | r3
          · rw [h5] at h; cases h
          · rw [h5, Option.bind_some] at h
            replace h5 := run_frame_Encode q (M + 7) (by omega) _ _ h5
            try simp only [Ow.enc, Sl.enc, kn0, kn1, kn2, kn3, kn4, kn5, kn6, eq_self_iff_true, implies_true, forall_const, Int.cast_ofNat_Int, Nat.reduceEqDiff, Nat.reduceAdd, Nat.reduceSub, Nat.reduceMul, Nat.reduceLT, Nat.reduceLeDiff, Int.reduceEq, Int.reduceLT, Int.reduceLE, Int.reduceAdd, Int.reduceSub, Int.reduceMul, Int.reduceToNat, Int.reduceNeg, ↓reduceIte, reduceCtorEq] at h5
            rcases Classical.em (r1 = true) with h6 | h6
            · rw [if_pos h6] at h; have h6' := bt1 h6; replace h6 := eq_true h6
              rcases Classical.em (r3.2 = 0) with h7 | h7
              · rw [if_pos h7] at h; replace h7 := eq_true h7
                rcases Classical.em (r2.2.1 ≤ (a0.l.length : Int)) with h8 | h8
                · rw [if_pos h8] at h; replace h8 := eq_true h8
                  rcases Classical.em (0 ≤ r2.2.1) with h9 | h9
                  · rw [if_pos h9] at h; replace h9 := eq_true h9
                    rcases Classical.em (r2.2.1.toNat ≤ a0.l.length) with h10 | h10
                    · rw [if_pos h10] at h; replace h10 := eq_true h10
                      cases h; subst hR; simp (maxDischargeDepth := 12) only [kk0, kk1, kk2, kk3, kk4, kk5, kk6, kk7, kk8, kk9, kk10, kk11, kk12, kk13, kk14, kk15, kk16, kn0, kn1, kn2, kn3, kn4, kn5, kn6, eq_self_iff_true, implies_true, forall_const, Int.cast_ofNat_Int, Nat.reduceEqDiff, Nat.reduceAdd, Nat.reduceSub, Nat.reduceMul, Nat.reduceLT, Nat.reduceLeDiff, Int.reduceEq, Int.reduceLT, Int.reduceLE, Int.reduceAdd, Int.reduceSub, Int.reduceMul, Int.reduceToNat, Int.reduceNeg, ↓reduceIte, reduceCtorEq, L_ferrymanlaw03_FrameOnce, v_ferrymanlaw03_awake, v_frame_Encode, v_frame_Decode, Ow.enc, Sl.enc, rr_ferrymanlaw03_FrameOnce, ro_ferrymanlaw03_FrameOnce, b0_ferrymanlaw03_FrameOnce, *]
                    · rw [if_neg h10] at h; replace h10 := eq_false h10
                      cases h
                  · rw [if_neg h9] at h; replace h9 := eq_false h9
                    cases h
                · rw [if_neg h8] at h; replace h8 := eq_false h8
                  cases h; subst hR; simp (maxDischargeDepth := 12) only [kk0, kk1, kk2, kk3, kk4, kk5, kk6, kk7, kk8, kk9, kk10, kk11, kk12, kk13, kk14, kk15, kk16, kn0, kn1, kn2, kn3, kn4, kn5, kn6, eq_self_iff_true, implies_true, forall_const, Int.cast_ofNat_Int, Nat.reduceEqDiff, Nat.reduceAdd, Nat.reduceSub, Nat.reduceMul, Nat.reduceLT, Nat.reduceLeDiff, Int.reduceEq, Int.reduceLT, Int.reduceLE, Int.reduceAdd, Int.reduceSub, Int.reduceMul, Int.reduceToNat, Int.reduceNeg, ↓reduceIte, reduceCtorEq, L_ferrymanlaw03_FrameOnce, v_ferrymanlaw03_awake, v_frame_Encode, v_frame_Decode, Ow.enc, Sl.enc, rr_ferrymanlaw03_FrameOnce, ro_ferrymanlaw03_FrameOnce, b0_ferrymanlaw03_FrameOnce, *]
              · rw [if_neg h7] at h; replace h7 := eq_false h7
                cases h; subst hR; simp (maxDischargeDepth := 12) only [kk0, kk1, kk2, kk3, kk4, kk5, kk6, kk7, kk8, kk9, kk10, kk11, kk12, kk13, kk14, kk15, kk16, kn0, kn1, kn2, kn3, kn4, kn5, kn6, eq_self_iff_true, implies_true, forall_const, Int.cast_ofNat_Int, Nat.reduceEqDiff, Nat.reduceAdd, Nat.reduceSub, Nat.reduceMul, Nat.reduceLT, Nat.reduceLeDiff, Int.reduceEq, Int.reduceLT, Int.reduceLE, Int.reduceAdd, Int.reduceSub, Int.reduceMul, Int.reduceToNat, Int.reduceNeg, ↓reduceIte, reduceCtorEq, L_ferrymanlaw03_FrameOnce, v_ferrymanlaw03_awake, v_frame_Encode, v_frame_Decode, Ow.enc, Sl.enc, rr_ferrymanlaw03_FrameOnce, ro_ferrymanlaw03_FrameOnce, b0_ferrymanlaw03_FrameOnce, *]
            · rw [if_neg h6] at h; have h6' := bt0 h6; replace h6 := eq_false h6
              cases h; subst hR; simp (maxDischargeDepth := 12) only [kk0, kk1, kk2, kk3, kk4, kk5, kk6, kk7, kk8, kk9, kk10, kk11, kk12, kk13, kk14, kk15, kk16, kn0, kn1, kn2, kn3, kn4, kn5, kn6, eq_self_iff_true, implies_true, forall_const, Int.cast_ofNat_Int, Nat.reduceEqDiff, Nat.reduceAdd, Nat.reduceSub, Nat.reduceMul, Nat.reduceLT, Nat.reduceLeDiff, Int.reduceEq, Int.reduceLT, Int.reduceLE, Int.reduceAdd, Int.reduceSub, Int.reduceMul, Int.reduceToNat, Int.reduceNeg, ↓reduceIte, reduceCtorEq, L_ferrymanlaw03_FrameOnce, v_ferrymanlaw03_awake, v_frame_Encode, v_frame_Decode, Ow.enc, Sl.enc, rr_ferrymanlaw03_FrameOnce, ro_ferrymanlaw03_FrameOnce, b0_ferrymanlaw03_FrameOnce, *]
        · rw [if_neg h4] at h; replace h4 := eq_false h4
          rcases Classical.em (r1 = true) with h11 | h11
          · rw [if_pos h11] at h; have h11' := bt1 h11; replace h11 := eq_true h11
            rcases Classical.em (r2.2.1 = 0) with h12 | h12
            · rw [if_pos h12] at h; replace h12 := eq_true h12
              cases h; subst hR; simp (maxDischargeDepth := 12) only [kk0, kk1, kk2, kk3, kk4, kk5, kk6, kk7, kk8, kk9, kk10, kk11, kk12, kk13, kk14, kk15, kk16, kn0, kn1, kn2, kn3, kn4, kn5, kn6, eq_self_iff_true, implies_true, forall_const, Int.cast_ofNat_Int, Nat.reduceEqDiff, Nat.reduceAdd, Nat.reduceSub, Nat.reduceMul, Nat.reduceLT, Nat.reduceLeDiff, Int.reduceEq, Int.reduceLT, Int.reduceLE, Int.reduceAdd, Int.reduceSub, Int.reduceMul, Int.reduceToNat, Int.reduceNeg, ↓reduceIte, reduceCtorEq, L_ferrymanlaw03_FrameOnce, v_ferrymanlaw03_awake, v_frame_Encode, v_frame_Decode, Ow.enc, Sl.enc, rr_ferrymanlaw03_FrameOnce, ro_ferrymanlaw03_FrameOnce, b0_ferrymanlaw03_FrameOnce, *]
            · rw [if_neg h12] at h; replace h12 := eq_false h12
              cases h; subst hR; simp (maxDischargeDepth := 12) only [kk0, kk1, kk2, kk3, kk4, kk5, kk6, kk7, kk8, kk9, kk10, kk11, kk12, kk13, kk14, kk15, kk16, kn0, kn1, kn2, kn3, kn4, kn5, kn6, eq_self_iff_true, implies_true, forall_const, Int.cast_ofNat_Int, Nat.reduceEqDiff, Nat.reduceAdd, Nat.reduceSub, Nat.reduceMul, Nat.reduceLT, Nat.reduceLeDiff, Int.reduceEq, Int.reduceLT, Int.reduceLE, Int.reduceAdd, Int.reduceSub, Int.reduceMul, Int.reduceToNat, Int.reduceNeg, ↓reduceIte, reduceCtorEq, L_ferrymanlaw03_FrameOnce, v_ferrymanlaw03_awake, v_frame_Encode, v_frame_Decode, Ow.enc, Sl.enc, rr_ferrymanlaw03_FrameOnce, ro_ferrymanlaw03_FrameOnce, b0_ferrymanlaw03_FrameOnce, *]
          · rw [if_neg h11] at h; have h11' := bt0 h11; replace h11 := eq_false h11
            cases h; subst hR; simp (maxDischargeDepth := 12) only [kk0, kk1, kk2, kk3, kk4, kk5, kk6, kk7, kk8, kk9, kk10, kk11, kk12, kk13, kk14, kk15, kk16, kn0, kn1, kn2, kn3, kn4, kn5, kn6, eq_self_iff_true, implies_true, forall_const, Int.cast_ofNat_Int, Nat.reduceEqDiff, Nat.reduceAdd, Nat.reduceSub, Nat.reduceMul, Nat.reduceLT, Nat.reduceLeDiff, Int.reduceEq, Int.reduceLT, Int.reduceLE, Int.reduceAdd, Int.reduceSub, Int.reduceMul, Int.reduceToNat, Int.reduceNeg, ↓reduceIte, reduceCtorEq, L_ferrymanlaw03_FrameOnce, v_ferrymanlaw03_awake, v_frame_Encode, v_frame_Decode, Ow.enc, Sl.enc, rr_ferrymanlaw03_FrameOnce, ro_ferrymanlaw03_FrameOnce, b0_ferrymanlaw03_FrameOnce, *]
end Go.Dvm.C
