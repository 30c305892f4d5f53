/- The machine comes to these answers: part 2. -/
import Derived.Test.YtnmceljcgioomaaQl0
import Derived.Test.YtnmceljcgioomaaQr0
set_option linter.all false
set_option maxRecDepth 100000
set_option maxHeartbeats 4000000
namespace Go.Dvm.C
open Go Go.Dvm Go.Dvm.I
def St_ferrymanlaw03_FrameBursts_l0 (q : Nat) : Prop := ∀ (M : Nat) (hM : 8 * q ≤ M) (j : Nat) (hj : q ≤ j) (v1 : Int) (v2 : Int) (v7 : Bool) (v9 : Int) (v10 : Bool) (v11 : Int) (h0z : Bool) (h0l : List Int) (h0x : Bool) (r : Bool) (_ : ferrymanlaw03_FrameBursts_l0 q v1 v2 v7 v9 v10 v11 h0z h0l h0x = some r) (R : Option (List V)) (_ : some [V.bool r] = R) (fr : Fr) (H : Hp) (_ : canon 0 [1, 2, 7, 8, 9, 10, 11] fr H = ([(1, (.int .i64 v1)), (2, (.int .u32 v2)), (7, (.bool v7)), (8, (.vw 0 0 0 h0l.length 1)), (9, (.int .i64 v9)), (10, (.bool v10)), (11, (.int .i64 v11))], [(.row 0 h0z 1 (List.map (V.int .u8) h0l) h0x)])), fin m_ferrymanlaw03_FrameBursts (unw T (orc T (M + 7)) (M + 7) 0 [.blk 0, .code c_ferrymanlaw03_FrameBursts_29] (iter 0 [1, 2, 7, 8, 9, 10, 11] (exec T (orc T (M + 7)) (M + 7) 0 c_ferrymanlaw03_FrameBursts_24) j fr H)) = R
theorem step_ferrymanlaw03_FrameBursts_l0 (q : Nat) (ih_ferrymanlaw03_FrameBursts_l0 : St_ferrymanlaw03_FrameBursts_l0 q) : St_ferrymanlaw03_FrameBursts_l0 (q + 1) := by
  intro M hM j hj v1 v2 v7 v9 v10 v11 h0z h0l h0x r h R hR fr H hc
  obtain ⟨j, rfl⟩ : ∃ i, j = i + 1 := ⟨j - 1, by omega⟩
  rw [unw_iter, hc]; clear hc
  rw [ferrymanlaw03_FrameBursts_l0] at h
  rcases Classical.em (v11 < 32) with h1 | h1
  · rw [if_pos h1] at h; replace h1 := eq_true h1
    rcases Classical.em ((wrp .u64 v11) < 0) with h2 | h2
    · rw [if_pos h2] at h; replace h2 := eq_true h2
      cases h
    · rw [if_neg h2] at h; replace h2 := eq_false h2
      rcases Classical.em ((Int.tmod (ishr .u32 v2 (wrp .u64 v11)) 2) = 1) with h3 | h3
      · rw [if_pos h3] at h; replace h3 := eq_true h3
        rcases Classical.em ((wrp .i64 (v1 + v11)) < (wrp .i64 (8 * (h0l.length : Int)))) with h4 | h4
        · rw [if_pos h4] at h; replace h4 := eq_true h4
          try simp only [kn0, kn1, kn2, kn3, kn4, kn5, kn6, eq_self_iff_true, implies_true, forall_const, Int.cast_ofNat_Int, Nat.reduceEqDiff, Nat.reduceAdd, Nat.reduceSub, Nat.reduceMul, Nat.reduceLT, Nat.reduceLeDiff, Int.reduceEq, Int.reduceLT, Int.reduceLE, Int.reduceAdd, Int.reduceSub, Int.reduceMul, Int.reduceToNat, Int.reduceNeg, ↓reduceIte, reduceCtorEq] at h4
          rcases Classical.em (0 ≤ (wrp .i64 (Int.tdiv (wrp .i64 (v1 + v11)) 8))) with h5 | h5
          · rw [if_pos h5] at h; replace h5 := eq_true h5
            try simp only [kn0, kn1, kn2, kn3, kn4, kn5, kn6, eq_self_iff_true, implies_true, forall_const, Int.cast_ofNat_Int, Nat.reduceEqDiff, Nat.reduceAdd, Nat.reduceSub, Nat.reduceMul, Nat.reduceLT, Nat.reduceLeDiff, Int.reduceEq, Int.reduceLT, Int.reduceLE, Int.reduceAdd, Int.reduceSub, Int.reduceMul, Int.reduceToNat, Int.reduceNeg, ↓reduceIte, reduceCtorEq] at h5
            rcases Classical.em ((wrp .i64 (Int.tdiv (wrp .i64 (v1 + v11)) 8)).toNat < h0l.length) with h6 | h6
            · rw [if_pos h6] at h; replace h6 := eq_true h6
              try simp only [kn0, kn1, kn2, kn3, kn4, kn5, kn6, eq_self_iff_true, implies_true, forall_const, Int.cast_ofNat_Int, Nat.reduceEqDiff, Nat.reduceAdd, Nat.reduceSub, Nat.reduceMul, Nat.reduceLT, Nat.reduceLeDiff, Int.reduceEq, Int.reduceLT, Int.reduceLE, Int.reduceAdd, Int.reduceSub, Int.reduceMul, Int.reduceToNat, Int.reduceNeg, ↓reduceIte, reduceCtorEq] at h6
              rcases h7 : h0l[(wrp .i64 (Int.tdiv (wrp .i64 (v1 + v11)) 8)).toNat]? with _ | e3
              · rw [h7] at h; cases h
              · rw [h7, Option.bind_some] at h
                rcases Classical.em ((wrp .u64 (Int.tmod (wrp .i64 (v1 + v11)) 8)) < 0) with h8 | h8
                · rw [if_pos h8] at h; replace h8 := eq_true h8
                  try simp only [kn0, kn1, kn2, kn3, kn4, kn5, kn6, eq_self_iff_true, implies_true, forall_const, Int.cast_ofNat_Int, Nat.reduceEqDiff, Nat.reduceAdd, Nat.reduceSub, Nat.reduceMul, Nat.reduceLT, Nat.reduceLeDiff, Int.reduceEq, Int.reduceLT, Int.reduceLE, Int.reduceAdd, Int.reduceSub, Int.reduceMul, Int.reduceToNat, Int.reduceNeg, ↓reduceIte, reduceCtorEq] at h8
                  cases h
                · rw [if_neg h8] at h; replace h8 := eq_false h8
                  try simp only [kn0, kn1, kn2, kn3, kn4, kn5, kn6, eq_self_iff_true, implies_true, forall_const, Int.cast_ofNat_Int, Nat.reduceEqDiff, Nat.reduceAdd, Nat.reduceSub, Nat.reduceMul, Nat.reduceLT, Nat.reduceLeDiff, Int.reduceEq, Int.reduceLT, Int.reduceLE, Int.reduceAdd, Int.reduceSub, Int.reduceMul, Int.reduceToNat, Int.reduceNeg, ↓reduceIte, reduceCtorEq] at h8
                  rcases Classical.em (h0x = true) with h9 | h9
                  · rw [if_pos h9] at h; have h9' := bt1 h9; replace h9 := eq_true h9
                    replace h := ih_ferrymanlaw03_FrameBursts_l0 M (by omega) j (by omega) _ _ _ _ _ _ _ _ _ _ h R hR
                    simp (maxDischargeDepth := 12) only [kk0, kk1, kk2, kk3, kk4, kk5, kk6, kk7, kk8, kk9, kk10, kk11, kk12, kk13, kk14, kk15, kk16, kn0, kn1, kn2, kn3, kn4, kn5, kn6, eq_self_iff_true, implies_true, forall_const, Int.cast_ofNat_Int, Nat.reduceEqDiff, Nat.reduceAdd, Nat.reduceSub, Nat.reduceMul, Nat.reduceLT, Nat.reduceLeDiff, Int.reduceEq, Int.reduceLT, Int.reduceLE, Int.reduceAdd, Int.reduceSub, Int.reduceMul, Int.reduceToNat, Int.reduceNeg, ↓reduceIte, reduceCtorEq, L_ferrymanlaw03_FrameBursts, v_ferrymanlaw03_awake, v_frame_Encode, v_frame_Decode, Ow.enc, Sl.enc, rr_ferrymanlaw03_FrameBursts, ro_ferrymanlaw03_FrameBursts, b0_ferrymanlaw03_FrameBursts, *]
                  · rw [if_neg h9] at h; have h9' := bt0 h9; replace h9 := eq_false h9
                    cases h
            · rw [if_neg h6] at h; replace h6 := eq_false h6
              try simp only [kn0, kn1, kn2, kn3, kn4, kn5, kn6, eq_self_iff_true, implies_true, forall_const, Int.cast_ofNat_Int, Nat.reduceEqDiff, Nat.reduceAdd, Nat.reduceSub, Nat.reduceMul, Nat.reduceLT, Nat.reduceLeDiff, Int.reduceEq, Int.reduceLT, Int.reduceLE, Int.reduceAdd, Int.reduceSub, Int.reduceMul, Int.reduceToNat, Int.reduceNeg, ↓reduceIte, reduceCtorEq] at h6
              cases h
          · rw [if_neg h5] at h; replace h5 := eq_false h5
            try simp only [kn0, kn1, kn2, kn3, kn4, kn5, kn6, eq_self_iff_true, implies_true, forall_const, Int.cast_ofNat_Int, Nat.reduceEqDiff, Nat.reduceAdd, Nat.reduceSub, Nat.reduceMul, Nat.reduceLT, Nat.reduceLeDiff, Int.reduceEq, Int.reduceLT, Int.reduceLE, Int.reduceAdd, Int.reduceSub, Int.reduceMul, Int.reduceToNat, Int.reduceNeg, ↓reduceIte, reduceCtorEq] at h5
            cases h
        · rw [if_neg h4] at h; replace h4 := eq_false h4
          try simp only [kn0, kn1, kn2, kn3, kn4, kn5, kn6, eq_self_iff_true, implies_true, forall_const, Int.cast_ofNat_Int, Nat.reduceEqDiff, Nat.reduceAdd, Nat.reduceSub, Nat.reduceMul, Nat.reduceLT, Nat.reduceLeDiff, Int.reduceEq, Int.reduceLT, Int.reduceLE, Int.reduceAdd, Int.reduceSub, Int.reduceMul, Int.reduceToNat, Int.reduceNeg, ↓reduceIte, reduceCtorEq] at h4
          replace h := ih_ferrymanlaw03_FrameBursts_l0 M (by omega) j (by omega) _ _ _ _ _ _ _ _ _ _ h R hR
          simp (maxDischargeDepth := 12) only [kk0, kk1, kk2, kk3, kk4, kk5, kk6, kk7, kk8, kk9, kk10, kk11, kk12, kk13, kk14, kk15, kk16, kn0, kn1, kn2, kn3, kn4, kn5, kn6, eq_self_iff_true, implies_true, forall_const, Int.cast_ofNat_Int, Nat.reduceEqDiff, Nat.reduceAdd, Nat.reduceSub, Nat.reduceMul, Nat.reduceLT, Nat.reduceLeDiff, Int.reduceEq, Int.reduceLT, Int.reduceLE, Int.reduceAdd, Int.reduceSub, Int.reduceMul, Int.reduceToNat, Int.reduceNeg, ↓reduceIte, reduceCtorEq, L_ferrymanlaw03_FrameBursts, v_ferrymanlaw03_awake, v_frame_Encode, v_frame_Decode, Ow.enc, Sl.enc, rr_ferrymanlaw03_FrameBursts, ro_ferrymanlaw03_FrameBursts, b0_ferrymanlaw03_FrameBursts, *]
      · rw [if_neg h3] at h; replace h3 := eq_false h3
        replace h := ih_ferrymanlaw03_FrameBursts_l0 M (by omega) j (by omega) _ _ _ _ _ _ _ _ _ _ h R hR
        simp (maxDischargeDepth := 12) only [kk0, kk1, kk2, kk3, kk4, kk5, kk6, kk7, kk8, kk9, kk10, kk11, kk12, kk13, kk14, kk15, kk16, kn0, kn1, kn2, kn3, kn4, kn5, kn6, eq_self_iff_true, implies_true, forall_const, Int.cast_ofNat_Int, Nat.reduceEqDiff, Nat.reduceAdd, Nat.reduceSub, Nat.reduceMul, Nat.reduceLT, Nat.reduceLeDiff, Int.reduceEq, Int.reduceLT, Int.reduceLE, Int.reduceAdd, Int.reduceSub, Int.reduceMul, Int.reduceToNat, Int.reduceNeg, ↓reduceIte, reduceCtorEq, L_ferrymanlaw03_FrameBursts, v_ferrymanlaw03_awake, v_frame_Encode, v_frame_Decode, Ow.enc, Sl.enc, rr_ferrymanlaw03_FrameBursts, ro_ferrymanlaw03_FrameBursts, b0_ferrymanlaw03_FrameBursts, *]
  · rw [if_neg h1] at h; replace h1 := eq_false h1
    rcases h10 : frame_Decode q ⟨h0z, h0l⟩ with _ | r4
    · rw [h10] at h; cases h
    · rw [h10, Option.bind_some] at h
      replace h10 := run_frame_Decode q (M + 7) (by omega) _ _ h10
      try simp only [Ow.enc, Sl.enc, kn0, kn1, kn2, kn3, kn4, kn5, kn6, eq_self_iff_true, implies_true, forall_const, Int.cast_ofNat_Int, Nat.reduceEqDiff, Nat.reduceAdd, Nat.reduceSub, Nat.reduceMul, Nat.reduceLT, Nat.reduceLeDiff, Int.reduceEq, Int.reduceLT, Int.reduceLE, Int.reduceAdd, Int.reduceSub, Int.reduceMul, Int.reduceToNat, Int.reduceNeg, ↓reduceIte, reduceCtorEq] at h10
      rcases Classical.em (v7 = true) with h11 | h11
      · rw [if_pos h11] at h; have h11' := bt1 h11; replace h11 := eq_true h11
        rcases Classical.em (v9 = 0) with h12 | h12
        · rw [if_pos h12] at h; replace h12 := eq_true h12
          rcases Classical.em (v10 = true) with h13 | h13
          · rw [if_pos h13] at h; have h13' := bt1 h13; replace h13 := eq_true h13
            rcases Classical.em (r4.2.2 = 0) with h14 | h14
            · rw [if_pos h14] at h; replace h14 := eq_true h14
              cases h; subst hR; simp (maxDischargeDepth := 12) only [kk0, kk1, kk2, kk3, kk4, kk5, kk6, kk7, kk8, kk9, kk10, kk11, kk12, kk13, kk14, kk15, kk16, kn0, kn1, kn2, kn3, kn4, kn5, kn6, eq_self_iff_true, implies_true, forall_const, Int.cast_ofNat_Int, Nat.reduceEqDiff, Nat.reduceAdd, Nat.reduceSub, Nat.reduceMul, Nat.reduceLT, Nat.reduceLeDiff, Int.reduceEq, Int.reduceLT, Int.reduceLE, Int.reduceAdd, Int.reduceSub, Int.reduceMul, Int.reduceToNat, Int.reduceNeg, ↓reduceIte, reduceCtorEq, L_ferrymanlaw03_FrameBursts, v_ferrymanlaw03_awake, v_frame_Encode, v_frame_Decode, Ow.enc, Sl.enc, rr_ferrymanlaw03_FrameBursts, ro_ferrymanlaw03_FrameBursts, b0_ferrymanlaw03_FrameBursts, *]
            · rw [if_neg h14] at h; replace h14 := eq_false h14
              cases h; subst hR; simp (maxDischargeDepth := 12) only [kk0, kk1, kk2, kk3, kk4, kk5, kk6, kk7, kk8, kk9, kk10, kk11, kk12, kk13, kk14, kk15, kk16, kn0, kn1, kn2, kn3, kn4, kn5, kn6, eq_self_iff_true, implies_true, forall_const, Int.cast_ofNat_Int, Nat.reduceEqDiff, Nat.reduceAdd, Nat.reduceSub, Nat.reduceMul, Nat.reduceLT, Nat.reduceLeDiff, Int.reduceEq, Int.reduceLT, Int.reduceLE, Int.reduceAdd, Int.reduceSub, Int.reduceMul, Int.reduceToNat, Int.reduceNeg, ↓reduceIte, reduceCtorEq, L_ferrymanlaw03_FrameBursts, v_ferrymanlaw03_awake, v_frame_Encode, v_frame_Decode, Ow.enc, Sl.enc, rr_ferrymanlaw03_FrameBursts, ro_ferrymanlaw03_FrameBursts, b0_ferrymanlaw03_FrameBursts, *]
          · rw [if_neg h13] at h; have h13' := bt0 h13; replace h13 := eq_false h13
            cases h; subst hR; simp (maxDischargeDepth := 12) only [kk0, kk1, kk2, kk3, kk4, kk5, kk6, kk7, kk8, kk9, kk10, kk11, kk12, kk13, kk14, kk15, kk16, kn0, kn1, kn2, kn3, kn4, kn5, kn6, eq_self_iff_true, implies_true, forall_const, Int.cast_ofNat_Int, Nat.reduceEqDiff, Nat.reduceAdd, Nat.reduceSub, Nat.reduceMul, Nat.reduceLT, Nat.reduceLeDiff, Int.reduceEq, Int.reduceLT, Int.reduceLE, Int.reduceAdd, Int.reduceSub, Int.reduceMul, Int.reduceToNat, Int.reduceNeg, ↓reduceIte, reduceCtorEq, L_ferrymanlaw03_FrameBursts, v_ferrymanlaw03_awake, v_frame_Encode, v_frame_Decode, Ow.enc, Sl.enc, rr_ferrymanlaw03_FrameBursts, ro_ferrymanlaw03_FrameBursts, b0_ferrymanlaw03_FrameBursts, *]
        · rw [if_neg h12] at h; replace h12 := eq_false h12
          cases h; subst hR; simp (maxDischargeDepth := 12) only [kk0, kk1, kk2, kk3, kk4, kk5, kk6, kk7, kk8, kk9, kk10, kk11, kk12, kk13, kk14, kk15, kk16, kn0, kn1, kn2, kn3, kn4, kn5, kn6, eq_self_iff_true, implies_true, forall_const, Int.cast_ofNat_Int, Nat.reduceEqDiff, Nat.reduceAdd, Nat.reduceSub, Nat.reduceMul, Nat.reduceLT, Nat.reduceLeDiff, Int.reduceEq, Int.reduceLT, Int.reduceLE, Int.reduceAdd, Int.reduceSub, Int.reduceMul, Int.reduceToNat, Int.reduceNeg, ↓reduceIte, reduceCtorEq, L_ferrymanlaw03_FrameBursts, v_ferrymanlaw03_awake, v_frame_Encode, v_frame_Decode, Ow.enc, Sl.enc, rr_ferrymanlaw03_FrameBursts, ro_ferrymanlaw03_FrameBursts, b0_ferrymanlaw03_FrameBursts, *]
      · rw [if_neg h11] at h; have h11' := bt0 h11; replace h11 := eq_false h11
        cases h; subst hR; simp (maxDischargeDepth := 12) only [kk0, kk1, kk2, kk3, kk4, kk5, kk6, kk7, kk8, kk9, kk10, kk11, kk12, kk13, kk14, kk15, kk16, kn0, kn1, kn2, kn3, kn4, kn5, kn6, eq_self_iff_true, implies_true, forall_const, Int.cast_ofNat_Int, Nat.reduceEqDiff, Nat.reduceAdd, Nat.reduceSub, Nat.reduceMul, Nat.reduceLT, Nat.reduceLeDiff, Int.reduceEq, Int.reduceLT, Int.reduceLE, Int.reduceAdd, Int.reduceSub, Int.reduceMul, Int.reduceToNat, Int.reduceNeg, ↓reduceIte, reduceCtorEq, L_ferrymanlaw03_FrameBursts, v_ferrymanlaw03_awake, v_frame_Encode, v_frame_Decode, Ow.enc, Sl.enc, rr_ferrymanlaw03_FrameBursts, ro_ferrymanlaw03_FrameBursts, b0_ferrymanlaw03_FrameBursts, *]
theorem all_ferrymanlaw03_FrameBursts : ∀ q, St_ferrymanlaw03_FrameBursts_l0 q
  | 0 => by intro M hM j hj; intros; rename_i h _ _ _ _ _; cases h
  | q + 1 => by have i0 := all_ferrymanlaw03_FrameBursts q; exact step_ferrymanlaw03_FrameBursts_l0 q i0
theorem run_ferrymanlaw03_FrameBursts : ∀ (q N : Nat), 8 * q ≤ N → ∀ (a0 : (Sl Int)) (a1 : Int) (a2 : Int), ∀ (r : Bool), ferrymanlaw03_FrameBursts q a0 a1 a2 = some r → (orc T N).deep F.ferrymanlaw03_FrameBursts [(Sl.enc (V.int .u8)) a0, (V.int .i64) a1, (V.int .u32) a2] = some [V.bool r] := by
  intro q N hM a0 a1 a2 r h
  rcases q with _ | q
  · cases h
  obtain ⟨M, rfl⟩ : ∃ M, N = M + 8 := ⟨N - 8, by omega⟩
  have ih_ferrymanlaw03_FrameBursts_l0 := (all_ferrymanlaw03_FrameBursts q)
  generalize hR : some [V.bool r] = R
  rw [orc_deep, T_ferrymanlaw03_FrameBursts, Option.bind_some, runDeep_eq]
  rw [ferrymanlaw03_FrameBursts] at h
  rcases h1 : ferrymanlaw03_awake q with _ | r1
  · rw [h1] at h; cases h
  · rw [h1, Option.bind_some] at h
    replace h1 := run_ferrymanlaw03_awake q (M + 7) (by omega)  _ h1
    skip
    rcases Classical.em (1000 < (a0.l.length : Int)) with h2 | h2
    · rw [if_pos h2] at h; replace h2 := eq_true h2
      cases h; subst hR; simp (maxDischargeDepth := 12) only [kk0, kk1, kk2, kk3, kk4, kk5, kk6, kk7, kk8, kk9, kk10, kk11, kk12, kk13, kk14, kk15, kk16, kn0, kn1, kn2, kn3, kn4, kn5, kn6, eq_self_iff_true, implies_true, forall_const, Int.cast_ofNat_Int, Nat.reduceEqDiff, Nat.reduceAdd, Nat.reduceSub, Nat.reduceMul, Nat.reduceLT, Nat.reduceLeDiff, Int.reduceEq, Int.reduceLT, Int.reduceLE, Int.reduceAdd, Int.reduceSub, Int.reduceMul, Int.reduceToNat, Int.reduceNeg, ↓reduceIte, reduceCtorEq, L_ferrymanlaw03_FrameBursts, v_ferrymanlaw03_awake, v_frame_Encode, v_frame_Decode, Ow.enc, Sl.enc, rr_ferrymanlaw03_FrameBursts, ro_ferrymanlaw03_FrameBursts, b0_ferrymanlaw03_FrameBursts, *]
    · rw [if_neg h2] at h; replace h2 := eq_false h2
      rcases h3 : frame_Encode q a0 with _ | r2
      · rw [h3] at h; cases h
      · rw [h3, Option.bind_some] at h
        replace h3 := run_frame_Encode q (M + 7) (by omega) _ _ h3
        try simp only [Ow.enc, Sl.enc, kn0, kn1, kn2, kn3, kn4, kn5, kn6, eq_self_iff_true, implies_true, forall_const, Int.cast_ofNat_Int, Nat.reduceEqDiff, Nat.reduceAdd, Nat.reduceSub, Nat.reduceMul, Nat.reduceLT, Nat.reduceLeDiff, Int.reduceEq, Int.reduceLT, Int.reduceLE, Int.reduceAdd, Int.reduceSub, Int.reduceMul, Int.reduceToNat, Int.reduceNeg, ↓reduceIte, reduceCtorEq] at h3
        rcases Classical.em (a1 < 0) with h4 | h4
        · rw [if_pos h4] at h; replace h4 := eq_true h4
          cases h; subst hR; simp (maxDischargeDepth := 12) only [kk0, kk1, kk2, kk3, kk4, kk5, kk6, kk7, kk8, kk9, kk10, kk11, kk12, kk13, kk14, kk15, kk16, kn0, kn1, kn2, kn3, kn4, kn5, kn6, eq_self_iff_true, implies_true, forall_const, Int.cast_ofNat_Int, Nat.reduceEqDiff, Nat.reduceAdd, Nat.reduceSub, Nat.reduceMul, Nat.reduceLT, Nat.reduceLeDiff, Int.reduceEq, Int.reduceLT, Int.reduceLE, Int.reduceAdd, Int.reduceSub, Int.reduceMul, Int.reduceToNat, Int.reduceNeg, ↓reduceIte, reduceCtorEq, L_ferrymanlaw03_FrameBursts, v_ferrymanlaw03_awake, v_frame_Encode, v_frame_Decode, Ow.enc, Sl.enc, rr_ferrymanlaw03_FrameBursts, ro_ferrymanlaw03_FrameBursts, b0_ferrymanlaw03_FrameBursts, *]
        · rw [if_neg h4] at h; replace h4 := eq_false h4
          rcases Classical.em ((wrp .i64 (8 * (r2.1.xs.length : Int))) ≤ a1) with h5 | h5
          · rw [if_pos h5] at h; replace h5 := eq_true h5
            cases h; subst hR; simp (maxDischargeDepth := 12) only [kk0, kk1, kk2, kk3, kk4, kk5, kk6, kk7, kk8, kk9, kk10, kk11, kk12, kk13, kk14, kk15, kk16, kn0, kn1, kn2, kn3, kn4, kn5, kn6, eq_self_iff_true, implies_true, forall_const, Int.cast_ofNat_Int, Nat.reduceEqDiff, Nat.reduceAdd, Nat.reduceSub, Nat.reduceMul, Nat.reduceLT, Nat.reduceLeDiff, Int.reduceEq, Int.reduceLT, Int.reduceLE, Int.reduceAdd, Int.reduceSub, Int.reduceMul, Int.reduceToNat, Int.reduceNeg, ↓reduceIte, reduceCtorEq, L_ferrymanlaw03_FrameBursts, v_ferrymanlaw03_awake, v_frame_Encode, v_frame_Decode, Ow.enc, Sl.enc, rr_ferrymanlaw03_FrameBursts, ro_ferrymanlaw03_FrameBursts, b0_ferrymanlaw03_FrameBursts, *]
          · rw [if_neg h5] at h; replace h5 := eq_false h5
            rcases Classical.em (a2 = 0) with h6 | h6
            · rw [if_pos h6] at h; replace h6 := eq_true h6
              cases h; subst hR; simp (maxDischargeDepth := 12) only [kk0, kk1, kk2, kk3, kk4, kk5, kk6, kk7, kk8, kk9, kk10, kk11, kk12, kk13, kk14, kk15, kk16, kn0, kn1, kn2, kn3, kn4, kn5, kn6, eq_self_iff_true, implies_true, forall_const, Int.cast_ofNat_Int, Nat.reduceEqDiff, Nat.reduceAdd, Nat.reduceSub, Nat.reduceMul, Nat.reduceLT, Nat.reduceLeDiff, Int.reduceEq, Int.reduceLT, Int.reduceLE, Int.reduceAdd, Int.reduceSub, Int.reduceMul, Int.reduceToNat, Int.reduceNeg, ↓reduceIte, reduceCtorEq, L_ferrymanlaw03_FrameBursts, v_ferrymanlaw03_awake, v_frame_Encode, v_frame_Decode, Ow.enc, Sl.enc, rr_ferrymanlaw03_FrameBursts, ro_ferrymanlaw03_FrameBursts, b0_ferrymanlaw03_FrameBursts, *]
            · rw [if_neg h6] at h; replace h6 := eq_false h6
              replace h := ih_ferrymanlaw03_FrameBursts_l0 M (by omega) (M + 7) (by omega) _ _ _ _ _ _ _ _ _ _ h R hR
              simp (maxDischargeDepth := 12) only [kk0, kk1, kk2, kk3, kk4, kk5, kk6, kk7, kk8, kk9, kk10, kk11, kk12, kk13, kk14, kk15, kk16, kn0, kn1, kn2, kn3, kn4, kn5, kn6, eq_self_iff_true, implies_true, forall_const, Int.cast_ofNat_Int, Nat.reduceEqDiff, Nat.reduceAdd, Nat.reduceSub, Nat.reduceMul, Nat.reduceLT, Nat.reduceLeDiff, Int.reduceEq, Int.reduceLT, Int.reduceLE, Int.reduceAdd, Int.reduceSub, Int.reduceMul, Int.reduceToNat, Int.reduceNeg, ↓reduceIte, reduceCtorEq, L_ferrymanlaw03_FrameBursts, v_ferrymanlaw03_awake, v_frame_Encode, v_frame_Decode, Ow.enc, Sl.enc, rr_ferrymanlaw03_FrameBursts, ro_ferrymanlaw03_FrameBursts, b0_ferrymanlaw03_FrameBursts, *]
end Go.Dvm.C
