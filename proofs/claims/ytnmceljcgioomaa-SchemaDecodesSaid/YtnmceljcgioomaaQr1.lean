/- The machine comes to these answers: part 2. -/
import Derived.Test.YtnmceljcgioomaaQl0
import Derived.Test.YtnmceljcgioomaaQr0
set_option linter.all false
set_option maxRecDepth 100000
set_option maxHeartbeats 4000000
namespace Go.Dvm.C
open Go Go.Dvm Go.Dvm.I
def St_schema_read_l0 (q : Nat) : Prop := ∀ (M : Nat) (hM : 8 * q ≤ M) (j : Nat) (hj : q ≤ j) (v0 : Int) (v1z : Bool) (v1l : List Int) (v7 : Int) (h0_0 : Int) (h0_1 : Int) (h0_2 : Int) (h0_3 : Int) (h0_4 : Int) (h0_5 : Int) (h0_6 : Int) (h1z : Bool) (h1l : List Int) (h1x : Bool) (r : S_api_Record × Int) (_ : schema_read_l0 q v0 v1z v1l v7 h0_0 h0_1 h0_2 h0_3 h0_4 h0_5 h0_6 h1z h1l h1x = some r) (R : Option (List V)) (_ : some [S_api_Record.enc r.1, (V.int .i64) r.2] = R) (fr : Fr) (H : Hp) (_ : canon 0 [0, 1, 4, 6, 7] fr H = ([(0, (.int .i64 v0)), (1, (.sl v1z (List.map (V.int .u8) v1l))), (4, (.ptr 0 0)), (6, (.vw 1 0 0 h1l.length 1)), (7, (.int .i64 v7))], [(.box [(.int .i64 h0_0), (.int .i64 h0_1), (.int .i64 h0_2), (.int .i64 h0_3), (.int .i64 h0_4), (.int .i64 h0_5), (.int .i64 h0_6)]), (.row 0 h1z 1 (List.map (V.int .i64) h1l) h1x)])), fin m_schema_read (unw T (orc T (M + 7)) (M + 7) 0 [.blk 0, .code c_schema_read_44] (iter 0 [0, 1, 4, 6, 7] (exec T (orc T (M + 7)) (M + 7) 0 c_schema_read_34) j fr H)) = R
theorem step_schema_read_l0 (q : Nat) (ih_schema_read_l0 : St_schema_read_l0 q) : St_schema_read_l0 (q + 1) := by
  intro M hM j hj v0 v1z v1l v7 h0_0 h0_1 h0_2 h0_3 h0_4 h0_5 h0_6 h1z h1l h1x r h R hR fr H hc
  obtain ⟨j, rfl⟩ : ∃ i, j = i + 1 := ⟨j - 1, by omega⟩
  rw [unw_iter, hc]; clear hc
  rw [schema_read_l0] at h
  rcases Classical.em (0 < (v1l.length : Int)) with h1 | h1
  · rw [if_pos h1] at h; replace h1 := eq_true h1
    rcases h2 : num_Get q ⟨v1z, v1l⟩ with _ | r3
    · rw [h2] at h; cases h
    · rw [h2, Option.bind_some] at h
      replace h2 := run_num_Get q (M + 7) (by omega) _ _ h2
      try simp only [Ow.enc, Sl.enc, kn0, kn1, kn2, kn3, kn4, kn5, kn6, eq_self_iff_true, implies_true, forall_const, Int.cast_ofNat_Int, Nat.reduceEqDiff, Nat.reduceAdd, Nat.reduceSub, Nat.reduceMul, Nat.reduceLT, Nat.reduceLeDiff, Int.reduceEq, Int.reduceLT, Int.reduceLE, Int.reduceAdd, Int.reduceSub, Int.reduceMul, Int.reduceToNat, Int.reduceNeg, ↓reduceIte, reduceCtorEq] at h2
      rcases Classical.em (r3.2 = 0) with h3 | h3
      · rw [if_pos h3] at h; replace h3 := eq_true h3
        cases h; subst hR; simp (maxDischargeDepth := 12) only [kk0, kk1, kk2, kk3, kk4, kk5, kk6, kk7, kk8, kk9, kk10, kk11, kk12, kk13, kk14, kk15, kk16, kn0, kn1, kn2, kn3, kn4, kn5, kn6, eq_self_iff_true, implies_true, forall_const, Int.cast_ofNat_Int, Nat.reduceEqDiff, Nat.reduceAdd, Nat.reduceSub, Nat.reduceMul, Nat.reduceLT, Nat.reduceLeDiff, Int.reduceEq, Int.reduceLT, Int.reduceLE, Int.reduceAdd, Int.reduceSub, Int.reduceMul, Int.reduceToNat, Int.reduceNeg, ↓reduceIte, reduceCtorEq, L_schema_read, L_schema_get, v_schema_Fits, v_schema_fields, v_num_Get, v_slices_Index_int_int, v_slices_Clone_int_int, v_slices_Delete_int_int, v_schema_pass, v_codec_GetOp, v_num_GetSigned, v_schema_get, i_schema_get, Ow.enc, S_api_Op.enc, S_api_Record.enc, Sl.enc, rr_schema_read, ro_schema_read, b0_schema_read, *]
      · rw [if_neg h3] at h; replace h3 := eq_false h3
        rcases Classical.em (r3.1 ≤ v7) with h4 | h4
        · rw [if_pos h4] at h; replace h4 := eq_true h4
          cases h; subst hR; simp (maxDischargeDepth := 12) only [kk0, kk1, kk2, kk3, kk4, kk5, kk6, kk7, kk8, kk9, kk10, kk11, kk12, kk13, kk14, kk15, kk16, kn0, kn1, kn2, kn3, kn4, kn5, kn6, eq_self_iff_true, implies_true, forall_const, Int.cast_ofNat_Int, Nat.reduceEqDiff, Nat.reduceAdd, Nat.reduceSub, Nat.reduceMul, Nat.reduceLT, Nat.reduceLeDiff, Int.reduceEq, Int.reduceLT, Int.reduceLE, Int.reduceAdd, Int.reduceSub, Int.reduceMul, Int.reduceToNat, Int.reduceNeg, ↓reduceIte, reduceCtorEq, L_schema_read, L_schema_get, v_schema_Fits, v_schema_fields, v_num_Get, v_slices_Index_int_int, v_slices_Clone_int_int, v_slices_Delete_int_int, v_schema_pass, v_codec_GetOp, v_num_GetSigned, v_schema_get, i_schema_get, Ow.enc, S_api_Op.enc, S_api_Record.enc, Sl.enc, rr_schema_read, ro_schema_read, b0_schema_read, *]
        · rw [if_neg h4] at h; replace h4 := eq_false h4
          rcases Classical.em (0 ≤ r3.2) with h5 | h5
          · rw [if_pos h5] at h; replace h5 := eq_true h5
            rcases Classical.em (r3.2 ≤ (v1l.length : Int)) with h6 | h6
            · rw [if_pos h6] at h; replace h6 := eq_true h6
              rcases h7 : slices_Index_int_int q ⟨h1z, h1l⟩ r3.1 with _ | r4
              · rw [h7] at h; cases h
              · rw [h7, Option.bind_some] at h
                replace h7 := run_slices_Index_int_int q (M + 7) (by omega) _ _ _ h7
                try simp only [Ow.enc, Sl.enc, kn0, kn1, kn2, kn3, kn4, kn5, kn6, eq_self_iff_true, implies_true, forall_const, Int.cast_ofNat_Int, Nat.reduceEqDiff, Nat.reduceAdd, Nat.reduceSub, Nat.reduceMul, Nat.reduceLT, Nat.reduceLeDiff, Int.reduceEq, Int.reduceLT, Int.reduceLE, Int.reduceAdd, Int.reduceSub, Int.reduceMul, Int.reduceToNat, Int.reduceNeg, ↓reduceIte, reduceCtorEq] at h7
                rcases Classical.em (0 ≤ r4) with h8 | h8
                · rw [if_pos h8] at h; replace h8 := eq_true h8
                  rcases h9 : slices_Delete_int_int q ⟨h1z, h1x, h1l⟩ r4 (wrp .i64 (r4 + 1)) with _ | r5
                  · rw [h9] at h; cases h
                  · rw [h9, Option.bind_some] at h
                    replace h9 := run_slices_Delete_int_int q (M + 7) (by omega) _ _ _ _ h9
                    try simp only [Ow.enc, Sl.enc, kn0, kn1, kn2, kn3, kn4, kn5, kn6, eq_self_iff_true, implies_true, forall_const, Int.cast_ofNat_Int, Nat.reduceEqDiff, Nat.reduceAdd, Nat.reduceSub, Nat.reduceMul, Nat.reduceLT, Nat.reduceLeDiff, Int.reduceEq, Int.reduceLT, Int.reduceLE, Int.reduceAdd, Int.reduceSub, Int.reduceMul, Int.reduceToNat, Int.reduceNeg, ↓reduceIte, reduceCtorEq] at h9
                    rcases Classical.em (r3.1 = 1) with h10 | h10
                    · rw [if_pos h10] at h; replace h10 := eq_true h10
                      rcases h11 : num_Get q ⟨v1z, (List.drop r3.2.toNat v1l)⟩ with _ | r6
                      · rw [h11] at h; cases h
                      · rw [h11, Option.bind_some] at h
                        replace h11 := run_num_Get q (M + 6) (by omega) _ _ h11
                        try simp only [Ow.enc, Sl.enc, kn0, kn1, kn2, kn3, kn4, kn5, kn6, eq_self_iff_true, implies_true, forall_const, Int.cast_ofNat_Int, Nat.reduceEqDiff, Nat.reduceAdd, Nat.reduceSub, Nat.reduceMul, Nat.reduceLT, Nat.reduceLeDiff, Int.reduceEq, Int.reduceLT, Int.reduceLE, Int.reduceAdd, Int.reduceSub, Int.reduceMul, Int.reduceToNat, Int.reduceNeg, ↓reduceIte, reduceCtorEq] at h11
                        rcases Classical.em (r6.2 = 0) with h12 | h12
                        · rw [if_pos h12] at h; replace h12 := eq_true h12
                          cases h; subst hR; simp (maxDischargeDepth := 12) only [kk0, kk1, kk2, kk3, kk4, kk5, kk6, kk7, kk8, kk9, kk10, kk11, kk12, kk13, kk14, kk15, kk16, kn0, kn1, kn2, kn3, kn4, kn5, kn6, eq_self_iff_true, implies_true, forall_const, Int.cast_ofNat_Int, Nat.reduceEqDiff, Nat.reduceAdd, Nat.reduceSub, Nat.reduceMul, Nat.reduceLT, Nat.reduceLeDiff, Int.reduceEq, Int.reduceLT, Int.reduceLE, Int.reduceAdd, Int.reduceSub, Int.reduceMul, Int.reduceToNat, Int.reduceNeg, ↓reduceIte, reduceCtorEq, L_schema_read, L_schema_get, v_schema_Fits, v_schema_fields, v_num_Get, v_slices_Index_int_int, v_slices_Clone_int_int, v_slices_Delete_int_int, v_schema_pass, v_codec_GetOp, v_num_GetSigned, v_schema_get, i_schema_get, Ow.enc, S_api_Op.enc, S_api_Record.enc, Sl.enc, rr_schema_read, ro_schema_read, b0_schema_read, *]
                        · rw [if_neg h12] at h; replace h12 := eq_false h12
                          rcases Classical.em (0 ≤ r6.2) with h13 | h13
                          · rw [if_pos h13] at h; replace h13 := eq_true h13
                            rcases Classical.em (r6.2 ≤ (((v1l.length - r3.2.toNat) : Nat) : Int)) with h14 | h14
                            · rw [if_pos h14] at h; replace h14 := eq_true h14
                              try simp only [kn0, kn1, kn2, kn3, kn4, kn5, kn6, eq_self_iff_true, implies_true, forall_const, Int.cast_ofNat_Int, Nat.reduceEqDiff, Nat.reduceAdd, Nat.reduceSub, Nat.reduceMul, Nat.reduceLT, Nat.reduceLeDiff, Int.reduceEq, Int.reduceLT, Int.reduceLE, Int.reduceAdd, Int.reduceSub, Int.reduceMul, Int.reduceToNat, Int.reduceNeg, ↓reduceIte, reduceCtorEq] at h14
                              replace h := ih_schema_read_l0 M (by omega) j (by omega) _ _ _ _ _ _ _ _ _ _ _ _ _ _ _ h R hR
                              simp (maxDischargeDepth := 12) only [kk0, kk1, kk2, kk3, kk4, kk5, kk6, kk7, kk8, kk9, kk10, kk11, kk12, kk13, kk14, kk15, kk16, kn0, kn1, kn2, kn3, kn4, kn5, kn6, eq_self_iff_true, implies_true, forall_const, Int.cast_ofNat_Int, Nat.reduceEqDiff, Nat.reduceAdd, Nat.reduceSub, Nat.reduceMul, Nat.reduceLT, Nat.reduceLeDiff, Int.reduceEq, Int.reduceLT, Int.reduceLE, Int.reduceAdd, Int.reduceSub, Int.reduceMul, Int.reduceToNat, Int.reduceNeg, ↓reduceIte, reduceCtorEq, L_schema_read, L_schema_get, v_schema_Fits, v_schema_fields, v_num_Get, v_slices_Index_int_int, v_slices_Clone_int_int, v_slices_Delete_int_int, v_schema_pass, v_codec_GetOp, v_num_GetSigned, v_schema_get, i_schema_get, Ow.enc, S_api_Op.enc, S_api_Record.enc, Sl.enc, rr_schema_read, ro_schema_read, b0_schema_read, *]
                            · rw [if_neg h14] at h; replace h14 := eq_false h14
                              try simp only [kn0, kn1, kn2, kn3, kn4, kn5, kn6, eq_self_iff_true, implies_true, forall_const, Int.cast_ofNat_Int, Nat.reduceEqDiff, Nat.reduceAdd, Nat.reduceSub, Nat.reduceMul, Nat.reduceLT, Nat.reduceLeDiff, Int.reduceEq, Int.reduceLT, Int.reduceLE, Int.reduceAdd, Int.reduceSub, Int.reduceMul, Int.reduceToNat, Int.reduceNeg, ↓reduceIte, reduceCtorEq] at h14
                              cases h
                          · rw [if_neg h13] at h; replace h13 := eq_false h13
                            cases h
                    · rw [if_neg h10] at h; replace h10 := eq_false h10
                      rcases Classical.em (r3.1 = 2) with h15 | h15
                      · rw [if_pos h15] at h; replace h15 := eq_true h15
                        rcases h16 : num_Get q ⟨v1z, (List.drop r3.2.toNat v1l)⟩ with _ | r7
                        · rw [h16] at h; cases h
                        · rw [h16, Option.bind_some] at h
                          replace h16 := run_num_Get q (M + 6) (by omega) _ _ h16
                          try simp only [Ow.enc, Sl.enc, kn0, kn1, kn2, kn3, kn4, kn5, kn6, eq_self_iff_true, implies_true, forall_const, Int.cast_ofNat_Int, Nat.reduceEqDiff, Nat.reduceAdd, Nat.reduceSub, Nat.reduceMul, Nat.reduceLT, Nat.reduceLeDiff, Int.reduceEq, Int.reduceLT, Int.reduceLE, Int.reduceAdd, Int.reduceSub, Int.reduceMul, Int.reduceToNat, Int.reduceNeg, ↓reduceIte, reduceCtorEq] at h16
                          rcases Classical.em (r7.2 = 0) with h17 | h17
                          · rw [if_pos h17] at h; replace h17 := eq_true h17
                            cases h; subst hR; simp (maxDischargeDepth := 12) only [kk0, kk1, kk2, kk3, kk4, kk5, kk6, kk7, kk8, kk9, kk10, kk11, kk12, kk13, kk14, kk15, kk16, kn0, kn1, kn2, kn3, kn4, kn5, kn6, eq_self_iff_true, implies_true, forall_const, Int.cast_ofNat_Int, Nat.reduceEqDiff, Nat.reduceAdd, Nat.reduceSub, Nat.reduceMul, Nat.reduceLT, Nat.reduceLeDiff, Int.reduceEq, Int.reduceLT, Int.reduceLE, Int.reduceAdd, Int.reduceSub, Int.reduceMul, Int.reduceToNat, Int.reduceNeg, ↓reduceIte, reduceCtorEq, L_schema_read, L_schema_get, v_schema_Fits, v_schema_fields, v_num_Get, v_slices_Index_int_int, v_slices_Clone_int_int, v_slices_Delete_int_int, v_schema_pass, v_codec_GetOp, v_num_GetSigned, v_schema_get, i_schema_get, Ow.enc, S_api_Op.enc, S_api_Record.enc, Sl.enc, rr_schema_read, ro_schema_read, b0_schema_read, *]
                          · rw [if_neg h17] at h; replace h17 := eq_false h17
                            rcases Classical.em (0 ≤ r7.2) with h18 | h18
                            · rw [if_pos h18] at h; replace h18 := eq_true h18
                              rcases Classical.em (r7.2 ≤ (((v1l.length - r3.2.toNat) : Nat) : Int)) with h19 | h19
                              · rw [if_pos h19] at h; replace h19 := eq_true h19
                                try simp only [kn0, kn1, kn2, kn3, kn4, kn5, kn6, eq_self_iff_true, implies_true, forall_const, Int.cast_ofNat_Int, Nat.reduceEqDiff, Nat.reduceAdd, Nat.reduceSub, Nat.reduceMul, Nat.reduceLT, Nat.reduceLeDiff, Int.reduceEq, Int.reduceLT, Int.reduceLE, Int.reduceAdd, Int.reduceSub, Int.reduceMul, Int.reduceToNat, Int.reduceNeg, ↓reduceIte, reduceCtorEq] at h19
                                replace h := ih_schema_read_l0 M (by omega) j (by omega) _ _ _ _ _ _ _ _ _ _ _ _ _ _ _ h R hR
                                simp (maxDischargeDepth := 12) only [kk0, kk1, kk2, kk3, kk4, kk5, kk6, kk7, kk8, kk9, kk10, kk11, kk12, kk13, kk14, kk15, kk16, kn0, kn1, kn2, kn3, kn4, kn5, kn6, eq_self_iff_true, implies_true, forall_const, Int.cast_ofNat_Int, Nat.reduceEqDiff, Nat.reduceAdd, Nat.reduceSub, Nat.reduceMul, Nat.reduceLT, Nat.reduceLeDiff, Int.reduceEq, Int.reduceLT, Int.reduceLE, Int.reduceAdd, Int.reduceSub, Int.reduceMul, Int.reduceToNat, Int.reduceNeg, ↓reduceIte, reduceCtorEq, L_schema_read, L_schema_get, v_schema_Fits, v_schema_fields, v_num_Get, v_slices_Index_int_int, v_slices_Clone_int_int, v_slices_Delete_int_int, v_schema_pass, v_codec_GetOp, v_num_GetSigned, v_schema_get, i_schema_get, Ow.enc, S_api_Op.enc, S_api_Record.enc, Sl.enc, rr_schema_read, ro_schema_read, b0_schema_read, *]
                              · rw [if_neg h19] at h; replace h19 := eq_false h19
                                try simp only [kn0, kn1, kn2, kn3, kn4, kn5, kn6, eq_self_iff_true, implies_true, forall_const, Int.cast_ofNat_Int, Nat.reduceEqDiff, Nat.reduceAdd, Nat.reduceSub, Nat.reduceMul, Nat.reduceLT, Nat.reduceLeDiff, Int.reduceEq, Int.reduceLT, Int.reduceLE, Int.reduceAdd, Int.reduceSub, Int.reduceMul, Int.reduceToNat, Int.reduceNeg, ↓reduceIte, reduceCtorEq] at h19
                                cases h
                            · rw [if_neg h18] at h; replace h18 := eq_false h18
                              cases h
                      · rw [if_neg h15] at h; replace h15 := eq_false h15
                        rcases Classical.em (r3.1 = 3) with h20 | h20
                        · rw [if_pos h20] at h; replace h20 := eq_true h20
                          rcases h21 : num_Get q ⟨v1z, (List.drop r3.2.toNat v1l)⟩ with _ | r8
                          · rw [h21] at h; cases h
                          · rw [h21, Option.bind_some] at h
                            replace h21 := run_num_Get q (M + 6) (by omega) _ _ h21
                            try simp only [Ow.enc, Sl.enc, kn0, kn1, kn2, kn3, kn4, kn5, kn6, eq_self_iff_true, implies_true, forall_const, Int.cast_ofNat_Int, Nat.reduceEqDiff, Nat.reduceAdd, Nat.reduceSub, Nat.reduceMul, Nat.reduceLT, Nat.reduceLeDiff, Int.reduceEq, Int.reduceLT, Int.reduceLE, Int.reduceAdd, Int.reduceSub, Int.reduceMul, Int.reduceToNat, Int.reduceNeg, ↓reduceIte, reduceCtorEq] at h21
                            rcases Classical.em (r8.2 = 0) with h22 | h22
                            · rw [if_pos h22] at h; replace h22 := eq_true h22
                              cases h; subst hR; simp (maxDischargeDepth := 12) only [kk0, kk1, kk2, kk3, kk4, kk5, kk6, kk7, kk8, kk9, kk10, kk11, kk12, kk13, kk14, kk15, kk16, kn0, kn1, kn2, kn3, kn4, kn5, kn6, eq_self_iff_true, implies_true, forall_const, Int.cast_ofNat_Int, Nat.reduceEqDiff, Nat.reduceAdd, Nat.reduceSub, Nat.reduceMul, Nat.reduceLT, Nat.reduceLeDiff, Int.reduceEq, Int.reduceLT, Int.reduceLE, Int.reduceAdd, Int.reduceSub, Int.reduceMul, Int.reduceToNat, Int.reduceNeg, ↓reduceIte, reduceCtorEq, L_schema_read, L_schema_get, v_schema_Fits, v_schema_fields, v_num_Get, v_slices_Index_int_int, v_slices_Clone_int_int, v_slices_Delete_int_int, v_schema_pass, v_codec_GetOp, v_num_GetSigned, v_schema_get, i_schema_get, Ow.enc, S_api_Op.enc, S_api_Record.enc, Sl.enc, rr_schema_read, ro_schema_read, b0_schema_read, *]
                            · rw [if_neg h22] at h; replace h22 := eq_false h22
                              rcases Classical.em (0 ≤ r8.2) with h23 | h23
                              · rw [if_pos h23] at h; replace h23 := eq_true h23
                                rcases Classical.em (r8.2 ≤ (((v1l.length - r3.2.toNat) : Nat) : Int)) with h24 | h24
                                · rw [if_pos h24] at h; replace h24 := eq_true h24
                                  try simp only [kn0, kn1, kn2, kn3, kn4, kn5, kn6, eq_self_iff_true, implies_true, forall_const, Int.cast_ofNat_Int, Nat.reduceEqDiff, Nat.reduceAdd, Nat.reduceSub, Nat.reduceMul, Nat.reduceLT, Nat.reduceLeDiff, Int.reduceEq, Int.reduceLT, Int.reduceLE, Int.reduceAdd, Int.reduceSub, Int.reduceMul, Int.reduceToNat, Int.reduceNeg, ↓reduceIte, reduceCtorEq] at h24
                                  replace h := ih_schema_read_l0 M (by omega) j (by omega) _ _ _ _ _ _ _ _ _ _ _ _ _ _ _ h R hR
                                  simp (maxDischargeDepth := 12) only [kk0, kk1, kk2, kk3, kk4, kk5, kk6, kk7, kk8, kk9, kk10, kk11, kk12, kk13, kk14, kk15, kk16, kn0, kn1, kn2, kn3, kn4, kn5, kn6, eq_self_iff_true, implies_true, forall_const, Int.cast_ofNat_Int, Nat.reduceEqDiff, Nat.reduceAdd, Nat.reduceSub, Nat.reduceMul, Nat.reduceLT, Nat.reduceLeDiff, Int.reduceEq, Int.reduceLT, Int.reduceLE, Int.reduceAdd, Int.reduceSub, Int.reduceMul, Int.reduceToNat, Int.reduceNeg, ↓reduceIte, reduceCtorEq, L_schema_read, L_schema_get, v_schema_Fits, v_schema_fields, v_num_Get, v_slices_Index_int_int, v_slices_Clone_int_int, v_slices_Delete_int_int, v_schema_pass, v_codec_GetOp, v_num_GetSigned, v_schema_get, i_schema_get, Ow.enc, S_api_Op.enc, S_api_Record.enc, Sl.enc, rr_schema_read, ro_schema_read, b0_schema_read, *]
                                · rw [if_neg h24] at h; replace h24 := eq_false h24
                                  try simp only [kn0, kn1, kn2, kn3, kn4, kn5, kn6, eq_self_iff_true, implies_true, forall_const, Int.cast_ofNat_Int, Nat.reduceEqDiff, Nat.reduceAdd, Nat.reduceSub, Nat.reduceMul, Nat.reduceLT, Nat.reduceLeDiff, Int.reduceEq, Int.reduceLT, Int.reduceLE, Int.reduceAdd, Int.reduceSub, Int.reduceMul, Int.reduceToNat, Int.reduceNeg, ↓reduceIte, reduceCtorEq] at h24
                                  cases h
                              · rw [if_neg h23] at h; replace h23 := eq_false h23
                                cases h
                        · rw [if_neg h20] at h; replace h20 := eq_false h20
                          rcases Classical.em (r3.1 = 4) with h25 | h25
                          · rw [if_pos h25] at h; replace h25 := eq_true h25
                            rcases h26 : codec_GetOp q ⟨v1z, (List.drop r3.2.toNat v1l)⟩ with _ | r9
                            · rw [h26] at h; cases h
                            · rw [h26, Option.bind_some] at h
                              replace h26 := run_codec_GetOp q (M + 6) (by omega) _ _ h26
                              try simp only [Ow.enc, S_api_Op.enc, Sl.enc, kn0, kn1, kn2, kn3, kn4, kn5, kn6, eq_self_iff_true, implies_true, forall_const, Int.cast_ofNat_Int, Nat.reduceEqDiff, Nat.reduceAdd, Nat.reduceSub, Nat.reduceMul, Nat.reduceLT, Nat.reduceLeDiff, Int.reduceEq, Int.reduceLT, Int.reduceLE, Int.reduceAdd, Int.reduceSub, Int.reduceMul, Int.reduceToNat, Int.reduceNeg, ↓reduceIte, reduceCtorEq] at h26
                              rcases Classical.em (r9.2 = 0) with h27 | h27
                              · rw [if_pos h27] at h; replace h27 := eq_true h27
                                cases h; subst hR; simp (maxDischargeDepth := 12) only [kk0, kk1, kk2, kk3, kk4, kk5, kk6, kk7, kk8, kk9, kk10, kk11, kk12, kk13, kk14, kk15, kk16, kn0, kn1, kn2, kn3, kn4, kn5, kn6, eq_self_iff_true, implies_true, forall_const, Int.cast_ofNat_Int, Nat.reduceEqDiff, Nat.reduceAdd, Nat.reduceSub, Nat.reduceMul, Nat.reduceLT, Nat.reduceLeDiff, Int.reduceEq, Int.reduceLT, Int.reduceLE, Int.reduceAdd, Int.reduceSub, Int.reduceMul, Int.reduceToNat, Int.reduceNeg, ↓reduceIte, reduceCtorEq, L_schema_read, L_schema_get, v_schema_Fits, v_schema_fields, v_num_Get, v_slices_Index_int_int, v_slices_Clone_int_int, v_slices_Delete_int_int, v_schema_pass, v_codec_GetOp, v_num_GetSigned, v_schema_get, i_schema_get, Ow.enc, S_api_Op.enc, S_api_Record.enc, Sl.enc, rr_schema_read, ro_schema_read, b0_schema_read, *]
                              · rw [if_neg h27] at h; replace h27 := eq_false h27
                                rcases Classical.em (0 ≤ r9.2) with h28 | h28
                                · rw [if_pos h28] at h; replace h28 := eq_true h28
                                  rcases Classical.em (r9.2 ≤ (((v1l.length - r3.2.toNat) : Nat) : Int)) with h29 | h29
                                  · rw [if_pos h29] at h; replace h29 := eq_true h29
                                    try simp only [kn0, kn1, kn2, kn3, kn4, kn5, kn6, eq_self_iff_true, implies_true, forall_const, Int.cast_ofNat_Int, Nat.reduceEqDiff, Nat.reduceAdd, Nat.reduceSub, Nat.reduceMul, Nat.reduceLT, Nat.reduceLeDiff, Int.reduceEq, Int.reduceLT, Int.reduceLE, Int.reduceAdd, Int.reduceSub, Int.reduceMul, Int.reduceToNat, Int.reduceNeg, ↓reduceIte, reduceCtorEq] at h29
                                    replace h := ih_schema_read_l0 M (by omega) j (by omega) _ _ _ _ _ _ _ _ _ _ _ _ _ _ _ h R hR
                                    simp (maxDischargeDepth := 12) only [kk0, kk1, kk2, kk3, kk4, kk5, kk6, kk7, kk8, kk9, kk10, kk11, kk12, kk13, kk14, kk15, kk16, kn0, kn1, kn2, kn3, kn4, kn5, kn6, eq_self_iff_true, implies_true, forall_const, Int.cast_ofNat_Int, Nat.reduceEqDiff, Nat.reduceAdd, Nat.reduceSub, Nat.reduceMul, Nat.reduceLT, Nat.reduceLeDiff, Int.reduceEq, Int.reduceLT, Int.reduceLE, Int.reduceAdd, Int.reduceSub, Int.reduceMul, Int.reduceToNat, Int.reduceNeg, ↓reduceIte, reduceCtorEq, L_schema_read, L_schema_get, v_schema_Fits, v_schema_fields, v_num_Get, v_slices_Index_int_int, v_slices_Clone_int_int, v_slices_Delete_int_int, v_schema_pass, v_codec_GetOp, v_num_GetSigned, v_schema_get, i_schema_get, Ow.enc, S_api_Op.enc, S_api_Record.enc, Sl.enc, rr_schema_read, ro_schema_read, b0_schema_read, *]
                                  · rw [if_neg h29] at h; replace h29 := eq_false h29
                                    try simp only [kn0, kn1, kn2, kn3, kn4, kn5, kn6, eq_self_iff_true, implies_true, forall_const, Int.cast_ofNat_Int, Nat.reduceEqDiff, Nat.reduceAdd, Nat.reduceSub, Nat.reduceMul, Nat.reduceLT, Nat.reduceLeDiff, Int.reduceEq, Int.reduceLT, Int.reduceLE, Int.reduceAdd, Int.reduceSub, Int.reduceMul, Int.reduceToNat, Int.reduceNeg, ↓reduceIte, reduceCtorEq] at h29
                                    cases h
                                · rw [if_neg h28] at h; replace h28 := eq_false h28
                                  cases h
                          · rw [if_neg h25] at h; replace h25 := eq_false h25
                            rcases Classical.em (r3.1 = 5) with h30 | h30
                            · rw [if_pos h30] at h; replace h30 := eq_true h30
                              rcases h31 : num_GetSigned q ⟨v1z, (List.drop r3.2.toNat v1l)⟩ with _ | r10
                              · rw [h31] at h; cases h
                              · rw [h31, Option.bind_some] at h
                                replace h31 := run_num_GetSigned q (M + 6) (by omega) _ _ h31
                                try simp only [Ow.enc, Sl.enc, kn0, kn1, kn2, kn3, kn4, kn5, kn6, eq_self_iff_true, implies_true, forall_const, Int.cast_ofNat_Int, Nat.reduceEqDiff, Nat.reduceAdd, Nat.reduceSub, Nat.reduceMul, Nat.reduceLT, Nat.reduceLeDiff, Int.reduceEq, Int.reduceLT, Int.reduceLE, Int.reduceAdd, Int.reduceSub, Int.reduceMul, Int.reduceToNat, Int.reduceNeg, ↓reduceIte, reduceCtorEq] at h31
                                rcases Classical.em (r10.2 = 0) with h32 | h32
                                · rw [if_pos h32] at h; replace h32 := eq_true h32
                                  cases h; subst hR; simp (maxDischargeDepth := 12) only [kk0, kk1, kk2, kk3, kk4, kk5, kk6, kk7, kk8, kk9, kk10, kk11, kk12, kk13, kk14, kk15, kk16, kn0, kn1, kn2, kn3, kn4, kn5, kn6, eq_self_iff_true, implies_true, forall_const, Int.cast_ofNat_Int, Nat.reduceEqDiff, Nat.reduceAdd, Nat.reduceSub, Nat.reduceMul, Nat.reduceLT, Nat.reduceLeDiff, Int.reduceEq, Int.reduceLT, Int.reduceLE, Int.reduceAdd, Int.reduceSub, Int.reduceMul, Int.reduceToNat, Int.reduceNeg, ↓reduceIte, reduceCtorEq, L_schema_read, L_schema_get, v_schema_Fits, v_schema_fields, v_num_Get, v_slices_Index_int_int, v_slices_Clone_int_int, v_slices_Delete_int_int, v_schema_pass, v_codec_GetOp, v_num_GetSigned, v_schema_get, i_schema_get, Ow.enc, S_api_Op.enc, S_api_Record.enc, Sl.enc, rr_schema_read, ro_schema_read, b0_schema_read, *]
                                · rw [if_neg h32] at h; replace h32 := eq_false h32
                                  rcases Classical.em (0 ≤ r10.2) with h33 | h33
                                  · rw [if_pos h33] at h; replace h33 := eq_true h33
                                    rcases Classical.em (r10.2 ≤ (((v1l.length - r3.2.toNat) : Nat) : Int)) with h34 | h34
                                    · rw [if_pos h34] at h; replace h34 := eq_true h34
                                      try simp only [kn0, kn1, kn2, kn3, kn4, kn5, kn6, eq_self_iff_true, implies_true, forall_const, Int.cast_ofNat_Int, Nat.reduceEqDiff, Nat.reduceAdd, Nat.reduceSub, Nat.reduceMul, Nat.reduceLT, Nat.reduceLeDiff, Int.reduceEq, Int.reduceLT, Int.reduceLE, Int.reduceAdd, Int.reduceSub, Int.reduceMul, Int.reduceToNat, Int.reduceNeg, ↓reduceIte, reduceCtorEq] at h34
                                      replace h := ih_schema_read_l0 M (by omega) j (by omega) _ _ _ _ _ _ _ _ _ _ _ _ _ _ _ h R hR
                                      simp (maxDischargeDepth := 12) only [kk0, kk1, kk2, kk3, kk4, kk5, kk6, kk7, kk8, kk9, kk10, kk11, kk12, kk13, kk14, kk15, kk16, kn0, kn1, kn2, kn3, kn4, kn5, kn6, eq_self_iff_true, implies_true, forall_const, Int.cast_ofNat_Int, Nat.reduceEqDiff, Nat.reduceAdd, Nat.reduceSub, Nat.reduceMul, Nat.reduceLT, Nat.reduceLeDiff, Int.reduceEq, Int.reduceLT, Int.reduceLE, Int.reduceAdd, Int.reduceSub, Int.reduceMul, Int.reduceToNat, Int.reduceNeg, ↓reduceIte, reduceCtorEq, L_schema_read, L_schema_get, v_schema_Fits, v_schema_fields, v_num_Get, v_slices_Index_int_int, v_slices_Clone_int_int, v_slices_Delete_int_int, v_schema_pass, v_codec_GetOp, v_num_GetSigned, v_schema_get, i_schema_get, Ow.enc, S_api_Op.enc, S_api_Record.enc, Sl.enc, rr_schema_read, ro_schema_read, b0_schema_read, *]
                                    · rw [if_neg h34] at h; replace h34 := eq_false h34
                                      try simp only [kn0, kn1, kn2, kn3, kn4, kn5, kn6, eq_self_iff_true, implies_true, forall_const, Int.cast_ofNat_Int, Nat.reduceEqDiff, Nat.reduceAdd, Nat.reduceSub, Nat.reduceMul, Nat.reduceLT, Nat.reduceLeDiff, Int.reduceEq, Int.reduceLT, Int.reduceLE, Int.reduceAdd, Int.reduceSub, Int.reduceMul, Int.reduceToNat, Int.reduceNeg, ↓reduceIte, reduceCtorEq] at h34
                                      cases h
                                  · rw [if_neg h33] at h; replace h33 := eq_false h33
                                    cases h
                            · rw [if_neg h30] at h; replace h30 := eq_false h30
                              cases h; subst hR; simp (maxDischargeDepth := 12) only [kk0, kk1, kk2, kk3, kk4, kk5, kk6, kk7, kk8, kk9, kk10, kk11, kk12, kk13, kk14, kk15, kk16, kn0, kn1, kn2, kn3, kn4, kn5, kn6, eq_self_iff_true, implies_true, forall_const, Int.cast_ofNat_Int, Nat.reduceEqDiff, Nat.reduceAdd, Nat.reduceSub, Nat.reduceMul, Nat.reduceLT, Nat.reduceLeDiff, Int.reduceEq, Int.reduceLT, Int.reduceLE, Int.reduceAdd, Int.reduceSub, Int.reduceMul, Int.reduceToNat, Int.reduceNeg, ↓reduceIte, reduceCtorEq, L_schema_read, L_schema_get, v_schema_Fits, v_schema_fields, v_num_Get, v_slices_Index_int_int, v_slices_Clone_int_int, v_slices_Delete_int_int, v_schema_pass, v_codec_GetOp, v_num_GetSigned, v_schema_get, i_schema_get, Ow.enc, S_api_Op.enc, S_api_Record.enc, Sl.enc, rr_schema_read, ro_schema_read, b0_schema_read, *]
                · rw [if_neg h8] at h; replace h8 := eq_false h8
                  rcases Classical.em (r3.1 < 16) with h35 | h35
                  · rw [if_pos h35] at h; replace h35 := eq_true h35
                    cases h; subst hR; simp (maxDischargeDepth := 12) only [kk0, kk1, kk2, kk3, kk4, kk5, kk6, kk7, kk8, kk9, kk10, kk11, kk12, kk13, kk14, kk15, kk16, kn0, kn1, kn2, kn3, kn4, kn5, kn6, eq_self_iff_true, implies_true, forall_const, Int.cast_ofNat_Int, Nat.reduceEqDiff, Nat.reduceAdd, Nat.reduceSub, Nat.reduceMul, Nat.reduceLT, Nat.reduceLeDiff, Int.reduceEq, Int.reduceLT, Int.reduceLE, Int.reduceAdd, Int.reduceSub, Int.reduceMul, Int.reduceToNat, Int.reduceNeg, ↓reduceIte, reduceCtorEq, L_schema_read, L_schema_get, v_schema_Fits, v_schema_fields, v_num_Get, v_slices_Index_int_int, v_slices_Clone_int_int, v_slices_Delete_int_int, v_schema_pass, v_codec_GetOp, v_num_GetSigned, v_schema_get, i_schema_get, Ow.enc, S_api_Op.enc, S_api_Record.enc, Sl.enc, rr_schema_read, ro_schema_read, b0_schema_read, *]
                  · rw [if_neg h35] at h; replace h35 := eq_false h35
                    rcases Classical.em (v0 = 3) with h36 | h36
                    · rw [if_pos h36] at h; replace h36 := eq_true h36
                      cases h; subst hR; simp (maxDischargeDepth := 12) only [kk0, kk1, kk2, kk3, kk4, kk5, kk6, kk7, kk8, kk9, kk10, kk11, kk12, kk13, kk14, kk15, kk16, kn0, kn1, kn2, kn3, kn4, kn5, kn6, eq_self_iff_true, implies_true, forall_const, Int.cast_ofNat_Int, Nat.reduceEqDiff, Nat.reduceAdd, Nat.reduceSub, Nat.reduceMul, Nat.reduceLT, Nat.reduceLeDiff, Int.reduceEq, Int.reduceLT, Int.reduceLE, Int.reduceAdd, Int.reduceSub, Int.reduceMul, Int.reduceToNat, Int.reduceNeg, ↓reduceIte, reduceCtorEq, L_schema_read, L_schema_get, v_schema_Fits, v_schema_fields, v_num_Get, v_slices_Index_int_int, v_slices_Clone_int_int, v_slices_Delete_int_int, v_schema_pass, v_codec_GetOp, v_num_GetSigned, v_schema_get, i_schema_get, Ow.enc, S_api_Op.enc, S_api_Record.enc, Sl.enc, rr_schema_read, ro_schema_read, b0_schema_read, *]
                    · rw [if_neg h36] at h; replace h36 := eq_false h36
                      rcases h37 : schema_pass q ⟨v1z, (List.drop r3.2.toNat v1l)⟩ with _ | r11
                      · rw [h37] at h; cases h
                      · rw [h37, Option.bind_some] at h
                        replace h37 := run_schema_pass q (M + 7) (by omega) _ _ h37
                        try simp only [Ow.enc, Sl.enc, kn0, kn1, kn2, kn3, kn4, kn5, kn6, eq_self_iff_true, implies_true, forall_const, Int.cast_ofNat_Int, Nat.reduceEqDiff, Nat.reduceAdd, Nat.reduceSub, Nat.reduceMul, Nat.reduceLT, Nat.reduceLeDiff, Int.reduceEq, Int.reduceLT, Int.reduceLE, Int.reduceAdd, Int.reduceSub, Int.reduceMul, Int.reduceToNat, Int.reduceNeg, ↓reduceIte, reduceCtorEq] at h37
                        rcases Classical.em (r11 = 0) with h38 | h38
                        · rw [if_pos h38] at h; replace h38 := eq_true h38
                          cases h; subst hR; simp (maxDischargeDepth := 12) only [kk0, kk1, kk2, kk3, kk4, kk5, kk6, kk7, kk8, kk9, kk10, kk11, kk12, kk13, kk14, kk15, kk16, kn0, kn1, kn2, kn3, kn4, kn5, kn6, eq_self_iff_true, implies_true, forall_const, Int.cast_ofNat_Int, Nat.reduceEqDiff, Nat.reduceAdd, Nat.reduceSub, Nat.reduceMul, Nat.reduceLT, Nat.reduceLeDiff, Int.reduceEq, Int.reduceLT, Int.reduceLE, Int.reduceAdd, Int.reduceSub, Int.reduceMul, Int.reduceToNat, Int.reduceNeg, ↓reduceIte, reduceCtorEq, L_schema_read, L_schema_get, v_schema_Fits, v_schema_fields, v_num_Get, v_slices_Index_int_int, v_slices_Clone_int_int, v_slices_Delete_int_int, v_schema_pass, v_codec_GetOp, v_num_GetSigned, v_schema_get, i_schema_get, Ow.enc, S_api_Op.enc, S_api_Record.enc, Sl.enc, rr_schema_read, ro_schema_read, b0_schema_read, *]
                        · rw [if_neg h38] at h; replace h38 := eq_false h38
                          rcases Classical.em (0 ≤ r11) with h39 | h39
                          · rw [if_pos h39] at h; replace h39 := eq_true h39
                            rcases Classical.em (r11 ≤ (((v1l.length - r3.2.toNat) : Nat) : Int)) with h40 | h40
                            · rw [if_pos h40] at h; replace h40 := eq_true h40
                              try simp only [kn0, kn1, kn2, kn3, kn4, kn5, kn6, eq_self_iff_true, implies_true, forall_const, Int.cast_ofNat_Int, Nat.reduceEqDiff, Nat.reduceAdd, Nat.reduceSub, Nat.reduceMul, Nat.reduceLT, Nat.reduceLeDiff, Int.reduceEq, Int.reduceLT, Int.reduceLE, Int.reduceAdd, Int.reduceSub, Int.reduceMul, Int.reduceToNat, Int.reduceNeg, ↓reduceIte, reduceCtorEq] at h40
                              replace h := ih_schema_read_l0 M (by omega) j (by omega) _ _ _ _ _ _ _ _ _ _ _ _ _ _ _ h R hR
                              simp (maxDischargeDepth := 12) only [kk0, kk1, kk2, kk3, kk4, kk5, kk6, kk7, kk8, kk9, kk10, kk11, kk12, kk13, kk14, kk15, kk16, kn0, kn1, kn2, kn3, kn4, kn5, kn6, eq_self_iff_true, implies_true, forall_const, Int.cast_ofNat_Int, Nat.reduceEqDiff, Nat.reduceAdd, Nat.reduceSub, Nat.reduceMul, Nat.reduceLT, Nat.reduceLeDiff, Int.reduceEq, Int.reduceLT, Int.reduceLE, Int.reduceAdd, Int.reduceSub, Int.reduceMul, Int.reduceToNat, Int.reduceNeg, ↓reduceIte, reduceCtorEq, L_schema_read, L_schema_get, v_schema_Fits, v_schema_fields, v_num_Get, v_slices_Index_int_int, v_slices_Clone_int_int, v_slices_Delete_int_int, v_schema_pass, v_codec_GetOp, v_num_GetSigned, v_schema_get, i_schema_get, Ow.enc, S_api_Op.enc, S_api_Record.enc, Sl.enc, rr_schema_read, ro_schema_read, b0_schema_read, *]
                            · rw [if_neg h40] at h; replace h40 := eq_false h40
                              try simp only [kn0, kn1, kn2, kn3, kn4, kn5, kn6, eq_self_iff_true, implies_true, forall_const, Int.cast_ofNat_Int, Nat.reduceEqDiff, Nat.reduceAdd, Nat.reduceSub, Nat.reduceMul, Nat.reduceLT, Nat.reduceLeDiff, Int.reduceEq, Int.reduceLT, Int.reduceLE, Int.reduceAdd, Int.reduceSub, Int.reduceMul, Int.reduceToNat, Int.reduceNeg, ↓reduceIte, reduceCtorEq] at h40
                              cases h
                          · rw [if_neg h39] at h; replace h39 := eq_false h39
                            cases h
            · rw [if_neg h6] at h; replace h6 := eq_false h6
              cases h
          · rw [if_neg h5] at h; replace h5 := eq_false h5
            cases h
  · rw [if_neg h1] at h; replace h1 := eq_false h1
    rcases Classical.em (0 < (h1l.length : Int)) with h41 | h41
    · rw [if_pos h41] at h; replace h41 := eq_true h41
      cases h; subst hR; simp (maxDischargeDepth := 12) only [kk0, kk1, kk2, kk3, kk4, kk5, kk6, kk7, kk8, kk9, kk10, kk11, kk12, kk13, kk14, kk15, kk16, kn0, kn1, kn2, kn3, kn4, kn5, kn6, eq_self_iff_true, implies_true, forall_const, Int.cast_ofNat_Int, Nat.reduceEqDiff, Nat.reduceAdd, Nat.reduceSub, Nat.reduceMul, Nat.reduceLT, Nat.reduceLeDiff, Int.reduceEq, Int.reduceLT, Int.reduceLE, Int.reduceAdd, Int.reduceSub, Int.reduceMul, Int.reduceToNat, Int.reduceNeg, ↓reduceIte, reduceCtorEq, L_schema_read, L_schema_get, v_schema_Fits, v_schema_fields, v_num_Get, v_slices_Index_int_int, v_slices_Clone_int_int, v_slices_Delete_int_int, v_schema_pass, v_codec_GetOp, v_num_GetSigned, v_schema_get, i_schema_get, Ow.enc, S_api_Op.enc, S_api_Record.enc, Sl.enc, rr_schema_read, ro_schema_read, b0_schema_read, *]
    · rw [if_neg h41] at h; replace h41 := eq_false h41
      rcases h42 : schema_Fits q (⟨h0_0, h0_1, h0_2, (⟨h0_3, h0_4, h0_5⟩ : S_api_Op), h0_6⟩ : S_api_Record) with _ | r12
      · rw [h42] at h; cases h
      · rw [h42, Option.bind_some] at h
        replace h42 := run_schema_Fits q (M + 7) (by omega) _ _ h42
        try simp only [Ow.enc, S_api_Op.enc, S_api_Record.enc, kn0, kn1, kn2, kn3, kn4, kn5, kn6, eq_self_iff_true, implies_true, forall_const, Int.cast_ofNat_Int, Nat.reduceEqDiff, Nat.reduceAdd, Nat.reduceSub, Nat.reduceMul, Nat.reduceLT, Nat.reduceLeDiff, Int.reduceEq, Int.reduceLT, Int.reduceLE, Int.reduceAdd, Int.reduceSub, Int.reduceMul, Int.reduceToNat, Int.reduceNeg, ↓reduceIte, reduceCtorEq] at h42
        rcases Classical.em (r12 = true) with h43 | h43
        · rw [if_pos h43] at h; have h43' := bt1 h43; replace h43 := eq_true h43
          cases h; subst hR; simp (maxDischargeDepth := 12) only [kk0, kk1, kk2, kk3, kk4, kk5, kk6, kk7, kk8, kk9, kk10, kk11, kk12, kk13, kk14, kk15, kk16, kn0, kn1, kn2, kn3, kn4, kn5, kn6, eq_self_iff_true, implies_true, forall_const, Int.cast_ofNat_Int, Nat.reduceEqDiff, Nat.reduceAdd, Nat.reduceSub, Nat.reduceMul, Nat.reduceLT, Nat.reduceLeDiff, Int.reduceEq, Int.reduceLT, Int.reduceLE, Int.reduceAdd, Int.reduceSub, Int.reduceMul, Int.reduceToNat, Int.reduceNeg, ↓reduceIte, reduceCtorEq, L_schema_read, L_schema_get, v_schema_Fits, v_schema_fields, v_num_Get, v_slices_Index_int_int, v_slices_Clone_int_int, v_slices_Delete_int_int, v_schema_pass, v_codec_GetOp, v_num_GetSigned, v_schema_get, i_schema_get, Ow.enc, S_api_Op.enc, S_api_Record.enc, Sl.enc, rr_schema_read, ro_schema_read, b0_schema_read, *]
        · rw [if_neg h43] at h; have h43' := bt0 h43; replace h43 := eq_false h43
          cases h; subst hR; simp (maxDischargeDepth := 12) only [kk0, kk1, kk2, kk3, kk4, kk5, kk6, kk7, kk8, kk9, kk10, kk11, kk12, kk13, kk14, kk15, kk16, kn0, kn1, kn2, kn3, kn4, kn5, kn6, eq_self_iff_true, implies_true, forall_const, Int.cast_ofNat_Int, Nat.reduceEqDiff, Nat.reduceAdd, Nat.reduceSub, Nat.reduceMul, Nat.reduceLT, Nat.reduceLeDiff, Int.reduceEq, Int.reduceLT, Int.reduceLE, Int.reduceAdd, Int.reduceSub, Int.reduceMul, Int.reduceToNat, Int.reduceNeg, ↓reduceIte, reduceCtorEq, L_schema_read, L_schema_get, v_schema_Fits, v_schema_fields, v_num_Get, v_slices_Index_int_int, v_slices_Clone_int_int, v_slices_Delete_int_int, v_schema_pass, v_codec_GetOp, v_num_GetSigned, v_schema_get, i_schema_get, Ow.enc, S_api_Op.enc, S_api_Record.enc, Sl.enc, rr_schema_read, ro_schema_read, b0_schema_read, *]
theorem all_schema_read : ∀ q, St_schema_read_l0 q
  | 0 => by intro M hM j hj; intros; rename_i h _ _ _ _ _; cases h
  | q + 1 => by have i0 := all_schema_read q; exact step_schema_read_l0 q i0
theorem run_schema_read : ∀ (q N : Nat), 8 * q ≤ N → ∀ (a0 : Int) (a1 : (Sl Int)), ∀ (r : S_api_Record × Int), schema_read q a0 a1 = some r → (orc T N).deep F.schema_read [(V.int .i64) a0, (Sl.enc (V.int .u8)) a1] = some [S_api_Record.enc r.1, (V.int .i64) r.2] := by
  intro q N hM a0 a1 r h
  rcases q with _ | q
  · cases h
  obtain ⟨M, rfl⟩ : ∃ M, N = M + 8 := ⟨N - 8, by omega⟩
  have ih_schema_read_l0 := (all_schema_read q)
  generalize hR : some [S_api_Record.enc r.1, (V.int .i64) r.2] = R
  rw [orc_deep, T_schema_read, Option.bind_some, runDeep_eq]
  rw [schema_read] at h
  rcases h1 : schema_fields q a0 with _ | r1
  · rw [h1] at h; cases h
  · rw [h1, Option.bind_some] at h
    replace h1 := run_schema_fields q (M + 7) (by omega) _ _ h1
    try simp only [Ow.enc, kn0, kn1, kn2, kn3, kn4, kn5, kn6, eq_self_iff_true, implies_true, forall_const, Int.cast_ofNat_Int, Nat.reduceEqDiff, Nat.reduceAdd, Nat.reduceSub, Nat.reduceMul, Nat.reduceLT, Nat.reduceLeDiff, Int.reduceEq, Int.reduceLT, Int.reduceLE, Int.reduceAdd, Int.reduceSub, Int.reduceMul, Int.reduceToNat, Int.reduceNeg, ↓reduceIte, reduceCtorEq] at h1
    rcases h2 : slices_Clone_int_int q ⟨r1.n, r1.xs⟩ with _ | r2
    · rw [h2] at h; cases h
    · rw [h2, Option.bind_some] at h
      replace h2 := run_slices_Clone_int_int q (M + 7) (by omega) _ _ h2
      try simp only [Ow.enc, Sl.enc, kn0, kn1, kn2, kn3, kn4, kn5, kn6, eq_self_iff_true, implies_true, forall_const, Int.cast_ofNat_Int, Nat.reduceEqDiff, Nat.reduceAdd, Nat.reduceSub, Nat.reduceMul, Nat.reduceLT, Nat.reduceLeDiff, Int.reduceEq, Int.reduceLT, Int.reduceLE, Int.reduceAdd, Int.reduceSub, Int.reduceMul, Int.reduceToNat, Int.reduceNeg, ↓reduceIte, reduceCtorEq] at h2
      replace h := ih_schema_read_l0 M (by omega) (M + 7) (by omega) _ _ _ _ _ _ _ _ _ _ _ _ _ _ _ h R hR
      simp (maxDischargeDepth := 12) only [kk0, kk1, kk2, kk3, kk4, kk5, kk6, kk7, kk8, kk9, kk10, kk11, kk12, kk13, kk14, kk15, kk16, kn0, kn1, kn2, kn3, kn4, kn5, kn6, eq_self_iff_true, implies_true, forall_const, Int.cast_ofNat_Int, Nat.reduceEqDiff, Nat.reduceAdd, Nat.reduceSub, Nat.reduceMul, Nat.reduceLT, Nat.reduceLeDiff, Int.reduceEq, Int.reduceLT, Int.reduceLE, Int.reduceAdd, Int.reduceSub, Int.reduceMul, Int.reduceToNat, Int.reduceNeg, ↓reduceIte, reduceCtorEq, L_schema_read, L_schema_get, v_schema_Fits, v_schema_fields, v_num_Get, v_slices_Index_int_int, v_slices_Clone_int_int, v_slices_Delete_int_int, v_schema_pass, v_codec_GetOp, v_num_GetSigned, v_schema_get, i_schema_get, Ow.enc, S_api_Op.enc, S_api_Record.enc, Sl.enc, rr_schema_read, ro_schema_read, b0_schema_read, *]
theorem run_schema_Decode : ∀ (q N : Nat), 8 * q ≤ N → ∀ (a0 : (Sl Int)), ∀ (r : S_api_Record × Int), schema_Decode q a0 = some r → (orc T N).deep F.schema_Decode [(Sl.enc (V.int .u8)) a0] = some [S_api_Record.enc r.1, (V.int .i64) r.2] := by
  intro q N hM a0 r h
  rcases q with _ | q
  · cases h
  obtain ⟨M, rfl⟩ : ∃ M, N = M + 8 := ⟨N - 8, by omega⟩
  generalize hR : some [S_api_Record.enc r.1, (V.int .i64) r.2] = R
  rw [orc_deep, T_schema_Decode, Option.bind_some, runDeep_eq]
  rw [schema_Decode] at h
  rcases Classical.em ((a0.l.length : Int) = 0) with h1 | h1
  · rw [if_pos h1] at h; replace h1 := eq_true h1
    cases h; subst hR; simp (maxDischargeDepth := 12) only [kk0, kk1, kk2, kk3, kk4, kk5, kk6, kk7, kk8, kk9, kk10, kk11, kk12, kk13, kk14, kk15, kk16, kn0, kn1, kn2, kn3, kn4, kn5, kn6, eq_self_iff_true, implies_true, forall_const, Int.cast_ofNat_Int, Nat.reduceEqDiff, Nat.reduceAdd, Nat.reduceSub, Nat.reduceMul, Nat.reduceLT, Nat.reduceLeDiff, Int.reduceEq, Int.reduceLT, Int.reduceLE, Int.reduceAdd, Int.reduceSub, Int.reduceMul, Int.reduceToNat, Int.reduceNeg, ↓reduceIte, reduceCtorEq, L_schema_Decode, v_schema_fields, v_num_Get, v_schema_read, Ow.enc, S_api_Op.enc, S_api_Record.enc, Sl.enc, rr_schema_Decode, ro_schema_Decode, b0_schema_Decode, *]
  · rw [if_neg h1] at h; replace h1 := eq_false h1
    rcases h2 : num_Get q a0 with _ | r1
    · rw [h2] at h; cases h
    · rw [h2, Option.bind_some] at h
      replace h2 := run_num_Get q (M + 7) (by omega) _ _ h2
      try simp only [Ow.enc, Sl.enc, kn0, kn1, kn2, kn3, kn4, kn5, kn6, eq_self_iff_true, implies_true, forall_const, Int.cast_ofNat_Int, Nat.reduceEqDiff, Nat.reduceAdd, Nat.reduceSub, Nat.reduceMul, Nat.reduceLT, Nat.reduceLeDiff, Int.reduceEq, Int.reduceLT, Int.reduceLE, Int.reduceAdd, Int.reduceSub, Int.reduceMul, Int.reduceToNat, Int.reduceNeg, ↓reduceIte, reduceCtorEq] at h2
      rcases Classical.em (r1.2 = 0) with h3 | h3
      · rw [if_pos h3] at h; replace h3 := eq_true h3
        cases h; subst hR; simp (maxDischargeDepth := 12) only [kk0, kk1, kk2, kk3, kk4, kk5, kk6, kk7, kk8, kk9, kk10, kk11, kk12, kk13, kk14, kk15, kk16, kn0, kn1, kn2, kn3, kn4, kn5, kn6, eq_self_iff_true, implies_true, forall_const, Int.cast_ofNat_Int, Nat.reduceEqDiff, Nat.reduceAdd, Nat.reduceSub, Nat.reduceMul, Nat.reduceLT, Nat.reduceLeDiff, Int.reduceEq, Int.reduceLT, Int.reduceLE, Int.reduceAdd, Int.reduceSub, Int.reduceMul, Int.reduceToNat, Int.reduceNeg, ↓reduceIte, reduceCtorEq, L_schema_Decode, v_schema_fields, v_num_Get, v_schema_read, Ow.enc, S_api_Op.enc, S_api_Record.enc, Sl.enc, rr_schema_Decode, ro_schema_Decode, b0_schema_Decode, *]
      · rw [if_neg h3] at h; replace h3 := eq_false h3
        rcases h4 : schema_fields q r1.1 with _ | r2
        · rw [h4] at h; cases h
        · rw [h4, Option.bind_some] at h
          replace h4 := run_schema_fields q (M + 7) (by omega) _ _ h4
          try simp only [Ow.enc, kn0, kn1, kn2, kn3, kn4, kn5, kn6, eq_self_iff_true, implies_true, forall_const, Int.cast_ofNat_Int, Nat.reduceEqDiff, Nat.reduceAdd, Nat.reduceSub, Nat.reduceMul, Nat.reduceLT, Nat.reduceLeDiff, Int.reduceEq, Int.reduceLT, Int.reduceLE, Int.reduceAdd, Int.reduceSub, Int.reduceMul, Int.reduceToNat, Int.reduceNeg, ↓reduceIte, reduceCtorEq] at h4
          rcases Classical.em (r2.n = true) with h5 | h5
          · rw [if_pos h5] at h; have h5' := bt1 h5; replace h5 := eq_true h5
            cases h; subst hR; simp (maxDischargeDepth := 12) only [kk0, kk1, kk2, kk3, kk4, kk5, kk6, kk7, kk8, kk9, kk10, kk11, kk12, kk13, kk14, kk15, kk16, kn0, kn1, kn2, kn3, kn4, kn5, kn6, eq_self_iff_true, implies_true, forall_const, Int.cast_ofNat_Int, Nat.reduceEqDiff, Nat.reduceAdd, Nat.reduceSub, Nat.reduceMul, Nat.reduceLT, Nat.reduceLeDiff, Int.reduceEq, Int.reduceLT, Int.reduceLE, Int.reduceAdd, Int.reduceSub, Int.reduceMul, Int.reduceToNat, Int.reduceNeg, ↓reduceIte, reduceCtorEq, L_schema_Decode, v_schema_fields, v_num_Get, v_schema_read, Ow.enc, S_api_Op.enc, S_api_Record.enc, Sl.enc, rr_schema_Decode, ro_schema_Decode, b0_schema_Decode, *]
          · rw [if_neg h5] at h; have h5' := bt0 h5; replace h5 := eq_false h5
            rcases Classical.em (0 ≤ r1.2) with h6 | h6
            · rw [if_pos h6] at h; replace h6 := eq_true h6
              rcases Classical.em (r1.2 ≤ (a0.l.length : Int)) with h7 | h7
              · rw [if_pos h7] at h; replace h7 := eq_true h7
                rcases h8 : schema_read q r1.1 ⟨a0.z, (List.drop r1.2.toNat a0.l)⟩ with _ | r3
                · rw [h8] at h; cases h
                · rw [h8, Option.bind_some] at h
                  replace h8 := run_schema_read q (M + 7) (by omega) _ _ _ h8
                  try simp only [Ow.enc, S_api_Op.enc, S_api_Record.enc, Sl.enc, kn0, kn1, kn2, kn3, kn4, kn5, kn6, eq_self_iff_true, implies_true, forall_const, Int.cast_ofNat_Int, Nat.reduceEqDiff, Nat.reduceAdd, Nat.reduceSub, Nat.reduceMul, Nat.reduceLT, Nat.reduceLeDiff, Int.reduceEq, Int.reduceLT, Int.reduceLE, Int.reduceAdd, Int.reduceSub, Int.reduceMul, Int.reduceToNat, Int.reduceNeg, ↓reduceIte, reduceCtorEq] at h8
                  rcases Classical.em (r3.2 = 0) with h9 | h9
                  · rw [if_pos h9] at h; replace h9 := eq_true h9
                    cases h; subst hR; simp (maxDischargeDepth := 12) only [kk0, kk1, kk2, kk3, kk4, kk5, kk6, kk7, kk8, kk9, kk10, kk11, kk12, kk13, kk14, kk15, kk16, kn0, kn1, kn2, kn3, kn4, kn5, kn6, eq_self_iff_true, implies_true, forall_const, Int.cast_ofNat_Int, Nat.reduceEqDiff, Nat.reduceAdd, Nat.reduceSub, Nat.reduceMul, Nat.reduceLT, Nat.reduceLeDiff, Int.reduceEq, Int.reduceLT, Int.reduceLE, Int.reduceAdd, Int.reduceSub, Int.reduceMul, Int.reduceToNat, Int.reduceNeg, ↓reduceIte, reduceCtorEq, L_schema_Decode, v_schema_fields, v_num_Get, v_schema_read, Ow.enc, S_api_Op.enc, S_api_Record.enc, Sl.enc, rr_schema_Decode, ro_schema_Decode, b0_schema_Decode, *]
                  · rw [if_neg h9] at h; replace h9 := eq_false h9
                    cases h; subst hR; simp (maxDischargeDepth := 12) only [kk0, kk1, kk2, kk3, kk4, kk5, kk6, kk7, kk8, kk9, kk10, kk11, kk12, kk13, kk14, kk15, kk16, kn0, kn1, kn2, kn3, kn4, kn5, kn6, eq_self_iff_true, implies_true, forall_const, Int.cast_ofNat_Int, Nat.reduceEqDiff, Nat.reduceAdd, Nat.reduceSub, Nat.reduceMul, Nat.reduceLT, Nat.reduceLeDiff, Int.reduceEq, Int.reduceLT, Int.reduceLE, Int.reduceAdd, Int.reduceSub, Int.reduceMul, Int.reduceToNat, Int.reduceNeg, ↓reduceIte, reduceCtorEq, L_schema_Decode, v_schema_fields, v_num_Get, v_schema_read, Ow.enc, S_api_Op.enc, S_api_Record.enc, Sl.enc, rr_schema_Decode, ro_schema_Decode, b0_schema_Decode, *]
              · rw [if_neg h7] at h; replace h7 := eq_false h7
                cases h
            · rw [if_neg h6] at h; replace h6 := eq_false h6
              cases h
def St_ferrymanref01_read_l0 (q : Nat) : Prop := ∀ (M : Nat) (hM : 8 * q ≤ M) (j : Nat) (hj : q ≤ j) (v0z : Bool) (v0l : List Int) (v4 : Int) (v5 : Int) (v6 : Int) (r : Int × Int) (_ : ferrymanref01_read_l0 q v0z v0l v4 v5 v6 = some r) (R : Option (List V)) (_ : some [(V.int .u64) r.1, (V.int .i64) r.2] = R) (fr : Fr) (H : Hp) (_ : canon 0 [0, 4, 5, 6] fr H = ([(0, (.sl v0z (List.map (V.int .u8) v0l))), (4, (.int .u64 v4)), (5, (.int .u64 v5)), (6, (.int .i64 v6))], [])), fin m_ferrymanref01_read (unw T (orc T (M + 7)) (M + 7) 0 [.blk 0, .code c_ferrymanref01_read_30] (iter 0 [0, 4, 5, 6] (exec T (orc T (M + 7)) (M + 7) 0 c_ferrymanref01_read_27) j fr H)) = R
theorem step_ferrymanref01_read_l0 (q : Nat) (ih_ferrymanref01_read_l0 : St_ferrymanref01_read_l0 q) : St_ferrymanref01_read_l0 (q + 1) := by
  intro M hM j hj v0z v0l v4 v5 v6 r h R hR fr H hc
  obtain ⟨j, rfl⟩ : ∃ i, j = i + 1 := ⟨j - 1, by omega⟩
  rw [unw_iter, hc]; clear hc
  rw [ferrymanref01_read_l0] at h
  rcases Classical.em (v6 < (v0l.length : Int)) with h1 | h1
  · rw [if_pos h1] at h; replace h1 := eq_true h1
    rcases Classical.em (v6 < 10) with h2 | h2
    · rw [if_pos h2] at h; replace h2 := eq_true h2
      rcases Classical.em (0 ≤ v6) with h3 | h3
      · rw [if_pos h3] at h; replace h3 := eq_true h3
        rcases h4 : v0l[v6.toNat]? with _ | e1
        · rw [h4] at h; cases h
        · rw [h4, Option.bind_some] at h
          rcases Classical.em (v6 = 9) with h5 | h5
          · rw [if_pos h5] at h; replace h5 := eq_true h5
            rcases Classical.em (1 < (wrp .u64 (Int.tmod e1 128))) with h6 | h6
            · rw [if_pos h6] at h; replace h6 := eq_true h6
              cases h; subst hR; simp (maxDischargeDepth := 12) only [kk0, kk1, kk2, kk3, kk4, kk5, kk6, kk7, kk8, kk9, kk10, kk11, kk12, kk13, kk14, kk15, kk16, kn0, kn1, kn2, kn3, kn4, kn5, kn6, eq_self_iff_true, implies_true, forall_const, Int.cast_ofNat_Int, Nat.reduceEqDiff, Nat.reduceAdd, Nat.reduceSub, Nat.reduceMul, Nat.reduceLT, Nat.reduceLeDiff, Int.reduceEq, Int.reduceLT, Int.reduceLE, Int.reduceAdd, Int.reduceSub, Int.reduceMul, Int.reduceToNat, Int.reduceNeg, ↓reduceIte, reduceCtorEq, L_ferrymanref01_read, Ow.enc, Sl.enc, rr_ferrymanref01_read, ro_ferrymanref01_read, b0_ferrymanref01_read, *]
            · rw [if_neg h6] at h; replace h6 := eq_false h6
              rcases Classical.em (e1 < 128) with h7 | h7
              · rw [if_pos h7] at h; replace h7 := eq_true h7
                rcases Classical.em (0 < v6) with h8 | h8
                · rw [if_pos h8] at h; replace h8 := eq_true h8
                  rcases Classical.em ((wrp .u64 (Int.tmod e1 128)) = 0) with h9 | h9
                  · rw [if_pos h9] at h; replace h9 := eq_true h9
                    cases h; subst hR; simp (maxDischargeDepth := 12) only [kk0, kk1, kk2, kk3, kk4, kk5, kk6, kk7, kk8, kk9, kk10, kk11, kk12, kk13, kk14, kk15, kk16, kn0, kn1, kn2, kn3, kn4, kn5, kn6, eq_self_iff_true, implies_true, forall_const, Int.cast_ofNat_Int, Nat.reduceEqDiff, Nat.reduceAdd, Nat.reduceSub, Nat.reduceMul, Nat.reduceLT, Nat.reduceLeDiff, Int.reduceEq, Int.reduceLT, Int.reduceLE, Int.reduceAdd, Int.reduceSub, Int.reduceMul, Int.reduceToNat, Int.reduceNeg, ↓reduceIte, reduceCtorEq, L_ferrymanref01_read, Ow.enc, Sl.enc, rr_ferrymanref01_read, ro_ferrymanref01_read, b0_ferrymanref01_read, *]
                  · rw [if_neg h9] at h; replace h9 := eq_false h9
                    cases h; subst hR; simp (maxDischargeDepth := 12) only [kk0, kk1, kk2, kk3, kk4, kk5, kk6, kk7, kk8, kk9, kk10, kk11, kk12, kk13, kk14, kk15, kk16, kn0, kn1, kn2, kn3, kn4, kn5, kn6, eq_self_iff_true, implies_true, forall_const, Int.cast_ofNat_Int, Nat.reduceEqDiff, Nat.reduceAdd, Nat.reduceSub, Nat.reduceMul, Nat.reduceLT, Nat.reduceLeDiff, Int.reduceEq, Int.reduceLT, Int.reduceLE, Int.reduceAdd, Int.reduceSub, Int.reduceMul, Int.reduceToNat, Int.reduceNeg, ↓reduceIte, reduceCtorEq, L_ferrymanref01_read, Ow.enc, Sl.enc, rr_ferrymanref01_read, ro_ferrymanref01_read, b0_ferrymanref01_read, *]
                · rw [if_neg h8] at h; replace h8 := eq_false h8
                  cases h; subst hR; simp (maxDischargeDepth := 12) only [kk0, kk1, kk2, kk3, kk4, kk5, kk6, kk7, kk8, kk9, kk10, kk11, kk12, kk13, kk14, kk15, kk16, kn0, kn1, kn2, kn3, kn4, kn5, kn6, eq_self_iff_true, implies_true, forall_const, Int.cast_ofNat_Int, Nat.reduceEqDiff, Nat.reduceAdd, Nat.reduceSub, Nat.reduceMul, Nat.reduceLT, Nat.reduceLeDiff, Int.reduceEq, Int.reduceLT, Int.reduceLE, Int.reduceAdd, Int.reduceSub, Int.reduceMul, Int.reduceToNat, Int.reduceNeg, ↓reduceIte, reduceCtorEq, L_ferrymanref01_read, Ow.enc, Sl.enc, rr_ferrymanref01_read, ro_ferrymanref01_read, b0_ferrymanref01_read, *]
              · rw [if_neg h7] at h; replace h7 := eq_false h7
                replace h := ih_ferrymanref01_read_l0 M (by omega) j (by omega) _ _ _ _ _ _ h R hR
                simp (maxDischargeDepth := 12) only [kk0, kk1, kk2, kk3, kk4, kk5, kk6, kk7, kk8, kk9, kk10, kk11, kk12, kk13, kk14, kk15, kk16, kn0, kn1, kn2, kn3, kn4, kn5, kn6, eq_self_iff_true, implies_true, forall_const, Int.cast_ofNat_Int, Nat.reduceEqDiff, Nat.reduceAdd, Nat.reduceSub, Nat.reduceMul, Nat.reduceLT, Nat.reduceLeDiff, Int.reduceEq, Int.reduceLT, Int.reduceLE, Int.reduceAdd, Int.reduceSub, Int.reduceMul, Int.reduceToNat, Int.reduceNeg, ↓reduceIte, reduceCtorEq, L_ferrymanref01_read, Ow.enc, Sl.enc, rr_ferrymanref01_read, ro_ferrymanref01_read, b0_ferrymanref01_read, *]
          · rw [if_neg h5] at h; replace h5 := eq_false h5
            rcases Classical.em (e1 < 128) with h10 | h10
            · rw [if_pos h10] at h; replace h10 := eq_true h10
              rcases Classical.em (0 < v6) with h11 | h11
              · rw [if_pos h11] at h; replace h11 := eq_true h11
                rcases Classical.em ((wrp .u64 (Int.tmod e1 128)) = 0) with h12 | h12
                · rw [if_pos h12] at h; replace h12 := eq_true h12
                  cases h; subst hR; simp (maxDischargeDepth := 12) only [kk0, kk1, kk2, kk3, kk4, kk5, kk6, kk7, kk8, kk9, kk10, kk11, kk12, kk13, kk14, kk15, kk16, kn0, kn1, kn2, kn3, kn4, kn5, kn6, eq_self_iff_true, implies_true, forall_const, Int.cast_ofNat_Int, Nat.reduceEqDiff, Nat.reduceAdd, Nat.reduceSub, Nat.reduceMul, Nat.reduceLT, Nat.reduceLeDiff, Int.reduceEq, Int.reduceLT, Int.reduceLE, Int.reduceAdd, Int.reduceSub, Int.reduceMul, Int.reduceToNat, Int.reduceNeg, ↓reduceIte, reduceCtorEq, L_ferrymanref01_read, Ow.enc, Sl.enc, rr_ferrymanref01_read, ro_ferrymanref01_read, b0_ferrymanref01_read, *]
                · rw [if_neg h12] at h; replace h12 := eq_false h12
                  cases h; subst hR; simp (maxDischargeDepth := 12) only [kk0, kk1, kk2, kk3, kk4, kk5, kk6, kk7, kk8, kk9, kk10, kk11, kk12, kk13, kk14, kk15, kk16, kn0, kn1, kn2, kn3, kn4, kn5, kn6, eq_self_iff_true, implies_true, forall_const, Int.cast_ofNat_Int, Nat.reduceEqDiff, Nat.reduceAdd, Nat.reduceSub, Nat.reduceMul, Nat.reduceLT, Nat.reduceLeDiff, Int.reduceEq, Int.reduceLT, Int.reduceLE, Int.reduceAdd, Int.reduceSub, Int.reduceMul, Int.reduceToNat, Int.reduceNeg, ↓reduceIte, reduceCtorEq, L_ferrymanref01_read, Ow.enc, Sl.enc, rr_ferrymanref01_read, ro_ferrymanref01_read, b0_ferrymanref01_read, *]
              · rw [if_neg h11] at h; replace h11 := eq_false h11
                cases h; subst hR; simp (maxDischargeDepth := 12) only [kk0, kk1, kk2, kk3, kk4, kk5, kk6, kk7, kk8, kk9, kk10, kk11, kk12, kk13, kk14, kk15, kk16, kn0, kn1, kn2, kn3, kn4, kn5, kn6, eq_self_iff_true, implies_true, forall_const, Int.cast_ofNat_Int, Nat.reduceEqDiff, Nat.reduceAdd, Nat.reduceSub, Nat.reduceMul, Nat.reduceLT, Nat.reduceLeDiff, Int.reduceEq, Int.reduceLT, Int.reduceLE, Int.reduceAdd, Int.reduceSub, Int.reduceMul, Int.reduceToNat, Int.reduceNeg, ↓reduceIte, reduceCtorEq, L_ferrymanref01_read, Ow.enc, Sl.enc, rr_ferrymanref01_read, ro_ferrymanref01_read, b0_ferrymanref01_read, *]
            · rw [if_neg h10] at h; replace h10 := eq_false h10
              replace h := ih_ferrymanref01_read_l0 M (by omega) j (by omega) _ _ _ _ _ _ h R hR
              simp (maxDischargeDepth := 12) only [kk0, kk1, kk2, kk3, kk4, kk5, kk6, kk7, kk8, kk9, kk10, kk11, kk12, kk13, kk14, kk15, kk16, kn0, kn1, kn2, kn3, kn4, kn5, kn6, eq_self_iff_true, implies_true, forall_const, Int.cast_ofNat_Int, Nat.reduceEqDiff, Nat.reduceAdd, Nat.reduceSub, Nat.reduceMul, Nat.reduceLT, Nat.reduceLeDiff, Int.reduceEq, Int.reduceLT, Int.reduceLE, Int.reduceAdd, Int.reduceSub, Int.reduceMul, Int.reduceToNat, Int.reduceNeg, ↓reduceIte, reduceCtorEq, L_ferrymanref01_read, Ow.enc, Sl.enc, rr_ferrymanref01_read, ro_ferrymanref01_read, b0_ferrymanref01_read, *]
      · rw [if_neg h3] at h; replace h3 := eq_false h3
        cases h
    · rw [if_neg h2] at h; replace h2 := eq_false h2
      cases h; subst hR; simp (maxDischargeDepth := 12) only [kk0, kk1, kk2, kk3, kk4, kk5, kk6, kk7, kk8, kk9, kk10, kk11, kk12, kk13, kk14, kk15, kk16, kn0, kn1, kn2, kn3, kn4, kn5, kn6, eq_self_iff_true, implies_true, forall_const, Int.cast_ofNat_Int, Nat.reduceEqDiff, Nat.reduceAdd, Nat.reduceSub, Nat.reduceMul, Nat.reduceLT, Nat.reduceLeDiff, Int.reduceEq, Int.reduceLT, Int.reduceLE, Int.reduceAdd, Int.reduceSub, Int.reduceMul, Int.reduceToNat, Int.reduceNeg, ↓reduceIte, reduceCtorEq, L_ferrymanref01_read, Ow.enc, Sl.enc, rr_ferrymanref01_read, ro_ferrymanref01_read, b0_ferrymanref01_read, *]
  · rw [if_neg h1] at h; replace h1 := eq_false h1
    cases h; subst hR; simp (maxDischargeDepth := 12) only [kk0, kk1, kk2, kk3, kk4, kk5, kk6, kk7, kk8, kk9, kk10, kk11, kk12, kk13, kk14, kk15, kk16, kn0, kn1, kn2, kn3, kn4, kn5, kn6, eq_self_iff_true, implies_true, forall_const, Int.cast_ofNat_Int, Nat.reduceEqDiff, Nat.reduceAdd, Nat.reduceSub, Nat.reduceMul, Nat.reduceLT, Nat.reduceLeDiff, Int.reduceEq, Int.reduceLT, Int.reduceLE, Int.reduceAdd, Int.reduceSub, Int.reduceMul, Int.reduceToNat, Int.reduceNeg, ↓reduceIte, reduceCtorEq, L_ferrymanref01_read, Ow.enc, Sl.enc, rr_ferrymanref01_read, ro_ferrymanref01_read, b0_ferrymanref01_read, *]
theorem all_ferrymanref01_read : ∀ q, St_ferrymanref01_read_l0 q
  | 0 => by intro M hM j hj; intros; rename_i h _ _ _ _ _; cases h
  | q + 1 => by have i0 := all_ferrymanref01_read q; exact step_ferrymanref01_read_l0 q i0
theorem run_ferrymanref01_read : ∀ (q N : Nat), 8 * q ≤ N → ∀ (a0 : (Sl Int)), ∀ (r : Int × Int), ferrymanref01_read q a0 = some r → (orc T N).deep F.ferrymanref01_read [(Sl.enc (V.int .u8)) a0] = some [(V.int .u64) r.1, (V.int .i64) r.2] := by
  intro q N hM a0 r h
  rcases q with _ | q
  · cases h
  obtain ⟨M, rfl⟩ : ∃ M, N = M + 8 := ⟨N - 8, by omega⟩
  have ih_ferrymanref01_read_l0 := (all_ferrymanref01_read q)
  generalize hR : some [(V.int .u64) r.1, (V.int .i64) r.2] = R
  rw [orc_deep, T_ferrymanref01_read, Option.bind_some, runDeep_eq]
  rw [ferrymanref01_read] at h
  replace h := ih_ferrymanref01_read_l0 M (by omega) (M + 7) (by omega) _ _ _ _ _ _ h R hR
  simp (maxDischargeDepth := 12) only [kk0, kk1, kk2, kk3, kk4, kk5, kk6, kk7, kk8, kk9, kk10, kk11, kk12, kk13, kk14, kk15, kk16, kn0, kn1, kn2, kn3, kn4, kn5, kn6, eq_self_iff_true, implies_true, forall_const, Int.cast_ofNat_Int, Nat.reduceEqDiff, Nat.reduceAdd, Nat.reduceSub, Nat.reduceMul, Nat.reduceLT, Nat.reduceLeDiff, Int.reduceEq, Int.reduceLT, Int.reduceLE, Int.reduceAdd, Int.reduceSub, Int.reduceMul, Int.reduceToNat, Int.reduceNeg, ↓reduceIte, reduceCtorEq, L_ferrymanref01_read, Ow.enc, Sl.enc, rr_ferrymanref01_read, ro_ferrymanref01_read, b0_ferrymanref01_read, *]
theorem run_ferrymanref01_Get : ∀ (q N : Nat), 8 * q ≤ N → ∀ (a0 : (Sl Int)), ∀ (r : Int × Int), ferrymanref01_Get q a0 = some r → (orc T N).deep F.ferrymanref01_Get [(Sl.enc (V.int .u8)) a0] = some [(V.int .i64) r.1, (V.int .i64) r.2] := by
  intro q N hM a0 r h
  rcases q with _ | q
  · cases h
  obtain ⟨M, rfl⟩ : ∃ M, N = M + 8 := ⟨N - 8, by omega⟩
  generalize hR : some [(V.int .i64) r.1, (V.int .i64) r.2] = R
  rw [orc_deep, T_ferrymanref01_Get, Option.bind_some, runDeep_eq]
  rw [ferrymanref01_Get] at h
  rcases h1 : ferrymanref01_read q a0 with _ | r1
  · rw [h1] at h; cases h
  · rw [h1, Option.bind_some] at h
    replace h1 := run_ferrymanref01_read q (M + 7) (by omega) _ _ h1
    try simp only [Ow.enc, Sl.enc, kn0, kn1, kn2, kn3, kn4, kn5, kn6, eq_self_iff_true, implies_true, forall_const, Int.cast_ofNat_Int, Nat.reduceEqDiff, Nat.reduceAdd, Nat.reduceSub, Nat.reduceMul, Nat.reduceLT, Nat.reduceLeDiff, Int.reduceEq, Int.reduceLT, Int.reduceLE, Int.reduceAdd, Int.reduceSub, Int.reduceMul, Int.reduceToNat, Int.reduceNeg, ↓reduceIte, reduceCtorEq] at h1
    rcases Classical.em (r1.2 = 0) with h2 | h2
    · rw [if_pos h2] at h; replace h2 := eq_true h2
      cases h; subst hR; simp (maxDischargeDepth := 12) only [kk0, kk1, kk2, kk3, kk4, kk5, kk6, kk7, kk8, kk9, kk10, kk11, kk12, kk13, kk14, kk15, kk16, kn0, kn1, kn2, kn3, kn4, kn5, kn6, eq_self_iff_true, implies_true, forall_const, Int.cast_ofNat_Int, Nat.reduceEqDiff, Nat.reduceAdd, Nat.reduceSub, Nat.reduceMul, Nat.reduceLT, Nat.reduceLeDiff, Int.reduceEq, Int.reduceLT, Int.reduceLE, Int.reduceAdd, Int.reduceSub, Int.reduceMul, Int.reduceToNat, Int.reduceNeg, ↓reduceIte, reduceCtorEq, L_ferrymanref01_Get, v_ferrymanref01_read, Ow.enc, Sl.enc, rr_ferrymanref01_Get, ro_ferrymanref01_Get, b0_ferrymanref01_Get, *]
    · rw [if_neg h2] at h; replace h2 := eq_false h2
      rcases Classical.em (4611686018427387904 ≤ r1.1) with h3 | h3
      · rw [if_pos h3] at h; replace h3 := eq_true h3
        cases h; subst hR; simp (maxDischargeDepth := 12) only [kk0, kk1, kk2, kk3, kk4, kk5, kk6, kk7, kk8, kk9, kk10, kk11, kk12, kk13, kk14, kk15, kk16, kn0, kn1, kn2, kn3, kn4, kn5, kn6, eq_self_iff_true, implies_true, forall_const, Int.cast_ofNat_Int, Nat.reduceEqDiff, Nat.reduceAdd, Nat.reduceSub, Nat.reduceMul, Nat.reduceLT, Nat.reduceLeDiff, Int.reduceEq, Int.reduceLT, Int.reduceLE, Int.reduceAdd, Int.reduceSub, Int.reduceMul, Int.reduceToNat, Int.reduceNeg, ↓reduceIte, reduceCtorEq, L_ferrymanref01_Get, v_ferrymanref01_read, Ow.enc, Sl.enc, rr_ferrymanref01_Get, ro_ferrymanref01_Get, b0_ferrymanref01_Get, *]
      · rw [if_neg h3] at h; replace h3 := eq_false h3
        cases h; subst hR; simp (maxDischargeDepth := 12) only [kk0, kk1, kk2, kk3, kk4, kk5, kk6, kk7, kk8, kk9, kk10, kk11, kk12, kk13, kk14, kk15, kk16, kn0, kn1, kn2, kn3, kn4, kn5, kn6, eq_self_iff_true, implies_true, forall_const, Int.cast_ofNat_Int, Nat.reduceEqDiff, Nat.reduceAdd, Nat.reduceSub, Nat.reduceMul, Nat.reduceLT, Nat.reduceLeDiff, Int.reduceEq, Int.reduceLT, Int.reduceLE, Int.reduceAdd, Int.reduceSub, Int.reduceMul, Int.reduceToNat, Int.reduceNeg, ↓reduceIte, reduceCtorEq, L_ferrymanref01_Get, v_ferrymanref01_read, Ow.enc, Sl.enc, rr_ferrymanref01_Get, ro_ferrymanref01_Get, b0_ferrymanref01_Get, *]
theorem run_ferrymanref06_has : ∀ (q N : Nat), 8 * q ≤ N → ∀ (a0 : Int) (a1 : Int), ∀ (r : Bool), ferrymanref06_has q a0 a1 = some r → (orc T N).deep F.ferrymanref06_has [(V.int .i64) a0, (V.int .i64) a1] = some [V.bool r] := by
  intro q N hM a0 a1 r h
  rcases q with _ | q
  · cases h
  obtain ⟨M, rfl⟩ : ∃ M, N = M + 8 := ⟨N - 8, by omega⟩
  generalize hR : some [V.bool r] = R
  rw [orc_deep, T_ferrymanref06_has, Option.bind_some, runDeep_eq]
  rw [ferrymanref06_has] at h
  rcases Classical.em (a1 = 1) with h1 | h1
  · rw [if_pos h1] at h; replace h1 := eq_true h1
    cases h; subst hR; simp (maxDischargeDepth := 12) only [kk0, kk1, kk2, kk3, kk4, kk5, kk6, kk7, kk8, kk9, kk10, kk11, kk12, kk13, kk14, kk15, kk16, kn0, kn1, kn2, kn3, kn4, kn5, kn6, eq_self_iff_true, implies_true, forall_const, Int.cast_ofNat_Int, Nat.reduceEqDiff, Nat.reduceAdd, Nat.reduceSub, Nat.reduceMul, Nat.reduceLT, Nat.reduceLeDiff, Int.reduceEq, Int.reduceLT, Int.reduceLE, Int.reduceAdd, Int.reduceSub, Int.reduceMul, Int.reduceToNat, Int.reduceNeg, ↓reduceIte, reduceCtorEq, L_ferrymanref06_has, Ow.enc, Sl.enc, rr_ferrymanref06_has, ro_ferrymanref06_has, b0_ferrymanref06_has, *]
  · rw [if_neg h1] at h; replace h1 := eq_false h1
    rcases Classical.em (a1 = 2) with h2 | h2
    · rw [if_pos h2] at h; replace h2 := eq_true h2
      cases h; subst hR; simp (maxDischargeDepth := 12) only [kk0, kk1, kk2, kk3, kk4, kk5, kk6, kk7, kk8, kk9, kk10, kk11, kk12, kk13, kk14, kk15, kk16, kn0, kn1, kn2, kn3, kn4, kn5, kn6, eq_self_iff_true, implies_true, forall_const, Int.cast_ofNat_Int, Nat.reduceEqDiff, Nat.reduceAdd, Nat.reduceSub, Nat.reduceMul, Nat.reduceLT, Nat.reduceLeDiff, Int.reduceEq, Int.reduceLT, Int.reduceLE, Int.reduceAdd, Int.reduceSub, Int.reduceMul, Int.reduceToNat, Int.reduceNeg, ↓reduceIte, reduceCtorEq, L_ferrymanref06_has, Ow.enc, Sl.enc, rr_ferrymanref06_has, ro_ferrymanref06_has, b0_ferrymanref06_has, *]
    · rw [if_neg h2] at h; replace h2 := eq_false h2
      rcases Classical.em (a1 = 4) with h3 | h3
      · rw [if_pos h3] at h; replace h3 := eq_true h3
        cases h; subst hR; simp (maxDischargeDepth := 12) only [kk0, kk1, kk2, kk3, kk4, kk5, kk6, kk7, kk8, kk9, kk10, kk11, kk12, kk13, kk14, kk15, kk16, kn0, kn1, kn2, kn3, kn4, kn5, kn6, eq_self_iff_true, implies_true, forall_const, Int.cast_ofNat_Int, Nat.reduceEqDiff, Nat.reduceAdd, Nat.reduceSub, Nat.reduceMul, Nat.reduceLT, Nat.reduceLeDiff, Int.reduceEq, Int.reduceLT, Int.reduceLE, Int.reduceAdd, Int.reduceSub, Int.reduceMul, Int.reduceToNat, Int.reduceNeg, ↓reduceIte, reduceCtorEq, L_ferrymanref06_has, Ow.enc, Sl.enc, rr_ferrymanref06_has, ro_ferrymanref06_has, b0_ferrymanref06_has, *]
      · rw [if_neg h3] at h; replace h3 := eq_false h3
        rcases Classical.em (a1 = 3) with h4 | h4
        · rw [if_pos h4] at h; replace h4 := eq_true h4
          rcases Classical.em (2 ≤ a0) with h5 | h5
          · rw [if_pos h5] at h; replace h5 := eq_true h5
            cases h; subst hR; simp (maxDischargeDepth := 12) only [kk0, kk1, kk2, kk3, kk4, kk5, kk6, kk7, kk8, kk9, kk10, kk11, kk12, kk13, kk14, kk15, kk16, kn0, kn1, kn2, kn3, kn4, kn5, kn6, eq_self_iff_true, implies_true, forall_const, Int.cast_ofNat_Int, Nat.reduceEqDiff, Nat.reduceAdd, Nat.reduceSub, Nat.reduceMul, Nat.reduceLT, Nat.reduceLeDiff, Int.reduceEq, Int.reduceLT, Int.reduceLE, Int.reduceAdd, Int.reduceSub, Int.reduceMul, Int.reduceToNat, Int.reduceNeg, ↓reduceIte, reduceCtorEq, L_ferrymanref06_has, Ow.enc, Sl.enc, rr_ferrymanref06_has, ro_ferrymanref06_has, b0_ferrymanref06_has, *]
          · rw [if_neg h5] at h; replace h5 := eq_false h5
            rcases Classical.em (a1 = 5) with h6 | h6
            · rw [if_pos h6] at h; replace h6 := eq_true h6
              cases h; subst hR; simp (maxDischargeDepth := 12) only [kk0, kk1, kk2, kk3, kk4, kk5, kk6, kk7, kk8, kk9, kk10, kk11, kk12, kk13, kk14, kk15, kk16, kn0, kn1, kn2, kn3, kn4, kn5, kn6, eq_self_iff_true, implies_true, forall_const, Int.cast_ofNat_Int, Nat.reduceEqDiff, Nat.reduceAdd, Nat.reduceSub, Nat.reduceMul, Nat.reduceLT, Nat.reduceLeDiff, Int.reduceEq, Int.reduceLT, Int.reduceLE, Int.reduceAdd, Int.reduceSub, Int.reduceMul, Int.reduceToNat, Int.reduceNeg, ↓reduceIte, reduceCtorEq, L_ferrymanref06_has, Ow.enc, Sl.enc, rr_ferrymanref06_has, ro_ferrymanref06_has, b0_ferrymanref06_has, *]
            · rw [if_neg h6] at h; replace h6 := eq_false h6
              cases h; subst hR; simp (maxDischargeDepth := 12) only [kk0, kk1, kk2, kk3, kk4, kk5, kk6, kk7, kk8, kk9, kk10, kk11, kk12, kk13, kk14, kk15, kk16, kn0, kn1, kn2, kn3, kn4, kn5, kn6, eq_self_iff_true, implies_true, forall_const, Int.cast_ofNat_Int, Nat.reduceEqDiff, Nat.reduceAdd, Nat.reduceSub, Nat.reduceMul, Nat.reduceLT, Nat.reduceLeDiff, Int.reduceEq, Int.reduceLT, Int.reduceLE, Int.reduceAdd, Int.reduceSub, Int.reduceMul, Int.reduceToNat, Int.reduceNeg, ↓reduceIte, reduceCtorEq, L_ferrymanref06_has, Ow.enc, Sl.enc, rr_ferrymanref06_has, ro_ferrymanref06_has, b0_ferrymanref06_has, *]
        · rw [if_neg h4] at h; replace h4 := eq_false h4
          rcases Classical.em (a1 = 5) with h7 | h7
          · rw [if_pos h7] at h; replace h7 := eq_true h7
            cases h; subst hR; simp (maxDischargeDepth := 12) only [kk0, kk1, kk2, kk3, kk4, kk5, kk6, kk7, kk8, kk9, kk10, kk11, kk12, kk13, kk14, kk15, kk16, kn0, kn1, kn2, kn3, kn4, kn5, kn6, eq_self_iff_true, implies_true, forall_const, Int.cast_ofNat_Int, Nat.reduceEqDiff, Nat.reduceAdd, Nat.reduceSub, Nat.reduceMul, Nat.reduceLT, Nat.reduceLeDiff, Int.reduceEq, Int.reduceLT, Int.reduceLE, Int.reduceAdd, Int.reduceSub, Int.reduceMul, Int.reduceToNat, Int.reduceNeg, ↓reduceIte, reduceCtorEq, L_ferrymanref06_has, Ow.enc, Sl.enc, rr_ferrymanref06_has, ro_ferrymanref06_has, b0_ferrymanref06_has, *]
          · rw [if_neg h7] at h; replace h7 := eq_false h7
            cases h; subst hR; simp (maxDischargeDepth := 12) only [kk0, kk1, kk2, kk3, kk4, kk5, kk6, kk7, kk8, kk9, kk10, kk11, kk12, kk13, kk14, kk15, kk16, kn0, kn1, kn2, kn3, kn4, kn5, kn6, eq_self_iff_true, implies_true, forall_const, Int.cast_ofNat_Int, Nat.reduceEqDiff, Nat.reduceAdd, Nat.reduceSub, Nat.reduceMul, Nat.reduceLT, Nat.reduceLeDiff, Int.reduceEq, Int.reduceLT, Int.reduceLE, Int.reduceAdd, Int.reduceSub, Int.reduceMul, Int.reduceToNat, Int.reduceNeg, ↓reduceIte, reduceCtorEq, L_ferrymanref06_has, Ow.enc, Sl.enc, rr_ferrymanref06_has, ro_ferrymanref06_has, b0_ferrymanref06_has, *]
theorem run_ferrymanref01_Zag : ∀ (q N : Nat), 8 * q ≤ N → ∀ (a0 : Int), ∀ (r : Int), ferrymanref01_Zag q a0 = some r → (orc T N).deep F.ferrymanref01_Zag [(V.int .u64) a0] = some [(V.int .i64) r] := by
  intro q N hM a0 r h
  rcases q with _ | q
  · cases h
  obtain ⟨M, rfl⟩ : ∃ M, N = M + 8 := ⟨N - 8, by omega⟩
  generalize hR : some [(V.int .i64) r] = R
  rw [orc_deep, T_ferrymanref01_Zag, Option.bind_some, runDeep_eq]
  rw [ferrymanref01_Zag] at h
  rcases Classical.em ((Int.tmod a0 2) = 0) with h1 | h1
  · rw [if_pos h1] at h; replace h1 := eq_true h1
    cases h; subst hR; simp (maxDischargeDepth := 12) only [kk0, kk1, kk2, kk3, kk4, kk5, kk6, kk7, kk8, kk9, kk10, kk11, kk12, kk13, kk14, kk15, kk16, kn0, kn1, kn2, kn3, kn4, kn5, kn6, eq_self_iff_true, implies_true, forall_const, Int.cast_ofNat_Int, Nat.reduceEqDiff, Nat.reduceAdd, Nat.reduceSub, Nat.reduceMul, Nat.reduceLT, Nat.reduceLeDiff, Int.reduceEq, Int.reduceLT, Int.reduceLE, Int.reduceAdd, Int.reduceSub, Int.reduceMul, Int.reduceToNat, Int.reduceNeg, ↓reduceIte, reduceCtorEq, L_ferrymanref01_Zag, Ow.enc, Sl.enc, rr_ferrymanref01_Zag, ro_ferrymanref01_Zag, b0_ferrymanref01_Zag, *]
  · rw [if_neg h1] at h; replace h1 := eq_false h1
    cases h; subst hR; simp (maxDischargeDepth := 12) only [kk0, kk1, kk2, kk3, kk4, kk5, kk6, kk7, kk8, kk9, kk10, kk11, kk12, kk13, kk14, kk15, kk16, kn0, kn1, kn2, kn3, kn4, kn5, kn6, eq_self_iff_true, implies_true, forall_const, Int.cast_ofNat_Int, Nat.reduceEqDiff, Nat.reduceAdd, Nat.reduceSub, Nat.reduceMul, Nat.reduceLT, Nat.reduceLeDiff, Int.reduceEq, Int.reduceLT, Int.reduceLE, Int.reduceAdd, Int.reduceSub, Int.reduceMul, Int.reduceToNat, Int.reduceNeg, ↓reduceIte, reduceCtorEq, L_ferrymanref01_Zag, Ow.enc, Sl.enc, rr_ferrymanref01_Zag, ro_ferrymanref01_Zag, b0_ferrymanref01_Zag, *]
theorem run_ferrymanref01_GetSigned : ∀ (q N : Nat), 8 * q ≤ N → ∀ (a0 : (Sl Int)), ∀ (r : Int × Int), ferrymanref01_GetSigned q a0 = some r → (orc T N).deep F.ferrymanref01_GetSigned [(Sl.enc (V.int .u8)) a0] = some [(V.int .i64) r.1, (V.int .i64) r.2] := by
  intro q N hM a0 r h
  rcases q with _ | q
  · cases h
  obtain ⟨M, rfl⟩ : ∃ M, N = M + 8 := ⟨N - 8, by omega⟩
  generalize hR : some [(V.int .i64) r.1, (V.int .i64) r.2] = R
  rw [orc_deep, T_ferrymanref01_GetSigned, Option.bind_some, runDeep_eq]
  rw [ferrymanref01_GetSigned] at h
  rcases h1 : ferrymanref01_read q a0 with _ | r1
  · rw [h1] at h; cases h
  · rw [h1, Option.bind_some] at h
    replace h1 := run_ferrymanref01_read q (M + 7) (by omega) _ _ h1
    try simp only [Ow.enc, Sl.enc, kn0, kn1, kn2, kn3, kn4, kn5, kn6, eq_self_iff_true, implies_true, forall_const, Int.cast_ofNat_Int, Nat.reduceEqDiff, Nat.reduceAdd, Nat.reduceSub, Nat.reduceMul, Nat.reduceLT, Nat.reduceLeDiff, Int.reduceEq, Int.reduceLT, Int.reduceLE, Int.reduceAdd, Int.reduceSub, Int.reduceMul, Int.reduceToNat, Int.reduceNeg, ↓reduceIte, reduceCtorEq] at h1
    rcases Classical.em (r1.2 = 0) with h2 | h2
    · rw [if_pos h2] at h; replace h2 := eq_true h2
      cases h; subst hR; simp (maxDischargeDepth := 12) only [kk0, kk1, kk2, kk3, kk4, kk5, kk6, kk7, kk8, kk9, kk10, kk11, kk12, kk13, kk14, kk15, kk16, kn0, kn1, kn2, kn3, kn4, kn5, kn6, eq_self_iff_true, implies_true, forall_const, Int.cast_ofNat_Int, Nat.reduceEqDiff, Nat.reduceAdd, Nat.reduceSub, Nat.reduceMul, Nat.reduceLT, Nat.reduceLeDiff, Int.reduceEq, Int.reduceLT, Int.reduceLE, Int.reduceAdd, Int.reduceSub, Int.reduceMul, Int.reduceToNat, Int.reduceNeg, ↓reduceIte, reduceCtorEq, L_ferrymanref01_GetSigned, v_ferrymanref01_read, v_ferrymanref01_Zag, Ow.enc, Sl.enc, rr_ferrymanref01_GetSigned, ro_ferrymanref01_GetSigned, b0_ferrymanref01_GetSigned, *]
    · rw [if_neg h2] at h; replace h2 := eq_false h2
      rcases h3 : ferrymanref01_Zag q r1.1 with _ | r2
      · rw [h3] at h; cases h
      · rw [h3, Option.bind_some] at h
        replace h3 := run_ferrymanref01_Zag q (M + 7) (by omega) _ _ h3
        skip
        cases h; subst hR; simp (maxDischargeDepth := 12) only [kk0, kk1, kk2, kk3, kk4, kk5, kk6, kk7, kk8, kk9, kk10, kk11, kk12, kk13, kk14, kk15, kk16, kn0, kn1, kn2, kn3, kn4, kn5, kn6, eq_self_iff_true, implies_true, forall_const, Int.cast_ofNat_Int, Nat.reduceEqDiff, Nat.reduceAdd, Nat.reduceSub, Nat.reduceMul, Nat.reduceLT, Nat.reduceLeDiff, Int.reduceEq, Int.reduceLT, Int.reduceLE, Int.reduceAdd, Int.reduceSub, Int.reduceMul, Int.reduceToNat, Int.reduceNeg, ↓reduceIte, reduceCtorEq, L_ferrymanref01_GetSigned, v_ferrymanref01_read, v_ferrymanref01_Zag, Ow.enc, Sl.enc, rr_ferrymanref01_GetSigned, ro_ferrymanref01_GetSigned, b0_ferrymanref01_GetSigned, *]
theorem run_ferrymanref04_cut : ∀ (q N : Nat), 8 * q ≤ N → ∀ (a0 : Int), ∀ (r : Int), ferrymanref04_cut q a0 = some r → (orc T N).deep F.ferrymanref04_cut [(V.int .i64) a0] = some [(V.int .i64) r] := by
  intro q N hM a0 r h
  rcases q with _ | q
  · cases h
  obtain ⟨M, rfl⟩ : ∃ M, N = M + 8 := ⟨N - 8, by omega⟩
  generalize hR : some [(V.int .i64) r] = R
  rw [orc_deep, T_ferrymanref04_cut, Option.bind_some, runDeep_eq]
  rw [ferrymanref04_cut] at h
  rcases Classical.em (a0 < (-1099511627776)) with h1 | h1
  · rw [if_pos h1] at h; replace h1 := eq_true h1
    cases h; subst hR; simp (maxDischargeDepth := 12) only [kk0, kk1, kk2, kk3, kk4, kk5, kk6, kk7, kk8, kk9, kk10, kk11, kk12, kk13, kk14, kk15, kk16, kn0, kn1, kn2, kn3, kn4, kn5, kn6, eq_self_iff_true, implies_true, forall_const, Int.cast_ofNat_Int, Nat.reduceEqDiff, Nat.reduceAdd, Nat.reduceSub, Nat.reduceMul, Nat.reduceLT, Nat.reduceLeDiff, Int.reduceEq, Int.reduceLT, Int.reduceLE, Int.reduceAdd, Int.reduceSub, Int.reduceMul, Int.reduceToNat, Int.reduceNeg, ↓reduceIte, reduceCtorEq, L_ferrymanref04_cut, Ow.enc, Sl.enc, rr_ferrymanref04_cut, ro_ferrymanref04_cut, b0_ferrymanref04_cut, *]
  · rw [if_neg h1] at h; replace h1 := eq_false h1
    rcases Classical.em (1099511627776 < a0) with h2 | h2
    · rw [if_pos h2] at h; replace h2 := eq_true h2
      cases h; subst hR; simp (maxDischargeDepth := 12) only [kk0, kk1, kk2, kk3, kk4, kk5, kk6, kk7, kk8, kk9, kk10, kk11, kk12, kk13, kk14, kk15, kk16, kn0, kn1, kn2, kn3, kn4, kn5, kn6, eq_self_iff_true, implies_true, forall_const, Int.cast_ofNat_Int, Nat.reduceEqDiff, Nat.reduceAdd, Nat.reduceSub, Nat.reduceMul, Nat.reduceLT, Nat.reduceLeDiff, Int.reduceEq, Int.reduceLT, Int.reduceLE, Int.reduceAdd, Int.reduceSub, Int.reduceMul, Int.reduceToNat, Int.reduceNeg, ↓reduceIte, reduceCtorEq, L_ferrymanref04_cut, Ow.enc, Sl.enc, rr_ferrymanref04_cut, ro_ferrymanref04_cut, b0_ferrymanref04_cut, *]
    · rw [if_neg h2] at h; replace h2 := eq_false h2
      cases h; subst hR; simp (maxDischargeDepth := 12) only [kk0, kk1, kk2, kk3, kk4, kk5, kk6, kk7, kk8, kk9, kk10, kk11, kk12, kk13, kk14, kk15, kk16, kn0, kn1, kn2, kn3, kn4, kn5, kn6, eq_self_iff_true, implies_true, forall_const, Int.cast_ofNat_Int, Nat.reduceEqDiff, Nat.reduceAdd, Nat.reduceSub, Nat.reduceMul, Nat.reduceLT, Nat.reduceLeDiff, Int.reduceEq, Int.reduceLT, Int.reduceLE, Int.reduceAdd, Int.reduceSub, Int.reduceMul, Int.reduceToNat, Int.reduceNeg, ↓reduceIte, reduceCtorEq, L_ferrymanref04_cut, Ow.enc, Sl.enc, rr_ferrymanref04_cut, ro_ferrymanref04_cut, b0_ferrymanref04_cut, *]
theorem run_ferrymanref04_Fits : ∀ (q N : Nat), 8 * q ≤ N → ∀ (a0 : S_api_Op), ∀ (r : Bool), ferrymanref04_Fits q a0 = some r → (orc T N).deep F.ferrymanref04_Fits [S_api_Op.enc a0] = some [V.bool r] := by
  intro q N hM a0 r h
  rcases q with _ | q
  · cases h
  obtain ⟨M, rfl⟩ : ∃ M, N = M + 8 := ⟨N - 8, by omega⟩
  generalize hR : some [V.bool r] = R
  rw [orc_deep, T_ferrymanref04_Fits, Option.bind_some, runDeep_eq]
  rw [ferrymanref04_Fits] at h
  rcases Classical.em (0 ≤ a0.Code) with h1 | h1
  · rw [if_pos h1] at h; replace h1 := eq_true h1
    rcases Classical.em (a0.Code ≤ 10) with h2 | h2
    · rw [if_pos h2] at h; replace h2 := eq_true h2
      rcases h3 : ferrymanref04_cut q a0.A with _ | r1
      · rw [h3] at h; cases h
      · rw [h3, Option.bind_some] at h
        replace h3 := run_ferrymanref04_cut q (M + 7) (by omega) _ _ h3
        skip
        rcases Classical.em (a0.A = r1) with h4 | h4
        · rw [if_pos h4] at h; replace h4 := eq_true h4
          rcases h5 : ferrymanref04_cut q a0.B with _ | r2
          · rw [h5] at h; cases h
          · rw [h5, Option.bind_some] at h
            replace h5 := run_ferrymanref04_cut q (M + 7) (by omega) _ _ h5
            skip
            cases h; subst hR; simp (maxDischargeDepth := 12) only [kk0, kk1, kk2, kk3, kk4, kk5, kk6, kk7, kk8, kk9, kk10, kk11, kk12, kk13, kk14, kk15, kk16, kn0, kn1, kn2, kn3, kn4, kn5, kn6, eq_self_iff_true, implies_true, forall_const, Int.cast_ofNat_Int, Nat.reduceEqDiff, Nat.reduceAdd, Nat.reduceSub, Nat.reduceMul, Nat.reduceLT, Nat.reduceLeDiff, Int.reduceEq, Int.reduceLT, Int.reduceLE, Int.reduceAdd, Int.reduceSub, Int.reduceMul, Int.reduceToNat, Int.reduceNeg, ↓reduceIte, reduceCtorEq, L_ferrymanref04_Fits, v_ferrymanref04_cut, Ow.enc, S_api_Op.enc, Sl.enc, rr_ferrymanref04_Fits, ro_ferrymanref04_Fits, b0_ferrymanref04_Fits, *]
        · rw [if_neg h4] at h; replace h4 := eq_false h4
          cases h; subst hR; simp (maxDischargeDepth := 12) only [kk0, kk1, kk2, kk3, kk4, kk5, kk6, kk7, kk8, kk9, kk10, kk11, kk12, kk13, kk14, kk15, kk16, kn0, kn1, kn2, kn3, kn4, kn5, kn6, eq_self_iff_true, implies_true, forall_const, Int.cast_ofNat_Int, Nat.reduceEqDiff, Nat.reduceAdd, Nat.reduceSub, Nat.reduceMul, Nat.reduceLT, Nat.reduceLeDiff, Int.reduceEq, Int.reduceLT, Int.reduceLE, Int.reduceAdd, Int.reduceSub, Int.reduceMul, Int.reduceToNat, Int.reduceNeg, ↓reduceIte, reduceCtorEq, L_ferrymanref04_Fits, v_ferrymanref04_cut, Ow.enc, S_api_Op.enc, Sl.enc, rr_ferrymanref04_Fits, ro_ferrymanref04_Fits, b0_ferrymanref04_Fits, *]
    · rw [if_neg h2] at h; replace h2 := eq_false h2
      cases h; subst hR; simp (maxDischargeDepth := 12) only [kk0, kk1, kk2, kk3, kk4, kk5, kk6, kk7, kk8, kk9, kk10, kk11, kk12, kk13, kk14, kk15, kk16, kn0, kn1, kn2, kn3, kn4, kn5, kn6, eq_self_iff_true, implies_true, forall_const, Int.cast_ofNat_Int, Nat.reduceEqDiff, Nat.reduceAdd, Nat.reduceSub, Nat.reduceMul, Nat.reduceLT, Nat.reduceLeDiff, Int.reduceEq, Int.reduceLT, Int.reduceLE, Int.reduceAdd, Int.reduceSub, Int.reduceMul, Int.reduceToNat, Int.reduceNeg, ↓reduceIte, reduceCtorEq, L_ferrymanref04_Fits, v_ferrymanref04_cut, Ow.enc, S_api_Op.enc, Sl.enc, rr_ferrymanref04_Fits, ro_ferrymanref04_Fits, b0_ferrymanref04_Fits, *]
  · rw [if_neg h1] at h; replace h1 := eq_false h1
    cases h; subst hR; simp (maxDischargeDepth := 12) only [kk0, kk1, kk2, kk3, kk4, kk5, kk6, kk7, kk8, kk9, kk10, kk11, kk12, kk13, kk14, kk15, kk16, kn0, kn1, kn2, kn3, kn4, kn5, kn6, eq_self_iff_true, implies_true, forall_const, Int.cast_ofNat_Int, Nat.reduceEqDiff, Nat.reduceAdd, Nat.reduceSub, Nat.reduceMul, Nat.reduceLT, Nat.reduceLeDiff, Int.reduceEq, Int.reduceLT, Int.reduceLE, Int.reduceAdd, Int.reduceSub, Int.reduceMul, Int.reduceToNat, Int.reduceNeg, ↓reduceIte, reduceCtorEq, L_ferrymanref04_Fits, v_ferrymanref04_cut, Ow.enc, S_api_Op.enc, Sl.enc, rr_ferrymanref04_Fits, ro_ferrymanref04_Fits, b0_ferrymanref04_Fits, *]
theorem run_ferrymanref05_GetOp : ∀ (q N : Nat), 8 * q ≤ N → ∀ (a0 : (Sl Int)), ∀ (r : S_api_Op × Int), ferrymanref05_GetOp q a0 = some r → (orc T N).deep F.ferrymanref05_GetOp [(Sl.enc (V.int .u8)) a0] = some [S_api_Op.enc r.1, (V.int .i64) r.2] := by
  intro q N hM a0 r h
  rcases q with _ | q
  · cases h
  obtain ⟨M, rfl⟩ : ∃ M, N = M + 8 := ⟨N - 8, by omega⟩
  generalize hR : some [S_api_Op.enc r.1, (V.int .i64) r.2] = R
  rw [orc_deep, T_ferrymanref05_GetOp, Option.bind_some, runDeep_eq]
  rw [ferrymanref05_GetOp] at h
  rcases h1 : ferrymanref01_Get q a0 with _ | r1
  · rw [h1] at h; cases h
  · rw [h1, Option.bind_some] at h
    replace h1 := run_ferrymanref01_Get q (M + 7) (by omega) _ _ h1
    try simp only [Ow.enc, Sl.enc, kn0, kn1, kn2, kn3, kn4, kn5, kn6, eq_self_iff_true, implies_true, forall_const, Int.cast_ofNat_Int, Nat.reduceEqDiff, Nat.reduceAdd, Nat.reduceSub, Nat.reduceMul, Nat.reduceLT, Nat.reduceLeDiff, Int.reduceEq, Int.reduceLT, Int.reduceLE, Int.reduceAdd, Int.reduceSub, Int.reduceMul, Int.reduceToNat, Int.reduceNeg, ↓reduceIte, reduceCtorEq] at h1
    rcases Classical.em (0 ≤ r1.2) with h2 | h2
    · rw [if_pos h2] at h; replace h2 := eq_true h2
      rcases Classical.em (r1.2 ≤ (a0.l.length : Int)) with h3 | h3
      · rw [if_pos h3] at h; replace h3 := eq_true h3
        rcases h4 : ferrymanref01_GetSigned q ⟨a0.z, (List.drop r1.2.toNat a0.l)⟩ with _ | r2
        · rw [h4] at h; cases h
        · rw [h4, Option.bind_some] at h
          replace h4 := run_ferrymanref01_GetSigned q (M + 7) (by omega) _ _ h4
          try simp only [Ow.enc, Sl.enc, kn0, kn1, kn2, kn3, kn4, kn5, kn6, eq_self_iff_true, implies_true, forall_const, Int.cast_ofNat_Int, Nat.reduceEqDiff, Nat.reduceAdd, Nat.reduceSub, Nat.reduceMul, Nat.reduceLT, Nat.reduceLeDiff, Int.reduceEq, Int.reduceLT, Int.reduceLE, Int.reduceAdd, Int.reduceSub, Int.reduceMul, Int.reduceToNat, Int.reduceNeg, ↓reduceIte, reduceCtorEq] at h4
          rcases Classical.em (0 ≤ (wrp .i64 (r1.2 + r2.2))) with h5 | h5
          · rw [if_pos h5] at h; replace h5 := eq_true h5
            try simp only [kn0, kn1, kn2, kn3, kn4, kn5, kn6, eq_self_iff_true, implies_true, forall_const, Int.cast_ofNat_Int, Nat.reduceEqDiff, Nat.reduceAdd, Nat.reduceSub, Nat.reduceMul, Nat.reduceLT, Nat.reduceLeDiff, Int.reduceEq, Int.reduceLT, Int.reduceLE, Int.reduceAdd, Int.reduceSub, Int.reduceMul, Int.reduceToNat, Int.reduceNeg, ↓reduceIte, reduceCtorEq] at h5
            rcases Classical.em ((wrp .i64 (r1.2 + r2.2)) ≤ (a0.l.length : Int)) with h6 | h6
            · rw [if_pos h6] at h; replace h6 := eq_true h6
              try simp only [kn0, kn1, kn2, kn3, kn4, kn5, kn6, eq_self_iff_true, implies_true, forall_const, Int.cast_ofNat_Int, Nat.reduceEqDiff, Nat.reduceAdd, Nat.reduceSub, Nat.reduceMul, Nat.reduceLT, Nat.reduceLeDiff, Int.reduceEq, Int.reduceLT, Int.reduceLE, Int.reduceAdd, Int.reduceSub, Int.reduceMul, Int.reduceToNat, Int.reduceNeg, ↓reduceIte, reduceCtorEq] at h6
              rcases h7 : ferrymanref01_GetSigned q ⟨a0.z, (List.drop ((wrp .i64 (r1.2 + r2.2)).toNat) a0.l)⟩ with _ | r3
              · rw [h7] at h; cases h
              · rw [h7, Option.bind_some] at h
                replace h7 := run_ferrymanref01_GetSigned q (M + 7) (by omega) _ _ h7
                try simp only [Ow.enc, Sl.enc, kn0, kn1, kn2, kn3, kn4, kn5, kn6, eq_self_iff_true, implies_true, forall_const, Int.cast_ofNat_Int, Nat.reduceEqDiff, Nat.reduceAdd, Nat.reduceSub, Nat.reduceMul, Nat.reduceLT, Nat.reduceLeDiff, Int.reduceEq, Int.reduceLT, Int.reduceLE, Int.reduceAdd, Int.reduceSub, Int.reduceMul, Int.reduceToNat, Int.reduceNeg, ↓reduceIte, reduceCtorEq] at h7
                rcases h8 : ferrymanref04_Fits q (⟨r1.1, r2.1, r3.1⟩ : S_api_Op) with _ | r4
                · rw [h8] at h; cases h
                · rw [h8, Option.bind_some] at h
                  replace h8 := run_ferrymanref04_Fits q (M + 7) (by omega) _ _ h8
                  try simp only [Ow.enc, S_api_Op.enc, kn0, kn1, kn2, kn3, kn4, kn5, kn6, eq_self_iff_true, implies_true, forall_const, Int.cast_ofNat_Int, Nat.reduceEqDiff, Nat.reduceAdd, Nat.reduceSub, Nat.reduceMul, Nat.reduceLT, Nat.reduceLeDiff, Int.reduceEq, Int.reduceLT, Int.reduceLE, Int.reduceAdd, Int.reduceSub, Int.reduceMul, Int.reduceToNat, Int.reduceNeg, ↓reduceIte, reduceCtorEq] at h8
                  rcases Classical.em (r1.2 = 0) with h9 | h9
                  · rw [if_pos h9] at h; replace h9 := eq_true h9
                    cases h; subst hR; simp (maxDischargeDepth := 12) only [kk0, kk1, kk2, kk3, kk4, kk5, kk6, kk7, kk8, kk9, kk10, kk11, kk12, kk13, kk14, kk15, kk16, kn0, kn1, kn2, kn3, kn4, kn5, kn6, eq_self_iff_true, implies_true, forall_const, Int.cast_ofNat_Int, Nat.reduceEqDiff, Nat.reduceAdd, Nat.reduceSub, Nat.reduceMul, Nat.reduceLT, Nat.reduceLeDiff, Int.reduceEq, Int.reduceLT, Int.reduceLE, Int.reduceAdd, Int.reduceSub, Int.reduceMul, Int.reduceToNat, Int.reduceNeg, ↓reduceIte, reduceCtorEq, L_ferrymanref05_GetOp, v_ferrymanref04_Fits, v_ferrymanref01_Get, v_ferrymanref01_GetSigned, Ow.enc, S_api_Op.enc, Sl.enc, rr_ferrymanref05_GetOp, ro_ferrymanref05_GetOp, b0_ferrymanref05_GetOp, *]
                  · rw [if_neg h9] at h; replace h9 := eq_false h9
                    rcases Classical.em (r2.2 = 0) with h10 | h10
                    · rw [if_pos h10] at h; replace h10 := eq_true h10
                      cases h; subst hR; simp (maxDischargeDepth := 12) only [kk0, kk1, kk2, kk3, kk4, kk5, kk6, kk7, kk8, kk9, kk10, kk11, kk12, kk13, kk14, kk15, kk16, kn0, kn1, kn2, kn3, kn4, kn5, kn6, eq_self_iff_true, implies_true, forall_const, Int.cast_ofNat_Int, Nat.reduceEqDiff, Nat.reduceAdd, Nat.reduceSub, Nat.reduceMul, Nat.reduceLT, Nat.reduceLeDiff, Int.reduceEq, Int.reduceLT, Int.reduceLE, Int.reduceAdd, Int.reduceSub, Int.reduceMul, Int.reduceToNat, Int.reduceNeg, ↓reduceIte, reduceCtorEq, L_ferrymanref05_GetOp, v_ferrymanref04_Fits, v_ferrymanref01_Get, v_ferrymanref01_GetSigned, Ow.enc, S_api_Op.enc, Sl.enc, rr_ferrymanref05_GetOp, ro_ferrymanref05_GetOp, b0_ferrymanref05_GetOp, *]
                    · rw [if_neg h10] at h; replace h10 := eq_false h10
                      rcases Classical.em (r3.2 = 0) with h11 | h11
                      · rw [if_pos h11] at h; replace h11 := eq_true h11
                        cases h; subst hR; simp (maxDischargeDepth := 12) only [kk0, kk1, kk2, kk3, kk4, kk5, kk6, kk7, kk8, kk9, kk10, kk11, kk12, kk13, kk14, kk15, kk16, kn0, kn1, kn2, kn3, kn4, kn5, kn6, eq_self_iff_true, implies_true, forall_const, Int.cast_ofNat_Int, Nat.reduceEqDiff, Nat.reduceAdd, Nat.reduceSub, Nat.reduceMul, Nat.reduceLT, Nat.reduceLeDiff, Int.reduceEq, Int.reduceLT, Int.reduceLE, Int.reduceAdd, Int.reduceSub, Int.reduceMul, Int.reduceToNat, Int.reduceNeg, ↓reduceIte, reduceCtorEq, L_ferrymanref05_GetOp, v_ferrymanref04_Fits, v_ferrymanref01_Get, v_ferrymanref01_GetSigned, Ow.enc, S_api_Op.enc, Sl.enc, rr_ferrymanref05_GetOp, ro_ferrymanref05_GetOp, b0_ferrymanref05_GetOp, *]
                      · rw [if_neg h11] at h; replace h11 := eq_false h11
                        rcases Classical.em (r4 = true) with h12 | h12
                        · rw [if_pos h12] at h; have h12' := bt1 h12; replace h12 := eq_true h12
                          cases h; subst hR; simp (maxDischargeDepth := 12) only [kk0, kk1, kk2, kk3, kk4, kk5, kk6, kk7, kk8, kk9, kk10, kk11, kk12, kk13, kk14, kk15, kk16, kn0, kn1, kn2, kn3, kn4, kn5, kn6, eq_self_iff_true, implies_true, forall_const, Int.cast_ofNat_Int, Nat.reduceEqDiff, Nat.reduceAdd, Nat.reduceSub, Nat.reduceMul, Nat.reduceLT, Nat.reduceLeDiff, Int.reduceEq, Int.reduceLT, Int.reduceLE, Int.reduceAdd, Int.reduceSub, Int.reduceMul, Int.reduceToNat, Int.reduceNeg, ↓reduceIte, reduceCtorEq, L_ferrymanref05_GetOp, v_ferrymanref04_Fits, v_ferrymanref01_Get, v_ferrymanref01_GetSigned, Ow.enc, S_api_Op.enc, Sl.enc, rr_ferrymanref05_GetOp, ro_ferrymanref05_GetOp, b0_ferrymanref05_GetOp, *]
                        · rw [if_neg h12] at h; have h12' := bt0 h12; replace h12 := eq_false h12
                          cases h; subst hR; simp (maxDischargeDepth := 12) only [kk0, kk1, kk2, kk3, kk4, kk5, kk6, kk7, kk8, kk9, kk10, kk11, kk12, kk13, kk14, kk15, kk16, kn0, kn1, kn2, kn3, kn4, kn5, kn6, eq_self_iff_true, implies_true, forall_const, Int.cast_ofNat_Int, Nat.reduceEqDiff, Nat.reduceAdd, Nat.reduceSub, Nat.reduceMul, Nat.reduceLT, Nat.reduceLeDiff, Int.reduceEq, Int.reduceLT, Int.reduceLE, Int.reduceAdd, Int.reduceSub, Int.reduceMul, Int.reduceToNat, Int.reduceNeg, ↓reduceIte, reduceCtorEq, L_ferrymanref05_GetOp, v_ferrymanref04_Fits, v_ferrymanref01_Get, v_ferrymanref01_GetSigned, Ow.enc, S_api_Op.enc, Sl.enc, rr_ferrymanref05_GetOp, ro_ferrymanref05_GetOp, b0_ferrymanref05_GetOp, *]
            · rw [if_neg h6] at h; replace h6 := eq_false h6
              try simp only [kn0, kn1, kn2, kn3, kn4, kn5, kn6, eq_self_iff_true, implies_true, forall_const, Int.cast_ofNat_Int, Nat.reduceEqDiff, Nat.reduceAdd, Nat.reduceSub, Nat.reduceMul, Nat.reduceLT, Nat.reduceLeDiff, Int.reduceEq, Int.reduceLT, Int.reduceLE, Int.reduceAdd, Int.reduceSub, Int.reduceMul, Int.reduceToNat, Int.reduceNeg, ↓reduceIte, reduceCtorEq] at h6
              cases h
          · rw [if_neg h5] at h; replace h5 := eq_false h5
            try simp only [kn0, kn1, kn2, kn3, kn4, kn5, kn6, eq_self_iff_true, implies_true, forall_const, Int.cast_ofNat_Int, Nat.reduceEqDiff, Nat.reduceAdd, Nat.reduceSub, Nat.reduceMul, Nat.reduceLT, Nat.reduceLeDiff, Int.reduceEq, Int.reduceLT, Int.reduceLE, Int.reduceAdd, Int.reduceSub, Int.reduceMul, Int.reduceToNat, Int.reduceNeg, ↓reduceIte, reduceCtorEq] at h5
            cases h
      · rw [if_neg h3] at h; replace h3 := eq_false h3
        cases h
    · rw [if_neg h2] at h; replace h2 := eq_false h2
      cases h
theorem run_ferrymanref06_value : ∀ (q N : Nat), 8 * q ≤ N → ∀ (a0 : S_api_Record) (a1 : Int) (a2 : (Sl Int)), ∀ (r : S_api_Record × Int), ferrymanref06_value q a0 a1 a2 = some r → (orc T N).deep F.ferrymanref06_value [S_api_Record.enc a0, (V.int .i64) a1, (Sl.enc (V.int .u8)) a2] = some [S_api_Record.enc r.1, (V.int .i64) r.2] := by
  intro q N hM a0 a1 a2 r h
  rcases q with _ | q
  · cases h
  obtain ⟨M, rfl⟩ : ∃ M, N = M + 8 := ⟨N - 8, by omega⟩
  generalize hR : some [S_api_Record.enc r.1, (V.int .i64) r.2] = R
  rw [orc_deep, T_ferrymanref06_value, Option.bind_some, runDeep_eq]
  rw [ferrymanref06_value] at h
  rcases h1 : ferrymanref01_Get q a2 with _ | r1
  · rw [h1] at h; cases h
  · rw [h1, Option.bind_some] at h
    replace h1 := run_ferrymanref01_Get q (M + 7) (by omega) _ _ h1
    try simp only [Ow.enc, Sl.enc, kn0, kn1, kn2, kn3, kn4, kn5, kn6, eq_self_iff_true, implies_true, forall_const, Int.cast_ofNat_Int, Nat.reduceEqDiff, Nat.reduceAdd, Nat.reduceSub, Nat.reduceMul, Nat.reduceLT, Nat.reduceLeDiff, Int.reduceEq, Int.reduceLT, Int.reduceLE, Int.reduceAdd, Int.reduceSub, Int.reduceMul, Int.reduceToNat, Int.reduceNeg, ↓reduceIte, reduceCtorEq] at h1
    rcases Classical.em (a1 = 1) with h2 | h2
    · rw [if_pos h2] at h; replace h2 := eq_true h2
      cases h; subst hR; simp (maxDischargeDepth := 12) only [kk0, kk1, kk2, kk3, kk4, kk5, kk6, kk7, kk8, kk9, kk10, kk11, kk12, kk13, kk14, kk15, kk16, kn0, kn1, kn2, kn3, kn4, kn5, kn6, eq_self_iff_true, implies_true, forall_const, Int.cast_ofNat_Int, Nat.reduceEqDiff, Nat.reduceAdd, Nat.reduceSub, Nat.reduceMul, Nat.reduceLT, Nat.reduceLeDiff, Int.reduceEq, Int.reduceLT, Int.reduceLE, Int.reduceAdd, Int.reduceSub, Int.reduceMul, Int.reduceToNat, Int.reduceNeg, ↓reduceIte, reduceCtorEq, L_ferrymanref06_value, v_ferrymanref01_Get, v_ferrymanref05_GetOp, v_ferrymanref01_GetSigned, Ow.enc, S_api_Op.enc, S_api_Record.enc, Sl.enc, rr_ferrymanref06_value, ro_ferrymanref06_value, b0_ferrymanref06_value, *]
    · rw [if_neg h2] at h; replace h2 := eq_false h2
      rcases Classical.em (a1 = 2) with h3 | h3
      · rw [if_pos h3] at h; replace h3 := eq_true h3
        cases h; subst hR; simp (maxDischargeDepth := 12) only [kk0, kk1, kk2, kk3, kk4, kk5, kk6, kk7, kk8, kk9, kk10, kk11, kk12, kk13, kk14, kk15, kk16, kn0, kn1, kn2, kn3, kn4, kn5, kn6, eq_self_iff_true, implies_true, forall_const, Int.cast_ofNat_Int, Nat.reduceEqDiff, Nat.reduceAdd, Nat.reduceSub, Nat.reduceMul, Nat.reduceLT, Nat.reduceLeDiff, Int.reduceEq, Int.reduceLT, Int.reduceLE, Int.reduceAdd, Int.reduceSub, Int.reduceMul, Int.reduceToNat, Int.reduceNeg, ↓reduceIte, reduceCtorEq, L_ferrymanref06_value, v_ferrymanref01_Get, v_ferrymanref05_GetOp, v_ferrymanref01_GetSigned, Ow.enc, S_api_Op.enc, S_api_Record.enc, Sl.enc, rr_ferrymanref06_value, ro_ferrymanref06_value, b0_ferrymanref06_value, *]
      · rw [if_neg h3] at h; replace h3 := eq_false h3
        rcases Classical.em (a1 = 3) with h4 | h4
        · rw [if_pos h4] at h; replace h4 := eq_true h4
          cases h; subst hR; simp (maxDischargeDepth := 12) only [kk0, kk1, kk2, kk3, kk4, kk5, kk6, kk7, kk8, kk9, kk10, kk11, kk12, kk13, kk14, kk15, kk16, kn0, kn1, kn2, kn3, kn4, kn5, kn6, eq_self_iff_true, implies_true, forall_const, Int.cast_ofNat_Int, Nat.reduceEqDiff, Nat.reduceAdd, Nat.reduceSub, Nat.reduceMul, Nat.reduceLT, Nat.reduceLeDiff, Int.reduceEq, Int.reduceLT, Int.reduceLE, Int.reduceAdd, Int.reduceSub, Int.reduceMul, Int.reduceToNat, Int.reduceNeg, ↓reduceIte, reduceCtorEq, L_ferrymanref06_value, v_ferrymanref01_Get, v_ferrymanref05_GetOp, v_ferrymanref01_GetSigned, Ow.enc, S_api_Op.enc, S_api_Record.enc, Sl.enc, rr_ferrymanref06_value, ro_ferrymanref06_value, b0_ferrymanref06_value, *]
        · rw [if_neg h4] at h; replace h4 := eq_false h4
          rcases Classical.em (a1 = 4) with h5 | h5
          · rw [if_pos h5] at h; replace h5 := eq_true h5
            rcases h6 : ferrymanref05_GetOp q a2 with _ | r2
            · rw [h6] at h; cases h
            · rw [h6, Option.bind_some] at h
              replace h6 := run_ferrymanref05_GetOp q (M + 7) (by omega) _ _ h6
              try simp only [Ow.enc, S_api_Op.enc, Sl.enc, kn0, kn1, kn2, kn3, kn4, kn5, kn6, eq_self_iff_true, implies_true, forall_const, Int.cast_ofNat_Int, Nat.reduceEqDiff, Nat.reduceAdd, Nat.reduceSub, Nat.reduceMul, Nat.reduceLT, Nat.reduceLeDiff, Int.reduceEq, Int.reduceLT, Int.reduceLE, Int.reduceAdd, Int.reduceSub, Int.reduceMul, Int.reduceToNat, Int.reduceNeg, ↓reduceIte, reduceCtorEq] at h6
              cases h; subst hR; simp (maxDischargeDepth := 12) only [kk0, kk1, kk2, kk3, kk4, kk5, kk6, kk7, kk8, kk9, kk10, kk11, kk12, kk13, kk14, kk15, kk16, kn0, kn1, kn2, kn3, kn4, kn5, kn6, eq_self_iff_true, implies_true, forall_const, Int.cast_ofNat_Int, Nat.reduceEqDiff, Nat.reduceAdd, Nat.reduceSub, Nat.reduceMul, Nat.reduceLT, Nat.reduceLeDiff, Int.reduceEq, Int.reduceLT, Int.reduceLE, Int.reduceAdd, Int.reduceSub, Int.reduceMul, Int.reduceToNat, Int.reduceNeg, ↓reduceIte, reduceCtorEq, L_ferrymanref06_value, v_ferrymanref01_Get, v_ferrymanref05_GetOp, v_ferrymanref01_GetSigned, Ow.enc, S_api_Op.enc, S_api_Record.enc, Sl.enc, rr_ferrymanref06_value, ro_ferrymanref06_value, b0_ferrymanref06_value, *]
          · rw [if_neg h5] at h; replace h5 := eq_false h5
            rcases Classical.em (a1 = 5) with h7 | h7
            · rw [if_pos h7] at h; replace h7 := eq_true h7
              rcases h8 : ferrymanref01_GetSigned q a2 with _ | r3
              · rw [h8] at h; cases h
              · rw [h8, Option.bind_some] at h
                replace h8 := run_ferrymanref01_GetSigned q (M + 7) (by omega) _ _ h8
                try simp only [Ow.enc, Sl.enc, kn0, kn1, kn2, kn3, kn4, kn5, kn6, eq_self_iff_true, implies_true, forall_const, Int.cast_ofNat_Int, Nat.reduceEqDiff, Nat.reduceAdd, Nat.reduceSub, Nat.reduceMul, Nat.reduceLT, Nat.reduceLeDiff, Int.reduceEq, Int.reduceLT, Int.reduceLE, Int.reduceAdd, Int.reduceSub, Int.reduceMul, Int.reduceToNat, Int.reduceNeg, ↓reduceIte, reduceCtorEq] at h8
                cases h; subst hR; simp (maxDischargeDepth := 12) only [kk0, kk1, kk2, kk3, kk4, kk5, kk6, kk7, kk8, kk9, kk10, kk11, kk12, kk13, kk14, kk15, kk16, kn0, kn1, kn2, kn3, kn4, kn5, kn6, eq_self_iff_true, implies_true, forall_const, Int.cast_ofNat_Int, Nat.reduceEqDiff, Nat.reduceAdd, Nat.reduceSub, Nat.reduceMul, Nat.reduceLT, Nat.reduceLeDiff, Int.reduceEq, Int.reduceLT, Int.reduceLE, Int.reduceAdd, Int.reduceSub, Int.reduceMul, Int.reduceToNat, Int.reduceNeg, ↓reduceIte, reduceCtorEq, L_ferrymanref06_value, v_ferrymanref01_Get, v_ferrymanref05_GetOp, v_ferrymanref01_GetSigned, Ow.enc, S_api_Op.enc, S_api_Record.enc, Sl.enc, rr_ferrymanref06_value, ro_ferrymanref06_value, b0_ferrymanref06_value, *]
            · rw [if_neg h7] at h; replace h7 := eq_false h7
              cases h; subst hR; simp (maxDischargeDepth := 12) only [kk0, kk1, kk2, kk3, kk4, kk5, kk6, kk7, kk8, kk9, kk10, kk11, kk12, kk13, kk14, kk15, kk16, kn0, kn1, kn2, kn3, kn4, kn5, kn6, eq_self_iff_true, implies_true, forall_const, Int.cast_ofNat_Int, Nat.reduceEqDiff, Nat.reduceAdd, Nat.reduceSub, Nat.reduceMul, Nat.reduceLT, Nat.reduceLeDiff, Int.reduceEq, Int.reduceLT, Int.reduceLE, Int.reduceAdd, Int.reduceSub, Int.reduceMul, Int.reduceToNat, Int.reduceNeg, ↓reduceIte, reduceCtorEq, L_ferrymanref06_value, v_ferrymanref01_Get, v_ferrymanref05_GetOp, v_ferrymanref01_GetSigned, Ow.enc, S_api_Op.enc, S_api_Record.enc, Sl.enc, rr_ferrymanref06_value, ro_ferrymanref06_value, b0_ferrymanref06_value, *]
theorem run_ferrymanref06_Fits : ∀ (q N : Nat), 8 * q ≤ N → ∀ (a0 : S_api_Record), ∀ (r : Bool), ferrymanref06_Fits q a0 = some r → (orc T N).deep F.ferrymanref06_Fits [S_api_Record.enc a0] = some [V.bool r] := by
  intro q N hM a0 r h
  rcases q with _ | q
  · cases h
  obtain ⟨M, rfl⟩ : ∃ M, N = M + 8 := ⟨N - 8, by omega⟩
  generalize hR : some [V.bool r] = R
  rw [orc_deep, T_ferrymanref06_Fits, Option.bind_some, runDeep_eq]
  rw [ferrymanref06_Fits] at h
  rcases h1 : ferrymanref04_Fits q a0.Op with _ | r1
  · rw [h1] at h; cases h
  · rw [h1, Option.bind_some] at h
    replace h1 := run_ferrymanref04_Fits q (M + 7) (by omega) _ _ h1
    try simp only [Ow.enc, S_api_Op.enc, kn0, kn1, kn2, kn3, kn4, kn5, kn6, eq_self_iff_true, implies_true, forall_const, Int.cast_ofNat_Int, Nat.reduceEqDiff, Nat.reduceAdd, Nat.reduceSub, Nat.reduceMul, Nat.reduceLT, Nat.reduceLeDiff, Int.reduceEq, Int.reduceLT, Int.reduceLE, Int.reduceAdd, Int.reduceSub, Int.reduceMul, Int.reduceToNat, Int.reduceNeg, ↓reduceIte, reduceCtorEq] at h1
    rcases Classical.em (r1 = true) with h2 | h2
    · rw [if_pos h2] at h; have h2' := bt1 h2; replace h2 := eq_true h2
      rcases Classical.em (0 ≤ a0.Index) with h3 | h3
      · rw [if_pos h3] at h; replace h3 := eq_true h3
        rcases Classical.em (a0.Index < 4611686018427387904) with h4 | h4
        · rw [if_pos h4] at h; replace h4 := eq_true h4
          rcases Classical.em (0 ≤ a0.Seq) with h5 | h5
          · rw [if_pos h5] at h; replace h5 := eq_true h5
            rcases Classical.em (a0.Seq < 4611686018427387904) with h6 | h6
            · rw [if_pos h6] at h; replace h6 := eq_true h6
              rcases Classical.em (0 ≤ a0.Proc) with h7 | h7
              · rw [if_pos h7] at h; replace h7 := eq_true h7
                rcases Classical.em (a0.Proc ≤ 64) with h8 | h8
                · rw [if_pos h8] at h; replace h8 := eq_true h8
                  rcases Classical.em ((-1125899906842624) ≤ a0.Resp) with h9 | h9
                  · rw [if_pos h9] at h; replace h9 := eq_true h9
                    cases h; subst hR; simp (maxDischargeDepth := 12) only [kk0, kk1, kk2, kk3, kk4, kk5, kk6, kk7, kk8, kk9, kk10, kk11, kk12, kk13, kk14, kk15, kk16, kn0, kn1, kn2, kn3, kn4, kn5, kn6, eq_self_iff_true, implies_true, forall_const, Int.cast_ofNat_Int, Nat.reduceEqDiff, Nat.reduceAdd, Nat.reduceSub, Nat.reduceMul, Nat.reduceLT, Nat.reduceLeDiff, Int.reduceEq, Int.reduceLT, Int.reduceLE, Int.reduceAdd, Int.reduceSub, Int.reduceMul, Int.reduceToNat, Int.reduceNeg, ↓reduceIte, reduceCtorEq, L_ferrymanref06_Fits, v_ferrymanref04_Fits, Ow.enc, S_api_Op.enc, S_api_Record.enc, Sl.enc, rr_ferrymanref06_Fits, ro_ferrymanref06_Fits, b0_ferrymanref06_Fits, *]
                  · rw [if_neg h9] at h; replace h9 := eq_false h9
                    cases h; subst hR; simp (maxDischargeDepth := 12) only [kk0, kk1, kk2, kk3, kk4, kk5, kk6, kk7, kk8, kk9, kk10, kk11, kk12, kk13, kk14, kk15, kk16, kn0, kn1, kn2, kn3, kn4, kn5, kn6, eq_self_iff_true, implies_true, forall_const, Int.cast_ofNat_Int, Nat.reduceEqDiff, Nat.reduceAdd, Nat.reduceSub, Nat.reduceMul, Nat.reduceLT, Nat.reduceLeDiff, Int.reduceEq, Int.reduceLT, Int.reduceLE, Int.reduceAdd, Int.reduceSub, Int.reduceMul, Int.reduceToNat, Int.reduceNeg, ↓reduceIte, reduceCtorEq, L_ferrymanref06_Fits, v_ferrymanref04_Fits, Ow.enc, S_api_Op.enc, S_api_Record.enc, Sl.enc, rr_ferrymanref06_Fits, ro_ferrymanref06_Fits, b0_ferrymanref06_Fits, *]
                · rw [if_neg h8] at h; replace h8 := eq_false h8
                  cases h; subst hR; simp (maxDischargeDepth := 12) only [kk0, kk1, kk2, kk3, kk4, kk5, kk6, kk7, kk8, kk9, kk10, kk11, kk12, kk13, kk14, kk15, kk16, kn0, kn1, kn2, kn3, kn4, kn5, kn6, eq_self_iff_true, implies_true, forall_const, Int.cast_ofNat_Int, Nat.reduceEqDiff, Nat.reduceAdd, Nat.reduceSub, Nat.reduceMul, Nat.reduceLT, Nat.reduceLeDiff, Int.reduceEq, Int.reduceLT, Int.reduceLE, Int.reduceAdd, Int.reduceSub, Int.reduceMul, Int.reduceToNat, Int.reduceNeg, ↓reduceIte, reduceCtorEq, L_ferrymanref06_Fits, v_ferrymanref04_Fits, Ow.enc, S_api_Op.enc, S_api_Record.enc, Sl.enc, rr_ferrymanref06_Fits, ro_ferrymanref06_Fits, b0_ferrymanref06_Fits, *]
              · rw [if_neg h7] at h; replace h7 := eq_false h7
                cases h; subst hR; simp (maxDischargeDepth := 12) only [kk0, kk1, kk2, kk3, kk4, kk5, kk6, kk7, kk8, kk9, kk10, kk11, kk12, kk13, kk14, kk15, kk16, kn0, kn1, kn2, kn3, kn4, kn5, kn6, eq_self_iff_true, implies_true, forall_const, Int.cast_ofNat_Int, Nat.reduceEqDiff, Nat.reduceAdd, Nat.reduceSub, Nat.reduceMul, Nat.reduceLT, Nat.reduceLeDiff, Int.reduceEq, Int.reduceLT, Int.reduceLE, Int.reduceAdd, Int.reduceSub, Int.reduceMul, Int.reduceToNat, Int.reduceNeg, ↓reduceIte, reduceCtorEq, L_ferrymanref06_Fits, v_ferrymanref04_Fits, Ow.enc, S_api_Op.enc, S_api_Record.enc, Sl.enc, rr_ferrymanref06_Fits, ro_ferrymanref06_Fits, b0_ferrymanref06_Fits, *]
            · rw [if_neg h6] at h; replace h6 := eq_false h6
              cases h; subst hR; simp (maxDischargeDepth := 12) only [kk0, kk1, kk2, kk3, kk4, kk5, kk6, kk7, kk8, kk9, kk10, kk11, kk12, kk13, kk14, kk15, kk16, kn0, kn1, kn2, kn3, kn4, kn5, kn6, eq_self_iff_true, implies_true, forall_const, Int.cast_ofNat_Int, Nat.reduceEqDiff, Nat.reduceAdd, Nat.reduceSub, Nat.reduceMul, Nat.reduceLT, Nat.reduceLeDiff, Int.reduceEq, Int.reduceLT, Int.reduceLE, Int.reduceAdd, Int.reduceSub, Int.reduceMul, Int.reduceToNat, Int.reduceNeg, ↓reduceIte, reduceCtorEq, L_ferrymanref06_Fits, v_ferrymanref04_Fits, Ow.enc, S_api_Op.enc, S_api_Record.enc, Sl.enc, rr_ferrymanref06_Fits, ro_ferrymanref06_Fits, b0_ferrymanref06_Fits, *]
          · rw [if_neg h5] at h; replace h5 := eq_false h5
            cases h; subst hR; simp (maxDischargeDepth := 12) only [kk0, kk1, kk2, kk3, kk4, kk5, kk6, kk7, kk8, kk9, kk10, kk11, kk12, kk13, kk14, kk15, kk16, kn0, kn1, kn2, kn3, kn4, kn5, kn6, eq_self_iff_true, implies_true, forall_const, Int.cast_ofNat_Int, Nat.reduceEqDiff, Nat.reduceAdd, Nat.reduceSub, Nat.reduceMul, Nat.reduceLT, Nat.reduceLeDiff, Int.reduceEq, Int.reduceLT, Int.reduceLE, Int.reduceAdd, Int.reduceSub, Int.reduceMul, Int.reduceToNat, Int.reduceNeg, ↓reduceIte, reduceCtorEq, L_ferrymanref06_Fits, v_ferrymanref04_Fits, Ow.enc, S_api_Op.enc, S_api_Record.enc, Sl.enc, rr_ferrymanref06_Fits, ro_ferrymanref06_Fits, b0_ferrymanref06_Fits, *]
        · rw [if_neg h4] at h; replace h4 := eq_false h4
          cases h; subst hR; simp (maxDischargeDepth := 12) only [kk0, kk1, kk2, kk3, kk4, kk5, kk6, kk7, kk8, kk9, kk10, kk11, kk12, kk13, kk14, kk15, kk16, kn0, kn1, kn2, kn3, kn4, kn5, kn6, eq_self_iff_true, implies_true, forall_const, Int.cast_ofNat_Int, Nat.reduceEqDiff, Nat.reduceAdd, Nat.reduceSub, Nat.reduceMul, Nat.reduceLT, Nat.reduceLeDiff, Int.reduceEq, Int.reduceLT, Int.reduceLE, Int.reduceAdd, Int.reduceSub, Int.reduceMul, Int.reduceToNat, Int.reduceNeg, ↓reduceIte, reduceCtorEq, L_ferrymanref06_Fits, v_ferrymanref04_Fits, Ow.enc, S_api_Op.enc, S_api_Record.enc, Sl.enc, rr_ferrymanref06_Fits, ro_ferrymanref06_Fits, b0_ferrymanref06_Fits, *]
      · rw [if_neg h3] at h; replace h3 := eq_false h3
        cases h; subst hR; simp (maxDischargeDepth := 12) only [kk0, kk1, kk2, kk3, kk4, kk5, kk6, kk7, kk8, kk9, kk10, kk11, kk12, kk13, kk14, kk15, kk16, kn0, kn1, kn2, kn3, kn4, kn5, kn6, eq_self_iff_true, implies_true, forall_const, Int.cast_ofNat_Int, Nat.reduceEqDiff, Nat.reduceAdd, Nat.reduceSub, Nat.reduceMul, Nat.reduceLT, Nat.reduceLeDiff, Int.reduceEq, Int.reduceLT, Int.reduceLE, Int.reduceAdd, Int.reduceSub, Int.reduceMul, Int.reduceToNat, Int.reduceNeg, ↓reduceIte, reduceCtorEq, L_ferrymanref06_Fits, v_ferrymanref04_Fits, Ow.enc, S_api_Op.enc, S_api_Record.enc, Sl.enc, rr_ferrymanref06_Fits, ro_ferrymanref06_Fits, b0_ferrymanref06_Fits, *]
    · rw [if_neg h2] at h; have h2' := bt0 h2; replace h2 := eq_false h2
      cases h; subst hR; simp (maxDischargeDepth := 12) only [kk0, kk1, kk2, kk3, kk4, kk5, kk6, kk7, kk8, kk9, kk10, kk11, kk12, kk13, kk14, kk15, kk16, kn0, kn1, kn2, kn3, kn4, kn5, kn6, eq_self_iff_true, implies_true, forall_const, Int.cast_ofNat_Int, Nat.reduceEqDiff, Nat.reduceAdd, Nat.reduceSub, Nat.reduceMul, Nat.reduceLT, Nat.reduceLeDiff, Int.reduceEq, Int.reduceLT, Int.reduceLE, Int.reduceAdd, Int.reduceSub, Int.reduceMul, Int.reduceToNat, Int.reduceNeg, ↓reduceIte, reduceCtorEq, L_ferrymanref06_Fits, v_ferrymanref04_Fits, Ow.enc, S_api_Op.enc, S_api_Record.enc, Sl.enc, rr_ferrymanref06_Fits, ro_ferrymanref06_Fits, b0_ferrymanref06_Fits, *]
end Go.Dvm.C
