/- The machine comes to these answers: part 3. -/
import Derived.Test.YtnmceljcgioomaaQl0
import Derived.Test.YtnmceljcgioomaaQr0
import Derived.Test.YtnmceljcgioomaaQr1
set_option linter.all false
set_option maxRecDepth 100000
set_option maxHeartbeats 4000000
namespace Go.Dvm.C
open Go Go.Dvm Go.Dvm.I
def St_ferrymanref06_Decode_l0 (q : Nat) : Prop := ∀ (M : Nat) (hM : 8 * q ≤ M) (j : Nat) (hj : q ≤ j) (v0z : Bool) (v0l : List Int) (v5 : Int) (v6 : Int) (v8 : Int) (v9 : Int) (h2_0 : Int) (h2_1 : Int) (h2_2 : Int) (h2_3 : Int) (h2_4 : Int) (h2_5 : Int) (h2_6 : Int) (r : S_api_Record × Int) (_ : ferrymanref06_Decode_l0 q v0z v0l v5 v6 v8 v9 h2_0 h2_1 h2_2 h2_3 h2_4 h2_5 h2_6 = some r) (R : Option (List V)) (_ : some [S_api_Record.enc r.1, (V.int .i64) r.2] = R) (fr : Fr) (H : Hp) (_ : canon 0 [0, 2, 4, 5, 6, 7, 8, 9] fr H = ([(0, (.sl v0z (List.map (V.int .u8) v0l))), (2, (.ptr 0 0)), (4, (.ptr 1 0)), (5, (.int .i64 v5)), (6, (.int .i64 v6)), (7, (.ptr 2 0)), (8, (.int .i64 v8)), (9, (.int .i64 v9))], [(.box [(.int .i64 0), (.int .i64 0), (.int .i64 0), (.int .i64 0), (.int .i64 0), (.int .i64 0), (.int .i64 0)]), (.box [(.int .i64 0), (.int .i64 0), (.int .i64 0), (.int .i64 0), (.int .i64 0), (.int .i64 0), (.int .i64 0)]), (.box [(.int .i64 h2_0), (.int .i64 h2_1), (.int .i64 h2_2), (.int .i64 h2_3), (.int .i64 h2_4), (.int .i64 h2_5), (.int .i64 h2_6)])])), fin m_ferrymanref06_Decode (unw T (orc T (M + 7)) (M + 7) 0 [.blk 0, .code c_ferrymanref06_Decode_68] (iter 0 [0, 2, 4, 5, 6, 7, 8, 9] (exec T (orc T (M + 7)) (M + 7) 0 c_ferrymanref06_Decode_56) j fr H)) = R
theorem step_ferrymanref06_Decode_l0 (q : Nat) (ih_ferrymanref06_Decode_l0 : St_ferrymanref06_Decode_l0 q) : St_ferrymanref06_Decode_l0 (q + 1) := by
  intro M hM j hj v0z v0l v5 v6 v8 v9 h2_0 h2_1 h2_2 h2_3 h2_4 h2_5 h2_6 r h R hR fr H hc
  obtain ⟨j, rfl⟩ : ∃ i, j = i + 1 := ⟨j - 1, by omega⟩
  rw [unw_iter, hc]; clear hc
  rw [ferrymanref06_Decode_l0] at h
  rcases Classical.em (v6 < (v0l.length : Int)) with h1 | h1
  · rw [if_pos h1] at h; replace h1 := eq_true h1
    rcases Classical.em (0 ≤ v6) with h2 | h2
    · rw [if_pos h2] at h; replace h2 := eq_true h2
      rcases Classical.em (v6 ≤ (v0l.length : Int)) with h3 | h3
      · rw [if_pos h3] at h; replace h3 := eq_true h3
        rcases h4 : ferrymanref01_Get q ⟨v0z, (List.drop v6.toNat v0l)⟩ with _ | r2
        · rw [h4] at h; cases h
        · rw [h4, Option.bind_some] at h
          replace h4 := run_ferrymanref01_Get q (M + 7) (by omega) _ _ h4
          try simp only [Ow.enc, Sl.enc, kn0, kn1, kn2, kn3, kn4, kn5, kn6, eq_self_iff_true, implies_true, forall_const, Int.cast_ofNat_Int, Nat.reduceEqDiff, Nat.reduceAdd, Nat.reduceSub, Nat.reduceMul, Nat.reduceLT, Nat.reduceLeDiff, Int.reduceEq, Int.reduceLT, Int.reduceLE, Int.reduceAdd, Int.reduceSub, Int.reduceMul, Int.reduceToNat, Int.reduceNeg, ↓reduceIte, reduceCtorEq] at h4
          rcases Classical.em (r2.2 = 0) with h5 | h5
          · rw [if_pos h5] at h; replace h5 := eq_true h5
            cases h; subst hR; simp (maxDischargeDepth := 12) only [kk0, kk1, kk2, kk3, kk4, kk5, kk6, kk7, kk8, kk9, kk10, kk11, kk12, kk13, kk14, kk15, kk16, kn0, kn1, kn2, kn3, kn4, kn5, kn6, eq_self_iff_true, implies_true, forall_const, Int.cast_ofNat_Int, Nat.reduceEqDiff, Nat.reduceAdd, Nat.reduceSub, Nat.reduceMul, Nat.reduceLT, Nat.reduceLeDiff, Int.reduceEq, Int.reduceLT, Int.reduceLE, Int.reduceAdd, Int.reduceSub, Int.reduceMul, Int.reduceToNat, Int.reduceNeg, ↓reduceIte, reduceCtorEq, L_ferrymanref06_Decode, v_ferrymanref06_Fits, v_ferrymanref06_has, v_ferrymanref01_Get, v_ferrymanref06_value, Ow.enc, S_api_Op.enc, S_api_Record.enc, Sl.enc, rr_ferrymanref06_Decode, ro_ferrymanref06_Decode, b0_ferrymanref06_Decode, *]
          · rw [if_neg h5] at h; replace h5 := eq_false h5
            rcases Classical.em (r2.1 ≤ v8) with h6 | h6
            · rw [if_pos h6] at h; replace h6 := eq_true h6
              cases h; subst hR; simp (maxDischargeDepth := 12) only [kk0, kk1, kk2, kk3, kk4, kk5, kk6, kk7, kk8, kk9, kk10, kk11, kk12, kk13, kk14, kk15, kk16, kn0, kn1, kn2, kn3, kn4, kn5, kn6, eq_self_iff_true, implies_true, forall_const, Int.cast_ofNat_Int, Nat.reduceEqDiff, Nat.reduceAdd, Nat.reduceSub, Nat.reduceMul, Nat.reduceLT, Nat.reduceLeDiff, Int.reduceEq, Int.reduceLT, Int.reduceLE, Int.reduceAdd, Int.reduceSub, Int.reduceMul, Int.reduceToNat, Int.reduceNeg, ↓reduceIte, reduceCtorEq, L_ferrymanref06_Decode, v_ferrymanref06_Fits, v_ferrymanref06_has, v_ferrymanref01_Get, v_ferrymanref06_value, Ow.enc, S_api_Op.enc, S_api_Record.enc, Sl.enc, rr_ferrymanref06_Decode, ro_ferrymanref06_Decode, b0_ferrymanref06_Decode, *]
            · rw [if_neg h6] at h; replace h6 := eq_false h6
              rcases h7 : ferrymanref06_has q v5 r2.1 with _ | r3
              · rw [h7] at h; cases h
              · rw [h7, Option.bind_some] at h
                replace h7 := run_ferrymanref06_has q (M + 7) (by omega) _ _ _ h7
                skip
                rcases Classical.em (r3 = true) with h8 | h8
                · rw [if_pos h8] at h; have h8' := bt1 h8; replace h8 := eq_true h8
                  rcases Classical.em (0 ≤ (wrp .i64 (v6 + r2.2))) with h9 | h9
                  · rw [if_pos h9] at h; replace h9 := eq_true h9
                    try simp only [kn0, kn1, kn2, kn3, kn4, kn5, kn6, eq_self_iff_true, implies_true, forall_const, Int.cast_ofNat_Int, Nat.reduceEqDiff, Nat.reduceAdd, Nat.reduceSub, Nat.reduceMul, Nat.reduceLT, Nat.reduceLeDiff, Int.reduceEq, Int.reduceLT, Int.reduceLE, Int.reduceAdd, Int.reduceSub, Int.reduceMul, Int.reduceToNat, Int.reduceNeg, ↓reduceIte, reduceCtorEq] at h9
                    rcases Classical.em ((wrp .i64 (v6 + r2.2)) ≤ (v0l.length : Int)) with h10 | h10
                    · rw [if_pos h10] at h; replace h10 := eq_true h10
                      try simp only [kn0, kn1, kn2, kn3, kn4, kn5, kn6, eq_self_iff_true, implies_true, forall_const, Int.cast_ofNat_Int, Nat.reduceEqDiff, Nat.reduceAdd, Nat.reduceSub, Nat.reduceMul, Nat.reduceLT, Nat.reduceLeDiff, Int.reduceEq, Int.reduceLT, Int.reduceLE, Int.reduceAdd, Int.reduceSub, Int.reduceMul, Int.reduceToNat, Int.reduceNeg, ↓reduceIte, reduceCtorEq] at h10
                      rcases h11 : ferrymanref06_value q (⟨h2_0, h2_1, h2_2, (⟨h2_3, h2_4, h2_5⟩ : S_api_Op), h2_6⟩ : S_api_Record) r2.1 ⟨v0z, (List.drop ((wrp .i64 (v6 + r2.2)).toNat) v0l)⟩ with _ | r4
                      · rw [h11] at h; cases h
                      · rw [h11, Option.bind_some] at h
                        replace h11 := run_ferrymanref06_value q (M + 7) (by omega) _ _ _ _ h11
                        try simp only [Ow.enc, S_api_Op.enc, S_api_Record.enc, Sl.enc, kn0, kn1, kn2, kn3, kn4, kn5, kn6, eq_self_iff_true, implies_true, forall_const, Int.cast_ofNat_Int, Nat.reduceEqDiff, Nat.reduceAdd, Nat.reduceSub, Nat.reduceMul, Nat.reduceLT, Nat.reduceLeDiff, Int.reduceEq, Int.reduceLT, Int.reduceLE, Int.reduceAdd, Int.reduceSub, Int.reduceMul, Int.reduceToNat, Int.reduceNeg, ↓reduceIte, reduceCtorEq] at h11
                        rcases Classical.em (r4.2 = 0) with h12 | h12
                        · rw [if_pos h12] at h; replace h12 := eq_true h12
                          cases h; subst hR; simp (maxDischargeDepth := 12) only [kk0, kk1, kk2, kk3, kk4, kk5, kk6, kk7, kk8, kk9, kk10, kk11, kk12, kk13, kk14, kk15, kk16, kn0, kn1, kn2, kn3, kn4, kn5, kn6, eq_self_iff_true, implies_true, forall_const, Int.cast_ofNat_Int, Nat.reduceEqDiff, Nat.reduceAdd, Nat.reduceSub, Nat.reduceMul, Nat.reduceLT, Nat.reduceLeDiff, Int.reduceEq, Int.reduceLT, Int.reduceLE, Int.reduceAdd, Int.reduceSub, Int.reduceMul, Int.reduceToNat, Int.reduceNeg, ↓reduceIte, reduceCtorEq, L_ferrymanref06_Decode, v_ferrymanref06_Fits, v_ferrymanref06_has, v_ferrymanref01_Get, v_ferrymanref06_value, Ow.enc, S_api_Op.enc, S_api_Record.enc, Sl.enc, rr_ferrymanref06_Decode, ro_ferrymanref06_Decode, b0_ferrymanref06_Decode, *]
                        · rw [if_neg h12] at h; replace h12 := eq_false h12
                          replace h := ih_ferrymanref06_Decode_l0 M (by omega) j (by omega) _ _ _ _ _ _ _ _ _ _ _ _ _ _ h R hR
                          simp (maxDischargeDepth := 12) only [kk0, kk1, kk2, kk3, kk4, kk5, kk6, kk7, kk8, kk9, kk10, kk11, kk12, kk13, kk14, kk15, kk16, kn0, kn1, kn2, kn3, kn4, kn5, kn6, eq_self_iff_true, implies_true, forall_const, Int.cast_ofNat_Int, Nat.reduceEqDiff, Nat.reduceAdd, Nat.reduceSub, Nat.reduceMul, Nat.reduceLT, Nat.reduceLeDiff, Int.reduceEq, Int.reduceLT, Int.reduceLE, Int.reduceAdd, Int.reduceSub, Int.reduceMul, Int.reduceToNat, Int.reduceNeg, ↓reduceIte, reduceCtorEq, L_ferrymanref06_Decode, v_ferrymanref06_Fits, v_ferrymanref06_has, v_ferrymanref01_Get, v_ferrymanref06_value, Ow.enc, S_api_Op.enc, S_api_Record.enc, Sl.enc, rr_ferrymanref06_Decode, ro_ferrymanref06_Decode, b0_ferrymanref06_Decode, *]
                    · rw [if_neg h10] at h; replace h10 := eq_false h10
                      try simp only [kn0, kn1, kn2, kn3, kn4, kn5, kn6, eq_self_iff_true, implies_true, forall_const, Int.cast_ofNat_Int, Nat.reduceEqDiff, Nat.reduceAdd, Nat.reduceSub, Nat.reduceMul, Nat.reduceLT, Nat.reduceLeDiff, Int.reduceEq, Int.reduceLT, Int.reduceLE, Int.reduceAdd, Int.reduceSub, Int.reduceMul, Int.reduceToNat, Int.reduceNeg, ↓reduceIte, reduceCtorEq] at h10
                      cases h
                  · rw [if_neg h9] at h; replace h9 := eq_false h9
                    try simp only [kn0, kn1, kn2, kn3, kn4, kn5, kn6, eq_self_iff_true, implies_true, forall_const, Int.cast_ofNat_Int, Nat.reduceEqDiff, Nat.reduceAdd, Nat.reduceSub, Nat.reduceMul, Nat.reduceLT, Nat.reduceLeDiff, Int.reduceEq, Int.reduceLT, Int.reduceLE, Int.reduceAdd, Int.reduceSub, Int.reduceMul, Int.reduceToNat, Int.reduceNeg, ↓reduceIte, reduceCtorEq] at h9
                    cases h
                · rw [if_neg h8] at h; have h8' := bt0 h8; replace h8 := eq_false h8
                  rcases Classical.em (r2.1 < 16) with h13 | h13
                  · rw [if_pos h13] at h; replace h13 := eq_true h13
                    cases h; subst hR; simp (maxDischargeDepth := 12) only [kk0, kk1, kk2, kk3, kk4, kk5, kk6, kk7, kk8, kk9, kk10, kk11, kk12, kk13, kk14, kk15, kk16, kn0, kn1, kn2, kn3, kn4, kn5, kn6, eq_self_iff_true, implies_true, forall_const, Int.cast_ofNat_Int, Nat.reduceEqDiff, Nat.reduceAdd, Nat.reduceSub, Nat.reduceMul, Nat.reduceLT, Nat.reduceLeDiff, Int.reduceEq, Int.reduceLT, Int.reduceLE, Int.reduceAdd, Int.reduceSub, Int.reduceMul, Int.reduceToNat, Int.reduceNeg, ↓reduceIte, reduceCtorEq, L_ferrymanref06_Decode, v_ferrymanref06_Fits, v_ferrymanref06_has, v_ferrymanref01_Get, v_ferrymanref06_value, Ow.enc, S_api_Op.enc, S_api_Record.enc, Sl.enc, rr_ferrymanref06_Decode, ro_ferrymanref06_Decode, b0_ferrymanref06_Decode, *]
                  · rw [if_neg h13] at h; replace h13 := eq_false h13
                    rcases Classical.em (v5 = 3) with h14 | h14
                    · rw [if_pos h14] at h; replace h14 := eq_true h14
                      cases h; subst hR; simp (maxDischargeDepth := 12) only [kk0, kk1, kk2, kk3, kk4, kk5, kk6, kk7, kk8, kk9, kk10, kk11, kk12, kk13, kk14, kk15, kk16, kn0, kn1, kn2, kn3, kn4, kn5, kn6, eq_self_iff_true, implies_true, forall_const, Int.cast_ofNat_Int, Nat.reduceEqDiff, Nat.reduceAdd, Nat.reduceSub, Nat.reduceMul, Nat.reduceLT, Nat.reduceLeDiff, Int.reduceEq, Int.reduceLT, Int.reduceLE, Int.reduceAdd, Int.reduceSub, Int.reduceMul, Int.reduceToNat, Int.reduceNeg, ↓reduceIte, reduceCtorEq, L_ferrymanref06_Decode, v_ferrymanref06_Fits, v_ferrymanref06_has, v_ferrymanref01_Get, v_ferrymanref06_value, Ow.enc, S_api_Op.enc, S_api_Record.enc, Sl.enc, rr_ferrymanref06_Decode, ro_ferrymanref06_Decode, b0_ferrymanref06_Decode, *]
                    · rw [if_neg h14] at h; replace h14 := eq_false h14
                      rcases Classical.em (0 ≤ (wrp .i64 (v6 + r2.2))) with h15 | h15
                      · rw [if_pos h15] at h; replace h15 := eq_true h15
                        try simp only [kn0, kn1, kn2, kn3, kn4, kn5, kn6, eq_self_iff_true, implies_true, forall_const, Int.cast_ofNat_Int, Nat.reduceEqDiff, Nat.reduceAdd, Nat.reduceSub, Nat.reduceMul, Nat.reduceLT, Nat.reduceLeDiff, Int.reduceEq, Int.reduceLT, Int.reduceLE, Int.reduceAdd, Int.reduceSub, Int.reduceMul, Int.reduceToNat, Int.reduceNeg, ↓reduceIte, reduceCtorEq] at h15
                        rcases Classical.em ((wrp .i64 (v6 + r2.2)) ≤ (v0l.length : Int)) with h16 | h16
                        · rw [if_pos h16] at h; replace h16 := eq_true h16
                          try simp only [kn0, kn1, kn2, kn3, kn4, kn5, kn6, eq_self_iff_true, implies_true, forall_const, Int.cast_ofNat_Int, Nat.reduceEqDiff, Nat.reduceAdd, Nat.reduceSub, Nat.reduceMul, Nat.reduceLT, Nat.reduceLeDiff, Int.reduceEq, Int.reduceLT, Int.reduceLE, Int.reduceAdd, Int.reduceSub, Int.reduceMul, Int.reduceToNat, Int.reduceNeg, ↓reduceIte, reduceCtorEq] at h16
                          rcases h17 : ferrymanref01_Get q ⟨v0z, (List.drop ((wrp .i64 (v6 + r2.2)).toNat) v0l)⟩ with _ | r5
                          · rw [h17] at h; cases h
                          · rw [h17, Option.bind_some] at h
                            replace h17 := run_ferrymanref01_Get q (M + 7) (by omega) _ _ h17
                            try simp only [Ow.enc, Sl.enc, kn0, kn1, kn2, kn3, kn4, kn5, kn6, eq_self_iff_true, implies_true, forall_const, Int.cast_ofNat_Int, Nat.reduceEqDiff, Nat.reduceAdd, Nat.reduceSub, Nat.reduceMul, Nat.reduceLT, Nat.reduceLeDiff, Int.reduceEq, Int.reduceLT, Int.reduceLE, Int.reduceAdd, Int.reduceSub, Int.reduceMul, Int.reduceToNat, Int.reduceNeg, ↓reduceIte, reduceCtorEq] at h17
                            rcases Classical.em (r5.2 = 0) with h18 | h18
                            · rw [if_pos h18] at h; replace h18 := eq_true h18
                              cases h; subst hR; simp (maxDischargeDepth := 12) only [kk0, kk1, kk2, kk3, kk4, kk5, kk6, kk7, kk8, kk9, kk10, kk11, kk12, kk13, kk14, kk15, kk16, kn0, kn1, kn2, kn3, kn4, kn5, kn6, eq_self_iff_true, implies_true, forall_const, Int.cast_ofNat_Int, Nat.reduceEqDiff, Nat.reduceAdd, Nat.reduceSub, Nat.reduceMul, Nat.reduceLT, Nat.reduceLeDiff, Int.reduceEq, Int.reduceLT, Int.reduceLE, Int.reduceAdd, Int.reduceSub, Int.reduceMul, Int.reduceToNat, Int.reduceNeg, ↓reduceIte, reduceCtorEq, L_ferrymanref06_Decode, v_ferrymanref06_Fits, v_ferrymanref06_has, v_ferrymanref01_Get, v_ferrymanref06_value, Ow.enc, S_api_Op.enc, S_api_Record.enc, Sl.enc, rr_ferrymanref06_Decode, ro_ferrymanref06_Decode, b0_ferrymanref06_Decode, *]
                            · rw [if_neg h18] at h; replace h18 := eq_false h18
                              rcases Classical.em ((wrp .i64 ((wrp .i64 ((v0l.length : Int) - (wrp .i64 (v6 + r2.2)))) - r5.2)) < r5.1) with h19 | h19
                              · rw [if_pos h19] at h; replace h19 := eq_true h19
                                try simp only [kn0, kn1, kn2, kn3, kn4, kn5, kn6, eq_self_iff_true, implies_true, forall_const, Int.cast_ofNat_Int, Nat.reduceEqDiff, Nat.reduceAdd, Nat.reduceSub, Nat.reduceMul, Nat.reduceLT, Nat.reduceLeDiff, Int.reduceEq, Int.reduceLT, Int.reduceLE, Int.reduceAdd, Int.reduceSub, Int.reduceMul, Int.reduceToNat, Int.reduceNeg, ↓reduceIte, reduceCtorEq] at h19
                                cases h; subst hR; simp (maxDischargeDepth := 12) only [kk0, kk1, kk2, kk3, kk4, kk5, kk6, kk7, kk8, kk9, kk10, kk11, kk12, kk13, kk14, kk15, kk16, kn0, kn1, kn2, kn3, kn4, kn5, kn6, eq_self_iff_true, implies_true, forall_const, Int.cast_ofNat_Int, Nat.reduceEqDiff, Nat.reduceAdd, Nat.reduceSub, Nat.reduceMul, Nat.reduceLT, Nat.reduceLeDiff, Int.reduceEq, Int.reduceLT, Int.reduceLE, Int.reduceAdd, Int.reduceSub, Int.reduceMul, Int.reduceToNat, Int.reduceNeg, ↓reduceIte, reduceCtorEq, L_ferrymanref06_Decode, v_ferrymanref06_Fits, v_ferrymanref06_has, v_ferrymanref01_Get, v_ferrymanref06_value, Ow.enc, S_api_Op.enc, S_api_Record.enc, Sl.enc, rr_ferrymanref06_Decode, ro_ferrymanref06_Decode, b0_ferrymanref06_Decode, *]
                              · rw [if_neg h19] at h; replace h19 := eq_false h19
                                try simp only [kn0, kn1, kn2, kn3, kn4, kn5, kn6, eq_self_iff_true, implies_true, forall_const, Int.cast_ofNat_Int, Nat.reduceEqDiff, Nat.reduceAdd, Nat.reduceSub, Nat.reduceMul, Nat.reduceLT, Nat.reduceLeDiff, Int.reduceEq, Int.reduceLT, Int.reduceLE, Int.reduceAdd, Int.reduceSub, Int.reduceMul, Int.reduceToNat, Int.reduceNeg, ↓reduceIte, reduceCtorEq] at h19
                                replace h := ih_ferrymanref06_Decode_l0 M (by omega) j (by omega) _ _ _ _ _ _ _ _ _ _ _ _ _ _ h R hR
                                simp (maxDischargeDepth := 12) only [kk0, kk1, kk2, kk3, kk4, kk5, kk6, kk7, kk8, kk9, kk10, kk11, kk12, kk13, kk14, kk15, kk16, kn0, kn1, kn2, kn3, kn4, kn5, kn6, eq_self_iff_true, implies_true, forall_const, Int.cast_ofNat_Int, Nat.reduceEqDiff, Nat.reduceAdd, Nat.reduceSub, Nat.reduceMul, Nat.reduceLT, Nat.reduceLeDiff, Int.reduceEq, Int.reduceLT, Int.reduceLE, Int.reduceAdd, Int.reduceSub, Int.reduceMul, Int.reduceToNat, Int.reduceNeg, ↓reduceIte, reduceCtorEq, L_ferrymanref06_Decode, v_ferrymanref06_Fits, v_ferrymanref06_has, v_ferrymanref01_Get, v_ferrymanref06_value, Ow.enc, S_api_Op.enc, S_api_Record.enc, Sl.enc, rr_ferrymanref06_Decode, ro_ferrymanref06_Decode, b0_ferrymanref06_Decode, *]
                        · rw [if_neg h16] at h; replace h16 := eq_false h16
                          try simp only [kn0, kn1, kn2, kn3, kn4, kn5, kn6, eq_self_iff_true, implies_true, forall_const, Int.cast_ofNat_Int, Nat.reduceEqDiff, Nat.reduceAdd, Nat.reduceSub, Nat.reduceMul, Nat.reduceLT, Nat.reduceLeDiff, Int.reduceEq, Int.reduceLT, Int.reduceLE, Int.reduceAdd, Int.reduceSub, Int.reduceMul, Int.reduceToNat, Int.reduceNeg, ↓reduceIte, reduceCtorEq] at h16
                          cases h
                      · rw [if_neg h15] at h; replace h15 := eq_false h15
                        try simp only [kn0, kn1, kn2, kn3, kn4, kn5, kn6, eq_self_iff_true, implies_true, forall_const, Int.cast_ofNat_Int, Nat.reduceEqDiff, Nat.reduceAdd, Nat.reduceSub, Nat.reduceMul, Nat.reduceLT, Nat.reduceLeDiff, Int.reduceEq, Int.reduceLT, Int.reduceLE, Int.reduceAdd, Int.reduceSub, Int.reduceMul, Int.reduceToNat, Int.reduceNeg, ↓reduceIte, reduceCtorEq] at h15
                        cases h
      · rw [if_neg h3] at h; replace h3 := eq_false h3
        cases h
    · rw [if_neg h2] at h; replace h2 := eq_false h2
      cases h
  · rw [if_neg h1] at h; replace h1 := eq_false h1
    rcases Classical.em (v9 = (wrp .i64 (v5 + 2))) with h20 | h20
    · rw [if_pos h20] at h; replace h20 := eq_true h20
      try simp only [kn0, kn1, kn2, kn3, kn4, kn5, kn6, eq_self_iff_true, implies_true, forall_const, Int.cast_ofNat_Int, Nat.reduceEqDiff, Nat.reduceAdd, Nat.reduceSub, Nat.reduceMul, Nat.reduceLT, Nat.reduceLeDiff, Int.reduceEq, Int.reduceLT, Int.reduceLE, Int.reduceAdd, Int.reduceSub, Int.reduceMul, Int.reduceToNat, Int.reduceNeg, ↓reduceIte, reduceCtorEq] at h20
      rcases h21 : ferrymanref06_Fits q (⟨h2_0, h2_1, h2_2, (⟨h2_3, h2_4, h2_5⟩ : S_api_Op), h2_6⟩ : S_api_Record) with _ | r6
      · rw [h21] at h; cases h
      · rw [h21, Option.bind_some] at h
        replace h21 := run_ferrymanref06_Fits q (M + 7) (by omega) _ _ h21
        try simp only [Ow.enc, S_api_Op.enc, S_api_Record.enc, kn0, kn1, kn2, kn3, kn4, kn5, kn6, eq_self_iff_true, implies_true, forall_const, Int.cast_ofNat_Int, Nat.reduceEqDiff, Nat.reduceAdd, Nat.reduceSub, Nat.reduceMul, Nat.reduceLT, Nat.reduceLeDiff, Int.reduceEq, Int.reduceLT, Int.reduceLE, Int.reduceAdd, Int.reduceSub, Int.reduceMul, Int.reduceToNat, Int.reduceNeg, ↓reduceIte, reduceCtorEq] at h21
        rcases Classical.em (r6 = true) with h22 | h22
        · rw [if_pos h22] at h; have h22' := bt1 h22; replace h22 := eq_true h22
          cases h; subst hR; simp (maxDischargeDepth := 12) only [kk0, kk1, kk2, kk3, kk4, kk5, kk6, kk7, kk8, kk9, kk10, kk11, kk12, kk13, kk14, kk15, kk16, kn0, kn1, kn2, kn3, kn4, kn5, kn6, eq_self_iff_true, implies_true, forall_const, Int.cast_ofNat_Int, Nat.reduceEqDiff, Nat.reduceAdd, Nat.reduceSub, Nat.reduceMul, Nat.reduceLT, Nat.reduceLeDiff, Int.reduceEq, Int.reduceLT, Int.reduceLE, Int.reduceAdd, Int.reduceSub, Int.reduceMul, Int.reduceToNat, Int.reduceNeg, ↓reduceIte, reduceCtorEq, L_ferrymanref06_Decode, v_ferrymanref06_Fits, v_ferrymanref06_has, v_ferrymanref01_Get, v_ferrymanref06_value, Ow.enc, S_api_Op.enc, S_api_Record.enc, Sl.enc, rr_ferrymanref06_Decode, ro_ferrymanref06_Decode, b0_ferrymanref06_Decode, *]
        · rw [if_neg h22] at h; have h22' := bt0 h22; replace h22 := eq_false h22
          cases h; subst hR; simp (maxDischargeDepth := 12) only [kk0, kk1, kk2, kk3, kk4, kk5, kk6, kk7, kk8, kk9, kk10, kk11, kk12, kk13, kk14, kk15, kk16, kn0, kn1, kn2, kn3, kn4, kn5, kn6, eq_self_iff_true, implies_true, forall_const, Int.cast_ofNat_Int, Nat.reduceEqDiff, Nat.reduceAdd, Nat.reduceSub, Nat.reduceMul, Nat.reduceLT, Nat.reduceLeDiff, Int.reduceEq, Int.reduceLT, Int.reduceLE, Int.reduceAdd, Int.reduceSub, Int.reduceMul, Int.reduceToNat, Int.reduceNeg, ↓reduceIte, reduceCtorEq, L_ferrymanref06_Decode, v_ferrymanref06_Fits, v_ferrymanref06_has, v_ferrymanref01_Get, v_ferrymanref06_value, Ow.enc, S_api_Op.enc, S_api_Record.enc, Sl.enc, rr_ferrymanref06_Decode, ro_ferrymanref06_Decode, b0_ferrymanref06_Decode, *]
    · rw [if_neg h20] at h; replace h20 := eq_false h20
      try simp only [kn0, kn1, kn2, kn3, kn4, kn5, kn6, eq_self_iff_true, implies_true, forall_const, Int.cast_ofNat_Int, Nat.reduceEqDiff, Nat.reduceAdd, Nat.reduceSub, Nat.reduceMul, Nat.reduceLT, Nat.reduceLeDiff, Int.reduceEq, Int.reduceLT, Int.reduceLE, Int.reduceAdd, Int.reduceSub, Int.reduceMul, Int.reduceToNat, Int.reduceNeg, ↓reduceIte, reduceCtorEq] at h20
      cases h; subst hR; simp (maxDischargeDepth := 12) only [kk0, kk1, kk2, kk3, kk4, kk5, kk6, kk7, kk8, kk9, kk10, kk11, kk12, kk13, kk14, kk15, kk16, kn0, kn1, kn2, kn3, kn4, kn5, kn6, eq_self_iff_true, implies_true, forall_const, Int.cast_ofNat_Int, Nat.reduceEqDiff, Nat.reduceAdd, Nat.reduceSub, Nat.reduceMul, Nat.reduceLT, Nat.reduceLeDiff, Int.reduceEq, Int.reduceLT, Int.reduceLE, Int.reduceAdd, Int.reduceSub, Int.reduceMul, Int.reduceToNat, Int.reduceNeg, ↓reduceIte, reduceCtorEq, L_ferrymanref06_Decode, v_ferrymanref06_Fits, v_ferrymanref06_has, v_ferrymanref01_Get, v_ferrymanref06_value, Ow.enc, S_api_Op.enc, S_api_Record.enc, Sl.enc, rr_ferrymanref06_Decode, ro_ferrymanref06_Decode, b0_ferrymanref06_Decode, *]
theorem all_ferrymanref06_Decode : ∀ q, St_ferrymanref06_Decode_l0 q
  | 0 => by intro M hM j hj; intros; rename_i h _ _ _ _ _; cases h
  | q + 1 => by have i0 := all_ferrymanref06_Decode q; exact step_ferrymanref06_Decode_l0 q i0
theorem run_ferrymanref06_Decode : ∀ (q N : Nat), 8 * q ≤ N → ∀ (a0 : (Sl Int)), ∀ (r : S_api_Record × Int), ferrymanref06_Decode q a0 = some r → (orc T N).deep F.ferrymanref06_Decode [(Sl.enc (V.int .u8)) a0] = some [S_api_Record.enc r.1, (V.int .i64) r.2] := by
  intro q N hM a0 r h
  rcases q with _ | q
  · cases h
  obtain ⟨M, rfl⟩ : ∃ M, N = M + 8 := ⟨N - 8, by omega⟩
  have ih_ferrymanref06_Decode_l0 := (all_ferrymanref06_Decode q)
  generalize hR : some [S_api_Record.enc r.1, (V.int .i64) r.2] = R
  rw [orc_deep, T_ferrymanref06_Decode, Option.bind_some, runDeep_eq]
  rw [ferrymanref06_Decode] at h
  rcases Classical.em ((a0.l.length : Int) = 0) with h1 | h1
  · rw [if_pos h1] at h; replace h1 := eq_true h1
    cases h; subst hR; simp (maxDischargeDepth := 12) only [kk0, kk1, kk2, kk3, kk4, kk5, kk6, kk7, kk8, kk9, kk10, kk11, kk12, kk13, kk14, kk15, kk16, kn0, kn1, kn2, kn3, kn4, kn5, kn6, eq_self_iff_true, implies_true, forall_const, Int.cast_ofNat_Int, Nat.reduceEqDiff, Nat.reduceAdd, Nat.reduceSub, Nat.reduceMul, Nat.reduceLT, Nat.reduceLeDiff, Int.reduceEq, Int.reduceLT, Int.reduceLE, Int.reduceAdd, Int.reduceSub, Int.reduceMul, Int.reduceToNat, Int.reduceNeg, ↓reduceIte, reduceCtorEq, L_ferrymanref06_Decode, v_ferrymanref06_Fits, v_ferrymanref06_has, v_ferrymanref01_Get, v_ferrymanref06_value, Ow.enc, S_api_Op.enc, S_api_Record.enc, Sl.enc, rr_ferrymanref06_Decode, ro_ferrymanref06_Decode, b0_ferrymanref06_Decode, *]
  · rw [if_neg h1] at h; replace h1 := eq_false h1
    rcases h2 : ferrymanref01_Get q a0 with _ | r1
    · rw [h2] at h; cases h
    · rw [h2, Option.bind_some] at h
      replace h2 := run_ferrymanref01_Get q (M + 7) (by omega) _ _ h2
      try simp only [Ow.enc, Sl.enc, kn0, kn1, kn2, kn3, kn4, kn5, kn6, eq_self_iff_true, implies_true, forall_const, Int.cast_ofNat_Int, Nat.reduceEqDiff, Nat.reduceAdd, Nat.reduceSub, Nat.reduceMul, Nat.reduceLT, Nat.reduceLeDiff, Int.reduceEq, Int.reduceLT, Int.reduceLE, Int.reduceAdd, Int.reduceSub, Int.reduceMul, Int.reduceToNat, Int.reduceNeg, ↓reduceIte, reduceCtorEq] at h2
      rcases Classical.em (r1.2 = 0) with h3 | h3
      · rw [if_pos h3] at h; replace h3 := eq_true h3
        cases h; subst hR; simp (maxDischargeDepth := 12) only [kk0, kk1, kk2, kk3, kk4, kk5, kk6, kk7, kk8, kk9, kk10, kk11, kk12, kk13, kk14, kk15, kk16, kn0, kn1, kn2, kn3, kn4, kn5, kn6, eq_self_iff_true, implies_true, forall_const, Int.cast_ofNat_Int, Nat.reduceEqDiff, Nat.reduceAdd, Nat.reduceSub, Nat.reduceMul, Nat.reduceLT, Nat.reduceLeDiff, Int.reduceEq, Int.reduceLT, Int.reduceLE, Int.reduceAdd, Int.reduceSub, Int.reduceMul, Int.reduceToNat, Int.reduceNeg, ↓reduceIte, reduceCtorEq, L_ferrymanref06_Decode, v_ferrymanref06_Fits, v_ferrymanref06_has, v_ferrymanref01_Get, v_ferrymanref06_value, Ow.enc, S_api_Op.enc, S_api_Record.enc, Sl.enc, rr_ferrymanref06_Decode, ro_ferrymanref06_Decode, b0_ferrymanref06_Decode, *]
      · rw [if_neg h3] at h; replace h3 := eq_false h3
        rcases Classical.em (r1.1 < 1) with h4 | h4
        · rw [if_pos h4] at h; replace h4 := eq_true h4
          cases h; subst hR; simp (maxDischargeDepth := 12) only [kk0, kk1, kk2, kk3, kk4, kk5, kk6, kk7, kk8, kk9, kk10, kk11, kk12, kk13, kk14, kk15, kk16, kn0, kn1, kn2, kn3, kn4, kn5, kn6, eq_self_iff_true, implies_true, forall_const, Int.cast_ofNat_Int, Nat.reduceEqDiff, Nat.reduceAdd, Nat.reduceSub, Nat.reduceMul, Nat.reduceLT, Nat.reduceLeDiff, Int.reduceEq, Int.reduceLT, Int.reduceLE, Int.reduceAdd, Int.reduceSub, Int.reduceMul, Int.reduceToNat, Int.reduceNeg, ↓reduceIte, reduceCtorEq, L_ferrymanref06_Decode, v_ferrymanref06_Fits, v_ferrymanref06_has, v_ferrymanref01_Get, v_ferrymanref06_value, Ow.enc, S_api_Op.enc, S_api_Record.enc, Sl.enc, rr_ferrymanref06_Decode, ro_ferrymanref06_Decode, b0_ferrymanref06_Decode, *]
        · rw [if_neg h4] at h; replace h4 := eq_false h4
          rcases Classical.em (3 < r1.1) with h5 | h5
          · rw [if_pos h5] at h; replace h5 := eq_true h5
            cases h; subst hR; simp (maxDischargeDepth := 12) only [kk0, kk1, kk2, kk3, kk4, kk5, kk6, kk7, kk8, kk9, kk10, kk11, kk12, kk13, kk14, kk15, kk16, kn0, kn1, kn2, kn3, kn4, kn5, kn6, eq_self_iff_true, implies_true, forall_const, Int.cast_ofNat_Int, Nat.reduceEqDiff, Nat.reduceAdd, Nat.reduceSub, Nat.reduceMul, Nat.reduceLT, Nat.reduceLeDiff, Int.reduceEq, Int.reduceLT, Int.reduceLE, Int.reduceAdd, Int.reduceSub, Int.reduceMul, Int.reduceToNat, Int.reduceNeg, ↓reduceIte, reduceCtorEq, L_ferrymanref06_Decode, v_ferrymanref06_Fits, v_ferrymanref06_has, v_ferrymanref01_Get, v_ferrymanref06_value, Ow.enc, S_api_Op.enc, S_api_Record.enc, Sl.enc, rr_ferrymanref06_Decode, ro_ferrymanref06_Decode, b0_ferrymanref06_Decode, *]
          · rw [if_neg h5] at h; replace h5 := eq_false h5
            replace h := ih_ferrymanref06_Decode_l0 M (by omega) (M + 7) (by omega) _ _ _ _ _ _ _ _ _ _ _ _ _ _ h R hR
            simp (maxDischargeDepth := 12) only [kk0, kk1, kk2, kk3, kk4, kk5, kk6, kk7, kk8, kk9, kk10, kk11, kk12, kk13, kk14, kk15, kk16, kn0, kn1, kn2, kn3, kn4, kn5, kn6, eq_self_iff_true, implies_true, forall_const, Int.cast_ofNat_Int, Nat.reduceEqDiff, Nat.reduceAdd, Nat.reduceSub, Nat.reduceMul, Nat.reduceLT, Nat.reduceLeDiff, Int.reduceEq, Int.reduceLT, Int.reduceLE, Int.reduceAdd, Int.reduceSub, Int.reduceMul, Int.reduceToNat, Int.reduceNeg, ↓reduceIte, reduceCtorEq, L_ferrymanref06_Decode, v_ferrymanref06_Fits, v_ferrymanref06_has, v_ferrymanref01_Get, v_ferrymanref06_value, Ow.enc, S_api_Op.enc, S_api_Record.enc, Sl.enc, rr_ferrymanref06_Decode, ro_ferrymanref06_Decode, b0_ferrymanref06_Decode, *]
theorem run_ferrymanlaw06_SchemaDecodes : ∀ (q N : Nat), 8 * q ≤ N → ∀ (a0 : (Sl Int)), ∀ (r : Bool), ferrymanlaw06_SchemaDecodes q a0 = some r → (orc T N).deep F.ferrymanlaw06_SchemaDecodes [(Sl.enc (V.int .u8)) a0] = some [V.bool r] := by
  intro q N hM a0 r h
  rcases q with _ | q
  · cases h
  obtain ⟨M, rfl⟩ : ∃ M, N = M + 8 := ⟨N - 8, by omega⟩
  generalize hR : some [V.bool r] = R
  rw [orc_deep, T_ferrymanlaw06_SchemaDecodes, Option.bind_some, runDeep_eq]
  rw [ferrymanlaw06_SchemaDecodes] at h
  rcases h1 : ferrymanlaw06_awake q with _ | r1
  · rw [h1] at h; cases h
  · rw [h1, Option.bind_some] at h
    replace h1 := run_ferrymanlaw06_awake q (M + 7) (by omega)  _ h1
    skip
    rcases Classical.em (3000 < (a0.l.length : Int)) with h2 | h2
    · rw [if_pos h2] at h; replace h2 := eq_true h2
      cases h; subst hR; simp (maxDischargeDepth := 12) only [kk0, kk1, kk2, kk3, kk4, kk5, kk6, kk7, kk8, kk9, kk10, kk11, kk12, kk13, kk14, kk15, kk16, kn0, kn1, kn2, kn3, kn4, kn5, kn6, eq_self_iff_true, implies_true, forall_const, Int.cast_ofNat_Int, Nat.reduceEqDiff, Nat.reduceAdd, Nat.reduceSub, Nat.reduceMul, Nat.reduceLT, Nat.reduceLeDiff, Int.reduceEq, Int.reduceLT, Int.reduceLE, Int.reduceAdd, Int.reduceSub, Int.reduceMul, Int.reduceToNat, Int.reduceNeg, ↓reduceIte, reduceCtorEq, L_ferrymanlaw06_SchemaDecodes, v_ferrymanlaw06_awake, v_schema_Decode, v_ferrymanref06_Decode, Ow.enc, S_api_Op.enc, S_api_Record.enc, Sl.enc, rr_ferrymanlaw06_SchemaDecodes, ro_ferrymanlaw06_SchemaDecodes, b0_ferrymanlaw06_SchemaDecodes, *]
    · rw [if_neg h2] at h; replace h2 := eq_false h2
      rcases h3 : schema_Decode q a0 with _ | r2
      · rw [h3] at h; cases h
      · rw [h3, Option.bind_some] at h
        replace h3 := run_schema_Decode q (M + 7) (by omega) _ _ h3
        try simp only [Ow.enc, S_api_Op.enc, S_api_Record.enc, Sl.enc, kn0, kn1, kn2, kn3, kn4, kn5, kn6, eq_self_iff_true, implies_true, forall_const, Int.cast_ofNat_Int, Nat.reduceEqDiff, Nat.reduceAdd, Nat.reduceSub, Nat.reduceMul, Nat.reduceLT, Nat.reduceLeDiff, Int.reduceEq, Int.reduceLT, Int.reduceLE, Int.reduceAdd, Int.reduceSub, Int.reduceMul, Int.reduceToNat, Int.reduceNeg, ↓reduceIte, reduceCtorEq] at h3
        rcases h4 : ferrymanref06_Decode q a0 with _ | r3
        · rw [h4] at h; cases h
        · rw [h4, Option.bind_some] at h
          replace h4 := run_ferrymanref06_Decode q (M + 7) (by omega) _ _ h4
          try simp only [Ow.enc, S_api_Op.enc, S_api_Record.enc, Sl.enc, kn0, kn1, kn2, kn3, kn4, kn5, kn6, eq_self_iff_true, implies_true, forall_const, Int.cast_ofNat_Int, Nat.reduceEqDiff, Nat.reduceAdd, Nat.reduceSub, Nat.reduceMul, Nat.reduceLT, Nat.reduceLeDiff, Int.reduceEq, Int.reduceLT, Int.reduceLE, Int.reduceAdd, Int.reduceSub, Int.reduceMul, Int.reduceToNat, Int.reduceNeg, ↓reduceIte, reduceCtorEq] at h4
          rcases Classical.em (r1 = true) with h5 | h5
          · rw [if_pos h5] at h; have h5' := bt1 h5; replace h5 := eq_true h5
            rcases Classical.em (r2.1.Index = r3.1.Index) with h6 | h6
            · rw [if_pos h6] at h; replace h6 := eq_true h6
              rcases Classical.em (r2.1.Proc = r3.1.Proc) with h7 | h7
              · rw [if_pos h7] at h; replace h7 := eq_true h7
                rcases Classical.em (r2.1.Seq = r3.1.Seq) with h8 | h8
                · rw [if_pos h8] at h; replace h8 := eq_true h8
                  rcases Classical.em (r2.1.Op.Code = r3.1.Op.Code) with h9 | h9
                  · rw [if_pos h9] at h; replace h9 := eq_true h9
                    rcases Classical.em (r2.1.Op.A = r3.1.Op.A) with h10 | h10
                    · rw [if_pos h10] at h; replace h10 := eq_true h10
                      rcases Classical.em (r2.1.Op.B = r3.1.Op.B) with h11 | h11
                      · rw [if_pos h11] at h; replace h11 := eq_true h11
                        rcases Classical.em (r2.1.Resp = r3.1.Resp) with h12 | h12
                        · rw [if_pos h12] at h; replace h12 := eq_true h12
                          cases h; subst hR; simp (maxDischargeDepth := 12) only [kk0, kk1, kk2, kk3, kk4, kk5, kk6, kk7, kk8, kk9, kk10, kk11, kk12, kk13, kk14, kk15, kk16, kn0, kn1, kn2, kn3, kn4, kn5, kn6, eq_self_iff_true, implies_true, forall_const, Int.cast_ofNat_Int, Nat.reduceEqDiff, Nat.reduceAdd, Nat.reduceSub, Nat.reduceMul, Nat.reduceLT, Nat.reduceLeDiff, Int.reduceEq, Int.reduceLT, Int.reduceLE, Int.reduceAdd, Int.reduceSub, Int.reduceMul, Int.reduceToNat, Int.reduceNeg, ↓reduceIte, reduceCtorEq, L_ferrymanlaw06_SchemaDecodes, v_ferrymanlaw06_awake, v_schema_Decode, v_ferrymanref06_Decode, Ow.enc, S_api_Op.enc, S_api_Record.enc, Sl.enc, rr_ferrymanlaw06_SchemaDecodes, ro_ferrymanlaw06_SchemaDecodes, b0_ferrymanlaw06_SchemaDecodes, *]
                        · rw [if_neg h12] at h; replace h12 := eq_false h12
                          cases h; subst hR; simp (maxDischargeDepth := 12) only [kk0, kk1, kk2, kk3, kk4, kk5, kk6, kk7, kk8, kk9, kk10, kk11, kk12, kk13, kk14, kk15, kk16, kn0, kn1, kn2, kn3, kn4, kn5, kn6, eq_self_iff_true, implies_true, forall_const, Int.cast_ofNat_Int, Nat.reduceEqDiff, Nat.reduceAdd, Nat.reduceSub, Nat.reduceMul, Nat.reduceLT, Nat.reduceLeDiff, Int.reduceEq, Int.reduceLT, Int.reduceLE, Int.reduceAdd, Int.reduceSub, Int.reduceMul, Int.reduceToNat, Int.reduceNeg, ↓reduceIte, reduceCtorEq, L_ferrymanlaw06_SchemaDecodes, v_ferrymanlaw06_awake, v_schema_Decode, v_ferrymanref06_Decode, Ow.enc, S_api_Op.enc, S_api_Record.enc, Sl.enc, rr_ferrymanlaw06_SchemaDecodes, ro_ferrymanlaw06_SchemaDecodes, b0_ferrymanlaw06_SchemaDecodes, *]
                      · rw [if_neg h11] at h; replace h11 := eq_false h11
                        cases h; subst hR; simp (maxDischargeDepth := 12) only [kk0, kk1, kk2, kk3, kk4, kk5, kk6, kk7, kk8, kk9, kk10, kk11, kk12, kk13, kk14, kk15, kk16, kn0, kn1, kn2, kn3, kn4, kn5, kn6, eq_self_iff_true, implies_true, forall_const, Int.cast_ofNat_Int, Nat.reduceEqDiff, Nat.reduceAdd, Nat.reduceSub, Nat.reduceMul, Nat.reduceLT, Nat.reduceLeDiff, Int.reduceEq, Int.reduceLT, Int.reduceLE, Int.reduceAdd, Int.reduceSub, Int.reduceMul, Int.reduceToNat, Int.reduceNeg, ↓reduceIte, reduceCtorEq, L_ferrymanlaw06_SchemaDecodes, v_ferrymanlaw06_awake, v_schema_Decode, v_ferrymanref06_Decode, Ow.enc, S_api_Op.enc, S_api_Record.enc, Sl.enc, rr_ferrymanlaw06_SchemaDecodes, ro_ferrymanlaw06_SchemaDecodes, b0_ferrymanlaw06_SchemaDecodes, *]
                    · rw [if_neg h10] at h; replace h10 := eq_false h10
                      cases h; subst hR; simp (maxDischargeDepth := 12) only [kk0, kk1, kk2, kk3, kk4, kk5, kk6, kk7, kk8, kk9, kk10, kk11, kk12, kk13, kk14, kk15, kk16, kn0, kn1, kn2, kn3, kn4, kn5, kn6, eq_self_iff_true, implies_true, forall_const, Int.cast_ofNat_Int, Nat.reduceEqDiff, Nat.reduceAdd, Nat.reduceSub, Nat.reduceMul, Nat.reduceLT, Nat.reduceLeDiff, Int.reduceEq, Int.reduceLT, Int.reduceLE, Int.reduceAdd, Int.reduceSub, Int.reduceMul, Int.reduceToNat, Int.reduceNeg, ↓reduceIte, reduceCtorEq, L_ferrymanlaw06_SchemaDecodes, v_ferrymanlaw06_awake, v_schema_Decode, v_ferrymanref06_Decode, Ow.enc, S_api_Op.enc, S_api_Record.enc, Sl.enc, rr_ferrymanlaw06_SchemaDecodes, ro_ferrymanlaw06_SchemaDecodes, b0_ferrymanlaw06_SchemaDecodes, *]
                  · rw [if_neg h9] at h; replace h9 := eq_false h9
                    cases h; subst hR; simp (maxDischargeDepth := 12) only [kk0, kk1, kk2, kk3, kk4, kk5, kk6, kk7, kk8, kk9, kk10, kk11, kk12, kk13, kk14, kk15, kk16, kn0, kn1, kn2, kn3, kn4, kn5, kn6, eq_self_iff_true, implies_true, forall_const, Int.cast_ofNat_Int, Nat.reduceEqDiff, Nat.reduceAdd, Nat.reduceSub, Nat.reduceMul, Nat.reduceLT, Nat.reduceLeDiff, Int.reduceEq, Int.reduceLT, Int.reduceLE, Int.reduceAdd, Int.reduceSub, Int.reduceMul, Int.reduceToNat, Int.reduceNeg, ↓reduceIte, reduceCtorEq, L_ferrymanlaw06_SchemaDecodes, v_ferrymanlaw06_awake, v_schema_Decode, v_ferrymanref06_Decode, Ow.enc, S_api_Op.enc, S_api_Record.enc, Sl.enc, rr_ferrymanlaw06_SchemaDecodes, ro_ferrymanlaw06_SchemaDecodes, b0_ferrymanlaw06_SchemaDecodes, *]
                · rw [if_neg h8] at h; replace h8 := eq_false h8
                  cases h; subst hR; simp (maxDischargeDepth := 12) only [kk0, kk1, kk2, kk3, kk4, kk5, kk6, kk7, kk8, kk9, kk10, kk11, kk12, kk13, kk14, kk15, kk16, kn0, kn1, kn2, kn3, kn4, kn5, kn6, eq_self_iff_true, implies_true, forall_const, Int.cast_ofNat_Int, Nat.reduceEqDiff, Nat.reduceAdd, Nat.reduceSub, Nat.reduceMul, Nat.reduceLT, Nat.reduceLeDiff, Int.reduceEq, Int.reduceLT, Int.reduceLE, Int.reduceAdd, Int.reduceSub, Int.reduceMul, Int.reduceToNat, Int.reduceNeg, ↓reduceIte, reduceCtorEq, L_ferrymanlaw06_SchemaDecodes, v_ferrymanlaw06_awake, v_schema_Decode, v_ferrymanref06_Decode, Ow.enc, S_api_Op.enc, S_api_Record.enc, Sl.enc, rr_ferrymanlaw06_SchemaDecodes, ro_ferrymanlaw06_SchemaDecodes, b0_ferrymanlaw06_SchemaDecodes, *]
              · rw [if_neg h7] at h; replace h7 := eq_false h7
                cases h; subst hR; simp (maxDischargeDepth := 12) only [kk0, kk1, kk2, kk3, kk4, kk5, kk6, kk7, kk8, kk9, kk10, kk11, kk12, kk13, kk14, kk15, kk16, kn0, kn1, kn2, kn3, kn4, kn5, kn6, eq_self_iff_true, implies_true, forall_const, Int.cast_ofNat_Int, Nat.reduceEqDiff, Nat.reduceAdd, Nat.reduceSub, Nat.reduceMul, Nat.reduceLT, Nat.reduceLeDiff, Int.reduceEq, Int.reduceLT, Int.reduceLE, Int.reduceAdd, Int.reduceSub, Int.reduceMul, Int.reduceToNat, Int.reduceNeg, ↓reduceIte, reduceCtorEq, L_ferrymanlaw06_SchemaDecodes, v_ferrymanlaw06_awake, v_schema_Decode, v_ferrymanref06_Decode, Ow.enc, S_api_Op.enc, S_api_Record.enc, Sl.enc, rr_ferrymanlaw06_SchemaDecodes, ro_ferrymanlaw06_SchemaDecodes, b0_ferrymanlaw06_SchemaDecodes, *]
            · rw [if_neg h6] at h; replace h6 := eq_false h6
              cases h; subst hR; simp (maxDischargeDepth := 12) only [kk0, kk1, kk2, kk3, kk4, kk5, kk6, kk7, kk8, kk9, kk10, kk11, kk12, kk13, kk14, kk15, kk16, kn0, kn1, kn2, kn3, kn4, kn5, kn6, eq_self_iff_true, implies_true, forall_const, Int.cast_ofNat_Int, Nat.reduceEqDiff, Nat.reduceAdd, Nat.reduceSub, Nat.reduceMul, Nat.reduceLT, Nat.reduceLeDiff, Int.reduceEq, Int.reduceLT, Int.reduceLE, Int.reduceAdd, Int.reduceSub, Int.reduceMul, Int.reduceToNat, Int.reduceNeg, ↓reduceIte, reduceCtorEq, L_ferrymanlaw06_SchemaDecodes, v_ferrymanlaw06_awake, v_schema_Decode, v_ferrymanref06_Decode, Ow.enc, S_api_Op.enc, S_api_Record.enc, Sl.enc, rr_ferrymanlaw06_SchemaDecodes, ro_ferrymanlaw06_SchemaDecodes, b0_ferrymanlaw06_SchemaDecodes, *]
          · rw [if_neg h5] at h; have h5' := bt0 h5; replace h5 := eq_false h5
            cases h; subst hR; simp (maxDischargeDepth := 12) only [kk0, kk1, kk2, kk3, kk4, kk5, kk6, kk7, kk8, kk9, kk10, kk11, kk12, kk13, kk14, kk15, kk16, kn0, kn1, kn2, kn3, kn4, kn5, kn6, eq_self_iff_true, implies_true, forall_const, Int.cast_ofNat_Int, Nat.reduceEqDiff, Nat.reduceAdd, Nat.reduceSub, Nat.reduceMul, Nat.reduceLT, Nat.reduceLeDiff, Int.reduceEq, Int.reduceLT, Int.reduceLE, Int.reduceAdd, Int.reduceSub, Int.reduceMul, Int.reduceToNat, Int.reduceNeg, ↓reduceIte, reduceCtorEq, L_ferrymanlaw06_SchemaDecodes, v_ferrymanlaw06_awake, v_schema_Decode, v_ferrymanref06_Decode, Ow.enc, S_api_Op.enc, S_api_Record.enc, Sl.enc, rr_ferrymanlaw06_SchemaDecodes, ro_ferrymanlaw06_SchemaDecodes, b0_ferrymanlaw06_SchemaDecodes, *]
end Go.Dvm.C
