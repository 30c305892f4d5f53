/- The machine comes to these answers: part 2. -/
import Derived.Test.YtnmceljcgioomaaQl0
import Derived.Test.YtnmceljcgioomaaQr0
set_option linter.all false
set_option maxRecDepth 100000
set_option maxHeartbeats 4000000
namespace Go.Dvm.C
open Go Go.Dvm Go.Dvm.I
def St_ferrymanlaw03_FrameBack_l0 (q : Nat) : Prop := ∀ (M : Nat) (hM : 8 * q ≤ M) (j : Nat) (hj : q ≤ j) (v0z : Bool) (v0l : List Int) (v5 : Bool) (v12 : Int) (h0z : Bool) (h0l : List Int) (h1z : Bool) (h1l : List Int) (h1x : Bool) (r : Bool) (_ : ferrymanlaw03_FrameBack_l0 q v0z v0l v5 v12 h0z h0l h1z h1l h1x = some r) (R : Option (List V)) (_ : some [V.bool r] = R) (fr : Fr) (H : Hp) (_ : canon 0 [0, 5, 8, 9, 12] fr H = ([(0, (.sl v0z (List.map (V.int .u8) v0l))), (5, (.bool v5)), (8, (.vw 0 0 0 h0l.length 1)), (9, (.vw 1 0 0 h1l.length 1)), (12, (.int .i64 v12))], [(.row 0 h0z 1 (List.map (V.int .u8) h0l) false), (.row 0 h1z 1 (List.map (V.int .u8) h1l) h1x)])), fin m_ferrymanlaw03_FrameBack (unw T (orc T (M + 7)) (M + 7) 0 [.blk 0, .code c_ferrymanlaw03_FrameBack_24] (iter 0 [0, 5, 8, 9, 12] (exec T (orc T (M + 7)) (M + 7) 0 c_ferrymanlaw03_FrameBack_19) j fr H)) = R
theorem step_ferrymanlaw03_FrameBack_l0 (q : Nat) (ih_ferrymanlaw03_FrameBack_l0 : St_ferrymanlaw03_FrameBack_l0 q) : St_ferrymanlaw03_FrameBack_l0 (q + 1) := by
  intro M hM j hj v0z v0l v5 v12 h0z h0l h1z h1l h1x r h R hR fr H hc
  obtain ⟨j, rfl⟩ : ∃ i, j = i + 1 := ⟨j - 1, by omega⟩
  rw [unw_iter, hc]; clear hc
  rw [ferrymanlaw03_FrameBack_l0] at h
  rcases Classical.em (v12 < (h1l.length : Int)) with h1 | h1
  · rw [if_pos h1] at h; replace h1 := eq_true h1
    rcases Classical.em (0 ≤ v12) with h2 | h2
    · rw [if_pos h2] at h; replace h2 := eq_true h2
      rcases Classical.em (v12.toNat < h1l.length) with h3 | h3
      · rw [if_pos h3] at h; replace h3 := eq_true h3
        rcases h4 : h1l[v12.toNat]? with _ | e4
        · rw [h4] at h; cases h
        · rw [h4, Option.bind_some] at h
          rcases Classical.em (h1x = true) with h5 | h5
          · rw [if_pos h5] at h; have h5' := bt1 h5; replace h5 := eq_true h5
            replace h := ih_ferrymanlaw03_FrameBack_l0 M (by omega) j (by omega) _ _ _ _ _ _ _ _ _ _ h R hR
            simp (maxDischargeDepth := 12) only [kk0, kk1, kk2, kk3, kk4, kk5, kk6, kk7, kk8, kk9, kk10, kk11, kk12, kk13, kk14, kk15, kk16, kn0, kn1, kn2, kn3, kn4, kn5, kn6, eq_self_iff_true, implies_true, forall_const, Int.cast_ofNat_Int, Nat.reduceEqDiff, Nat.reduceAdd, Nat.reduceSub, Nat.reduceMul, Nat.reduceLT, Nat.reduceLeDiff, Int.reduceEq, Int.reduceLT, Int.reduceLE, Int.reduceAdd, Int.reduceSub, Int.reduceMul, Int.reduceToNat, Int.reduceNeg, ↓reduceIte, reduceCtorEq, L_ferrymanlaw03_FrameBack, v_ferrymanlaw03_awake, v_frame_Encode, v_frame_Decode, Ow.enc, Sl.enc, rr_ferrymanlaw03_FrameBack, ro_ferrymanlaw03_FrameBack, b0_ferrymanlaw03_FrameBack, *]
          · rw [if_neg h5] at h; have h5' := bt0 h5; replace h5 := eq_false h5
            cases h
      · rw [if_neg h3] at h; replace h3 := eq_false h3
        cases h
    · rw [if_neg h2] at h; replace h2 := eq_false h2
      cases h
  · rw [if_neg h1] at h; replace h1 := eq_false h1
    rcases h6 : frame_Decode q ⟨h0z, h0l⟩ with _ | r5
    · rw [h6] at h; cases h
    · rw [h6, Option.bind_some] at h
      replace h6 := run_frame_Decode q (M + 7) (by omega) _ _ h6
      try simp only [Ow.enc, Sl.enc, kn0, kn1, kn2, kn3, kn4, kn5, kn6, eq_self_iff_true, implies_true, forall_const, Int.cast_ofNat_Int, Nat.reduceEqDiff, Nat.reduceAdd, Nat.reduceSub, Nat.reduceMul, Nat.reduceLT, Nat.reduceLeDiff, Int.reduceEq, Int.reduceLT, Int.reduceLE, Int.reduceAdd, Int.reduceSub, Int.reduceMul, Int.reduceToNat, Int.reduceNeg, ↓reduceIte, reduceCtorEq] at h6
      rcases Classical.em (v5 = true) with h7 | h7
      · rw [if_pos h7] at h; have h7' := bt1 h7; replace h7 := eq_true h7
        rcases Classical.em (r5.2.2 = 0) with h8 | h8
        · rw [if_pos h8] at h; replace h8 := eq_true h8
          cases h; subst hR; simp (maxDischargeDepth := 12) only [kk0, kk1, kk2, kk3, kk4, kk5, kk6, kk7, kk8, kk9, kk10, kk11, kk12, kk13, kk14, kk15, kk16, kn0, kn1, kn2, kn3, kn4, kn5, kn6, eq_self_iff_true, implies_true, forall_const, Int.cast_ofNat_Int, Nat.reduceEqDiff, Nat.reduceAdd, Nat.reduceSub, Nat.reduceMul, Nat.reduceLT, Nat.reduceLeDiff, Int.reduceEq, Int.reduceLT, Int.reduceLE, Int.reduceAdd, Int.reduceSub, Int.reduceMul, Int.reduceToNat, Int.reduceNeg, ↓reduceIte, reduceCtorEq, L_ferrymanlaw03_FrameBack, v_ferrymanlaw03_awake, v_frame_Encode, v_frame_Decode, Ow.enc, Sl.enc, rr_ferrymanlaw03_FrameBack, ro_ferrymanlaw03_FrameBack, b0_ferrymanlaw03_FrameBack, *]
        · rw [if_neg h8] at h; replace h8 := eq_false h8
          cases h; subst hR; simp (maxDischargeDepth := 12) only [kk0, kk1, kk2, kk3, kk4, kk5, kk6, kk7, kk8, kk9, kk10, kk11, kk12, kk13, kk14, kk15, kk16, kn0, kn1, kn2, kn3, kn4, kn5, kn6, eq_self_iff_true, implies_true, forall_const, Int.cast_ofNat_Int, Nat.reduceEqDiff, Nat.reduceAdd, Nat.reduceSub, Nat.reduceMul, Nat.reduceLT, Nat.reduceLeDiff, Int.reduceEq, Int.reduceLT, Int.reduceLE, Int.reduceAdd, Int.reduceSub, Int.reduceMul, Int.reduceToNat, Int.reduceNeg, ↓reduceIte, reduceCtorEq, L_ferrymanlaw03_FrameBack, v_ferrymanlaw03_awake, v_frame_Encode, v_frame_Decode, Ow.enc, Sl.enc, rr_ferrymanlaw03_FrameBack, ro_ferrymanlaw03_FrameBack, b0_ferrymanlaw03_FrameBack, *]
      · rw [if_neg h7] at h; have h7' := bt0 h7; replace h7 := eq_false h7
        cases h; subst hR; simp (maxDischargeDepth := 12) only [kk0, kk1, kk2, kk3, kk4, kk5, kk6, kk7, kk8, kk9, kk10, kk11, kk12, kk13, kk14, kk15, kk16, kn0, kn1, kn2, kn3, kn4, kn5, kn6, eq_self_iff_true, implies_true, forall_const, Int.cast_ofNat_Int, Nat.reduceEqDiff, Nat.reduceAdd, Nat.reduceSub, Nat.reduceMul, Nat.reduceLT, Nat.reduceLeDiff, Int.reduceEq, Int.reduceLT, Int.reduceLE, Int.reduceAdd, Int.reduceSub, Int.reduceMul, Int.reduceToNat, Int.reduceNeg, ↓reduceIte, reduceCtorEq, L_ferrymanlaw03_FrameBack, v_ferrymanlaw03_awake, v_frame_Encode, v_frame_Decode, Ow.enc, Sl.enc, rr_ferrymanlaw03_FrameBack, ro_ferrymanlaw03_FrameBack, b0_ferrymanlaw03_FrameBack, *]
theorem all_ferrymanlaw03_FrameBack : ∀ q, St_ferrymanlaw03_FrameBack_l0 q
  | 0 => by intro M hM j hj; intros; rename_i h _ _ _ _ _; cases h
  | q + 1 => by have i0 := all_ferrymanlaw03_FrameBack q; exact step_ferrymanlaw03_FrameBack_l0 q i0
theorem run_ferrymanlaw03_FrameBack : ∀ (q N : Nat), 8 * q ≤ N → ∀ (a0 : (Sl Int)) (a1 : (Sl Int)), ∀ (r : Bool), ferrymanlaw03_FrameBack q a0 a1 = some r → (orc T N).deep F.ferrymanlaw03_FrameBack [(Sl.enc (V.int .u8)) a0, (Sl.enc (V.int .u8)) a1] = some [V.bool r] := by
  intro q N hM a0 a1 r h
  rcases q with _ | q
  · cases h
  obtain ⟨M, rfl⟩ : ∃ M, N = M + 8 := ⟨N - 8, by omega⟩
  have ih_ferrymanlaw03_FrameBack_l0 := (all_ferrymanlaw03_FrameBack q)
  generalize hR : some [V.bool r] = R
  rw [orc_deep, T_ferrymanlaw03_FrameBack, Option.bind_some, runDeep_eq]
  rw [ferrymanlaw03_FrameBack] at h
  rcases h1 : ferrymanlaw03_awake q with _ | r1
  · rw [h1] at h; cases h
  · rw [h1, Option.bind_some] at h
    replace h1 := run_ferrymanlaw03_awake q (M + 7) (by omega)  _ h1
    skip
    rcases Classical.em (5000 < (a0.l.length : Int)) with h2 | h2
    · rw [if_pos h2] at h; replace h2 := eq_true h2
      cases h; subst hR; simp (maxDischargeDepth := 12) only [kk0, kk1, kk2, kk3, kk4, kk5, kk6, kk7, kk8, kk9, kk10, kk11, kk12, kk13, kk14, kk15, kk16, kn0, kn1, kn2, kn3, kn4, kn5, kn6, eq_self_iff_true, implies_true, forall_const, Int.cast_ofNat_Int, Nat.reduceEqDiff, Nat.reduceAdd, Nat.reduceSub, Nat.reduceMul, Nat.reduceLT, Nat.reduceLeDiff, Int.reduceEq, Int.reduceLT, Int.reduceLE, Int.reduceAdd, Int.reduceSub, Int.reduceMul, Int.reduceToNat, Int.reduceNeg, ↓reduceIte, reduceCtorEq, L_ferrymanlaw03_FrameBack, v_ferrymanlaw03_awake, v_frame_Encode, v_frame_Decode, Ow.enc, Sl.enc, rr_ferrymanlaw03_FrameBack, ro_ferrymanlaw03_FrameBack, b0_ferrymanlaw03_FrameBack, *]
    · rw [if_neg h2] at h; replace h2 := eq_false h2
      rcases Classical.em (100 < (a1.l.length : Int)) with h3 | h3
      · rw [if_pos h3] at h; replace h3 := eq_true h3
        cases h; subst hR; simp (maxDischargeDepth := 12) only [kk0, kk1, kk2, kk3, kk4, kk5, kk6, kk7, kk8, kk9, kk10, kk11, kk12, kk13, kk14, kk15, kk16, kn0, kn1, kn2, kn3, kn4, kn5, kn6, eq_self_iff_true, implies_true, forall_const, Int.cast_ofNat_Int, Nat.reduceEqDiff, Nat.reduceAdd, Nat.reduceSub, Nat.reduceMul, Nat.reduceLT, Nat.reduceLeDiff, Int.reduceEq, Int.reduceLT, Int.reduceLE, Int.reduceAdd, Int.reduceSub, Int.reduceMul, Int.reduceToNat, Int.reduceNeg, ↓reduceIte, reduceCtorEq, L_ferrymanlaw03_FrameBack, v_ferrymanlaw03_awake, v_frame_Encode, v_frame_Decode, Ow.enc, Sl.enc, rr_ferrymanlaw03_FrameBack, ro_ferrymanlaw03_FrameBack, b0_ferrymanlaw03_FrameBack, *]
      · rw [if_neg h3] at h; replace h3 := eq_false h3
        rcases h4 : frame_Encode q a0 with _ | r2
        · rw [h4] at h; cases h
        · rw [h4, Option.bind_some] at h
          replace h4 := run_frame_Encode q (M + 7) (by omega) _ _ h4
          try simp only [Ow.enc, Sl.enc, kn0, kn1, kn2, kn3, kn4, kn5, kn6, eq_self_iff_true, implies_true, forall_const, Int.cast_ofNat_Int, Nat.reduceEqDiff, Nat.reduceAdd, Nat.reduceSub, Nat.reduceMul, Nat.reduceLT, Nat.reduceLeDiff, Int.reduceEq, Int.reduceLT, Int.reduceLE, Int.reduceAdd, Int.reduceSub, Int.reduceMul, Int.reduceToNat, Int.reduceNeg, ↓reduceIte, reduceCtorEq] at h4
          rcases Classical.em (r2.1.xs.length ≤ 4294967296) with h5 | h5
          · rw [if_pos h5] at h; replace h5 := eq_true h5
            rcases Classical.em ((r2.1.xs.length + a1.l.length) ≤ 4294967296) with h6 | h6
            · rw [if_pos h6] at h; replace h6 := eq_true h6
              try simp only [kn0, kn1, kn2, kn3, kn4, kn5, kn6, eq_self_iff_true, implies_true, forall_const, Int.cast_ofNat_Int, Nat.reduceEqDiff, Nat.reduceAdd, Nat.reduceSub, Nat.reduceMul, Nat.reduceLT, Nat.reduceLeDiff, Int.reduceEq, Int.reduceLT, Int.reduceLE, Int.reduceAdd, Int.reduceSub, Int.reduceMul, Int.reduceToNat, Int.reduceNeg, ↓reduceIte, reduceCtorEq] at h6
              rcases h7 : frame_Decode q ⟨((decide (r2.1.xs.length = 0)) && (decide (a1.l.length = 0))), (r2.1.xs ++ a1.l)⟩ with _ | r3
              · rw [h7] at h; cases h
              · rw [h7, Option.bind_some] at h
                replace h7 := run_frame_Decode q (M + 7) (by omega) _ _ h7
                try simp only [Ow.enc, Sl.enc, kn0, kn1, kn2, kn3, kn4, kn5, kn6, eq_self_iff_true, implies_true, forall_const, Int.cast_ofNat_Int, Nat.reduceEqDiff, Nat.reduceAdd, Nat.reduceSub, Nat.reduceMul, Nat.reduceLT, Nat.reduceLeDiff, Int.reduceEq, Int.reduceLT, Int.reduceLE, Int.reduceAdd, Int.reduceSub, Int.reduceMul, Int.reduceToNat, Int.reduceNeg, ↓reduceIte, reduceCtorEq] at h7
                rcases Classical.em (r2.2 = 0) with h8 | h8
                · rw [if_pos h8] at h; replace h8 := eq_true h8
                  rcases Classical.em (r3.2.2 = 0) with h9 | h9
                  · rw [if_pos h9] at h; replace h9 := eq_true h9
                    rcases Classical.em (r3.2.1 = (r2.1.xs.length : Int)) with h10 | h10
                    · rw [if_pos h10] at h; replace h10 := eq_true h10
                      rcases Classical.em (r3.1.xs = a0.l) with h11 | h11
                      · rw [if_pos h11] at h; replace h11 := eq_true h11
                        replace h := ih_ferrymanlaw03_FrameBack_l0 M (by omega) (M + 7) (by omega) _ _ _ _ _ _ _ _ _ _ h R hR
                        simp (maxDischargeDepth := 12) only [kk0, kk1, kk2, kk3, kk4, kk5, kk6, kk7, kk8, kk9, kk10, kk11, kk12, kk13, kk14, kk15, kk16, kn0, kn1, kn2, kn3, kn4, kn5, kn6, eq_self_iff_true, implies_true, forall_const, Int.cast_ofNat_Int, Nat.reduceEqDiff, Nat.reduceAdd, Nat.reduceSub, Nat.reduceMul, Nat.reduceLT, Nat.reduceLeDiff, Int.reduceEq, Int.reduceLT, Int.reduceLE, Int.reduceAdd, Int.reduceSub, Int.reduceMul, Int.reduceToNat, Int.reduceNeg, ↓reduceIte, reduceCtorEq, L_ferrymanlaw03_FrameBack, v_ferrymanlaw03_awake, v_frame_Encode, v_frame_Decode, Ow.enc, Sl.enc, rr_ferrymanlaw03_FrameBack, ro_ferrymanlaw03_FrameBack, b0_ferrymanlaw03_FrameBack, *]
                      · rw [if_neg h11] at h; replace h11 := eq_false h11
                        cases h; subst hR; simp (maxDischargeDepth := 12) only [kk0, kk1, kk2, kk3, kk4, kk5, kk6, kk7, kk8, kk9, kk10, kk11, kk12, kk13, kk14, kk15, kk16, kn0, kn1, kn2, kn3, kn4, kn5, kn6, eq_self_iff_true, implies_true, forall_const, Int.cast_ofNat_Int, Nat.reduceEqDiff, Nat.reduceAdd, Nat.reduceSub, Nat.reduceMul, Nat.reduceLT, Nat.reduceLeDiff, Int.reduceEq, Int.reduceLT, Int.reduceLE, Int.reduceAdd, Int.reduceSub, Int.reduceMul, Int.reduceToNat, Int.reduceNeg, ↓reduceIte, reduceCtorEq, L_ferrymanlaw03_FrameBack, v_ferrymanlaw03_awake, v_frame_Encode, v_frame_Decode, Ow.enc, Sl.enc, rr_ferrymanlaw03_FrameBack, ro_ferrymanlaw03_FrameBack, b0_ferrymanlaw03_FrameBack, *]
                    · rw [if_neg h10] at h; replace h10 := eq_false h10
                      cases h; subst hR; simp (maxDischargeDepth := 12) only [kk0, kk1, kk2, kk3, kk4, kk5, kk6, kk7, kk8, kk9, kk10, kk11, kk12, kk13, kk14, kk15, kk16, kn0, kn1, kn2, kn3, kn4, kn5, kn6, eq_self_iff_true, implies_true, forall_const, Int.cast_ofNat_Int, Nat.reduceEqDiff, Nat.reduceAdd, Nat.reduceSub, Nat.reduceMul, Nat.reduceLT, Nat.reduceLeDiff, Int.reduceEq, Int.reduceLT, Int.reduceLE, Int.reduceAdd, Int.reduceSub, Int.reduceMul, Int.reduceToNat, Int.reduceNeg, ↓reduceIte, reduceCtorEq, L_ferrymanlaw03_FrameBack, v_ferrymanlaw03_awake, v_frame_Encode, v_frame_Decode, Ow.enc, Sl.enc, rr_ferrymanlaw03_FrameBack, ro_ferrymanlaw03_FrameBack, b0_ferrymanlaw03_FrameBack, *]
                  · rw [if_neg h9] at h; replace h9 := eq_false h9
                    cases h; subst hR; simp (maxDischargeDepth := 12) only [kk0, kk1, kk2, kk3, kk4, kk5, kk6, kk7, kk8, kk9, kk10, kk11, kk12, kk13, kk14, kk15, kk16, kn0, kn1, kn2, kn3, kn4, kn5, kn6, eq_self_iff_true, implies_true, forall_const, Int.cast_ofNat_Int, Nat.reduceEqDiff, Nat.reduceAdd, Nat.reduceSub, Nat.reduceMul, Nat.reduceLT, Nat.reduceLeDiff, Int.reduceEq, Int.reduceLT, Int.reduceLE, Int.reduceAdd, Int.reduceSub, Int.reduceMul, Int.reduceToNat, Int.reduceNeg, ↓reduceIte, reduceCtorEq, L_ferrymanlaw03_FrameBack, v_ferrymanlaw03_awake, v_frame_Encode, v_frame_Decode, Ow.enc, Sl.enc, rr_ferrymanlaw03_FrameBack, ro_ferrymanlaw03_FrameBack, b0_ferrymanlaw03_FrameBack, *]
                · rw [if_neg h8] at h; replace h8 := eq_false h8
                  cases h; subst hR; simp (maxDischargeDepth := 12) only [kk0, kk1, kk2, kk3, kk4, kk5, kk6, kk7, kk8, kk9, kk10, kk11, kk12, kk13, kk14, kk15, kk16, kn0, kn1, kn2, kn3, kn4, kn5, kn6, eq_self_iff_true, implies_true, forall_const, Int.cast_ofNat_Int, Nat.reduceEqDiff, Nat.reduceAdd, Nat.reduceSub, Nat.reduceMul, Nat.reduceLT, Nat.reduceLeDiff, Int.reduceEq, Int.reduceLT, Int.reduceLE, Int.reduceAdd, Int.reduceSub, Int.reduceMul, Int.reduceToNat, Int.reduceNeg, ↓reduceIte, reduceCtorEq, L_ferrymanlaw03_FrameBack, v_ferrymanlaw03_awake, v_frame_Encode, v_frame_Decode, Ow.enc, Sl.enc, rr_ferrymanlaw03_FrameBack, ro_ferrymanlaw03_FrameBack, b0_ferrymanlaw03_FrameBack, *]
            · rw [if_neg h6] at h; replace h6 := eq_false h6
              try simp only [kn0, kn1, kn2, kn3, kn4, kn5, kn6, eq_self_iff_true, implies_true, forall_const, Int.cast_ofNat_Int, Nat.reduceEqDiff, Nat.reduceAdd, Nat.reduceSub, Nat.reduceMul, Nat.reduceLT, Nat.reduceLeDiff, Int.reduceEq, Int.reduceLT, Int.reduceLE, Int.reduceAdd, Int.reduceSub, Int.reduceMul, Int.reduceToNat, Int.reduceNeg, ↓reduceIte, reduceCtorEq] at h6
              cases h
          · rw [if_neg h5] at h; replace h5 := eq_false h5
            cases h
end Go.Dvm.C
