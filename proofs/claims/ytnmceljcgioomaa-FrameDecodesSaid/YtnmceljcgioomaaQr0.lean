/- The machine comes to these answers: part 1. -/
import Derived.Test.YtnmceljcgioomaaQl0
set_option linter.all false
set_option maxRecDepth 100000
set_option maxHeartbeats 4000000
namespace Go.Dvm.C
open Go Go.Dvm Go.Dvm.I
def St_num_groups_l0 (q : Nat) : Prop := ∀ (M : Nat) (hM : 8 * q ≤ M) (j : Nat) (hj : q ≤ j) (w0 : Nat) (v1 : Int) (h0z : Bool) (h0l : List Int) (h0x : Bool) (r : (Ow Int)) (_ : num_groups_l0 q v1 h0z h0l h0x = some r) (R : Option (List V)) (_ : some [(Ow.enc 1 (V.int .u8)) r] = R) (fr : Fr) (H : Hp) (_ : canon 1 [0, 1] fr H = ([(0, (.vw 0 w0 0 h0l.length 1)), (1, (.int .u64 v1))], [(.row w0 h0z 1 (List.map (V.int .u8) h0l) h0x)])), fin m_num_groups (unw T (orc T (M + 7)) (M + 7) 1 [.blk 0, .code c_num_groups_10] (iter 1 [0, 1] (exec T (orc T (M + 7)) (M + 7) 1 c_num_groups_8) j fr H)) = R
theorem step_num_groups_l0 (q : Nat) (ih_num_groups_l0 : St_num_groups_l0 q) : St_num_groups_l0 (q + 1) := by
  intro M hM j hj w0 v1 h0z h0l h0x r h R hR fr H hc
  obtain ⟨j, rfl⟩ : ∃ i, j = i + 1 := ⟨j - 1, by omega⟩
  rw [unw_iter, hc]; clear hc
  rw [num_groups_l0] at h
  rcases Classical.em (128 ≤ v1) with h1 | h1
  · rw [if_pos h1] at h; replace h1 := eq_true h1
    rcases Classical.em ((h0l.length + 1) ≤ 4294967296) with h2 | h2
    · rw [if_pos h2] at h; replace h2 := eq_true h2
      try simp only [kn0, kn1, kn2, kn3, kn4, kn5, kn6, eq_self_iff_true, implies_true, forall_const, Int.cast_ofNat_Int, Nat.reduceEqDiff, Nat.reduceAdd, Nat.reduceSub, Nat.reduceMul, Nat.reduceLT, Nat.reduceLeDiff, Int.reduceEq, Int.reduceLT, Int.reduceLE, Int.reduceAdd, Int.reduceSub, Int.reduceMul, Int.reduceToNat, Int.reduceNeg, ↓reduceIte, reduceCtorEq] at h2
      replace h := ih_num_groups_l0 M (by omega) j (by omega) (w0 + 1) _ _ _ _ _ h R hR
      simp (maxDischargeDepth := 12) only [kk0, kk1, kk2, kk3, kk4, kk5, kk6, kk7, kk8, kk9, kk10, kk11, kk12, kk13, kk14, kk15, kk16, kn0, kn1, kn2, kn3, kn4, kn5, kn6, eq_self_iff_true, implies_true, forall_const, Int.cast_ofNat_Int, Nat.reduceEqDiff, Nat.reduceAdd, Nat.reduceSub, Nat.reduceMul, Nat.reduceLT, Nat.reduceLeDiff, Int.reduceEq, Int.reduceLT, Int.reduceLE, Int.reduceAdd, Int.reduceSub, Int.reduceMul, Int.reduceToNat, Int.reduceNeg, ↓reduceIte, reduceCtorEq, L_num_groups, Ow.enc, Sl.enc, rr_num_groups, ro_num_groups, b0_num_groups, *]
    · rw [if_neg h2] at h; replace h2 := eq_false h2
      try simp only [kn0, kn1, kn2, kn3, kn4, kn5, kn6, eq_self_iff_true, implies_true, forall_const, Int.cast_ofNat_Int, Nat.reduceEqDiff, Nat.reduceAdd, Nat.reduceSub, Nat.reduceMul, Nat.reduceLT, Nat.reduceLeDiff, Int.reduceEq, Int.reduceLT, Int.reduceLE, Int.reduceAdd, Int.reduceSub, Int.reduceMul, Int.reduceToNat, Int.reduceNeg, ↓reduceIte, reduceCtorEq] at h2
      cases h
  · rw [if_neg h1] at h; replace h1 := eq_false h1
    rcases Classical.em ((h0l.length + 1) ≤ 4294967296) with h3 | h3
    · rw [if_pos h3] at h; replace h3 := eq_true h3
      try simp only [kn0, kn1, kn2, kn3, kn4, kn5, kn6, eq_self_iff_true, implies_true, forall_const, Int.cast_ofNat_Int, Nat.reduceEqDiff, Nat.reduceAdd, Nat.reduceSub, Nat.reduceMul, Nat.reduceLT, Nat.reduceLeDiff, Int.reduceEq, Int.reduceLT, Int.reduceLE, Int.reduceAdd, Int.reduceSub, Int.reduceMul, Int.reduceToNat, Int.reduceNeg, ↓reduceIte, reduceCtorEq] at h3
      cases h; subst hR; simp (maxDischargeDepth := 12) only [kk0, kk1, kk2, kk3, kk4, kk5, kk6, kk7, kk8, kk9, kk10, kk11, kk12, kk13, kk14, kk15, kk16, kn0, kn1, kn2, kn3, kn4, kn5, kn6, eq_self_iff_true, implies_true, forall_const, Int.cast_ofNat_Int, Nat.reduceEqDiff, Nat.reduceAdd, Nat.reduceSub, Nat.reduceMul, Nat.reduceLT, Nat.reduceLeDiff, Int.reduceEq, Int.reduceLT, Int.reduceLE, Int.reduceAdd, Int.reduceSub, Int.reduceMul, Int.reduceToNat, Int.reduceNeg, ↓reduceIte, reduceCtorEq, L_num_groups, Ow.enc, Sl.enc, rr_num_groups, ro_num_groups, b0_num_groups, *]
    · rw [if_neg h3] at h; replace h3 := eq_false h3
      try simp only [kn0, kn1, kn2, kn3, kn4, kn5, kn6, eq_self_iff_true, implies_true, forall_const, Int.cast_ofNat_Int, Nat.reduceEqDiff, Nat.reduceAdd, Nat.reduceSub, Nat.reduceMul, Nat.reduceLT, Nat.reduceLeDiff, Int.reduceEq, Int.reduceLT, Int.reduceLE, Int.reduceAdd, Int.reduceSub, Int.reduceMul, Int.reduceToNat, Int.reduceNeg, ↓reduceIte, reduceCtorEq] at h3
      cases h
theorem all_num_groups : ∀ q, St_num_groups_l0 q
  | 0 => by intro M hM j hj; intros; rename_i h _ _ _ _ _; cases h
  | q + 1 => by have i0 := all_num_groups q; exact step_num_groups_l0 q i0
theorem run_num_groups : ∀ (q N : Nat), 8 * q ≤ N → ∀ (a0 : (Ow Int)) (a1 : Int), ∀ (r : (Ow Int)), num_groups q a0 a1 = some r → (orc T N).deep F.num_groups [(Ow.enc 1 (V.int .u8)) a0, (V.int .u64) a1] = some [(Ow.enc 1 (V.int .u8)) r] := by
  intro q N hM a0 a1 r h
  rcases q with _ | q
  · cases h
  obtain ⟨M, rfl⟩ : ∃ M, N = M + 8 := ⟨N - 8, by omega⟩
  have ih_num_groups_l0 := (all_num_groups q)
  generalize hR : some [(Ow.enc 1 (V.int .u8)) r] = R
  rw [orc_deep, T_num_groups, Option.bind_some, runDeep_eq]
  rw [num_groups] at h
  replace h := ih_num_groups_l0 M (by omega) (M + 7) (by omega) 0 _ _ _ _ _ h R hR
  simp (maxDischargeDepth := 12) only [kk0, kk1, kk2, kk3, kk4, kk5, kk6, kk7, kk8, kk9, kk10, kk11, kk12, kk13, kk14, kk15, kk16, kn0, kn1, kn2, kn3, kn4, kn5, kn6, eq_self_iff_true, implies_true, forall_const, Int.cast_ofNat_Int, Nat.reduceEqDiff, Nat.reduceAdd, Nat.reduceSub, Nat.reduceMul, Nat.reduceLT, Nat.reduceLeDiff, Int.reduceEq, Int.reduceLT, Int.reduceLE, Int.reduceAdd, Int.reduceSub, Int.reduceMul, Int.reduceToNat, Int.reduceNeg, ↓reduceIte, reduceCtorEq, L_num_groups, Ow.enc, Sl.enc, rr_num_groups, ro_num_groups, b0_num_groups, *]
theorem run_num_Put : ∀ (q N : Nat), 8 * q ≤ N → ∀ (a0 : (Ow Int)) (a1 : Int), ∀ (r : (Ow Int)), num_Put q a0 a1 = some r → (orc T N).deep F.num_Put [(Ow.enc 1 (V.int .u8)) a0, (V.int .i64) a1] = some [(Ow.enc 1 (V.int .u8)) r] := by
  intro q N hM a0 a1 r h
  rcases q with _ | q
  · cases h
  obtain ⟨M, rfl⟩ : ∃ M, N = M + 8 := ⟨N - 8, by omega⟩
  generalize hR : some [(Ow.enc 1 (V.int .u8)) r] = R
  rw [orc_deep, T_num_Put, Option.bind_some, runDeep_eq]
  rw [num_Put] at h
  rcases Classical.em (a1 < 0) with h1 | h1
  · rw [if_pos h1] at h; replace h1 := eq_true h1
    cases h; subst hR; simp (maxDischargeDepth := 12) only [kk0, kk1, kk2, kk3, kk4, kk5, kk6, kk7, kk8, kk9, kk10, kk11, kk12, kk13, kk14, kk15, kk16, kn0, kn1, kn2, kn3, kn4, kn5, kn6, eq_self_iff_true, implies_true, forall_const, Int.cast_ofNat_Int, Nat.reduceEqDiff, Nat.reduceAdd, Nat.reduceSub, Nat.reduceMul, Nat.reduceLT, Nat.reduceLeDiff, Int.reduceEq, Int.reduceLT, Int.reduceLE, Int.reduceAdd, Int.reduceSub, Int.reduceMul, Int.reduceToNat, Int.reduceNeg, ↓reduceIte, reduceCtorEq, L_num_Put, v_num_groups, Ow.enc, Sl.enc, rr_num_Put, ro_num_Put, b0_num_Put, *]
  · rw [if_neg h1] at h; replace h1 := eq_false h1
    rcases Classical.em (4611686018427387904 ≤ a1) with h2 | h2
    · rw [if_pos h2] at h; replace h2 := eq_true h2
      cases h; subst hR; simp (maxDischargeDepth := 12) only [kk0, kk1, kk2, kk3, kk4, kk5, kk6, kk7, kk8, kk9, kk10, kk11, kk12, kk13, kk14, kk15, kk16, kn0, kn1, kn2, kn3, kn4, kn5, kn6, eq_self_iff_true, implies_true, forall_const, Int.cast_ofNat_Int, Nat.reduceEqDiff, Nat.reduceAdd, Nat.reduceSub, Nat.reduceMul, Nat.reduceLT, Nat.reduceLeDiff, Int.reduceEq, Int.reduceLT, Int.reduceLE, Int.reduceAdd, Int.reduceSub, Int.reduceMul, Int.reduceToNat, Int.reduceNeg, ↓reduceIte, reduceCtorEq, L_num_Put, v_num_groups, Ow.enc, Sl.enc, rr_num_Put, ro_num_Put, b0_num_Put, *]
    · rw [if_neg h2] at h; replace h2 := eq_false h2
      rcases h3 : num_groups q a0 (wrp .u64 a1) with _ | r1
      · rw [h3] at h; cases h
      · rw [h3, Option.bind_some] at h
        replace h3 := run_num_groups q (M + 7) (by omega) _ _ _ h3
        try simp only [Ow.enc, Sl.enc, kn0, kn1, kn2, kn3, kn4, kn5, kn6, eq_self_iff_true, implies_true, forall_const, Int.cast_ofNat_Int, Nat.reduceEqDiff, Nat.reduceAdd, Nat.reduceSub, Nat.reduceMul, Nat.reduceLT, Nat.reduceLeDiff, Int.reduceEq, Int.reduceLT, Int.reduceLE, Int.reduceAdd, Int.reduceSub, Int.reduceMul, Int.reduceToNat, Int.reduceNeg, ↓reduceIte, reduceCtorEq] at h3
        cases h; subst hR; simp (maxDischargeDepth := 12) only [kk0, kk1, kk2, kk3, kk4, kk5, kk6, kk7, kk8, kk9, kk10, kk11, kk12, kk13, kk14, kk15, kk16, kn0, kn1, kn2, kn3, kn4, kn5, kn6, eq_self_iff_true, implies_true, forall_const, Int.cast_ofNat_Int, Nat.reduceEqDiff, Nat.reduceAdd, Nat.reduceSub, Nat.reduceMul, Nat.reduceLT, Nat.reduceLeDiff, Int.reduceEq, Int.reduceLT, Int.reduceLE, Int.reduceAdd, Int.reduceSub, Int.reduceMul, Int.reduceToNat, Int.reduceNeg, ↓reduceIte, reduceCtorEq, L_num_Put, v_num_groups, Ow.enc, Sl.enc, rr_num_Put, ro_num_Put, b0_num_Put, *]
def St_crc_Table_l0 (q : Nat) : Prop := ∀ (M : Nat) (hM : 8 * q ≤ M) (j : Nat) (hj : q ≤ j) (v5 : Int) (h0_0 : List Int) (h1_0 : List Int) (r : (List Int)) (_ : crc_Table_l0 q v5 h0_0 h1_0 = some r) (R : Option (List V)) (_ : some [(arrEnc (V.int .u32)) r] = R) (fr : Fr) (H : Hp) (_ : canon 0 [0, 1, 5] fr H = ([(0, (.ptr 0 0)), (1, (.ptr 1 0)), (5, (.int .i64 v5))], [(.box (List.map (V.int .u32) h0_0)), (.box (List.map (V.int .u32) h1_0))])), fin m_crc_Table (unw T (orc T (M + 7)) (M + 7) 0 [.blk 0, .code c_crc_Table_29] (iter 0 [0, 1, 5] (exec T (orc T (M + 7)) (M + 7) 0 c_crc_Table_26) j fr H)) = R
def St_crc_Table_l1 (q : Nat) : Prop := ∀ (M : Nat) (hM : 8 * q ≤ M) (j : Nat) (hj : q ≤ j) (j1 : Nat) (hj1 : q ≤ j1) (v2 : Int) (v3 : Int) (v5 : Int) (v10 : Int) (h0_0 : List Int) (h1_0 : List Int) (r : (List Int)) (_ : crc_Table_l1 q v2 v3 v5 v10 h0_0 h1_0 = some r) (R : Option (List V)) (_ : some [(arrEnc (V.int .u32)) r] = R) (fr : Fr) (H : Hp) (_ : canon 0 [0, 1, 2, 3, 5, 10] fr H = ([(0, (.ptr 0 0)), (1, (.ptr 1 0)), (2, (.int .i64 v2)), (3, (.int .u32 v3)), (5, (.int .i64 v5)), (10, (.int .i64 v10))], [(.box (List.map (V.int .u32) h0_0)), (.box (List.map (V.int .u32) h1_0))])), fin m_crc_Table (unw T (orc T (M + 7)) (M + 7) 0 [.blk 2, .code c_crc_Table_19, .blk 1, .code c_crc_Table_23, .rounds [0, 1, 5] c_crc_Table_26 j1, .blk 0, .code c_crc_Table_29] (iter 0 [0, 1, 2, 3, 5, 10] (exec T (orc T (M + 7)) (M + 7) 0 c_crc_Table_16) j fr H)) = R
theorem step_crc_Table_l0 (q : Nat) (ih_crc_Table_l1 : St_crc_Table_l1 q) : St_crc_Table_l0 (q + 1) := by
  intro M hM j hj v5 h0_0 h1_0 r h R hR fr H hc
  obtain ⟨j, rfl⟩ : ∃ i, j = i + 1 := ⟨j - 1, by omega⟩
  rw [unw_iter, hc]; clear hc
  rw [crc_Table_l0] at h
  rcases Classical.em (v5 < 256) with h1 | h1
  · rw [if_pos h1] at h; replace h1 := eq_true h1
    replace h := ih_crc_Table_l1 M (by omega) (M + 7) (by omega) j (by omega) _ _ _ _ _ _ _ h R hR
    simp (maxDischargeDepth := 12) only [kk0, kk1, kk2, kk3, kk4, kk5, kk6, kk7, kk8, kk9, kk10, kk11, kk12, kk13, kk14, kk15, kk16, kn0, kn1, kn2, kn3, kn4, kn5, kn6, eq_self_iff_true, implies_true, forall_const, Int.cast_ofNat_Int, Nat.reduceEqDiff, Nat.reduceAdd, Nat.reduceSub, Nat.reduceMul, Nat.reduceLT, Nat.reduceLeDiff, Int.reduceEq, Int.reduceLT, Int.reduceLE, Int.reduceAdd, Int.reduceSub, Int.reduceMul, Int.reduceToNat, Int.reduceNeg, ↓reduceIte, reduceCtorEq, L_crc_Table, Ow.enc, Sl.enc, arrEnc, rr_crc_Table, ro_crc_Table, b0_crc_Table, *]
  · rw [if_neg h1] at h; replace h1 := eq_false h1
    rcases Classical.em (256 ≤ h1_0.length) with h2 | h2
    · rw [if_pos h2] at h; replace h2 := eq_true h2
      rcases Classical.em ((min 256 h1_0.length) = 256) with h3 | h3
      · rw [if_pos h3] at h
        rcases Classical.em (256 ≤ h0_0.length) with h4 | h4
        · rw [if_pos h4] at h; replace h4 := eq_true h4
          rcases Classical.em (256 ≤ (256 + (h0_0.length - 256))) with h5 | h5
          · rw [if_pos h5] at h; replace h5 := eq_true h5
            try simp only [kn0, kn1, kn2, kn3, kn4, kn5, kn6, eq_self_iff_true, implies_true, forall_const, Int.cast_ofNat_Int, Nat.reduceEqDiff, Nat.reduceAdd, Nat.reduceSub, Nat.reduceMul, Nat.reduceLT, Nat.reduceLeDiff, Int.reduceEq, Int.reduceLT, Int.reduceLE, Int.reduceAdd, Int.reduceSub, Int.reduceMul, Int.reduceToNat, Int.reduceNeg, ↓reduceIte, reduceCtorEq] at h5
            cases h; subst hR; simp (maxDischargeDepth := 12) only [kk0, kk1, kk2, kk3, kk4, kk5, kk6, kk7, kk8, kk9, kk10, kk11, kk12, kk13, kk14, kk15, kk16, kn0, kn1, kn2, kn3, kn4, kn5, kn6, eq_self_iff_true, implies_true, forall_const, Int.cast_ofNat_Int, Nat.reduceEqDiff, Nat.reduceAdd, Nat.reduceSub, Nat.reduceMul, Nat.reduceLT, Nat.reduceLeDiff, Int.reduceEq, Int.reduceLT, Int.reduceLE, Int.reduceAdd, Int.reduceSub, Int.reduceMul, Int.reduceToNat, Int.reduceNeg, ↓reduceIte, reduceCtorEq, L_crc_Table, Ow.enc, Sl.enc, arrEnc, rr_crc_Table, ro_crc_Table, b0_crc_Table, *]
          · rw [if_neg h5] at h; replace h5 := eq_false h5
            try simp only [kn0, kn1, kn2, kn3, kn4, kn5, kn6, eq_self_iff_true, implies_true, forall_const, Int.cast_ofNat_Int, Nat.reduceEqDiff, Nat.reduceAdd, Nat.reduceSub, Nat.reduceMul, Nat.reduceLT, Nat.reduceLeDiff, Int.reduceEq, Int.reduceLT, Int.reduceLE, Int.reduceAdd, Int.reduceSub, Int.reduceMul, Int.reduceToNat, Int.reduceNeg, ↓reduceIte, reduceCtorEq] at h5
            cases h
        · rw [if_neg h4] at h; replace h4 := eq_false h4
          cases h
      · rw [if_neg h3] at h; replace h3 := eq_false h3
        cases h
    · rw [if_neg h2] at h; replace h2 := eq_false h2
      cases h
theorem step_crc_Table_l1 (q : Nat) (ih_crc_Table_l0 : St_crc_Table_l0 q) (ih_crc_Table_l1 : St_crc_Table_l1 q) : St_crc_Table_l1 (q + 1) := by
  intro M hM j hj j1 hj1 v2 v3 v5 v10 h0_0 h1_0 r h R hR fr H hc
  obtain ⟨j, rfl⟩ : ∃ i, j = i + 1 := ⟨j - 1, by omega⟩
  rw [unw_iter, hc]; clear hc
  rw [crc_Table_l1] at h
  rcases Classical.em (v10 < 8) with h1 | h1
  · rw [if_pos h1] at h; replace h1 := eq_true h1
    replace h := ih_crc_Table_l1 M (by omega) j (by omega) j1 (by omega) _ _ _ _ _ _ _ h R hR
    simp (maxDischargeDepth := 12) only [kk0, kk1, kk2, kk3, kk4, kk5, kk6, kk7, kk8, kk9, kk10, kk11, kk12, kk13, kk14, kk15, kk16, kn0, kn1, kn2, kn3, kn4, kn5, kn6, eq_self_iff_true, implies_true, forall_const, Int.cast_ofNat_Int, Nat.reduceEqDiff, Nat.reduceAdd, Nat.reduceSub, Nat.reduceMul, Nat.reduceLT, Nat.reduceLeDiff, Int.reduceEq, Int.reduceLT, Int.reduceLE, Int.reduceAdd, Int.reduceSub, Int.reduceMul, Int.reduceToNat, Int.reduceNeg, ↓reduceIte, reduceCtorEq, L_crc_Table, Ow.enc, Sl.enc, arrEnc, rr_crc_Table, ro_crc_Table, b0_crc_Table, *]
  · rw [if_neg h1] at h; replace h1 := eq_false h1
    rcases Classical.em (0 ≤ v2) with h2 | h2
    · rw [if_pos h2] at h; replace h2 := eq_true h2
      rcases Classical.em (v2.toNat < 256) with h3 | h3
      · rw [if_pos h3] at h; replace h3 := eq_true h3
        rcases Classical.em ((v2.toNat + 1) ≤ h1_0.length) with h4 | h4
        · rw [if_pos h4] at h; replace h4 := eq_true h4
          try simp only [kn0, kn1, kn2, kn3, kn4, kn5, kn6, eq_self_iff_true, implies_true, forall_const, Int.cast_ofNat_Int, Nat.reduceEqDiff, Nat.reduceAdd, Nat.reduceSub, Nat.reduceMul, Nat.reduceLT, Nat.reduceLeDiff, Int.reduceEq, Int.reduceLT, Int.reduceLE, Int.reduceAdd, Int.reduceSub, Int.reduceMul, Int.reduceToNat, Int.reduceNeg, ↓reduceIte, reduceCtorEq] at h4
          replace h := ih_crc_Table_l0 M (by omega) j1 (by omega) _ _ _ _ h R hR
          simp (maxDischargeDepth := 12) only [kk0, kk1, kk2, kk3, kk4, kk5, kk6, kk7, kk8, kk9, kk10, kk11, kk12, kk13, kk14, kk15, kk16, kn0, kn1, kn2, kn3, kn4, kn5, kn6, eq_self_iff_true, implies_true, forall_const, Int.cast_ofNat_Int, Nat.reduceEqDiff, Nat.reduceAdd, Nat.reduceSub, Nat.reduceMul, Nat.reduceLT, Nat.reduceLeDiff, Int.reduceEq, Int.reduceLT, Int.reduceLE, Int.reduceAdd, Int.reduceSub, Int.reduceMul, Int.reduceToNat, Int.reduceNeg, ↓reduceIte, reduceCtorEq, L_crc_Table, Ow.enc, Sl.enc, arrEnc, rr_crc_Table, ro_crc_Table, b0_crc_Table, *]
        · rw [if_neg h4] at h; replace h4 := eq_false h4
          try simp only [kn0, kn1, kn2, kn3, kn4, kn5, kn6, eq_self_iff_true, implies_true, forall_const, Int.cast_ofNat_Int, Nat.reduceEqDiff, Nat.reduceAdd, Nat.reduceSub, Nat.reduceMul, Nat.reduceLT, Nat.reduceLeDiff, Int.reduceEq, Int.reduceLT, Int.reduceLE, Int.reduceAdd, Int.reduceSub, Int.reduceMul, Int.reduceToNat, Int.reduceNeg, ↓reduceIte, reduceCtorEq] at h4
          cases h
      · rw [if_neg h3] at h; replace h3 := eq_false h3
        cases h
    · rw [if_neg h2] at h; replace h2 := eq_false h2
      cases h
theorem all_crc_Table : ∀ q, St_crc_Table_l0 q ∧ St_crc_Table_l1 q
  | 0 => by refine ⟨?_, ?_⟩ <;> (intro M hM j hj; intros; rename_i h _ _ _ _ _; cases h)
  | q + 1 => by have ⟨i0, i1⟩ := all_crc_Table q; exact ⟨step_crc_Table_l0 q i1, step_crc_Table_l1 q i0 i1⟩
theorem run_crc_Table : ∀ (q N : Nat), 8 * q ≤ N → ∀ (r : (List Int)), crc_Table q = some r → (orc T N).deep F.crc_Table [] = some [(arrEnc (V.int .u32)) r] := by
  intro q N hM r h
  rcases q with _ | q
  · cases h
  obtain ⟨M, rfl⟩ : ∃ M, N = M + 8 := ⟨N - 8, by omega⟩
  have ih_crc_Table_l0 := (all_crc_Table q).1
  generalize hR : some [(arrEnc (V.int .u32)) r] = R
  rw [orc_deep, T_crc_Table, Option.bind_some, runDeep_eq]
  rw [crc_Table] at h
  replace h := ih_crc_Table_l0 M (by omega) (M + 7) (by omega) _ _ _ _ h R hR
  simp (maxDischargeDepth := 12) only [kk0, kk1, kk2, kk3, kk4, kk5, kk6, kk7, kk8, kk9, kk10, kk11, kk12, kk13, kk14, kk15, kk16, kn0, kn1, kn2, kn3, kn4, kn5, kn6, eq_self_iff_true, implies_true, forall_const, Int.cast_ofNat_Int, Nat.reduceEqDiff, Nat.reduceAdd, Nat.reduceSub, Nat.reduceMul, Nat.reduceLT, Nat.reduceLeDiff, Int.reduceEq, Int.reduceLT, Int.reduceLE, Int.reduceAdd, Int.reduceSub, Int.reduceMul, Int.reduceToNat, Int.reduceNeg, ↓reduceIte, reduceCtorEq, L_crc_Table, Ow.enc, Sl.enc, arrEnc, rr_crc_Table, ro_crc_Table, b0_crc_Table, *]
def St_crc_More_l0 (q : Nat) : Prop := ∀ (M : Nat) (hM : 8 * q ≤ M) (j : Nat) (hj : q ≤ j) (v6 : Int) (v12z : Bool) (v12l : List Int) (v13 : Int) (v14 : Int) (h0_0 : List Int) (r : Int) (_ : crc_More_l0 q v6 v12z v12l v13 v14 h0_0 = some r) (R : Option (List V)) (_ : some [(V.int .u32) r] = R) (fr : Fr) (H : Hp) (_ : canon 0 [5, 6, 12, 13, 14] fr H = ([(5, (.ptr 0 0)), (6, (.int .u32 v6)), (12, (.sl v12z (List.map (V.int .u8) v12l))), (13, (.int .i64 v13)), (14, (.int .i64 v14))], [(.box (List.map (V.int .u32) h0_0))])), fin m_crc_More (unw T (orc T (M + 7)) (M + 7) 0 [.blk 0, .code c_crc_More_16] (iter 0 [5, 6, 12, 13, 14] (exec T (orc T (M + 7)) (M + 7) 0 c_crc_More_13) j fr H)) = R
theorem step_crc_More_l0 (q : Nat) (ih_crc_More_l0 : St_crc_More_l0 q) : St_crc_More_l0 (q + 1) := by
  intro M hM j hj v6 v12z v12l v13 v14 h0_0 r h R hR fr H hc
  obtain ⟨j, rfl⟩ : ∃ i, j = i + 1 := ⟨j - 1, by omega⟩
  rw [unw_iter, hc]; clear hc
  rw [crc_More_l0] at h
  rcases Classical.em (v14 < v13) with h1 | h1
  · rw [if_pos h1] at h; replace h1 := eq_true h1
    rcases Classical.em (0 ≤ v14) with h2 | h2
    · rw [if_pos h2] at h; replace h2 := eq_true h2
      rcases h3 : v12l[v14.toNat]? with _ | e2
      · rw [h3] at h; cases h
      · rw [h3, Option.bind_some] at h
        rcases Classical.em (0 ≤ (ibits .xor .u8 (wrp .u8 v6) e2)) with h4 | h4
        · rw [if_pos h4] at h; replace h4 := eq_true h4
          rcases Classical.em ((ibits .xor .u8 (wrp .u8 v6) e2).toNat < 256) with h5 | h5
          · rw [if_pos h5] at h; replace h5 := eq_true h5
            rcases h6 : h0_0[(ibits .xor .u8 (wrp .u8 v6) e2).toNat]? with _ | e3
            · rw [h6] at h; cases h
            · rw [h6, Option.bind_some] at h
              replace h := ih_crc_More_l0 M (by omega) j (by omega) _ _ _ _ _ _ _ h R hR
              simp (maxDischargeDepth := 12) only [kk0, kk1, kk2, kk3, kk4, kk5, kk6, kk7, kk8, kk9, kk10, kk11, kk12, kk13, kk14, kk15, kk16, kn0, kn1, kn2, kn3, kn4, kn5, kn6, eq_self_iff_true, implies_true, forall_const, Int.cast_ofNat_Int, Nat.reduceEqDiff, Nat.reduceAdd, Nat.reduceSub, Nat.reduceMul, Nat.reduceLT, Nat.reduceLeDiff, Int.reduceEq, Int.reduceLT, Int.reduceLE, Int.reduceAdd, Int.reduceSub, Int.reduceMul, Int.reduceToNat, Int.reduceNeg, ↓reduceIte, reduceCtorEq, L_crc_More, v_crc_Table, Ow.enc, Sl.enc, arrEnc, rr_crc_More, ro_crc_More, b0_crc_More, *]
          · rw [if_neg h5] at h; replace h5 := eq_false h5
            cases h
        · rw [if_neg h4] at h; replace h4 := eq_false h4
          cases h
    · rw [if_neg h2] at h; replace h2 := eq_false h2
      cases h
  · rw [if_neg h1] at h; replace h1 := eq_false h1
    cases h; subst hR; simp (maxDischargeDepth := 12) only [kk0, kk1, kk2, kk3, kk4, kk5, kk6, kk7, kk8, kk9, kk10, kk11, kk12, kk13, kk14, kk15, kk16, kn0, kn1, kn2, kn3, kn4, kn5, kn6, eq_self_iff_true, implies_true, forall_const, Int.cast_ofNat_Int, Nat.reduceEqDiff, Nat.reduceAdd, Nat.reduceSub, Nat.reduceMul, Nat.reduceLT, Nat.reduceLeDiff, Int.reduceEq, Int.reduceLT, Int.reduceLE, Int.reduceAdd, Int.reduceSub, Int.reduceMul, Int.reduceToNat, Int.reduceNeg, ↓reduceIte, reduceCtorEq, L_crc_More, v_crc_Table, Ow.enc, Sl.enc, arrEnc, rr_crc_More, ro_crc_More, b0_crc_More, *]
theorem all_crc_More : ∀ q, St_crc_More_l0 q
  | 0 => by intro M hM j hj; intros; rename_i h _ _ _ _ _; cases h
  | q + 1 => by have i0 := all_crc_More q; exact step_crc_More_l0 q i0
theorem run_crc_More : ∀ (q N : Nat), 8 * q ≤ N → ∀ (a0 : Int) (a1 : (Sl Int)), ∀ (r : Int), crc_More q a0 a1 = some r → (orc T N).deep F.crc_More [(V.int .u32) a0, (Sl.enc (V.int .u8)) a1] = some [(V.int .u32) r] := by
  intro q N hM a0 a1 r h
  rcases q with _ | q
  · cases h
  obtain ⟨M, rfl⟩ : ∃ M, N = M + 8 := ⟨N - 8, by omega⟩
  have ih_crc_More_l0 := (all_crc_More q)
  generalize hR : some [(V.int .u32) r] = R
  rw [orc_deep, T_crc_More, Option.bind_some, runDeep_eq]
  rw [crc_More] at h
  rcases h1 : crc_Table q with _ | r1
  · rw [h1] at h; cases h
  · rw [h1, Option.bind_some] at h
    replace h1 := run_crc_Table q (M + 7) (by omega)  _ h1
    try simp only [Ow.enc, arrEnc, kn0, kn1, kn2, kn3, kn4, kn5, kn6, eq_self_iff_true, implies_true, forall_const, Int.cast_ofNat_Int, Nat.reduceEqDiff, Nat.reduceAdd, Nat.reduceSub, Nat.reduceMul, Nat.reduceLT, Nat.reduceLeDiff, Int.reduceEq, Int.reduceLT, Int.reduceLE, Int.reduceAdd, Int.reduceSub, Int.reduceMul, Int.reduceToNat, Int.reduceNeg, ↓reduceIte, reduceCtorEq] at h1
    rcases Classical.em (r1.length = 256) with h2 | h2
    · rw [if_pos h2] at h
      replace h := ih_crc_More_l0 M (by omega) (M + 7) (by omega) _ _ _ _ _ _ _ h R hR
      simp (maxDischargeDepth := 12) only [kk0, kk1, kk2, kk3, kk4, kk5, kk6, kk7, kk8, kk9, kk10, kk11, kk12, kk13, kk14, kk15, kk16, kn0, kn1, kn2, kn3, kn4, kn5, kn6, eq_self_iff_true, implies_true, forall_const, Int.cast_ofNat_Int, Nat.reduceEqDiff, Nat.reduceAdd, Nat.reduceSub, Nat.reduceMul, Nat.reduceLT, Nat.reduceLeDiff, Int.reduceEq, Int.reduceLT, Int.reduceLE, Int.reduceAdd, Int.reduceSub, Int.reduceMul, Int.reduceToNat, Int.reduceNeg, ↓reduceIte, reduceCtorEq, L_crc_More, v_crc_Table, Ow.enc, Sl.enc, arrEnc, rr_crc_More, ro_crc_More, b0_crc_More, *]
    · rw [if_neg h2] at h; replace h2 := eq_false h2
      cases h
theorem run_crc_Sum : ∀ (q N : Nat), 8 * q ≤ N → ∀ (a0 : (Sl Int)), ∀ (r : Int), crc_Sum q a0 = some r → (orc T N).deep F.crc_Sum [(Sl.enc (V.int .u8)) a0] = some [(V.int .u32) r] := by
  intro q N hM a0 r h
  rcases q with _ | q
  · cases h
  obtain ⟨M, rfl⟩ : ∃ M, N = M + 8 := ⟨N - 8, by omega⟩
  generalize hR : some [(V.int .u32) r] = R
  rw [orc_deep, T_crc_Sum, Option.bind_some, runDeep_eq]
  rw [crc_Sum] at h
  rcases h1 : crc_More q 0 a0 with _ | r1
  · rw [h1] at h; cases h
  · rw [h1, Option.bind_some] at h
    replace h1 := run_crc_More q (M + 7) (by omega) _ _ _ h1
    try simp only [Ow.enc, Sl.enc, kn0, kn1, kn2, kn3, kn4, kn5, kn6, eq_self_iff_true, implies_true, forall_const, Int.cast_ofNat_Int, Nat.reduceEqDiff, Nat.reduceAdd, Nat.reduceSub, Nat.reduceMul, Nat.reduceLT, Nat.reduceLeDiff, Int.reduceEq, Int.reduceLT, Int.reduceLE, Int.reduceAdd, Int.reduceSub, Int.reduceMul, Int.reduceToNat, Int.reduceNeg, ↓reduceIte, reduceCtorEq] at h1
    cases h; subst hR; simp (maxDischargeDepth := 12) only [kk0, kk1, kk2, kk3, kk4, kk5, kk6, kk7, kk8, kk9, kk10, kk11, kk12, kk13, kk14, kk15, kk16, kn0, kn1, kn2, kn3, kn4, kn5, kn6, eq_self_iff_true, implies_true, forall_const, Int.cast_ofNat_Int, Nat.reduceEqDiff, Nat.reduceAdd, Nat.reduceSub, Nat.reduceMul, Nat.reduceLT, Nat.reduceLeDiff, Int.reduceEq, Int.reduceLT, Int.reduceLE, Int.reduceAdd, Int.reduceSub, Int.reduceMul, Int.reduceToNat, Int.reduceNeg, ↓reduceIte, reduceCtorEq, L_crc_Sum, v_crc_More, Ow.enc, Sl.enc, rr_crc_Sum, ro_crc_Sum, b0_crc_Sum, *]
def St_num_fixed_l0 (q : Nat) : Prop := ∀ (M : Nat) (hM : 8 * q ≤ M) (j : Nat) (hj : q ≤ j) (v0 : Int) (v7 : Int) (v8 : Int) (h0z : Bool) (h0l : List Int) (r : (Ow Int)) (_ : num_fixed_l0 q v0 v7 v8 h0z h0l = some r) (R : Option (List V)) (_ : some [(Ow.enc 1 (V.int .u8)) r] = R) (fr : Fr) (H : Hp) (_ : canon 0 [0, 5, 7, 8] fr H = ([(0, (.int .u64 v0)), (5, (.vw 0 0 0 h0l.length 1)), (7, (.int .i64 v7)), (8, (.int .i64 v8))], [(.row 0 h0z 1 (List.map (V.int .u8) h0l) true)])), fin m_num_fixed (unw T (orc T (M + 7)) (M + 7) 0 [.blk 0, .code c_num_fixed_15] (iter 0 [0, 5, 7, 8] (exec T (orc T (M + 7)) (M + 7) 0 c_num_fixed_12) j fr H)) = R
theorem step_num_fixed_l0 (q : Nat) (ih_num_fixed_l0 : St_num_fixed_l0 q) : St_num_fixed_l0 (q + 1) := by
  intro M hM j hj v0 v7 v8 h0z h0l r h R hR fr H hc
  obtain ⟨j, rfl⟩ : ∃ i, j = i + 1 := ⟨j - 1, by omega⟩
  rw [unw_iter, hc]; clear hc
  rw [num_fixed_l0] at h
  rcases Classical.em (v8 < v7) with h1 | h1
  · rw [if_pos h1] at h; replace h1 := eq_true h1
    rcases Classical.em ((wrp .i64 (8 * v8)) < 0) with h2 | h2
    · rw [if_pos h2] at h; replace h2 := eq_true h2
      cases h
    · rw [if_neg h2] at h; replace h2 := eq_false h2
      rcases Classical.em ((h0l.length + 1) ≤ 4294967296) with h3 | h3
      · rw [if_pos h3] at h; replace h3 := eq_true h3
        try simp only [kn0, kn1, kn2, kn3, kn4, kn5, kn6, eq_self_iff_true, implies_true, forall_const, Int.cast_ofNat_Int, Nat.reduceEqDiff, Nat.reduceAdd, Nat.reduceSub, Nat.reduceMul, Nat.reduceLT, Nat.reduceLeDiff, Int.reduceEq, Int.reduceLT, Int.reduceLE, Int.reduceAdd, Int.reduceSub, Int.reduceMul, Int.reduceToNat, Int.reduceNeg, ↓reduceIte, reduceCtorEq] at h3
        replace h := ih_num_fixed_l0 M (by omega) j (by omega) _ _ _ _ _ _ h R hR
        simp (maxDischargeDepth := 12) only [kk0, kk1, kk2, kk3, kk4, kk5, kk6, kk7, kk8, kk9, kk10, kk11, kk12, kk13, kk14, kk15, kk16, kn0, kn1, kn2, kn3, kn4, kn5, kn6, eq_self_iff_true, implies_true, forall_const, Int.cast_ofNat_Int, Nat.reduceEqDiff, Nat.reduceAdd, Nat.reduceSub, Nat.reduceMul, Nat.reduceLT, Nat.reduceLeDiff, Int.reduceEq, Int.reduceLT, Int.reduceLE, Int.reduceAdd, Int.reduceSub, Int.reduceMul, Int.reduceToNat, Int.reduceNeg, ↓reduceIte, reduceCtorEq, L_num_fixed, Ow.enc, Sl.enc, rr_num_fixed, ro_num_fixed, b0_num_fixed, *]
      · rw [if_neg h3] at h; replace h3 := eq_false h3
        try simp only [kn0, kn1, kn2, kn3, kn4, kn5, kn6, eq_self_iff_true, implies_true, forall_const, Int.cast_ofNat_Int, Nat.reduceEqDiff, Nat.reduceAdd, Nat.reduceSub, Nat.reduceMul, Nat.reduceLT, Nat.reduceLeDiff, Int.reduceEq, Int.reduceLT, Int.reduceLE, Int.reduceAdd, Int.reduceSub, Int.reduceMul, Int.reduceToNat, Int.reduceNeg, ↓reduceIte, reduceCtorEq] at h3
        cases h
  · rw [if_neg h1] at h; replace h1 := eq_false h1
    cases h; subst hR; simp (maxDischargeDepth := 12) only [kk0, kk1, kk2, kk3, kk4, kk5, kk6, kk7, kk8, kk9, kk10, kk11, kk12, kk13, kk14, kk15, kk16, kn0, kn1, kn2, kn3, kn4, kn5, kn6, eq_self_iff_true, implies_true, forall_const, Int.cast_ofNat_Int, Nat.reduceEqDiff, Nat.reduceAdd, Nat.reduceSub, Nat.reduceMul, Nat.reduceLT, Nat.reduceLeDiff, Int.reduceEq, Int.reduceLT, Int.reduceLE, Int.reduceAdd, Int.reduceSub, Int.reduceMul, Int.reduceToNat, Int.reduceNeg, ↓reduceIte, reduceCtorEq, L_num_fixed, Ow.enc, Sl.enc, rr_num_fixed, ro_num_fixed, b0_num_fixed, *]
theorem all_num_fixed : ∀ q, St_num_fixed_l0 q
  | 0 => by intro M hM j hj; intros; rename_i h _ _ _ _ _; cases h
  | q + 1 => by have i0 := all_num_fixed q; exact step_num_fixed_l0 q i0
theorem run_num_fixed : ∀ (q N : Nat), 8 * q ≤ N → ∀ (a0 : Int) (a1 : Int), ∀ (r : (Ow Int)), num_fixed q a0 a1 = some r → (orc T N).deep F.num_fixed [(V.int .u64) a0, (V.int .i64) a1] = some [(Ow.enc 1 (V.int .u8)) r] := by
  intro q N hM a0 a1 r h
  rcases q with _ | q
  · cases h
  obtain ⟨M, rfl⟩ : ∃ M, N = M + 8 := ⟨N - 8, by omega⟩
  have ih_num_fixed_l0 := (all_num_fixed q)
  generalize hR : some [(Ow.enc 1 (V.int .u8)) r] = R
  rw [orc_deep, T_num_fixed, Option.bind_some, runDeep_eq]
  rw [num_fixed] at h
  replace h := ih_num_fixed_l0 M (by omega) (M + 7) (by omega) _ _ _ _ _ _ h R hR
  simp (maxDischargeDepth := 12) only [kk0, kk1, kk2, kk3, kk4, kk5, kk6, kk7, kk8, kk9, kk10, kk11, kk12, kk13, kk14, kk15, kk16, kn0, kn1, kn2, kn3, kn4, kn5, kn6, eq_self_iff_true, implies_true, forall_const, Int.cast_ofNat_Int, Nat.reduceEqDiff, Nat.reduceAdd, Nat.reduceSub, Nat.reduceMul, Nat.reduceLT, Nat.reduceLeDiff, Int.reduceEq, Int.reduceLT, Int.reduceLE, Int.reduceAdd, Int.reduceSub, Int.reduceMul, Int.reduceToNat, Int.reduceNeg, ↓reduceIte, reduceCtorEq, L_num_fixed, Ow.enc, Sl.enc, rr_num_fixed, ro_num_fixed, b0_num_fixed, *]
theorem run_num_Fixed32 : ∀ (q N : Nat), 8 * q ≤ N → ∀ (a0 : Int), ∀ (r : (Ow Int)), num_Fixed32 q a0 = some r → (orc T N).deep F.num_Fixed32 [(V.int .u32) a0] = some [(Ow.enc 1 (V.int .u8)) r] := by
  intro q N hM a0 r h
  rcases q with _ | q
  · cases h
  obtain ⟨M, rfl⟩ : ∃ M, N = M + 8 := ⟨N - 8, by omega⟩
  generalize hR : some [(Ow.enc 1 (V.int .u8)) r] = R
  rw [orc_deep, T_num_Fixed32, Option.bind_some, runDeep_eq]
  rw [num_Fixed32] at h
  rcases h1 : num_fixed q (wrp .u64 a0) 4 with _ | r1
  · rw [h1] at h; cases h
  · rw [h1, Option.bind_some] at h
    replace h1 := run_num_fixed q (M + 7) (by omega) _ _ _ h1
    try simp only [Ow.enc, kn0, kn1, kn2, kn3, kn4, kn5, kn6, eq_self_iff_true, implies_true, forall_const, Int.cast_ofNat_Int, Nat.reduceEqDiff, Nat.reduceAdd, Nat.reduceSub, Nat.reduceMul, Nat.reduceLT, Nat.reduceLeDiff, Int.reduceEq, Int.reduceLT, Int.reduceLE, Int.reduceAdd, Int.reduceSub, Int.reduceMul, Int.reduceToNat, Int.reduceNeg, ↓reduceIte, reduceCtorEq] at h1
    cases h; subst hR; simp (maxDischargeDepth := 12) only [kk0, kk1, kk2, kk3, kk4, kk5, kk6, kk7, kk8, kk9, kk10, kk11, kk12, kk13, kk14, kk15, kk16, kn0, kn1, kn2, kn3, kn4, kn5, kn6, eq_self_iff_true, implies_true, forall_const, Int.cast_ofNat_Int, Nat.reduceEqDiff, Nat.reduceAdd, Nat.reduceSub, Nat.reduceMul, Nat.reduceLT, Nat.reduceLeDiff, Int.reduceEq, Int.reduceLT, Int.reduceLE, Int.reduceAdd, Int.reduceSub, Int.reduceMul, Int.reduceToNat, Int.reduceNeg, ↓reduceIte, reduceCtorEq, L_num_Fixed32, v_num_fixed, Ow.enc, Sl.enc, rr_num_Fixed32, ro_num_Fixed32, b0_num_Fixed32, *]
theorem run_frame_sum : ∀ (q N : Nat), 8 * q ≤ N → ∀ (a0 : (Sl Int)) (a1 : (Sl Int)), ∀ (r : (Ow Int)), frame_sum q a0 a1 = some r → (orc T N).deep F.frame_sum [(Sl.enc (V.int .u8)) a0, (Sl.enc (V.int .u8)) a1] = some [(Ow.enc 1 (V.int .u8)) r] := by
  intro q N hM a0 a1 r h
  rcases q with _ | q
  · cases h
  obtain ⟨M, rfl⟩ : ∃ M, N = M + 8 := ⟨N - 8, by omega⟩
  generalize hR : some [(Ow.enc 1 (V.int .u8)) r] = R
  rw [orc_deep, T_frame_sum, Option.bind_some, runDeep_eq]
  rw [frame_sum] at h
  rcases h1 : crc_Sum q a0 with _ | r1
  · rw [h1] at h; cases h
  · rw [h1, Option.bind_some] at h
    replace h1 := run_crc_Sum q (M + 7) (by omega) _ _ h1
    try simp only [Ow.enc, Sl.enc, kn0, kn1, kn2, kn3, kn4, kn5, kn6, eq_self_iff_true, implies_true, forall_const, Int.cast_ofNat_Int, Nat.reduceEqDiff, Nat.reduceAdd, Nat.reduceSub, Nat.reduceMul, Nat.reduceLT, Nat.reduceLeDiff, Int.reduceEq, Int.reduceLT, Int.reduceLE, Int.reduceAdd, Int.reduceSub, Int.reduceMul, Int.reduceToNat, Int.reduceNeg, ↓reduceIte, reduceCtorEq] at h1
    rcases h2 : crc_More q r1 a1 with _ | r2
    · rw [h2] at h; cases h
    · rw [h2, Option.bind_some] at h
      replace h2 := run_crc_More q (M + 7) (by omega) _ _ _ h2
      try simp only [Ow.enc, Sl.enc, kn0, kn1, kn2, kn3, kn4, kn5, kn6, eq_self_iff_true, implies_true, forall_const, Int.cast_ofNat_Int, Nat.reduceEqDiff, Nat.reduceAdd, Nat.reduceSub, Nat.reduceMul, Nat.reduceLT, Nat.reduceLeDiff, Int.reduceEq, Int.reduceLT, Int.reduceLE, Int.reduceAdd, Int.reduceSub, Int.reduceMul, Int.reduceToNat, Int.reduceNeg, ↓reduceIte, reduceCtorEq] at h2
      rcases h3 : num_Fixed32 q r2 with _ | r3
      · rw [h3] at h; cases h
      · rw [h3, Option.bind_some] at h
        replace h3 := run_num_Fixed32 q (M + 7) (by omega) _ _ h3
        try simp only [Ow.enc, kn0, kn1, kn2, kn3, kn4, kn5, kn6, eq_self_iff_true, implies_true, forall_const, Int.cast_ofNat_Int, Nat.reduceEqDiff, Nat.reduceAdd, Nat.reduceSub, Nat.reduceMul, Nat.reduceLT, Nat.reduceLeDiff, Int.reduceEq, Int.reduceLT, Int.reduceLE, Int.reduceAdd, Int.reduceSub, Int.reduceMul, Int.reduceToNat, Int.reduceNeg, ↓reduceIte, reduceCtorEq] at h3
        cases h; subst hR; simp (maxDischargeDepth := 12) only [kk0, kk1, kk2, kk3, kk4, kk5, kk6, kk7, kk8, kk9, kk10, kk11, kk12, kk13, kk14, kk15, kk16, kn0, kn1, kn2, kn3, kn4, kn5, kn6, eq_self_iff_true, implies_true, forall_const, Int.cast_ofNat_Int, Nat.reduceEqDiff, Nat.reduceAdd, Nat.reduceSub, Nat.reduceMul, Nat.reduceLT, Nat.reduceLeDiff, Int.reduceEq, Int.reduceLT, Int.reduceLE, Int.reduceAdd, Int.reduceSub, Int.reduceMul, Int.reduceToNat, Int.reduceNeg, ↓reduceIte, reduceCtorEq, L_frame_sum, v_num_Fixed32, v_crc_More, v_crc_Sum, Ow.enc, Sl.enc, rr_frame_sum, ro_frame_sum, b0_frame_sum, *]
def St_slices_Concat_byte_byte_l0 (q : Nat) : Prop := ∀ (M : Nat) (hM : 8 * q ≤ M) (j : Nat) (hj : q ≤ j) (v0z : Bool) (v0l : List (Sl Int)) (v3 : Int) (v9z : Bool) (v9l : List (Sl Int)) (v10 : Int) (v11 : Int) (r : (Ow Int)) (_ : slices_Concat_byte_byte_l0 q v0z v0l v3 v9z v9l v10 v11 = some r) (R : Option (List V)) (_ : some [(Ow.enc 1 (V.int .u8)) r] = R) (fr : Fr) (H : Hp) (_ : canon 0 [0, 3, 9, 10, 11] fr H = ([(0, (.sl v0z (List.map (Sl.enc (V.int .u8)) v0l))), (3, (.int .i64 v3)), (9, (.sl v9z (List.map (Sl.enc (V.int .u8)) v9l))), (10, (.int .i64 v10)), (11, (.int .i64 v11))], [])), fin m_slices_Concat_byte_byte (unw T (orc T (M + 7)) (M + 7) 0 [.blk 0, .code c_slices_Concat_byte_byte_32] (iter 0 [0, 3, 9, 10, 11] (exec T (orc T (M + 7)) (M + 7) 0 c_slices_Concat_byte_byte_15) j fr H)) = R
def St_slices_Concat_byte_byte_l1 (q : Nat) : Prop := ∀ (M : Nat) (hM : 8 * q ≤ M) (j : Nat) (hj : q ≤ j) (v6len : Nat) (v25z : Bool) (v25l : List (Sl Int)) (v26 : Int) (v27 : Int) (h0z : Bool) (h0l : List Int) (r : (Ow Int)) (_ : slices_Concat_byte_byte_l1 q v6len v25z v25l v26 v27 h0z h0l = some r) (R : Option (List V)) (_ : some [(Ow.enc 1 (V.int .u8)) r] = R) (fr : Fr) (H : Hp) (_ : canon 0 [6, 25, 26, 27] fr H = ([(6, (.vw 0 0 0 v6len 0)), (25, (.sl v25z (List.map (Sl.enc (V.int .u8)) v25l))), (26, (.int .i64 v26)), (27, (.int .i64 v27))], [(.row 0 h0z 1 (List.map (V.int .u8) h0l) true)])), fin m_slices_Concat_byte_byte (unw T (orc T (M + 7)) (M + 7) 0 [.blk 2, .code c_slices_Concat_byte_byte_30] (iter 0 [6, 25, 26, 27] (exec T (orc T (M + 7)) (M + 7) 0 c_slices_Concat_byte_byte_27) j fr H)) = R
def St_slices_Concat_byte_byte_l2 (q : Nat) : Prop := ∀ (M : Nat) (hM : 8 * q ≤ M) (j : Nat) (hj : q ≤ j) (v25z : Bool) (v25l : List (Sl Int)) (v26 : Int) (r : (Ow Int)) (_ : slices_Concat_byte_byte_l2 q v25z v25l v26 = some r) (R : Option (List V)) (_ : some [(Ow.enc 1 (V.int .u8)) r] = R) (fr : Fr) (H : Hp) (_ : canon 0 [6, 25, 26, 27] fr H = ([(6, (.sl true [])), (25, (.sl v25z (List.map (Sl.enc (V.int .u8)) v25l))), (26, (.int .i64 v26)), (27, (.int .i64 0))], [])), fin m_slices_Concat_byte_byte (unw T (orc T (M + 7)) (M + 7) 0 [.blk 2, .code c_slices_Concat_byte_byte_30] (iter 0 [6, 25, 26, 27] (exec T (orc T (M + 7)) (M + 7) 0 c_slices_Concat_byte_byte_27) j fr H)) = R
def St_slices_Concat_byte_byte_l3 (q : Nat) : Prop := ∀ (M : Nat) (hM : 8 * q ≤ M) (j : Nat) (hj : q ≤ j) (v25z : Bool) (v25l : List (Sl Int)) (v26 : Int) (v27 : Int) (h0z : Bool) (h0l : List Int) (r : (Ow Int)) (_ : slices_Concat_byte_byte_l3 q v25z v25l v26 v27 h0z h0l = some r) (R : Option (List V)) (_ : some [(Ow.enc 1 (V.int .u8)) r] = R) (fr : Fr) (H : Hp) (_ : canon 0 [6, 25, 26, 27] fr H = ([(6, (.vw 0 0 0 h0l.length 1)), (25, (.sl v25z (List.map (Sl.enc (V.int .u8)) v25l))), (26, (.int .i64 v26)), (27, (.int .i64 v27))], [(.row 0 h0z 1 (List.map (V.int .u8) h0l) true)])), fin m_slices_Concat_byte_byte (unw T (orc T (M + 7)) (M + 7) 0 [.blk 2, .code c_slices_Concat_byte_byte_30] (iter 0 [6, 25, 26, 27] (exec T (orc T (M + 7)) (M + 7) 0 c_slices_Concat_byte_byte_27) j fr H)) = R
theorem step_slices_Concat_byte_byte_l0 (q : Nat) (ih_slices_Concat_byte_byte_l0 : St_slices_Concat_byte_byte_l0 q) (ih_slices_Concat_byte_byte_l1 : St_slices_Concat_byte_byte_l1 q) (ih_slices_Concat_byte_byte_l2 : St_slices_Concat_byte_byte_l2 q) : St_slices_Concat_byte_byte_l0 (q + 1) := by
  intro M hM j hj v0z v0l v3 v9z v9l v10 v11 r h R hR fr H hc
  obtain ⟨j, rfl⟩ : ∃ i, j = i + 1 := ⟨j - 1, by omega⟩
  rw [unw_iter, hc]; clear hc
  rw [slices_Concat_byte_byte_l0] at h
  rcases Classical.em (v11 < v10) with h1 | h1
  · rw [if_pos h1] at h; replace h1 := eq_true h1
    rcases Classical.em (0 ≤ v11) with h2 | h2
    · rw [if_pos h2] at h; replace h2 := eq_true h2
      rcases h3 : v9l[v11.toNat]? with _ | e1
      · rw [h3] at h; cases h
      · rw [h3, Option.bind_some] at h
        rcases Classical.em ((wrp .i64 (v3 + (e1.l.length : Int))) < 0) with h4 | h4
        · rw [if_pos h4] at h; replace h4 := eq_true h4
          try simp only [kn0, kn1, kn2, kn3, kn4, kn5, kn6, eq_self_iff_true, implies_true, forall_const, Int.cast_ofNat_Int, Nat.reduceEqDiff, Nat.reduceAdd, Nat.reduceSub, Nat.reduceMul, Nat.reduceLT, Nat.reduceLeDiff, Int.reduceEq, Int.reduceLT, Int.reduceLE, Int.reduceAdd, Int.reduceSub, Int.reduceMul, Int.reduceToNat, Int.reduceNeg, ↓reduceIte, reduceCtorEq] at h4
          cases h
        · rw [if_neg h4] at h; replace h4 := eq_false h4
          try simp only [kn0, kn1, kn2, kn3, kn4, kn5, kn6, eq_self_iff_true, implies_true, forall_const, Int.cast_ofNat_Int, Nat.reduceEqDiff, Nat.reduceAdd, Nat.reduceSub, Nat.reduceMul, Nat.reduceLT, Nat.reduceLeDiff, Int.reduceEq, Int.reduceLT, Int.reduceLE, Int.reduceAdd, Int.reduceSub, Int.reduceMul, Int.reduceToNat, Int.reduceNeg, ↓reduceIte, reduceCtorEq] at h4
          replace h := ih_slices_Concat_byte_byte_l0 M (by omega) j (by omega) _ _ _ _ _ _ _ _ h R hR
          simp (maxDischargeDepth := 12) only [kk0, kk1, kk2, kk3, kk4, kk5, kk6, kk7, kk8, kk9, kk10, kk11, kk12, kk13, kk14, kk15, kk16, kn0, kn1, kn2, kn3, kn4, kn5, kn6, eq_self_iff_true, implies_true, forall_const, Int.cast_ofNat_Int, Nat.reduceEqDiff, Nat.reduceAdd, Nat.reduceSub, Nat.reduceMul, Nat.reduceLT, Nat.reduceLeDiff, Int.reduceEq, Int.reduceLT, Int.reduceLE, Int.reduceAdd, Int.reduceSub, Int.reduceMul, Int.reduceToNat, Int.reduceNeg, ↓reduceIte, reduceCtorEq, L_slices_Concat_byte_byte, L_slices_Grow_byte_byte, v_slices_Grow_byte_byte, i_slices_Grow_byte_byte, Ow.enc, Sl.enc, rr_slices_Concat_byte_byte, ro_slices_Concat_byte_byte, b0_slices_Concat_byte_byte, *]
    · rw [if_neg h2] at h; replace h2 := eq_false h2
      cases h
  · rw [if_neg h1] at h; replace h1 := eq_false h1
    rcases Classical.em (v3 < 0) with h5 | h5
    · rw [if_pos h5] at h; replace h5 := eq_true h5
      cases h
    · rw [if_neg h5] at h; replace h5 := eq_false h5
      rcases Classical.em (0 < (wrp .i64 (v3 - (wrp .i64 0)))) with h6 | h6
      · rw [if_pos h6] at h; replace h6 := eq_true h6
        try simp only [kn0, kn1, kn2, kn3, kn4, kn5, kn6, eq_self_iff_true, implies_true, forall_const, Int.cast_ofNat_Int, Nat.reduceEqDiff, Nat.reduceAdd, Nat.reduceSub, Nat.reduceMul, Nat.reduceLT, Nat.reduceLeDiff, Int.reduceEq, Int.reduceLT, Int.reduceLE, Int.reduceAdd, Int.reduceSub, Int.reduceMul, Int.reduceToNat, Int.reduceNeg, ↓reduceIte, reduceCtorEq] at h6
        rcases Classical.em (0 ≤ (wrp .i64 (v3 - (wrp .i64 0)))) with h7 | h7
        · rw [if_pos h7] at h; replace h7 := eq_true h7
          try simp only [kn0, kn1, kn2, kn3, kn4, kn5, kn6, eq_self_iff_true, implies_true, forall_const, Int.cast_ofNat_Int, Nat.reduceEqDiff, Nat.reduceAdd, Nat.reduceSub, Nat.reduceMul, Nat.reduceLT, Nat.reduceLeDiff, Int.reduceEq, Int.reduceLT, Int.reduceLE, Int.reduceAdd, Int.reduceSub, Int.reduceMul, Int.reduceToNat, Int.reduceNeg, ↓reduceIte, reduceCtorEq] at h7
          rcases Classical.em ((wrp .i64 (v3 - (wrp .i64 0))).toNat ≤ 4294967296) with h8 | h8
          · rw [if_pos h8] at h; replace h8 := eq_true h8
            try simp only [kn0, kn1, kn2, kn3, kn4, kn5, kn6, eq_self_iff_true, implies_true, forall_const, Int.cast_ofNat_Int, Nat.reduceEqDiff, Nat.reduceAdd, Nat.reduceSub, Nat.reduceMul, Nat.reduceLT, Nat.reduceLeDiff, Int.reduceEq, Int.reduceLT, Int.reduceLE, Int.reduceAdd, Int.reduceSub, Int.reduceMul, Int.reduceToNat, Int.reduceNeg, ↓reduceIte, reduceCtorEq] at h8
            rcases Classical.em ((wrp .i64 (v3 - (wrp .i64 0))) = 0) with h9 | h9
            · rw [if_pos h9] at h; replace h9 := eq_true h9
              try simp only [kn0, kn1, kn2, kn3, kn4, kn5, kn6, eq_self_iff_true, implies_true, forall_const, Int.cast_ofNat_Int, Nat.reduceEqDiff, Nat.reduceAdd, Nat.reduceSub, Nat.reduceMul, Nat.reduceLT, Nat.reduceLeDiff, Int.reduceEq, Int.reduceLT, Int.reduceLE, Int.reduceAdd, Int.reduceSub, Int.reduceMul, Int.reduceToNat, Int.reduceNeg, ↓reduceIte, reduceCtorEq] at h9
              cases h
            · rw [if_neg h9] at h; replace h9 := eq_false h9
              try simp only [kn0, kn1, kn2, kn3, kn4, kn5, kn6, eq_self_iff_true, implies_true, forall_const, Int.cast_ofNat_Int, Nat.reduceEqDiff, Nat.reduceAdd, Nat.reduceSub, Nat.reduceMul, Nat.reduceLT, Nat.reduceLeDiff, Int.reduceEq, Int.reduceLT, Int.reduceLE, Int.reduceAdd, Int.reduceSub, Int.reduceMul, Int.reduceToNat, Int.reduceNeg, ↓reduceIte, reduceCtorEq] at h9
              replace h := ih_slices_Concat_byte_byte_l1 M (by omega) (M + 7) (by omega) _ _ _ _ _ _ _ _ h R hR
              simp (maxDischargeDepth := 12) only [kk0, kk1, kk2, kk3, kk4, kk5, kk6, kk7, kk8, kk9, kk10, kk11, kk12, kk13, kk14, kk15, kk16, kn0, kn1, kn2, kn3, kn4, kn5, kn6, eq_self_iff_true, implies_true, forall_const, Int.cast_ofNat_Int, Nat.reduceEqDiff, Nat.reduceAdd, Nat.reduceSub, Nat.reduceMul, Nat.reduceLT, Nat.reduceLeDiff, Int.reduceEq, Int.reduceLT, Int.reduceLE, Int.reduceAdd, Int.reduceSub, Int.reduceMul, Int.reduceToNat, Int.reduceNeg, ↓reduceIte, reduceCtorEq, L_slices_Concat_byte_byte, L_slices_Grow_byte_byte, v_slices_Grow_byte_byte, i_slices_Grow_byte_byte, Ow.enc, Sl.enc, rr_slices_Concat_byte_byte, ro_slices_Concat_byte_byte, b0_slices_Concat_byte_byte, *]
          · rw [if_neg h8] at h; replace h8 := eq_false h8
            try simp only [kn0, kn1, kn2, kn3, kn4, kn5, kn6, eq_self_iff_true, implies_true, forall_const, Int.cast_ofNat_Int, Nat.reduceEqDiff, Nat.reduceAdd, Nat.reduceSub, Nat.reduceMul, Nat.reduceLT, Nat.reduceLeDiff, Int.reduceEq, Int.reduceLT, Int.reduceLE, Int.reduceAdd, Int.reduceSub, Int.reduceMul, Int.reduceToNat, Int.reduceNeg, ↓reduceIte, reduceCtorEq] at h8
            cases h
        · rw [if_neg h7] at h; replace h7 := eq_false h7
          try simp only [kn0, kn1, kn2, kn3, kn4, kn5, kn6, eq_self_iff_true, implies_true, forall_const, Int.cast_ofNat_Int, Nat.reduceEqDiff, Nat.reduceAdd, Nat.reduceSub, Nat.reduceMul, Nat.reduceLT, Nat.reduceLeDiff, Int.reduceEq, Int.reduceLT, Int.reduceLE, Int.reduceAdd, Int.reduceSub, Int.reduceMul, Int.reduceToNat, Int.reduceNeg, ↓reduceIte, reduceCtorEq] at h7
          cases h
      · rw [if_neg h6] at h; replace h6 := eq_false h6
        try simp only [kn0, kn1, kn2, kn3, kn4, kn5, kn6, eq_self_iff_true, implies_true, forall_const, Int.cast_ofNat_Int, Nat.reduceEqDiff, Nat.reduceAdd, Nat.reduceSub, Nat.reduceMul, Nat.reduceLT, Nat.reduceLeDiff, Int.reduceEq, Int.reduceLT, Int.reduceLE, Int.reduceAdd, Int.reduceSub, Int.reduceMul, Int.reduceToNat, Int.reduceNeg, ↓reduceIte, reduceCtorEq] at h6
        replace h := ih_slices_Concat_byte_byte_l2 M (by omega) (M + 7) (by omega) _ _ _ _ h R hR
        simp (maxDischargeDepth := 12) only [kk0, kk1, kk2, kk3, kk4, kk5, kk6, kk7, kk8, kk9, kk10, kk11, kk12, kk13, kk14, kk15, kk16, kn0, kn1, kn2, kn3, kn4, kn5, kn6, eq_self_iff_true, implies_true, forall_const, Int.cast_ofNat_Int, Nat.reduceEqDiff, Nat.reduceAdd, Nat.reduceSub, Nat.reduceMul, Nat.reduceLT, Nat.reduceLeDiff, Int.reduceEq, Int.reduceLT, Int.reduceLE, Int.reduceAdd, Int.reduceSub, Int.reduceMul, Int.reduceToNat, Int.reduceNeg, ↓reduceIte, reduceCtorEq, L_slices_Concat_byte_byte, L_slices_Grow_byte_byte, v_slices_Grow_byte_byte, i_slices_Grow_byte_byte, Ow.enc, Sl.enc, rr_slices_Concat_byte_byte, ro_slices_Concat_byte_byte, b0_slices_Concat_byte_byte, *]
theorem step_slices_Concat_byte_byte_l1 (q : Nat) (ih_slices_Concat_byte_byte_l1 : St_slices_Concat_byte_byte_l1 q) : St_slices_Concat_byte_byte_l1 (q + 1) := by
  intro M hM j hj v6len v25z v25l v26 v27 h0z h0l r h R hR fr H hc
  obtain ⟨j, rfl⟩ : ∃ i, j = i + 1 := ⟨j - 1, by omega⟩
  rw [unw_iter, hc]; clear hc
  rw [slices_Concat_byte_byte_l1] at h
  rcases Classical.em (v27 < v26) with h1 | h1
  · rw [if_pos h1] at h; replace h1 := eq_true h1
    rcases Classical.em (0 ≤ v27) with h2 | h2
    · rw [if_pos h2] at h; replace h2 := eq_true h2
      rcases h3 : v25l[v27.toNat]? with _ | e2
      · rw [h3] at h; cases h
      · rw [h3, Option.bind_some] at h
        rcases Classical.em ((v6len + e2.l.length) ≤ h0l.length) with h4 | h4
        · rw [if_pos h4] at h; replace h4 := eq_true h4
          try simp only [kn0, kn1, kn2, kn3, kn4, kn5, kn6, eq_self_iff_true, implies_true, forall_const, Int.cast_ofNat_Int, Nat.reduceEqDiff, Nat.reduceAdd, Nat.reduceSub, Nat.reduceMul, Nat.reduceLT, Nat.reduceLeDiff, Int.reduceEq, Int.reduceLT, Int.reduceLE, Int.reduceAdd, Int.reduceSub, Int.reduceMul, Int.reduceToNat, Int.reduceNeg, ↓reduceIte, reduceCtorEq] at h4
          replace h := ih_slices_Concat_byte_byte_l1 M (by omega) j (by omega) _ _ _ _ _ _ _ _ h R hR
          simp (maxDischargeDepth := 12) only [kk0, kk1, kk2, kk3, kk4, kk5, kk6, kk7, kk8, kk9, kk10, kk11, kk12, kk13, kk14, kk15, kk16, kn0, kn1, kn2, kn3, kn4, kn5, kn6, eq_self_iff_true, implies_true, forall_const, Int.cast_ofNat_Int, Nat.reduceEqDiff, Nat.reduceAdd, Nat.reduceSub, Nat.reduceMul, Nat.reduceLT, Nat.reduceLeDiff, Int.reduceEq, Int.reduceLT, Int.reduceLE, Int.reduceAdd, Int.reduceSub, Int.reduceMul, Int.reduceToNat, Int.reduceNeg, ↓reduceIte, reduceCtorEq, L_slices_Concat_byte_byte, L_slices_Grow_byte_byte, v_slices_Grow_byte_byte, i_slices_Grow_byte_byte, Ow.enc, Sl.enc, rr_slices_Concat_byte_byte, ro_slices_Concat_byte_byte, b0_slices_Concat_byte_byte, *]
        · rw [if_neg h4] at h; replace h4 := eq_false h4
          try simp only [kn0, kn1, kn2, kn3, kn4, kn5, kn6, eq_self_iff_true, implies_true, forall_const, Int.cast_ofNat_Int, Nat.reduceEqDiff, Nat.reduceAdd, Nat.reduceSub, Nat.reduceMul, Nat.reduceLT, Nat.reduceLeDiff, Int.reduceEq, Int.reduceLT, Int.reduceLE, Int.reduceAdd, Int.reduceSub, Int.reduceMul, Int.reduceToNat, Int.reduceNeg, ↓reduceIte, reduceCtorEq] at h4
          cases h
    · rw [if_neg h2] at h; replace h2 := eq_false h2
      cases h
  · rw [if_neg h1] at h; replace h1 := eq_false h1
    cases h; subst hR; simp (maxDischargeDepth := 12) only [kk0, kk1, kk2, kk3, kk4, kk5, kk6, kk7, kk8, kk9, kk10, kk11, kk12, kk13, kk14, kk15, kk16, kn0, kn1, kn2, kn3, kn4, kn5, kn6, eq_self_iff_true, implies_true, forall_const, Int.cast_ofNat_Int, Nat.reduceEqDiff, Nat.reduceAdd, Nat.reduceSub, Nat.reduceMul, Nat.reduceLT, Nat.reduceLeDiff, Int.reduceEq, Int.reduceLT, Int.reduceLE, Int.reduceAdd, Int.reduceSub, Int.reduceMul, Int.reduceToNat, Int.reduceNeg, ↓reduceIte, reduceCtorEq, L_slices_Concat_byte_byte, L_slices_Grow_byte_byte, v_slices_Grow_byte_byte, i_slices_Grow_byte_byte, Ow.enc, Sl.enc, rr_slices_Concat_byte_byte, ro_slices_Concat_byte_byte, b0_slices_Concat_byte_byte, *]
theorem step_slices_Concat_byte_byte_l2 (q : Nat) (ih_slices_Concat_byte_byte_l3 : St_slices_Concat_byte_byte_l3 q) : St_slices_Concat_byte_byte_l2 (q + 1) := by
  intro M hM j hj v25z v25l v26 r h R hR fr H hc
  obtain ⟨j, rfl⟩ : ∃ i, j = i + 1 := ⟨j - 1, by omega⟩
  rw [unw_iter, hc]; clear hc
  rw [slices_Concat_byte_byte_l2] at h
  rcases Classical.em (0 < v26) with h1 | h1
  · rw [if_pos h1] at h; replace h1 := eq_true h1
    rcases h2 : v25l[0]? with _ | e3
    · rw [h2] at h; cases h
    · rw [h2, Option.bind_some] at h
      rcases Classical.em (e3.l.length ≤ 4294967296) with h3 | h3
      · rw [if_pos h3] at h; replace h3 := eq_true h3
        replace h := ih_slices_Concat_byte_byte_l3 M (by omega) j (by omega) _ _ _ _ _ _ _ h R hR
        simp (maxDischargeDepth := 12) only [kk0, kk1, kk2, kk3, kk4, kk5, kk6, kk7, kk8, kk9, kk10, kk11, kk12, kk13, kk14, kk15, kk16, kn0, kn1, kn2, kn3, kn4, kn5, kn6, eq_self_iff_true, implies_true, forall_const, Int.cast_ofNat_Int, Nat.reduceEqDiff, Nat.reduceAdd, Nat.reduceSub, Nat.reduceMul, Nat.reduceLT, Nat.reduceLeDiff, Int.reduceEq, Int.reduceLT, Int.reduceLE, Int.reduceAdd, Int.reduceSub, Int.reduceMul, Int.reduceToNat, Int.reduceNeg, ↓reduceIte, reduceCtorEq, L_slices_Concat_byte_byte, L_slices_Grow_byte_byte, v_slices_Grow_byte_byte, i_slices_Grow_byte_byte, Ow.enc, Sl.enc, rr_slices_Concat_byte_byte, ro_slices_Concat_byte_byte, b0_slices_Concat_byte_byte, *]
      · rw [if_neg h3] at h; replace h3 := eq_false h3
        cases h
  · rw [if_neg h1] at h; replace h1 := eq_false h1
    cases h; subst hR; simp (maxDischargeDepth := 12) only [kk0, kk1, kk2, kk3, kk4, kk5, kk6, kk7, kk8, kk9, kk10, kk11, kk12, kk13, kk14, kk15, kk16, kn0, kn1, kn2, kn3, kn4, kn5, kn6, eq_self_iff_true, implies_true, forall_const, Int.cast_ofNat_Int, Nat.reduceEqDiff, Nat.reduceAdd, Nat.reduceSub, Nat.reduceMul, Nat.reduceLT, Nat.reduceLeDiff, Int.reduceEq, Int.reduceLT, Int.reduceLE, Int.reduceAdd, Int.reduceSub, Int.reduceMul, Int.reduceToNat, Int.reduceNeg, ↓reduceIte, reduceCtorEq, L_slices_Concat_byte_byte, L_slices_Grow_byte_byte, v_slices_Grow_byte_byte, i_slices_Grow_byte_byte, Ow.enc, Sl.enc, rr_slices_Concat_byte_byte, ro_slices_Concat_byte_byte, b0_slices_Concat_byte_byte, *]
theorem step_slices_Concat_byte_byte_l3 (q : Nat) (ih_slices_Concat_byte_byte_l3 : St_slices_Concat_byte_byte_l3 q) : St_slices_Concat_byte_byte_l3 (q + 1) := by
  intro M hM j hj v25z v25l v26 v27 h0z h0l r h R hR fr H hc
  obtain ⟨j, rfl⟩ : ∃ i, j = i + 1 := ⟨j - 1, by omega⟩
  rw [unw_iter, hc]; clear hc
  rw [slices_Concat_byte_byte_l3] at h
  rcases Classical.em (v27 < v26) with h1 | h1
  · rw [if_pos h1] at h; replace h1 := eq_true h1
    rcases Classical.em (0 ≤ v27) with h2 | h2
    · rw [if_pos h2] at h; replace h2 := eq_true h2
      rcases h3 : v25l[v27.toNat]? with _ | e4
      · rw [h3] at h; cases h
      · rw [h3, Option.bind_some] at h
        rcases Classical.em ((h0l.length + e4.l.length) ≤ 4294967296) with h4 | h4
        · rw [if_pos h4] at h; replace h4 := eq_true h4
          try simp only [kn0, kn1, kn2, kn3, kn4, kn5, kn6, eq_self_iff_true, implies_true, forall_const, Int.cast_ofNat_Int, Nat.reduceEqDiff, Nat.reduceAdd, Nat.reduceSub, Nat.reduceMul, Nat.reduceLT, Nat.reduceLeDiff, Int.reduceEq, Int.reduceLT, Int.reduceLE, Int.reduceAdd, Int.reduceSub, Int.reduceMul, Int.reduceToNat, Int.reduceNeg, ↓reduceIte, reduceCtorEq] at h4
          replace h := ih_slices_Concat_byte_byte_l3 M (by omega) j (by omega) _ _ _ _ _ _ _ h R hR
          simp (maxDischargeDepth := 12) only [kk0, kk1, kk2, kk3, kk4, kk5, kk6, kk7, kk8, kk9, kk10, kk11, kk12, kk13, kk14, kk15, kk16, kn0, kn1, kn2, kn3, kn4, kn5, kn6, eq_self_iff_true, implies_true, forall_const, Int.cast_ofNat_Int, Nat.reduceEqDiff, Nat.reduceAdd, Nat.reduceSub, Nat.reduceMul, Nat.reduceLT, Nat.reduceLeDiff, Int.reduceEq, Int.reduceLT, Int.reduceLE, Int.reduceAdd, Int.reduceSub, Int.reduceMul, Int.reduceToNat, Int.reduceNeg, ↓reduceIte, reduceCtorEq, L_slices_Concat_byte_byte, L_slices_Grow_byte_byte, v_slices_Grow_byte_byte, i_slices_Grow_byte_byte, Ow.enc, Sl.enc, rr_slices_Concat_byte_byte, ro_slices_Concat_byte_byte, b0_slices_Concat_byte_byte, *]
        · rw [if_neg h4] at h; replace h4 := eq_false h4
          try simp only [kn0, kn1, kn2, kn3, kn4, kn5, kn6, eq_self_iff_true, implies_true, forall_const, Int.cast_ofNat_Int, Nat.reduceEqDiff, Nat.reduceAdd, Nat.reduceSub, Nat.reduceMul, Nat.reduceLT, Nat.reduceLeDiff, Int.reduceEq, Int.reduceLT, Int.reduceLE, Int.reduceAdd, Int.reduceSub, Int.reduceMul, Int.reduceToNat, Int.reduceNeg, ↓reduceIte, reduceCtorEq] at h4
          cases h
    · rw [if_neg h2] at h; replace h2 := eq_false h2
      cases h
  · rw [if_neg h1] at h; replace h1 := eq_false h1
    cases h; subst hR; simp (maxDischargeDepth := 12) only [kk0, kk1, kk2, kk3, kk4, kk5, kk6, kk7, kk8, kk9, kk10, kk11, kk12, kk13, kk14, kk15, kk16, kn0, kn1, kn2, kn3, kn4, kn5, kn6, eq_self_iff_true, implies_true, forall_const, Int.cast_ofNat_Int, Nat.reduceEqDiff, Nat.reduceAdd, Nat.reduceSub, Nat.reduceMul, Nat.reduceLT, Nat.reduceLeDiff, Int.reduceEq, Int.reduceLT, Int.reduceLE, Int.reduceAdd, Int.reduceSub, Int.reduceMul, Int.reduceToNat, Int.reduceNeg, ↓reduceIte, reduceCtorEq, L_slices_Concat_byte_byte, L_slices_Grow_byte_byte, v_slices_Grow_byte_byte, i_slices_Grow_byte_byte, Ow.enc, Sl.enc, rr_slices_Concat_byte_byte, ro_slices_Concat_byte_byte, b0_slices_Concat_byte_byte, *]
theorem all_slices_Concat_byte_byte : ∀ q, St_slices_Concat_byte_byte_l0 q ∧ St_slices_Concat_byte_byte_l1 q ∧ St_slices_Concat_byte_byte_l2 q ∧ St_slices_Concat_byte_byte_l3 q
  | 0 => by refine ⟨?_, ?_, ?_, ?_⟩ <;> (intro M hM j hj; intros; rename_i h _ _ _ _ _; cases h)
  | q + 1 => by have ⟨i0, i1, i2, i3⟩ := all_slices_Concat_byte_byte q; exact ⟨step_slices_Concat_byte_byte_l0 q i0 i1 i2, step_slices_Concat_byte_byte_l1 q i1, step_slices_Concat_byte_byte_l2 q i3, step_slices_Concat_byte_byte_l3 q i3⟩
theorem run_slices_Concat_byte_byte : ∀ (q N : Nat), 8 * q ≤ N → ∀ (a0 : (Sl (Sl Int))), ∀ (r : (Ow Int)), slices_Concat_byte_byte q a0 = some r → (orc T N).deep F.slices_Concat_byte_byte [(Sl.enc (Sl.enc (V.int .u8))) a0] = some [(Ow.enc 1 (V.int .u8)) r] := by
  intro q N hM a0 r h
  rcases q with _ | q
  · cases h
  obtain ⟨M, rfl⟩ : ∃ M, N = M + 8 := ⟨N - 8, by omega⟩
  have ih_slices_Concat_byte_byte_l0 := (all_slices_Concat_byte_byte q).1
  generalize hR : some [(Ow.enc 1 (V.int .u8)) r] = R
  rw [orc_deep, T_slices_Concat_byte_byte, Option.bind_some, runDeep_eq]
  rw [slices_Concat_byte_byte] at h
  replace h := ih_slices_Concat_byte_byte_l0 M (by omega) (M + 7) (by omega) _ _ _ _ _ _ _ _ h R hR
  simp (maxDischargeDepth := 12) only [kk0, kk1, kk2, kk3, kk4, kk5, kk6, kk7, kk8, kk9, kk10, kk11, kk12, kk13, kk14, kk15, kk16, kn0, kn1, kn2, kn3, kn4, kn5, kn6, eq_self_iff_true, implies_true, forall_const, Int.cast_ofNat_Int, Nat.reduceEqDiff, Nat.reduceAdd, Nat.reduceSub, Nat.reduceMul, Nat.reduceLT, Nat.reduceLeDiff, Int.reduceEq, Int.reduceLT, Int.reduceLE, Int.reduceAdd, Int.reduceSub, Int.reduceMul, Int.reduceToNat, Int.reduceNeg, ↓reduceIte, reduceCtorEq, L_slices_Concat_byte_byte, L_slices_Grow_byte_byte, v_slices_Grow_byte_byte, i_slices_Grow_byte_byte, Ow.enc, Sl.enc, rr_slices_Concat_byte_byte, ro_slices_Concat_byte_byte, b0_slices_Concat_byte_byte, *]
theorem run_frame_Encode : ∀ (q N : Nat), 8 * q ≤ N → ∀ (a0 : (Sl Int)), ∀ (r : (Ow Int) × Int), frame_Encode q a0 = some r → (orc T N).deep F.frame_Encode [(Sl.enc (V.int .u8)) a0] = some [(Ow.enc 1 (V.int .u8)) r.1, (V.int .i64) r.2] := by
  intro q N hM a0 r h
  rcases q with _ | q
  · cases h
  obtain ⟨M, rfl⟩ : ∃ M, N = M + 8 := ⟨N - 8, by omega⟩
  generalize hR : some [(Ow.enc 1 (V.int .u8)) r.1, (V.int .i64) r.2] = R
  rw [orc_deep, T_frame_Encode, Option.bind_some, runDeep_eq]
  rw [frame_Encode] at h
  rcases Classical.em (1048576 < (a0.l.length : Int)) with h1 | h1
  · rw [if_pos h1] at h; replace h1 := eq_true h1
    cases h; subst hR; simp (maxDischargeDepth := 12) only [kk0, kk1, kk2, kk3, kk4, kk5, kk6, kk7, kk8, kk9, kk10, kk11, kk12, kk13, kk14, kk15, kk16, kn0, kn1, kn2, kn3, kn4, kn5, kn6, eq_self_iff_true, implies_true, forall_const, Int.cast_ofNat_Int, Nat.reduceEqDiff, Nat.reduceAdd, Nat.reduceSub, Nat.reduceMul, Nat.reduceLT, Nat.reduceLeDiff, Int.reduceEq, Int.reduceLT, Int.reduceLE, Int.reduceAdd, Int.reduceSub, Int.reduceMul, Int.reduceToNat, Int.reduceNeg, ↓reduceIte, reduceCtorEq, L_frame_Encode, v_num_Put, v_slices_Concat_byte_byte, v_frame_sum, Ow.enc, Sl.enc, rr_frame_Encode, ro_frame_Encode, b0_frame_Encode, *]
  · rw [if_neg h1] at h; replace h1 := eq_false h1
    rcases h2 : num_Put q ⟨true, true, []⟩ (a0.l.length : Int) with _ | r1
    · rw [h2] at h; cases h
    · rw [h2, Option.bind_some] at h
      replace h2 := run_num_Put q (M + 7) (by omega) _ _ _ h2
      try simp only [Ow.enc, Sl.enc, kn0, kn1, kn2, kn3, kn4, kn5, kn6, eq_self_iff_true, implies_true, forall_const, Int.cast_ofNat_Int, Nat.reduceEqDiff, Nat.reduceAdd, Nat.reduceSub, Nat.reduceMul, Nat.reduceLT, Nat.reduceLeDiff, Int.reduceEq, Int.reduceLT, Int.reduceLE, Int.reduceAdd, Int.reduceSub, Int.reduceMul, Int.reduceToNat, Int.reduceNeg, ↓reduceIte, reduceCtorEq] at h2
      rcases h3 : frame_sum q ⟨r1.n, r1.xs⟩ a0 with _ | r2
      · rw [h3] at h; cases h
      · rw [h3, Option.bind_some] at h
        replace h3 := run_frame_sum q (M + 7) (by omega) _ _ _ h3
        try simp only [Ow.enc, Sl.enc, kn0, kn1, kn2, kn3, kn4, kn5, kn6, eq_self_iff_true, implies_true, forall_const, Int.cast_ofNat_Int, Nat.reduceEqDiff, Nat.reduceAdd, Nat.reduceSub, Nat.reduceMul, Nat.reduceLT, Nat.reduceLeDiff, Int.reduceEq, Int.reduceLT, Int.reduceLE, Int.reduceAdd, Int.reduceSub, Int.reduceMul, Int.reduceToNat, Int.reduceNeg, ↓reduceIte, reduceCtorEq] at h3
        rcases h4 : slices_Concat_byte_byte q ⟨false, [⟨r1.n, r1.xs⟩, a0, ⟨r2.n, r2.xs⟩]⟩ with _ | r3
        · rw [h4] at h; cases h
        · rw [h4, Option.bind_some] at h
          replace h4 := run_slices_Concat_byte_byte q (M + 7) (by omega) _ _ h4
          try simp only [Ow.enc, Sl.enc, kn0, kn1, kn2, kn3, kn4, kn5, kn6, eq_self_iff_true, implies_true, forall_const, Int.cast_ofNat_Int, Nat.reduceEqDiff, Nat.reduceAdd, Nat.reduceSub, Nat.reduceMul, Nat.reduceLT, Nat.reduceLeDiff, Int.reduceEq, Int.reduceLT, Int.reduceLE, Int.reduceAdd, Int.reduceSub, Int.reduceMul, Int.reduceToNat, Int.reduceNeg, ↓reduceIte, reduceCtorEq] at h4
          cases h; subst hR; simp (maxDischargeDepth := 12) only [kk0, kk1, kk2, kk3, kk4, kk5, kk6, kk7, kk8, kk9, kk10, kk11, kk12, kk13, kk14, kk15, kk16, kn0, kn1, kn2, kn3, kn4, kn5, kn6, eq_self_iff_true, implies_true, forall_const, Int.cast_ofNat_Int, Nat.reduceEqDiff, Nat.reduceAdd, Nat.reduceSub, Nat.reduceMul, Nat.reduceLT, Nat.reduceLeDiff, Int.reduceEq, Int.reduceLT, Int.reduceLE, Int.reduceAdd, Int.reduceSub, Int.reduceMul, Int.reduceToNat, Int.reduceNeg, ↓reduceIte, reduceCtorEq, L_frame_Encode, v_num_Put, v_slices_Concat_byte_byte, v_frame_sum, Ow.enc, Sl.enc, rr_frame_Encode, ro_frame_Encode, b0_frame_Encode, *]
theorem run_frame_open_1 : ∀ (q N : Nat), 8 * q ≤ N → ∀ (a0 : Int), ∀ (r : Bool), frame_open_1 q a0 = some r → (orc T N).deep F.frame_open_1 [(V.int .u8) a0] = some [V.bool r] := by
  intro q N hM a0 r h
  rcases q with _ | q
  · cases h
  obtain ⟨M, rfl⟩ : ∃ M, N = M + 8 := ⟨N - 8, by omega⟩
  generalize hR : some [V.bool r] = R
  rw [orc_deep, T_frame_open_1, Option.bind_some, runDeep_eq]
  rw [frame_open_1] at h
  cases h; subst hR; simp (maxDischargeDepth := 12) only [kk0, kk1, kk2, kk3, kk4, kk5, kk6, kk7, kk8, kk9, kk10, kk11, kk12, kk13, kk14, kk15, kk16, kn0, kn1, kn2, kn3, kn4, kn5, kn6, eq_self_iff_true, implies_true, forall_const, Int.cast_ofNat_Int, Nat.reduceEqDiff, Nat.reduceAdd, Nat.reduceSub, Nat.reduceMul, Nat.reduceLT, Nat.reduceLeDiff, Int.reduceEq, Int.reduceLT, Int.reduceLE, Int.reduceAdd, Int.reduceSub, Int.reduceMul, Int.reduceToNat, Int.reduceNeg, ↓reduceIte, reduceCtorEq, L_frame_open_1, Ow.enc, Sl.enc, rr_frame_open_1, ro_frame_open_1, b0_frame_open_1, *]
def St_frame_open_s0_l0 (q : Nat) : Prop := ∀ (M : Nat) (hM : 8 * q ≤ M) (j : Nat) (hj : q ≤ j) (v0z : Bool) (v0l : List Int) (v7 : Int) (v8 : Int) (r : Int) (_ : frame_open_s0_l0 q v0z v0l v7 v8 = some r) (R : Option (List V × Hp)) (_ : (some ([(.int .i64 r)], []) : Option (List V × Hp)) = R) (fr : Fr) (H : Hp) (_ : canon 0 [0, 1, 7, 8] fr H = ([(0, (.sl v0z (List.map (V.int .u8) v0l))), (1, (.fn F.frame_open_1 [])), (7, (.int .i64 v7)), (8, (.int .i64 v8))], [])), finI [.tmp 4] (unw T (orc T (M + 5)) (M + 5) 0 [.blk 0, .code c_slices_IndexFunc_byte_byte_16] (iter 0 [0, 1, 7, 8] (exec T (orc T (M + 5)) (M + 5) 0 c_slices_IndexFunc_byte_byte_13) j fr H)) = R
theorem step_frame_open_s0_l0 (q : Nat) (ih_frame_open_s0_l0 : St_frame_open_s0_l0 q) : St_frame_open_s0_l0 (q + 1) := by
  intro M hM j hj v0z v0l v7 v8 r h R hR fr H hc
  obtain ⟨j, rfl⟩ : ∃ i, j = i + 1 := ⟨j - 1, by omega⟩
  rw [unw_iter, hc]; clear hc
  rw [frame_open_s0_l0] at h
  rcases Classical.em (v8 < v7) with h1 | h1
  · rw [if_pos h1] at h; replace h1 := eq_true h1
    rcases Classical.em (0 ≤ v8) with h2 | h2
    · rw [if_pos h2] at h; replace h2 := eq_true h2
      rcases h3 : v0l[v8.toNat]? with _ | e1
      · rw [h3] at h; cases h
      · rw [h3, Option.bind_some] at h
        rcases h4 : frame_open_1 q e1 with _ | r2
        · rw [h4] at h; cases h
        · rw [h4, Option.bind_some] at h
          replace h4 := run_frame_open_1 q (M + 5) (by omega) _ _ h4
          skip
          rcases Classical.em (r2 = true) with h5 | h5
          · rw [if_pos h5] at h; have h5' := bt1 h5; replace h5 := eq_true h5
            cases h; subst hR; simp (maxDischargeDepth := 12) only [kk0, kk1, kk2, kk3, kk4, kk5, kk6, kk7, kk8, kk9, kk10, kk11, kk12, kk13, kk14, kk15, kk16, kn0, kn1, kn2, kn3, kn4, kn5, kn6, eq_self_iff_true, implies_true, forall_const, Int.cast_ofNat_Int, Nat.reduceEqDiff, Nat.reduceAdd, Nat.reduceSub, Nat.reduceMul, Nat.reduceLT, Nat.reduceLeDiff, Int.reduceEq, Int.reduceLT, Int.reduceLE, Int.reduceAdd, Int.reduceSub, Int.reduceMul, Int.reduceToNat, Int.reduceNeg, ↓reduceIte, reduceCtorEq, L_slices_IndexFunc_byte_byte, v_frame_open_1, Ow.enc, Sl.enc, *]
          · rw [if_neg h5] at h; have h5' := bt0 h5; replace h5 := eq_false h5
            replace h := ih_frame_open_s0_l0 M (by omega) j (by omega) _ _ _ _ _ h R hR
            simp (maxDischargeDepth := 12) only [kk0, kk1, kk2, kk3, kk4, kk5, kk6, kk7, kk8, kk9, kk10, kk11, kk12, kk13, kk14, kk15, kk16, kn0, kn1, kn2, kn3, kn4, kn5, kn6, eq_self_iff_true, implies_true, forall_const, Int.cast_ofNat_Int, Nat.reduceEqDiff, Nat.reduceAdd, Nat.reduceSub, Nat.reduceMul, Nat.reduceLT, Nat.reduceLeDiff, Int.reduceEq, Int.reduceLT, Int.reduceLE, Int.reduceAdd, Int.reduceSub, Int.reduceMul, Int.reduceToNat, Int.reduceNeg, ↓reduceIte, reduceCtorEq, L_slices_IndexFunc_byte_byte, v_frame_open_1, Ow.enc, Sl.enc, *]
    · rw [if_neg h2] at h; replace h2 := eq_false h2
      cases h
  · rw [if_neg h1] at h; replace h1 := eq_false h1
    cases h; subst hR; simp (maxDischargeDepth := 12) only [kk0, kk1, kk2, kk3, kk4, kk5, kk6, kk7, kk8, kk9, kk10, kk11, kk12, kk13, kk14, kk15, kk16, kn0, kn1, kn2, kn3, kn4, kn5, kn6, eq_self_iff_true, implies_true, forall_const, Int.cast_ofNat_Int, Nat.reduceEqDiff, Nat.reduceAdd, Nat.reduceSub, Nat.reduceMul, Nat.reduceLT, Nat.reduceLeDiff, Int.reduceEq, Int.reduceLT, Int.reduceLE, Int.reduceAdd, Int.reduceSub, Int.reduceMul, Int.reduceToNat, Int.reduceNeg, ↓reduceIte, reduceCtorEq, L_slices_IndexFunc_byte_byte, v_frame_open_1, Ow.enc, Sl.enc, *]
theorem all_frame_open_s0 : ∀ q, St_frame_open_s0_l0 q
  | 0 => by intro M hM j hj; intros; rename_i h _ _ _ _ _; cases h
  | q + 1 => by have i0 := all_frame_open_s0 q; exact step_frame_open_s0_l0 q i0
theorem run_frame_open_s0 : ∀ (q M : Nat), 8 * q ≤ M → ∀ (v0z : Bool), ∀ (v0l : List Int), ∀ (r : Int), frame_open_s0 q v0z v0l = some r → (orc T (M + 6)).inl F.slices_IndexFunc_byte_byte [(.sl v0z (List.map (V.int .u8) v0l)), (.fn F.frame_open_1 [])] [] = (some ([(.int .i64 r)], []) : Option (List V × Hp)) := by
  intro q M hM v0z v0l r h
  rcases q with _ | q
  · cases h
  have ih_frame_open_s0_l0 := (all_frame_open_s0 q)
  generalize hR : (some ([(.int .i64 r)], []) : Option (List V × Hp)) = R
  rw [i_slices_IndexFunc_byte_byte (n := M + 5)]
  rw [frame_open_s0] at h
  replace h := ih_frame_open_s0_l0 M (by omega) (M + 5) (by omega) _ _ _ _ _ h R hR
  simp (maxDischargeDepth := 12) only [kk0, kk1, kk2, kk3, kk4, kk5, kk6, kk7, kk8, kk9, kk10, kk11, kk12, kk13, kk14, kk15, kk16, kn0, kn1, kn2, kn3, kn4, kn5, kn6, eq_self_iff_true, implies_true, forall_const, Int.cast_ofNat_Int, Nat.reduceEqDiff, Nat.reduceAdd, Nat.reduceSub, Nat.reduceMul, Nat.reduceLT, Nat.reduceLeDiff, Int.reduceEq, Int.reduceLT, Int.reduceLE, Int.reduceAdd, Int.reduceSub, Int.reduceMul, Int.reduceToNat, Int.reduceNeg, ↓reduceIte, reduceCtorEq, L_slices_IndexFunc_byte_byte, v_frame_open_1, Ow.enc, Sl.enc, *]
theorem run_frame_open : ∀ (q N : Nat), 8 * q ≤ N → ∀ (a0 : (Sl Int)), ∀ (r : Bool), frame_open q a0 = some r → (orc T N).deep F.frame_open [(Sl.enc (V.int .u8)) a0] = some [V.bool r] := by
  intro q N hM a0 r h
  rcases q with _ | q
  · cases h
  obtain ⟨M, rfl⟩ : ∃ M, N = M + 8 := ⟨N - 8, by omega⟩
  generalize hR : some [V.bool r] = R
  rw [orc_deep, T_frame_open, Option.bind_some, runDeep_eq]
  rw [frame_open] at h
  rcases Classical.em ((a0.l.length : Int) < 10) with h1 | h1
  · rw [if_pos h1] at h; replace h1 := eq_true h1
    rcases h2 : frame_open_s0 q a0.z a0.l with _ | r1
    · rw [h2] at h; cases h
    · rw [h2, Option.bind_some] at h
      replace h2 := run_frame_open_s0 q M (by omega) _ _ _ h2
      try simp only [Ow.enc, Sl.enc, kn0, kn1, kn2, kn3, kn4, kn5, kn6, eq_self_iff_true, implies_true, forall_const, Int.cast_ofNat_Int, Nat.reduceEqDiff, Nat.reduceAdd, Nat.reduceSub, Nat.reduceMul, Nat.reduceLT, Nat.reduceLeDiff, Int.reduceEq, Int.reduceLT, Int.reduceLE, Int.reduceAdd, Int.reduceSub, Int.reduceMul, Int.reduceToNat, Int.reduceNeg, ↓reduceIte, reduceCtorEq] at h2
      cases h; subst hR; simp (maxDischargeDepth := 12) only [kk0, kk1, kk2, kk3, kk4, kk5, kk6, kk7, kk8, kk9, kk10, kk11, kk12, kk13, kk14, kk15, kk16, kn0, kn1, kn2, kn3, kn4, kn5, kn6, eq_self_iff_true, implies_true, forall_const, Int.cast_ofNat_Int, Nat.reduceEqDiff, Nat.reduceAdd, Nat.reduceSub, Nat.reduceMul, Nat.reduceLT, Nat.reduceLeDiff, Int.reduceEq, Int.reduceLT, Int.reduceLE, Int.reduceAdd, Int.reduceSub, Int.reduceMul, Int.reduceToNat, Int.reduceNeg, ↓reduceIte, reduceCtorEq, L_frame_open, L_slices_ContainsFunc_byte_byte, v_slices_IndexFunc_byte_byte, v_slices_ContainsFunc_byte_byte, i_slices_ContainsFunc_byte_byte, Ow.enc, Sl.enc, rr_frame_open, ro_frame_open, b0_frame_open, *]
  · rw [if_neg h1] at h; replace h1 := eq_false h1
    cases h; subst hR; simp (maxDischargeDepth := 12) only [kk0, kk1, kk2, kk3, kk4, kk5, kk6, kk7, kk8, kk9, kk10, kk11, kk12, kk13, kk14, kk15, kk16, kn0, kn1, kn2, kn3, kn4, kn5, kn6, eq_self_iff_true, implies_true, forall_const, Int.cast_ofNat_Int, Nat.reduceEqDiff, Nat.reduceAdd, Nat.reduceSub, Nat.reduceMul, Nat.reduceLT, Nat.reduceLeDiff, Int.reduceEq, Int.reduceLT, Int.reduceLE, Int.reduceAdd, Int.reduceSub, Int.reduceMul, Int.reduceToNat, Int.reduceNeg, ↓reduceIte, reduceCtorEq, L_frame_open, L_slices_ContainsFunc_byte_byte, v_slices_IndexFunc_byte_byte, v_slices_ContainsFunc_byte_byte, i_slices_ContainsFunc_byte_byte, Ow.enc, Sl.enc, rr_frame_open, ro_frame_open, b0_frame_open, *]
def St_num_read_l0 (q : Nat) : Prop := ∀ (M : Nat) (hM : 8 * q ≤ M) (j : Nat) (hj : q ≤ j) (v0z : Bool) (v0l : List Int) (v4 : Int) (v9 : Int) (v10 : Int) (r : Int × Int) (_ : num_read_l0 q v0z v0l v4 v9 v10 = some r) (R : Option (List V)) (_ : some [(V.int .u64) r.1, (V.int .i64) r.2] = R) (fr : Fr) (H : Hp) (_ : canon 0 [0, 4, 9, 10] fr H = ([(0, (.sl v0z (List.map (V.int .u8) v0l))), (4, (.int .u64 v4)), (9, (.int .i64 v9)), (10, (.int .i64 v10))], [])), fin m_num_read (unw T (orc T (M + 7)) (M + 7) 0 [.blk 0, .code c_num_read_30] (iter 0 [0, 4, 9, 10] (exec T (orc T (M + 7)) (M + 7) 0 c_num_read_27) j fr H)) = R
theorem step_num_read_l0 (q : Nat) (ih_num_read_l0 : St_num_read_l0 q) : St_num_read_l0 (q + 1) := by
  intro M hM j hj v0z v0l v4 v9 v10 r h R hR fr H hc
  obtain ⟨j, rfl⟩ : ∃ i, j = i + 1 := ⟨j - 1, by omega⟩
  rw [unw_iter, hc]; clear hc
  rw [num_read_l0] at h
  rcases Classical.em (v10 < v9) with h1 | h1
  · rw [if_pos h1] at h; replace h1 := eq_true h1
    rcases Classical.em (0 ≤ v10) with h2 | h2
    · rw [if_pos h2] at h; replace h2 := eq_true h2
      rcases h3 : v0l[v10.toNat]? with _ | e1
      · rw [h3] at h; cases h
      · rw [h3, Option.bind_some] at h
        rcases Classical.em ((wrp .i64 (7 * v10)) < 0) with h4 | h4
        · rw [if_pos h4] at h; replace h4 := eq_true h4
          cases h
        · rw [if_neg h4] at h; replace h4 := eq_false h4
          rcases Classical.em (v10 = 9) with h5 | h5
          · rw [if_pos h5] at h; replace h5 := eq_true h5
            rcases Classical.em (1 < e1) with h6 | h6
            · rw [if_pos h6] at h; replace h6 := eq_true h6
              cases h; subst hR; simp (maxDischargeDepth := 12) only [kk0, kk1, kk2, kk3, kk4, kk5, kk6, kk7, kk8, kk9, kk10, kk11, kk12, kk13, kk14, kk15, kk16, kn0, kn1, kn2, kn3, kn4, kn5, kn6, eq_self_iff_true, implies_true, forall_const, Int.cast_ofNat_Int, Nat.reduceEqDiff, Nat.reduceAdd, Nat.reduceSub, Nat.reduceMul, Nat.reduceLT, Nat.reduceLeDiff, Int.reduceEq, Int.reduceLT, Int.reduceLE, Int.reduceAdd, Int.reduceSub, Int.reduceMul, Int.reduceToNat, Int.reduceNeg, ↓reduceIte, reduceCtorEq, L_num_read, Ow.enc, Sl.enc, rr_num_read, ro_num_read, b0_num_read, *]
            · rw [if_neg h6] at h; replace h6 := eq_false h6
              rcases Classical.em (e1 = 0) with h7 | h7
              · rw [if_pos h7] at h; replace h7 := eq_true h7
                rcases Classical.em (0 < v10) with h8 | h8
                · rw [if_pos h8] at h; replace h8 := eq_true h8
                  cases h; subst hR; simp (maxDischargeDepth := 12) only [kk0, kk1, kk2, kk3, kk4, kk5, kk6, kk7, kk8, kk9, kk10, kk11, kk12, kk13, kk14, kk15, kk16, kn0, kn1, kn2, kn3, kn4, kn5, kn6, eq_self_iff_true, implies_true, forall_const, Int.cast_ofNat_Int, Nat.reduceEqDiff, Nat.reduceAdd, Nat.reduceSub, Nat.reduceMul, Nat.reduceLT, Nat.reduceLeDiff, Int.reduceEq, Int.reduceLT, Int.reduceLE, Int.reduceAdd, Int.reduceSub, Int.reduceMul, Int.reduceToNat, Int.reduceNeg, ↓reduceIte, reduceCtorEq, L_num_read, Ow.enc, Sl.enc, rr_num_read, ro_num_read, b0_num_read, *]
                · rw [if_neg h8] at h; replace h8 := eq_false h8
                  rcases Classical.em (e1 < 128) with h9 | h9
                  · rw [if_pos h9] at h; replace h9 := eq_true h9
                    cases h; subst hR; simp (maxDischargeDepth := 12) only [kk0, kk1, kk2, kk3, kk4, kk5, kk6, kk7, kk8, kk9, kk10, kk11, kk12, kk13, kk14, kk15, kk16, kn0, kn1, kn2, kn3, kn4, kn5, kn6, eq_self_iff_true, implies_true, forall_const, Int.cast_ofNat_Int, Nat.reduceEqDiff, Nat.reduceAdd, Nat.reduceSub, Nat.reduceMul, Nat.reduceLT, Nat.reduceLeDiff, Int.reduceEq, Int.reduceLT, Int.reduceLE, Int.reduceAdd, Int.reduceSub, Int.reduceMul, Int.reduceToNat, Int.reduceNeg, ↓reduceIte, reduceCtorEq, L_num_read, Ow.enc, Sl.enc, rr_num_read, ro_num_read, b0_num_read, *]
                  · rw [if_neg h9] at h; replace h9 := eq_false h9
                    replace h := ih_num_read_l0 M (by omega) j (by omega) _ _ _ _ _ _ h R hR
                    simp (maxDischargeDepth := 12) only [kk0, kk1, kk2, kk3, kk4, kk5, kk6, kk7, kk8, kk9, kk10, kk11, kk12, kk13, kk14, kk15, kk16, kn0, kn1, kn2, kn3, kn4, kn5, kn6, eq_self_iff_true, implies_true, forall_const, Int.cast_ofNat_Int, Nat.reduceEqDiff, Nat.reduceAdd, Nat.reduceSub, Nat.reduceMul, Nat.reduceLT, Nat.reduceLeDiff, Int.reduceEq, Int.reduceLT, Int.reduceLE, Int.reduceAdd, Int.reduceSub, Int.reduceMul, Int.reduceToNat, Int.reduceNeg, ↓reduceIte, reduceCtorEq, L_num_read, Ow.enc, Sl.enc, rr_num_read, ro_num_read, b0_num_read, *]
              · rw [if_neg h7] at h; replace h7 := eq_false h7
                rcases Classical.em (e1 < 128) with h10 | h10
                · rw [if_pos h10] at h; replace h10 := eq_true h10
                  cases h; subst hR; simp (maxDischargeDepth := 12) only [kk0, kk1, kk2, kk3, kk4, kk5, kk6, kk7, kk8, kk9, kk10, kk11, kk12, kk13, kk14, kk15, kk16, kn0, kn1, kn2, kn3, kn4, kn5, kn6, eq_self_iff_true, implies_true, forall_const, Int.cast_ofNat_Int, Nat.reduceEqDiff, Nat.reduceAdd, Nat.reduceSub, Nat.reduceMul, Nat.reduceLT, Nat.reduceLeDiff, Int.reduceEq, Int.reduceLT, Int.reduceLE, Int.reduceAdd, Int.reduceSub, Int.reduceMul, Int.reduceToNat, Int.reduceNeg, ↓reduceIte, reduceCtorEq, L_num_read, Ow.enc, Sl.enc, rr_num_read, ro_num_read, b0_num_read, *]
                · rw [if_neg h10] at h; replace h10 := eq_false h10
                  replace h := ih_num_read_l0 M (by omega) j (by omega) _ _ _ _ _ _ h R hR
                  simp (maxDischargeDepth := 12) only [kk0, kk1, kk2, kk3, kk4, kk5, kk6, kk7, kk8, kk9, kk10, kk11, kk12, kk13, kk14, kk15, kk16, kn0, kn1, kn2, kn3, kn4, kn5, kn6, eq_self_iff_true, implies_true, forall_const, Int.cast_ofNat_Int, Nat.reduceEqDiff, Nat.reduceAdd, Nat.reduceSub, Nat.reduceMul, Nat.reduceLT, Nat.reduceLeDiff, Int.reduceEq, Int.reduceLT, Int.reduceLE, Int.reduceAdd, Int.reduceSub, Int.reduceMul, Int.reduceToNat, Int.reduceNeg, ↓reduceIte, reduceCtorEq, L_num_read, Ow.enc, Sl.enc, rr_num_read, ro_num_read, b0_num_read, *]
          · rw [if_neg h5] at h; replace h5 := eq_false h5
            rcases Classical.em (e1 = 0) with h11 | h11
            · rw [if_pos h11] at h; replace h11 := eq_true h11
              rcases Classical.em (0 < v10) with h12 | h12
              · rw [if_pos h12] at h; replace h12 := eq_true h12
                cases h; subst hR; simp (maxDischargeDepth := 12) only [kk0, kk1, kk2, kk3, kk4, kk5, kk6, kk7, kk8, kk9, kk10, kk11, kk12, kk13, kk14, kk15, kk16, kn0, kn1, kn2, kn3, kn4, kn5, kn6, eq_self_iff_true, implies_true, forall_const, Int.cast_ofNat_Int, Nat.reduceEqDiff, Nat.reduceAdd, Nat.reduceSub, Nat.reduceMul, Nat.reduceLT, Nat.reduceLeDiff, Int.reduceEq, Int.reduceLT, Int.reduceLE, Int.reduceAdd, Int.reduceSub, Int.reduceMul, Int.reduceToNat, Int.reduceNeg, ↓reduceIte, reduceCtorEq, L_num_read, Ow.enc, Sl.enc, rr_num_read, ro_num_read, b0_num_read, *]
              · rw [if_neg h12] at h; replace h12 := eq_false h12
                rcases Classical.em (e1 < 128) with h13 | h13
                · rw [if_pos h13] at h; replace h13 := eq_true h13
                  cases h; subst hR; simp (maxDischargeDepth := 12) only [kk0, kk1, kk2, kk3, kk4, kk5, kk6, kk7, kk8, kk9, kk10, kk11, kk12, kk13, kk14, kk15, kk16, kn0, kn1, kn2, kn3, kn4, kn5, kn6, eq_self_iff_true, implies_true, forall_const, Int.cast_ofNat_Int, Nat.reduceEqDiff, Nat.reduceAdd, Nat.reduceSub, Nat.reduceMul, Nat.reduceLT, Nat.reduceLeDiff, Int.reduceEq, Int.reduceLT, Int.reduceLE, Int.reduceAdd, Int.reduceSub, Int.reduceMul, Int.reduceToNat, Int.reduceNeg, ↓reduceIte, reduceCtorEq, L_num_read, Ow.enc, Sl.enc, rr_num_read, ro_num_read, b0_num_read, *]
                · rw [if_neg h13] at h; replace h13 := eq_false h13
                  replace h := ih_num_read_l0 M (by omega) j (by omega) _ _ _ _ _ _ h R hR
                  simp (maxDischargeDepth := 12) only [kk0, kk1, kk2, kk3, kk4, kk5, kk6, kk7, kk8, kk9, kk10, kk11, kk12, kk13, kk14, kk15, kk16, kn0, kn1, kn2, kn3, kn4, kn5, kn6, eq_self_iff_true, implies_true, forall_const, Int.cast_ofNat_Int, Nat.reduceEqDiff, Nat.reduceAdd, Nat.reduceSub, Nat.reduceMul, Nat.reduceLT, Nat.reduceLeDiff, Int.reduceEq, Int.reduceLT, Int.reduceLE, Int.reduceAdd, Int.reduceSub, Int.reduceMul, Int.reduceToNat, Int.reduceNeg, ↓reduceIte, reduceCtorEq, L_num_read, Ow.enc, Sl.enc, rr_num_read, ro_num_read, b0_num_read, *]
            · rw [if_neg h11] at h; replace h11 := eq_false h11
              rcases Classical.em (e1 < 128) with h14 | h14
              · rw [if_pos h14] at h; replace h14 := eq_true h14
                cases h; subst hR; simp (maxDischargeDepth := 12) only [kk0, kk1, kk2, kk3, kk4, kk5, kk6, kk7, kk8, kk9, kk10, kk11, kk12, kk13, kk14, kk15, kk16, kn0, kn1, kn2, kn3, kn4, kn5, kn6, eq_self_iff_true, implies_true, forall_const, Int.cast_ofNat_Int, Nat.reduceEqDiff, Nat.reduceAdd, Nat.reduceSub, Nat.reduceMul, Nat.reduceLT, Nat.reduceLeDiff, Int.reduceEq, Int.reduceLT, Int.reduceLE, Int.reduceAdd, Int.reduceSub, Int.reduceMul, Int.reduceToNat, Int.reduceNeg, ↓reduceIte, reduceCtorEq, L_num_read, Ow.enc, Sl.enc, rr_num_read, ro_num_read, b0_num_read, *]
              · rw [if_neg h14] at h; replace h14 := eq_false h14
                replace h := ih_num_read_l0 M (by omega) j (by omega) _ _ _ _ _ _ h R hR
                simp (maxDischargeDepth := 12) only [kk0, kk1, kk2, kk3, kk4, kk5, kk6, kk7, kk8, kk9, kk10, kk11, kk12, kk13, kk14, kk15, kk16, kn0, kn1, kn2, kn3, kn4, kn5, kn6, eq_self_iff_true, implies_true, forall_const, Int.cast_ofNat_Int, Nat.reduceEqDiff, Nat.reduceAdd, Nat.reduceSub, Nat.reduceMul, Nat.reduceLT, Nat.reduceLeDiff, Int.reduceEq, Int.reduceLT, Int.reduceLE, Int.reduceAdd, Int.reduceSub, Int.reduceMul, Int.reduceToNat, Int.reduceNeg, ↓reduceIte, reduceCtorEq, L_num_read, Ow.enc, Sl.enc, rr_num_read, ro_num_read, b0_num_read, *]
    · rw [if_neg h2] at h; replace h2 := eq_false h2
      cases h
  · rw [if_neg h1] at h; replace h1 := eq_false h1
    cases h; subst hR; simp (maxDischargeDepth := 12) only [kk0, kk1, kk2, kk3, kk4, kk5, kk6, kk7, kk8, kk9, kk10, kk11, kk12, kk13, kk14, kk15, kk16, kn0, kn1, kn2, kn3, kn4, kn5, kn6, eq_self_iff_true, implies_true, forall_const, Int.cast_ofNat_Int, Nat.reduceEqDiff, Nat.reduceAdd, Nat.reduceSub, Nat.reduceMul, Nat.reduceLT, Nat.reduceLeDiff, Int.reduceEq, Int.reduceLT, Int.reduceLE, Int.reduceAdd, Int.reduceSub, Int.reduceMul, Int.reduceToNat, Int.reduceNeg, ↓reduceIte, reduceCtorEq, L_num_read, Ow.enc, Sl.enc, rr_num_read, ro_num_read, b0_num_read, *]
theorem all_num_read : ∀ q, St_num_read_l0 q
  | 0 => by intro M hM j hj; intros; rename_i h _ _ _ _ _; cases h
  | q + 1 => by have i0 := all_num_read q; exact step_num_read_l0 q i0
theorem run_num_read : ∀ (q N : Nat), 8 * q ≤ N → ∀ (a0 : (Sl Int)), ∀ (r : Int × Int), num_read q a0 = some r → (orc T N).deep F.num_read [(Sl.enc (V.int .u8)) a0] = some [(V.int .u64) r.1, (V.int .i64) r.2] := by
  intro q N hM a0 r h
  rcases q with _ | q
  · cases h
  obtain ⟨M, rfl⟩ : ∃ M, N = M + 8 := ⟨N - 8, by omega⟩
  have ih_num_read_l0 := (all_num_read q)
  generalize hR : some [(V.int .u64) r.1, (V.int .i64) r.2] = R
  rw [orc_deep, T_num_read, Option.bind_some, runDeep_eq]
  rw [num_read] at h
  replace h := ih_num_read_l0 M (by omega) (M + 7) (by omega) _ _ _ _ _ _ h R hR
  simp (maxDischargeDepth := 12) only [kk0, kk1, kk2, kk3, kk4, kk5, kk6, kk7, kk8, kk9, kk10, kk11, kk12, kk13, kk14, kk15, kk16, kn0, kn1, kn2, kn3, kn4, kn5, kn6, eq_self_iff_true, implies_true, forall_const, Int.cast_ofNat_Int, Nat.reduceEqDiff, Nat.reduceAdd, Nat.reduceSub, Nat.reduceMul, Nat.reduceLT, Nat.reduceLeDiff, Int.reduceEq, Int.reduceLT, Int.reduceLE, Int.reduceAdd, Int.reduceSub, Int.reduceMul, Int.reduceToNat, Int.reduceNeg, ↓reduceIte, reduceCtorEq, L_num_read, Ow.enc, Sl.enc, rr_num_read, ro_num_read, b0_num_read, *]
theorem run_num_Get : ∀ (q N : Nat), 8 * q ≤ N → ∀ (a0 : (Sl Int)), ∀ (r : Int × Int), num_Get q a0 = some r → (orc T N).deep F.num_Get [(Sl.enc (V.int .u8)) a0] = some [(V.int .i64) r.1, (V.int .i64) r.2] := by
  intro q N hM a0 r h
  rcases q with _ | q
  · cases h
  obtain ⟨M, rfl⟩ : ∃ M, N = M + 8 := ⟨N - 8, by omega⟩
  generalize hR : some [(V.int .i64) r.1, (V.int .i64) r.2] = R
  rw [orc_deep, T_num_Get, Option.bind_some, runDeep_eq]
  rw [num_Get] at h
  rcases h1 : num_read q a0 with _ | r1
  · rw [h1] at h; cases h
  · rw [h1, Option.bind_some] at h
    replace h1 := run_num_read q (M + 7) (by omega) _ _ h1
    try simp only [Ow.enc, Sl.enc, kn0, kn1, kn2, kn3, kn4, kn5, kn6, eq_self_iff_true, implies_true, forall_const, Int.cast_ofNat_Int, Nat.reduceEqDiff, Nat.reduceAdd, Nat.reduceSub, Nat.reduceMul, Nat.reduceLT, Nat.reduceLeDiff, Int.reduceEq, Int.reduceLT, Int.reduceLE, Int.reduceAdd, Int.reduceSub, Int.reduceMul, Int.reduceToNat, Int.reduceNeg, ↓reduceIte, reduceCtorEq] at h1
    rcases Classical.em (4611686018427387904 ≤ r1.1) with h2 | h2
    · rw [if_pos h2] at h; replace h2 := eq_true h2
      cases h; subst hR; simp (maxDischargeDepth := 12) only [kk0, kk1, kk2, kk3, kk4, kk5, kk6, kk7, kk8, kk9, kk10, kk11, kk12, kk13, kk14, kk15, kk16, kn0, kn1, kn2, kn3, kn4, kn5, kn6, eq_self_iff_true, implies_true, forall_const, Int.cast_ofNat_Int, Nat.reduceEqDiff, Nat.reduceAdd, Nat.reduceSub, Nat.reduceMul, Nat.reduceLT, Nat.reduceLeDiff, Int.reduceEq, Int.reduceLT, Int.reduceLE, Int.reduceAdd, Int.reduceSub, Int.reduceMul, Int.reduceToNat, Int.reduceNeg, ↓reduceIte, reduceCtorEq, L_num_Get, v_num_read, Ow.enc, Sl.enc, rr_num_Get, ro_num_Get, b0_num_Get, *]
    · rw [if_neg h2] at h; replace h2 := eq_false h2
      cases h; subst hR; simp (maxDischargeDepth := 12) only [kk0, kk1, kk2, kk3, kk4, kk5, kk6, kk7, kk8, kk9, kk10, kk11, kk12, kk13, kk14, kk15, kk16, kn0, kn1, kn2, kn3, kn4, kn5, kn6, eq_self_iff_true, implies_true, forall_const, Int.cast_ofNat_Int, Nat.reduceEqDiff, Nat.reduceAdd, Nat.reduceSub, Nat.reduceMul, Nat.reduceLT, Nat.reduceLeDiff, Int.reduceEq, Int.reduceLT, Int.reduceLE, Int.reduceAdd, Int.reduceSub, Int.reduceMul, Int.reduceToNat, Int.reduceNeg, ↓reduceIte, reduceCtorEq, L_num_Get, v_num_read, Ow.enc, Sl.enc, rr_num_Get, ro_num_Get, b0_num_Get, *]
def St_slices_Equal_byte_byte_l0 (q : Nat) : Prop := ∀ (M : Nat) (hM : 8 * q ≤ M) (j : Nat) (hj : q ≤ j) (v0z : Bool) (v0l : List Int) (v1z : Bool) (v1l : List Int) (v12 : Int) (v13 : Int) (r : Bool) (_ : slices_Equal_byte_byte_l0 q v0z v0l v1z v1l v12 v13 = some r) (R : Option (List V)) (_ : some [V.bool r] = R) (fr : Fr) (H : Hp) (_ : canon 0 [0, 1, 12, 13] fr H = ([(0, (.sl v0z (List.map (V.int .u8) v0l))), (1, (.sl v1z (List.map (V.int .u8) v1l))), (12, (.int .i64 v12)), (13, (.int .i64 v13))], [])), fin m_slices_Equal_byte_byte (unw T (orc T (M + 7)) (M + 7) 0 [.blk 0, .code c_slices_Equal_byte_byte_19] (iter 0 [0, 1, 12, 13] (exec T (orc T (M + 7)) (M + 7) 0 c_slices_Equal_byte_byte_16) j fr H)) = R
theorem step_slices_Equal_byte_byte_l0 (q : Nat) (ih_slices_Equal_byte_byte_l0 : St_slices_Equal_byte_byte_l0 q) : St_slices_Equal_byte_byte_l0 (q + 1) := by
  intro M hM j hj v0z v0l v1z v1l v12 v13 r h R hR fr H hc
  obtain ⟨j, rfl⟩ : ∃ i, j = i + 1 := ⟨j - 1, by omega⟩
  rw [unw_iter, hc]; clear hc
  rw [slices_Equal_byte_byte_l0] at h
  rcases Classical.em (v13 < v12) with h1 | h1
  · rw [if_pos h1] at h; replace h1 := eq_true h1
    rcases Classical.em (0 ≤ v13) with h2 | h2
    · rw [if_pos h2] at h; replace h2 := eq_true h2
      rcases h3 : v0l[v13.toNat]? with _ | e1
      · rw [h3] at h; cases h
      · rw [h3, Option.bind_some] at h
        rcases h4 : v1l[v13.toNat]? with _ | e2
        · rw [h4] at h; cases h
        · rw [h4, Option.bind_some] at h
          rcases Classical.em (e1 = e2) with h5 | h5
          · rw [if_pos h5] at h; replace h5 := eq_true h5
            replace h := ih_slices_Equal_byte_byte_l0 M (by omega) j (by omega) _ _ _ _ _ _ _ h R hR
            simp (maxDischargeDepth := 12) only [kk0, kk1, kk2, kk3, kk4, kk5, kk6, kk7, kk8, kk9, kk10, kk11, kk12, kk13, kk14, kk15, kk16, kn0, kn1, kn2, kn3, kn4, kn5, kn6, eq_self_iff_true, implies_true, forall_const, Int.cast_ofNat_Int, Nat.reduceEqDiff, Nat.reduceAdd, Nat.reduceSub, Nat.reduceMul, Nat.reduceLT, Nat.reduceLeDiff, Int.reduceEq, Int.reduceLT, Int.reduceLE, Int.reduceAdd, Int.reduceSub, Int.reduceMul, Int.reduceToNat, Int.reduceNeg, ↓reduceIte, reduceCtorEq, L_slices_Equal_byte_byte, Ow.enc, Sl.enc, rr_slices_Equal_byte_byte, ro_slices_Equal_byte_byte, b0_slices_Equal_byte_byte, *]
          · rw [if_neg h5] at h; replace h5 := eq_false h5
            cases h; subst hR; simp (maxDischargeDepth := 12) only [kk0, kk1, kk2, kk3, kk4, kk5, kk6, kk7, kk8, kk9, kk10, kk11, kk12, kk13, kk14, kk15, kk16, kn0, kn1, kn2, kn3, kn4, kn5, kn6, eq_self_iff_true, implies_true, forall_const, Int.cast_ofNat_Int, Nat.reduceEqDiff, Nat.reduceAdd, Nat.reduceSub, Nat.reduceMul, Nat.reduceLT, Nat.reduceLeDiff, Int.reduceEq, Int.reduceLT, Int.reduceLE, Int.reduceAdd, Int.reduceSub, Int.reduceMul, Int.reduceToNat, Int.reduceNeg, ↓reduceIte, reduceCtorEq, L_slices_Equal_byte_byte, Ow.enc, Sl.enc, rr_slices_Equal_byte_byte, ro_slices_Equal_byte_byte, b0_slices_Equal_byte_byte, *]
    · rw [if_neg h2] at h; replace h2 := eq_false h2
      cases h
  · rw [if_neg h1] at h; replace h1 := eq_false h1
    cases h; subst hR; simp (maxDischargeDepth := 12) only [kk0, kk1, kk2, kk3, kk4, kk5, kk6, kk7, kk8, kk9, kk10, kk11, kk12, kk13, kk14, kk15, kk16, kn0, kn1, kn2, kn3, kn4, kn5, kn6, eq_self_iff_true, implies_true, forall_const, Int.cast_ofNat_Int, Nat.reduceEqDiff, Nat.reduceAdd, Nat.reduceSub, Nat.reduceMul, Nat.reduceLT, Nat.reduceLeDiff, Int.reduceEq, Int.reduceLT, Int.reduceLE, Int.reduceAdd, Int.reduceSub, Int.reduceMul, Int.reduceToNat, Int.reduceNeg, ↓reduceIte, reduceCtorEq, L_slices_Equal_byte_byte, Ow.enc, Sl.enc, rr_slices_Equal_byte_byte, ro_slices_Equal_byte_byte, b0_slices_Equal_byte_byte, *]
theorem all_slices_Equal_byte_byte : ∀ q, St_slices_Equal_byte_byte_l0 q
  | 0 => by intro M hM j hj; intros; rename_i h _ _ _ _ _; cases h
  | q + 1 => by have i0 := all_slices_Equal_byte_byte q; exact step_slices_Equal_byte_byte_l0 q i0
theorem run_slices_Equal_byte_byte : ∀ (q N : Nat), 8 * q ≤ N → ∀ (a0 : (Sl Int)) (a1 : (Sl Int)), ∀ (r : Bool), slices_Equal_byte_byte q a0 a1 = some r → (orc T N).deep F.slices_Equal_byte_byte [(Sl.enc (V.int .u8)) a0, (Sl.enc (V.int .u8)) a1] = some [V.bool r] := by
  intro q N hM a0 a1 r h
  rcases q with _ | q
  · cases h
  obtain ⟨M, rfl⟩ : ∃ M, N = M + 8 := ⟨N - 8, by omega⟩
  have ih_slices_Equal_byte_byte_l0 := (all_slices_Equal_byte_byte q)
  generalize hR : some [V.bool r] = R
  rw [orc_deep, T_slices_Equal_byte_byte, Option.bind_some, runDeep_eq]
  rw [slices_Equal_byte_byte] at h
  rcases Classical.em ((a0.l.length : Int) = (a1.l.length : Int)) with h1 | h1
  · rw [if_pos h1] at h; replace h1 := eq_true h1
    replace h := ih_slices_Equal_byte_byte_l0 M (by omega) (M + 7) (by omega) _ _ _ _ _ _ _ h R hR
    simp (maxDischargeDepth := 12) only [kk0, kk1, kk2, kk3, kk4, kk5, kk6, kk7, kk8, kk9, kk10, kk11, kk12, kk13, kk14, kk15, kk16, kn0, kn1, kn2, kn3, kn4, kn5, kn6, eq_self_iff_true, implies_true, forall_const, Int.cast_ofNat_Int, Nat.reduceEqDiff, Nat.reduceAdd, Nat.reduceSub, Nat.reduceMul, Nat.reduceLT, Nat.reduceLeDiff, Int.reduceEq, Int.reduceLT, Int.reduceLE, Int.reduceAdd, Int.reduceSub, Int.reduceMul, Int.reduceToNat, Int.reduceNeg, ↓reduceIte, reduceCtorEq, L_slices_Equal_byte_byte, Ow.enc, Sl.enc, rr_slices_Equal_byte_byte, ro_slices_Equal_byte_byte, b0_slices_Equal_byte_byte, *]
  · rw [if_neg h1] at h; replace h1 := eq_false h1
    cases h; subst hR; simp (maxDischargeDepth := 12) only [kk0, kk1, kk2, kk3, kk4, kk5, kk6, kk7, kk8, kk9, kk10, kk11, kk12, kk13, kk14, kk15, kk16, kn0, kn1, kn2, kn3, kn4, kn5, kn6, eq_self_iff_true, implies_true, forall_const, Int.cast_ofNat_Int, Nat.reduceEqDiff, Nat.reduceAdd, Nat.reduceSub, Nat.reduceMul, Nat.reduceLT, Nat.reduceLeDiff, Int.reduceEq, Int.reduceLT, Int.reduceLE, Int.reduceAdd, Int.reduceSub, Int.reduceMul, Int.reduceToNat, Int.reduceNeg, ↓reduceIte, reduceCtorEq, L_slices_Equal_byte_byte, Ow.enc, Sl.enc, rr_slices_Equal_byte_byte, ro_slices_Equal_byte_byte, b0_slices_Equal_byte_byte, *]
theorem run_slices_Clone_byte_byte : ∀ (q N : Nat), 8 * q ≤ N → ∀ (a0 : (Sl Int)), ∀ (r : (Ow Int)), slices_Clone_byte_byte q a0 = some r → (orc T N).deep F.slices_Clone_byte_byte [(Sl.enc (V.int .u8)) a0] = some [(Ow.enc 1 (V.int .u8)) r] := by
  intro q N hM a0 r h
  rcases q with _ | q
  · cases h
  obtain ⟨M, rfl⟩ : ∃ M, N = M + 8 := ⟨N - 8, by omega⟩
  generalize hR : some [(Ow.enc 1 (V.int .u8)) r] = R
  rw [orc_deep, T_slices_Clone_byte_byte, Option.bind_some, runDeep_eq]
  rw [slices_Clone_byte_byte] at h
  rcases Classical.em (a0.z = true) with h1 | h1
  · rw [if_pos h1] at h; have h1' := bt1 h1; replace h1 := eq_true h1
    cases h; subst hR; simp (maxDischargeDepth := 12) only [kk0, kk1, kk2, kk3, kk4, kk5, kk6, kk7, kk8, kk9, kk10, kk11, kk12, kk13, kk14, kk15, kk16, kn0, kn1, kn2, kn3, kn4, kn5, kn6, eq_self_iff_true, implies_true, forall_const, Int.cast_ofNat_Int, Nat.reduceEqDiff, Nat.reduceAdd, Nat.reduceSub, Nat.reduceMul, Nat.reduceLT, Nat.reduceLeDiff, Int.reduceEq, Int.reduceLT, Int.reduceLE, Int.reduceAdd, Int.reduceSub, Int.reduceMul, Int.reduceToNat, Int.reduceNeg, ↓reduceIte, reduceCtorEq, L_slices_Clone_byte_byte, Ow.enc, Sl.enc, rr_slices_Clone_byte_byte, ro_slices_Clone_byte_byte, b0_slices_Clone_byte_byte, *]
  · rw [if_neg h1] at h; have h1' := bt0 h1; replace h1 := eq_false h1
    rcases Classical.em (a0.l.length ≤ 4294967296) with h2 | h2
    · rw [if_pos h2] at h; replace h2 := eq_true h2
      cases h; subst hR; simp (maxDischargeDepth := 12) only [kk0, kk1, kk2, kk3, kk4, kk5, kk6, kk7, kk8, kk9, kk10, kk11, kk12, kk13, kk14, kk15, kk16, kn0, kn1, kn2, kn3, kn4, kn5, kn6, eq_self_iff_true, implies_true, forall_const, Int.cast_ofNat_Int, Nat.reduceEqDiff, Nat.reduceAdd, Nat.reduceSub, Nat.reduceMul, Nat.reduceLT, Nat.reduceLeDiff, Int.reduceEq, Int.reduceLT, Int.reduceLE, Int.reduceAdd, Int.reduceSub, Int.reduceMul, Int.reduceToNat, Int.reduceNeg, ↓reduceIte, reduceCtorEq, L_slices_Clone_byte_byte, Ow.enc, Sl.enc, rr_slices_Clone_byte_byte, ro_slices_Clone_byte_byte, b0_slices_Clone_byte_byte, *]
    · rw [if_neg h2] at h; replace h2 := eq_false h2
      cases h
theorem run_frame_Decode : ∀ (q N : Nat), 8 * q ≤ N → ∀ (a0 : (Sl Int)), ∀ (r : (Ow Int) × Int × Int), frame_Decode q a0 = some r → (orc T N).deep F.frame_Decode [(Sl.enc (V.int .u8)) a0] = some [(Ow.enc 1 (V.int .u8)) r.1, (V.int .i64) r.2.1, (V.int .i64) r.2.2] := by
  intro q N hM a0 r h
  rcases q with _ | q
  · cases h
  obtain ⟨M, rfl⟩ : ∃ M, N = M + 8 := ⟨N - 8, by omega⟩
  generalize hR : some [(Ow.enc 1 (V.int .u8)) r.1, (V.int .i64) r.2.1, (V.int .i64) r.2.2] = R
  rw [orc_deep, T_frame_Decode, Option.bind_some, runDeep_eq]
  rw [frame_Decode] at h
  rcases h1 : frame_open q a0 with _ | r1
  · rw [h1] at h; cases h
  · rw [h1, Option.bind_some] at h
    replace h1 := run_frame_open q (M + 7) (by omega) _ _ h1
    try simp only [Ow.enc, Sl.enc, kn0, kn1, kn2, kn3, kn4, kn5, kn6, eq_self_iff_true, implies_true, forall_const, Int.cast_ofNat_Int, Nat.reduceEqDiff, Nat.reduceAdd, Nat.reduceSub, Nat.reduceMul, Nat.reduceLT, Nat.reduceLeDiff, Int.reduceEq, Int.reduceLT, Int.reduceLE, Int.reduceAdd, Int.reduceSub, Int.reduceMul, Int.reduceToNat, Int.reduceNeg, ↓reduceIte, reduceCtorEq] at h1
    rcases Classical.em (r1 = true) with h2 | h2
    · rw [if_pos h2] at h; have h2' := bt1 h2; replace h2 := eq_true h2
      cases h; subst hR; simp (maxDischargeDepth := 12) only [kk0, kk1, kk2, kk3, kk4, kk5, kk6, kk7, kk8, kk9, kk10, kk11, kk12, kk13, kk14, kk15, kk16, kn0, kn1, kn2, kn3, kn4, kn5, kn6, eq_self_iff_true, implies_true, forall_const, Int.cast_ofNat_Int, Nat.reduceEqDiff, Nat.reduceAdd, Nat.reduceSub, Nat.reduceMul, Nat.reduceLT, Nat.reduceLeDiff, Int.reduceEq, Int.reduceLT, Int.reduceLE, Int.reduceAdd, Int.reduceSub, Int.reduceMul, Int.reduceToNat, Int.reduceNeg, ↓reduceIte, reduceCtorEq, L_frame_Decode, v_frame_sum, v_frame_open, v_num_Get, v_slices_Equal_byte_byte, v_slices_Clone_byte_byte, Ow.enc, Sl.enc, rr_frame_Decode, ro_frame_Decode, b0_frame_Decode, *]
    · rw [if_neg h2] at h; have h2' := bt0 h2; replace h2 := eq_false h2
      rcases h3 : num_Get q a0 with _ | r2
      · rw [h3] at h; cases h
      · rw [h3, Option.bind_some] at h
        replace h3 := run_num_Get q (M + 7) (by omega) _ _ h3
        try simp only [Ow.enc, Sl.enc, kn0, kn1, kn2, kn3, kn4, kn5, kn6, eq_self_iff_true, implies_true, forall_const, Int.cast_ofNat_Int, Nat.reduceEqDiff, Nat.reduceAdd, Nat.reduceSub, Nat.reduceMul, Nat.reduceLT, Nat.reduceLeDiff, Int.reduceEq, Int.reduceLT, Int.reduceLE, Int.reduceAdd, Int.reduceSub, Int.reduceMul, Int.reduceToNat, Int.reduceNeg, ↓reduceIte, reduceCtorEq] at h3
        rcases Classical.em (r2.2 = 0) with h4 | h4
        · rw [if_pos h4] at h; replace h4 := eq_true h4
          cases h; subst hR; simp (maxDischargeDepth := 12) only [kk0, kk1, kk2, kk3, kk4, kk5, kk6, kk7, kk8, kk9, kk10, kk11, kk12, kk13, kk14, kk15, kk16, kn0, kn1, kn2, kn3, kn4, kn5, kn6, eq_self_iff_true, implies_true, forall_const, Int.cast_ofNat_Int, Nat.reduceEqDiff, Nat.reduceAdd, Nat.reduceSub, Nat.reduceMul, Nat.reduceLT, Nat.reduceLeDiff, Int.reduceEq, Int.reduceLT, Int.reduceLE, Int.reduceAdd, Int.reduceSub, Int.reduceMul, Int.reduceToNat, Int.reduceNeg, ↓reduceIte, reduceCtorEq, L_frame_Decode, v_frame_sum, v_frame_open, v_num_Get, v_slices_Equal_byte_byte, v_slices_Clone_byte_byte, Ow.enc, Sl.enc, rr_frame_Decode, ro_frame_Decode, b0_frame_Decode, *]
        · rw [if_neg h4] at h; replace h4 := eq_false h4
          rcases Classical.em (1048576 < r2.1) with h5 | h5
          · rw [if_pos h5] at h; replace h5 := eq_true h5
            cases h; subst hR; simp (maxDischargeDepth := 12) only [kk0, kk1, kk2, kk3, kk4, kk5, kk6, kk7, kk8, kk9, kk10, kk11, kk12, kk13, kk14, kk15, kk16, kn0, kn1, kn2, kn3, kn4, kn5, kn6, eq_self_iff_true, implies_true, forall_const, Int.cast_ofNat_Int, Nat.reduceEqDiff, Nat.reduceAdd, Nat.reduceSub, Nat.reduceMul, Nat.reduceLT, Nat.reduceLeDiff, Int.reduceEq, Int.reduceLT, Int.reduceLE, Int.reduceAdd, Int.reduceSub, Int.reduceMul, Int.reduceToNat, Int.reduceNeg, ↓reduceIte, reduceCtorEq, L_frame_Decode, v_frame_sum, v_frame_open, v_num_Get, v_slices_Equal_byte_byte, v_slices_Clone_byte_byte, Ow.enc, Sl.enc, rr_frame_Decode, ro_frame_Decode, b0_frame_Decode, *]
          · rw [if_neg h5] at h; replace h5 := eq_false h5
            rcases Classical.em ((a0.l.length : Int) < (wrp .i64 ((wrp .i64 (r2.2 + 4)) + r2.1))) with h6 | h6
            · rw [if_pos h6] at h; replace h6 := eq_true h6
              try simp only [kn0, kn1, kn2, kn3, kn4, kn5, kn6, eq_self_iff_true, implies_true, forall_const, Int.cast_ofNat_Int, Nat.reduceEqDiff, Nat.reduceAdd, Nat.reduceSub, Nat.reduceMul, Nat.reduceLT, Nat.reduceLeDiff, Int.reduceEq, Int.reduceLT, Int.reduceLE, Int.reduceAdd, Int.reduceSub, Int.reduceMul, Int.reduceToNat, Int.reduceNeg, ↓reduceIte, reduceCtorEq] at h6
              cases h; subst hR; simp (maxDischargeDepth := 12) only [kk0, kk1, kk2, kk3, kk4, kk5, kk6, kk7, kk8, kk9, kk10, kk11, kk12, kk13, kk14, kk15, kk16, kn0, kn1, kn2, kn3, kn4, kn5, kn6, eq_self_iff_true, implies_true, forall_const, Int.cast_ofNat_Int, Nat.reduceEqDiff, Nat.reduceAdd, Nat.reduceSub, Nat.reduceMul, Nat.reduceLT, Nat.reduceLeDiff, Int.reduceEq, Int.reduceLT, Int.reduceLE, Int.reduceAdd, Int.reduceSub, Int.reduceMul, Int.reduceToNat, Int.reduceNeg, ↓reduceIte, reduceCtorEq, L_frame_Decode, v_frame_sum, v_frame_open, v_num_Get, v_slices_Equal_byte_byte, v_slices_Clone_byte_byte, Ow.enc, Sl.enc, rr_frame_Decode, ro_frame_Decode, b0_frame_Decode, *]
            · rw [if_neg h6] at h; replace h6 := eq_false h6
              try simp only [kn0, kn1, kn2, kn3, kn4, kn5, kn6, eq_self_iff_true, implies_true, forall_const, Int.cast_ofNat_Int, Nat.reduceEqDiff, Nat.reduceAdd, Nat.reduceSub, Nat.reduceMul, Nat.reduceLT, Nat.reduceLeDiff, Int.reduceEq, Int.reduceLT, Int.reduceLE, Int.reduceAdd, Int.reduceSub, Int.reduceMul, Int.reduceToNat, Int.reduceNeg, ↓reduceIte, reduceCtorEq] at h6
              rcases Classical.em (0 ≤ r2.2) with h7 | h7
              · rw [if_pos h7] at h; replace h7 := eq_true h7
                rcases Classical.em (r2.2 ≤ r2.2) with h8 | h8
                · rw [if_pos h8] at h; replace h8 := eq_true h8
                  rcases Classical.em (r2.2.toNat ≤ a0.l.length) with h9 | h9
                  · rw [if_pos h9] at h; replace h9 := eq_true h9
                    rcases Classical.em (0 ≤ (wrp .i64 (r2.2 + r2.1))) with h10 | h10
                    · rw [if_pos h10] at h; replace h10 := eq_true h10
                      try simp only [kn0, kn1, kn2, kn3, kn4, kn5, kn6, eq_self_iff_true, implies_true, forall_const, Int.cast_ofNat_Int, Nat.reduceEqDiff, Nat.reduceAdd, Nat.reduceSub, Nat.reduceMul, Nat.reduceLT, Nat.reduceLeDiff, Int.reduceEq, Int.reduceLT, Int.reduceLE, Int.reduceAdd, Int.reduceSub, Int.reduceMul, Int.reduceToNat, Int.reduceNeg, ↓reduceIte, reduceCtorEq] at h10
                      rcases Classical.em ((wrp .i64 (r2.2 + r2.1)) ≤ (wrp .i64 (r2.2 + r2.1))) with h11 | h11
                      · rw [if_pos h11] at h; replace h11 := eq_true h11
                        try simp only [kn0, kn1, kn2, kn3, kn4, kn5, kn6, eq_self_iff_true, implies_true, forall_const, Int.cast_ofNat_Int, Nat.reduceEqDiff, Nat.reduceAdd, Nat.reduceSub, Nat.reduceMul, Nat.reduceLT, Nat.reduceLeDiff, Int.reduceEq, Int.reduceLT, Int.reduceLE, Int.reduceAdd, Int.reduceSub, Int.reduceMul, Int.reduceToNat, Int.reduceNeg, ↓reduceIte, reduceCtorEq] at h11
                        rcases Classical.em ((wrp .i64 (r2.2 + r2.1)).toNat ≤ a0.l.length) with h12 | h12
                        · rw [if_pos h12] at h; replace h12 := eq_true h12
                          try simp only [kn0, kn1, kn2, kn3, kn4, kn5, kn6, eq_self_iff_true, implies_true, forall_const, Int.cast_ofNat_Int, Nat.reduceEqDiff, Nat.reduceAdd, Nat.reduceSub, Nat.reduceMul, Nat.reduceLT, Nat.reduceLeDiff, Int.reduceEq, Int.reduceLT, Int.reduceLE, Int.reduceAdd, Int.reduceSub, Int.reduceMul, Int.reduceToNat, Int.reduceNeg, ↓reduceIte, reduceCtorEq] at h12
                          rcases Classical.em (r2.2 ≤ (wrp .i64 (r2.2 + r2.1))) with h13 | h13
                          · rw [if_pos h13] at h; replace h13 := eq_true h13
                            try simp only [kn0, kn1, kn2, kn3, kn4, kn5, kn6, eq_self_iff_true, implies_true, forall_const, Int.cast_ofNat_Int, Nat.reduceEqDiff, Nat.reduceAdd, Nat.reduceSub, Nat.reduceMul, Nat.reduceLT, Nat.reduceLeDiff, Int.reduceEq, Int.reduceLT, Int.reduceLE, Int.reduceAdd, Int.reduceSub, Int.reduceMul, Int.reduceToNat, Int.reduceNeg, ↓reduceIte, reduceCtorEq] at h13
                            rcases Classical.em ((wrp .i64 (r2.2 + r2.1)) ≤ (wrp .i64 ((wrp .i64 (r2.2 + r2.1)) + 4))) with h14 | h14
                            · rw [if_pos h14] at h; replace h14 := eq_true h14
                              try simp only [kn0, kn1, kn2, kn3, kn4, kn5, kn6, eq_self_iff_true, implies_true, forall_const, Int.cast_ofNat_Int, Nat.reduceEqDiff, Nat.reduceAdd, Nat.reduceSub, Nat.reduceMul, Nat.reduceLT, Nat.reduceLeDiff, Int.reduceEq, Int.reduceLT, Int.reduceLE, Int.reduceAdd, Int.reduceSub, Int.reduceMul, Int.reduceToNat, Int.reduceNeg, ↓reduceIte, reduceCtorEq] at h14
                              rcases Classical.em ((wrp .i64 ((wrp .i64 (r2.2 + r2.1)) + 4)).toNat ≤ a0.l.length) with h15 | h15
                              · rw [if_pos h15] at h; replace h15 := eq_true h15
                                try simp only [kn0, kn1, kn2, kn3, kn4, kn5, kn6, eq_self_iff_true, implies_true, forall_const, Int.cast_ofNat_Int, Nat.reduceEqDiff, Nat.reduceAdd, Nat.reduceSub, Nat.reduceMul, Nat.reduceLT, Nat.reduceLeDiff, Int.reduceEq, Int.reduceLT, Int.reduceLE, Int.reduceAdd, Int.reduceSub, Int.reduceMul, Int.reduceToNat, Int.reduceNeg, ↓reduceIte, reduceCtorEq] at h15
                                rcases h16 : frame_sum q ⟨a0.z, (List.take r2.2.toNat a0.l)⟩ ⟨a0.z, (List.drop r2.2.toNat (List.take ((wrp .i64 (r2.2 + r2.1)).toNat) a0.l))⟩ with _ | r3
                                · rw [h16] at h; cases h
                                · rw [h16, Option.bind_some] at h
                                  replace h16 := run_frame_sum q (M + 7) (by omega) _ _ _ h16
                                  try simp only [Ow.enc, Sl.enc, kn0, kn1, kn2, kn3, kn4, kn5, kn6, eq_self_iff_true, implies_true, forall_const, Int.cast_ofNat_Int, Nat.reduceEqDiff, Nat.reduceAdd, Nat.reduceSub, Nat.reduceMul, Nat.reduceLT, Nat.reduceLeDiff, Int.reduceEq, Int.reduceLT, Int.reduceLE, Int.reduceAdd, Int.reduceSub, Int.reduceMul, Int.reduceToNat, Int.reduceNeg, ↓reduceIte, reduceCtorEq] at h16
                                  rcases h17 : slices_Equal_byte_byte q ⟨a0.z, (List.drop ((wrp .i64 (r2.2 + r2.1)).toNat) (List.take ((wrp .i64 ((wrp .i64 (r2.2 + r2.1)) + 4)).toNat) a0.l))⟩ ⟨r3.n, r3.xs⟩ with _ | r4
                                  · rw [h17] at h; cases h
                                  · rw [h17, Option.bind_some] at h
                                    replace h17 := run_slices_Equal_byte_byte q (M + 7) (by omega) _ _ _ h17
                                    try simp only [Ow.enc, Sl.enc, kn0, kn1, kn2, kn3, kn4, kn5, kn6, eq_self_iff_true, implies_true, forall_const, Int.cast_ofNat_Int, Nat.reduceEqDiff, Nat.reduceAdd, Nat.reduceSub, Nat.reduceMul, Nat.reduceLT, Nat.reduceLeDiff, Int.reduceEq, Int.reduceLT, Int.reduceLE, Int.reduceAdd, Int.reduceSub, Int.reduceMul, Int.reduceToNat, Int.reduceNeg, ↓reduceIte, reduceCtorEq] at h17
                                    rcases Classical.em (r4 = true) with h18 | h18
                                    · rw [if_pos h18] at h; have h18' := bt1 h18; replace h18 := eq_true h18
                                      rcases h19 : slices_Clone_byte_byte q ⟨a0.z, (List.drop r2.2.toNat (List.take ((wrp .i64 (r2.2 + r2.1)).toNat) a0.l))⟩ with _ | r5
                                      · rw [h19] at h; cases h
                                      · rw [h19, Option.bind_some] at h
                                        replace h19 := run_slices_Clone_byte_byte q (M + 7) (by omega) _ _ h19
                                        try simp only [Ow.enc, Sl.enc, kn0, kn1, kn2, kn3, kn4, kn5, kn6, eq_self_iff_true, implies_true, forall_const, Int.cast_ofNat_Int, Nat.reduceEqDiff, Nat.reduceAdd, Nat.reduceSub, Nat.reduceMul, Nat.reduceLT, Nat.reduceLeDiff, Int.reduceEq, Int.reduceLT, Int.reduceLE, Int.reduceAdd, Int.reduceSub, Int.reduceMul, Int.reduceToNat, Int.reduceNeg, ↓reduceIte, reduceCtorEq] at h19
                                        cases h; subst hR; simp (maxDischargeDepth := 12) only [kk0, kk1, kk2, kk3, kk4, kk5, kk6, kk7, kk8, kk9, kk10, kk11, kk12, kk13, kk14, kk15, kk16, kn0, kn1, kn2, kn3, kn4, kn5, kn6, eq_self_iff_true, implies_true, forall_const, Int.cast_ofNat_Int, Nat.reduceEqDiff, Nat.reduceAdd, Nat.reduceSub, Nat.reduceMul, Nat.reduceLT, Nat.reduceLeDiff, Int.reduceEq, Int.reduceLT, Int.reduceLE, Int.reduceAdd, Int.reduceSub, Int.reduceMul, Int.reduceToNat, Int.reduceNeg, ↓reduceIte, reduceCtorEq, L_frame_Decode, v_frame_sum, v_frame_open, v_num_Get, v_slices_Equal_byte_byte, v_slices_Clone_byte_byte, Ow.enc, Sl.enc, rr_frame_Decode, ro_frame_Decode, b0_frame_Decode, *]
                                    · rw [if_neg h18] at h; have h18' := bt0 h18; replace h18 := eq_false h18
                                      cases h; subst hR; simp (maxDischargeDepth := 12) only [kk0, kk1, kk2, kk3, kk4, kk5, kk6, kk7, kk8, kk9, kk10, kk11, kk12, kk13, kk14, kk15, kk16, kn0, kn1, kn2, kn3, kn4, kn5, kn6, eq_self_iff_true, implies_true, forall_const, Int.cast_ofNat_Int, Nat.reduceEqDiff, Nat.reduceAdd, Nat.reduceSub, Nat.reduceMul, Nat.reduceLT, Nat.reduceLeDiff, Int.reduceEq, Int.reduceLT, Int.reduceLE, Int.reduceAdd, Int.reduceSub, Int.reduceMul, Int.reduceToNat, Int.reduceNeg, ↓reduceIte, reduceCtorEq, L_frame_Decode, v_frame_sum, v_frame_open, v_num_Get, v_slices_Equal_byte_byte, v_slices_Clone_byte_byte, Ow.enc, Sl.enc, rr_frame_Decode, ro_frame_Decode, b0_frame_Decode, *]
                              · rw [if_neg h15] at h; replace h15 := eq_false h15
                                try simp only [kn0, kn1, kn2, kn3, kn4, kn5, kn6, eq_self_iff_true, implies_true, forall_const, Int.cast_ofNat_Int, Nat.reduceEqDiff, Nat.reduceAdd, Nat.reduceSub, Nat.reduceMul, Nat.reduceLT, Nat.reduceLeDiff, Int.reduceEq, Int.reduceLT, Int.reduceLE, Int.reduceAdd, Int.reduceSub, Int.reduceMul, Int.reduceToNat, Int.reduceNeg, ↓reduceIte, reduceCtorEq] at h15
                                cases h
                            · rw [if_neg h14] at h; replace h14 := eq_false h14
                              try simp only [kn0, kn1, kn2, kn3, kn4, kn5, kn6, eq_self_iff_true, implies_true, forall_const, Int.cast_ofNat_Int, Nat.reduceEqDiff, Nat.reduceAdd, Nat.reduceSub, Nat.reduceMul, Nat.reduceLT, Nat.reduceLeDiff, Int.reduceEq, Int.reduceLT, Int.reduceLE, Int.reduceAdd, Int.reduceSub, Int.reduceMul, Int.reduceToNat, Int.reduceNeg, ↓reduceIte, reduceCtorEq] at h14
                              cases h
                          · rw [if_neg h13] at h; replace h13 := eq_false h13
                            try simp only [kn0, kn1, kn2, kn3, kn4, kn5, kn6, eq_self_iff_true, implies_true, forall_const, Int.cast_ofNat_Int, Nat.reduceEqDiff, Nat.reduceAdd, Nat.reduceSub, Nat.reduceMul, Nat.reduceLT, Nat.reduceLeDiff, Int.reduceEq, Int.reduceLT, Int.reduceLE, Int.reduceAdd, Int.reduceSub, Int.reduceMul, Int.reduceToNat, Int.reduceNeg, ↓reduceIte, reduceCtorEq] at h13
                            cases h
                        · rw [if_neg h12] at h; replace h12 := eq_false h12
                          try simp only [kn0, kn1, kn2, kn3, kn4, kn5, kn6, eq_self_iff_true, implies_true, forall_const, Int.cast_ofNat_Int, Nat.reduceEqDiff, Nat.reduceAdd, Nat.reduceSub, Nat.reduceMul, Nat.reduceLT, Nat.reduceLeDiff, Int.reduceEq, Int.reduceLT, Int.reduceLE, Int.reduceAdd, Int.reduceSub, Int.reduceMul, Int.reduceToNat, Int.reduceNeg, ↓reduceIte, reduceCtorEq] at h12
                          cases h
                      · rw [if_neg h11] at h; replace h11 := eq_false h11
                        try simp only [kn0, kn1, kn2, kn3, kn4, kn5, kn6, eq_self_iff_true, implies_true, forall_const, Int.cast_ofNat_Int, Nat.reduceEqDiff, Nat.reduceAdd, Nat.reduceSub, Nat.reduceMul, Nat.reduceLT, Nat.reduceLeDiff, Int.reduceEq, Int.reduceLT, Int.reduceLE, Int.reduceAdd, Int.reduceSub, Int.reduceMul, Int.reduceToNat, Int.reduceNeg, ↓reduceIte, reduceCtorEq] at h11
                        cases h
                    · rw [if_neg h10] at h; replace h10 := eq_false h10
                      try simp only [kn0, kn1, kn2, kn3, kn4, kn5, kn6, eq_self_iff_true, implies_true, forall_const, Int.cast_ofNat_Int, Nat.reduceEqDiff, Nat.reduceAdd, Nat.reduceSub, Nat.reduceMul, Nat.reduceLT, Nat.reduceLeDiff, Int.reduceEq, Int.reduceLT, Int.reduceLE, Int.reduceAdd, Int.reduceSub, Int.reduceMul, Int.reduceToNat, Int.reduceNeg, ↓reduceIte, reduceCtorEq] at h10
                      cases h
                  · rw [if_neg h9] at h; replace h9 := eq_false h9
                    cases h
                · rw [if_neg h8] at h; replace h8 := eq_false h8
                  cases h
              · rw [if_neg h7] at h; replace h7 := eq_false h7
                cases h
theorem run_frame_Size : ∀ (q N : Nat), 8 * q ≤ N → ∀ (a0 : Int), ∀ (r : Int), frame_Size q a0 = some r → (orc T N).deep F.frame_Size [(V.int .i64) a0] = some [(V.int .i64) r] := by
  intro q N hM a0 r h
  rcases q with _ | q
  · cases h
  obtain ⟨M, rfl⟩ : ∃ M, N = M + 8 := ⟨N - 8, by omega⟩
  generalize hR : some [(V.int .i64) r] = R
  rw [orc_deep, T_frame_Size, Option.bind_some, runDeep_eq]
  rw [frame_Size] at h
  rcases Classical.em (a0 < 0) with h1 | h1
  · rw [if_pos h1] at h; replace h1 := eq_true h1
    cases h; subst hR; simp (maxDischargeDepth := 12) only [kk0, kk1, kk2, kk3, kk4, kk5, kk6, kk7, kk8, kk9, kk10, kk11, kk12, kk13, kk14, kk15, kk16, kn0, kn1, kn2, kn3, kn4, kn5, kn6, eq_self_iff_true, implies_true, forall_const, Int.cast_ofNat_Int, Nat.reduceEqDiff, Nat.reduceAdd, Nat.reduceSub, Nat.reduceMul, Nat.reduceLT, Nat.reduceLeDiff, Int.reduceEq, Int.reduceLT, Int.reduceLE, Int.reduceAdd, Int.reduceSub, Int.reduceMul, Int.reduceToNat, Int.reduceNeg, ↓reduceIte, reduceCtorEq, L_frame_Size, v_num_Put, Ow.enc, Sl.enc, rr_frame_Size, ro_frame_Size, b0_frame_Size, *]
  · rw [if_neg h1] at h; replace h1 := eq_false h1
    rcases Classical.em (1048576 < a0) with h2 | h2
    · rw [if_pos h2] at h; replace h2 := eq_true h2
      cases h; subst hR; simp (maxDischargeDepth := 12) only [kk0, kk1, kk2, kk3, kk4, kk5, kk6, kk7, kk8, kk9, kk10, kk11, kk12, kk13, kk14, kk15, kk16, kn0, kn1, kn2, kn3, kn4, kn5, kn6, eq_self_iff_true, implies_true, forall_const, Int.cast_ofNat_Int, Nat.reduceEqDiff, Nat.reduceAdd, Nat.reduceSub, Nat.reduceMul, Nat.reduceLT, Nat.reduceLeDiff, Int.reduceEq, Int.reduceLT, Int.reduceLE, Int.reduceAdd, Int.reduceSub, Int.reduceMul, Int.reduceToNat, Int.reduceNeg, ↓reduceIte, reduceCtorEq, L_frame_Size, v_num_Put, Ow.enc, Sl.enc, rr_frame_Size, ro_frame_Size, b0_frame_Size, *]
    · rw [if_neg h2] at h; replace h2 := eq_false h2
      rcases h3 : num_Put q ⟨true, true, []⟩ a0 with _ | r1
      · rw [h3] at h; cases h
      · rw [h3, Option.bind_some] at h
        replace h3 := run_num_Put q (M + 7) (by omega) _ _ _ h3
        try simp only [Ow.enc, Sl.enc, kn0, kn1, kn2, kn3, kn4, kn5, kn6, eq_self_iff_true, implies_true, forall_const, Int.cast_ofNat_Int, Nat.reduceEqDiff, Nat.reduceAdd, Nat.reduceSub, Nat.reduceMul, Nat.reduceLT, Nat.reduceLeDiff, Int.reduceEq, Int.reduceLT, Int.reduceLE, Int.reduceAdd, Int.reduceSub, Int.reduceMul, Int.reduceToNat, Int.reduceNeg, ↓reduceIte, reduceCtorEq] at h3
        cases h; subst hR; simp (maxDischargeDepth := 12) only [kk0, kk1, kk2, kk3, kk4, kk5, kk6, kk7, kk8, kk9, kk10, kk11, kk12, kk13, kk14, kk15, kk16, kn0, kn1, kn2, kn3, kn4, kn5, kn6, eq_self_iff_true, implies_true, forall_const, Int.cast_ofNat_Int, Nat.reduceEqDiff, Nat.reduceAdd, Nat.reduceSub, Nat.reduceMul, Nat.reduceLT, Nat.reduceLeDiff, Int.reduceEq, Int.reduceLT, Int.reduceLE, Int.reduceAdd, Int.reduceSub, Int.reduceMul, Int.reduceToNat, Int.reduceNeg, ↓reduceIte, reduceCtorEq, L_frame_Size, v_num_Put, Ow.enc, Sl.enc, rr_frame_Size, ro_frame_Size, b0_frame_Size, *]
theorem run_ferrymanlaw03_awake : ∀ (q N : Nat), 8 * q ≤ N → ∀ (r : Bool), ferrymanlaw03_awake q = some r → (orc T N).deep F.ferrymanlaw03_awake [] = some [V.bool r] := by
  intro q N hM r h
  rcases q with _ | q
  · cases h
  obtain ⟨M, rfl⟩ : ∃ M, N = M + 8 := ⟨N - 8, by omega⟩
  generalize hR : some [V.bool r] = R
  rw [orc_deep, T_ferrymanlaw03_awake, Option.bind_some, runDeep_eq]
  rw [ferrymanlaw03_awake] at h
  rcases h1 : frame_Encode q ⟨true, []⟩ with _ | r1
  · rw [h1] at h; cases h
  · rw [h1, Option.bind_some] at h
    replace h1 := run_frame_Encode q (M + 7) (by omega) _ _ h1
    try simp only [Ow.enc, Sl.enc, kn0, kn1, kn2, kn3, kn4, kn5, kn6, eq_self_iff_true, implies_true, forall_const, Int.cast_ofNat_Int, Nat.reduceEqDiff, Nat.reduceAdd, Nat.reduceSub, Nat.reduceMul, Nat.reduceLT, Nat.reduceLeDiff, Int.reduceEq, Int.reduceLT, Int.reduceLE, Int.reduceAdd, Int.reduceSub, Int.reduceMul, Int.reduceToNat, Int.reduceNeg, ↓reduceIte, reduceCtorEq] at h1
    rcases h2 : frame_Decode q ⟨false, [128]⟩ with _ | r2
    · rw [h2] at h; cases h
    · rw [h2, Option.bind_some] at h
      replace h2 := run_frame_Decode q (M + 7) (by omega) _ _ h2
      try simp only [Ow.enc, Sl.enc, kn0, kn1, kn2, kn3, kn4, kn5, kn6, eq_self_iff_true, implies_true, forall_const, Int.cast_ofNat_Int, Nat.reduceEqDiff, Nat.reduceAdd, Nat.reduceSub, Nat.reduceMul, Nat.reduceLT, Nat.reduceLeDiff, Int.reduceEq, Int.reduceLT, Int.reduceLE, Int.reduceAdd, Int.reduceSub, Int.reduceMul, Int.reduceToNat, Int.reduceNeg, ↓reduceIte, reduceCtorEq] at h2
      rcases h3 : frame_Decode q ⟨false, (List.replicate 5 0)⟩ with _ | r3
      · rw [h3] at h; cases h
      · rw [h3, Option.bind_some] at h
        replace h3 := run_frame_Decode q (M + 7) (by omega) _ _ h3
        try simp only [Ow.enc, Sl.enc, kn0, kn1, kn2, kn3, kn4, kn5, kn6, eq_self_iff_true, implies_true, forall_const, Int.cast_ofNat_Int, Nat.reduceEqDiff, Nat.reduceAdd, Nat.reduceSub, Nat.reduceMul, Nat.reduceLT, Nat.reduceLeDiff, Int.reduceEq, Int.reduceLT, Int.reduceLE, Int.reduceAdd, Int.reduceSub, Int.reduceMul, Int.reduceToNat, Int.reduceNeg, ↓reduceIte, reduceCtorEq] at h3
        rcases Classical.em (r1.2 = 0) with h4 | h4
        · rw [if_pos h4] at h; replace h4 := eq_true h4
          rcases Classical.em (r1.1.xs = [0, 81, 83, 125, 82]) with h5 | h5
          · rw [if_pos h5] at h; replace h5 := eq_true h5
            rcases Classical.em (r2.2.2 = 2) with h6 | h6
            · rw [if_pos h6] at h; replace h6 := eq_true h6
              rcases Classical.em (r3.2.2 = 4) with h7 | h7
              · rw [if_pos h7] at h; replace h7 := eq_true h7
                rcases h8 : frame_Size q 0 with _ | r4
                · rw [h8] at h; cases h
                · rw [h8, Option.bind_some] at h
                  replace h8 := run_frame_Size q (M + 7) (by omega) _ _ h8
                  skip
                  cases h; subst hR; simp (maxDischargeDepth := 12) only [kk0, kk1, kk2, kk3, kk4, kk5, kk6, kk7, kk8, kk9, kk10, kk11, kk12, kk13, kk14, kk15, kk16, kn0, kn1, kn2, kn3, kn4, kn5, kn6, eq_self_iff_true, implies_true, forall_const, Int.cast_ofNat_Int, Nat.reduceEqDiff, Nat.reduceAdd, Nat.reduceSub, Nat.reduceMul, Nat.reduceLT, Nat.reduceLeDiff, Int.reduceEq, Int.reduceLT, Int.reduceLE, Int.reduceAdd, Int.reduceSub, Int.reduceMul, Int.reduceToNat, Int.reduceNeg, ↓reduceIte, reduceCtorEq, L_ferrymanlaw03_awake, v_frame_Encode, v_frame_Size, v_frame_Decode, Ow.enc, Sl.enc, rr_ferrymanlaw03_awake, ro_ferrymanlaw03_awake, b0_ferrymanlaw03_awake, *]
              · rw [if_neg h7] at h; replace h7 := eq_false h7
                cases h; subst hR; simp (maxDischargeDepth := 12) only [kk0, kk1, kk2, kk3, kk4, kk5, kk6, kk7, kk8, kk9, kk10, kk11, kk12, kk13, kk14, kk15, kk16, kn0, kn1, kn2, kn3, kn4, kn5, kn6, eq_self_iff_true, implies_true, forall_const, Int.cast_ofNat_Int, Nat.reduceEqDiff, Nat.reduceAdd, Nat.reduceSub, Nat.reduceMul, Nat.reduceLT, Nat.reduceLeDiff, Int.reduceEq, Int.reduceLT, Int.reduceLE, Int.reduceAdd, Int.reduceSub, Int.reduceMul, Int.reduceToNat, Int.reduceNeg, ↓reduceIte, reduceCtorEq, L_ferrymanlaw03_awake, v_frame_Encode, v_frame_Size, v_frame_Decode, Ow.enc, Sl.enc, rr_ferrymanlaw03_awake, ro_ferrymanlaw03_awake, b0_ferrymanlaw03_awake, *]
            · rw [if_neg h6] at h; replace h6 := eq_false h6
              cases h; subst hR; simp (maxDischargeDepth := 12) only [kk0, kk1, kk2, kk3, kk4, kk5, kk6, kk7, kk8, kk9, kk10, kk11, kk12, kk13, kk14, kk15, kk16, kn0, kn1, kn2, kn3, kn4, kn5, kn6, eq_self_iff_true, implies_true, forall_const, Int.cast_ofNat_Int, Nat.reduceEqDiff, Nat.reduceAdd, Nat.reduceSub, Nat.reduceMul, Nat.reduceLT, Nat.reduceLeDiff, Int.reduceEq, Int.reduceLT, Int.reduceLE, Int.reduceAdd, Int.reduceSub, Int.reduceMul, Int.reduceToNat, Int.reduceNeg, ↓reduceIte, reduceCtorEq, L_ferrymanlaw03_awake, v_frame_Encode, v_frame_Size, v_frame_Decode, Ow.enc, Sl.enc, rr_ferrymanlaw03_awake, ro_ferrymanlaw03_awake, b0_ferrymanlaw03_awake, *]
          · rw [if_neg h5] at h; replace h5 := eq_false h5
            cases h; subst hR; simp (maxDischargeDepth := 12) only [kk0, kk1, kk2, kk3, kk4, kk5, kk6, kk7, kk8, kk9, kk10, kk11, kk12, kk13, kk14, kk15, kk16, kn0, kn1, kn2, kn3, kn4, kn5, kn6, eq_self_iff_true, implies_true, forall_const, Int.cast_ofNat_Int, Nat.reduceEqDiff, Nat.reduceAdd, Nat.reduceSub, Nat.reduceMul, Nat.reduceLT, Nat.reduceLeDiff, Int.reduceEq, Int.reduceLT, Int.reduceLE, Int.reduceAdd, Int.reduceSub, Int.reduceMul, Int.reduceToNat, Int.reduceNeg, ↓reduceIte, reduceCtorEq, L_ferrymanlaw03_awake, v_frame_Encode, v_frame_Size, v_frame_Decode, Ow.enc, Sl.enc, rr_ferrymanlaw03_awake, ro_ferrymanlaw03_awake, b0_ferrymanlaw03_awake, *]
        · rw [if_neg h4] at h; replace h4 := eq_false h4
          cases h; subst hR; simp (maxDischargeDepth := 12) only [kk0, kk1, kk2, kk3, kk4, kk5, kk6, kk7, kk8, kk9, kk10, kk11, kk12, kk13, kk14, kk15, kk16, kn0, kn1, kn2, kn3, kn4, kn5, kn6, eq_self_iff_true, implies_true, forall_const, Int.cast_ofNat_Int, Nat.reduceEqDiff, Nat.reduceAdd, Nat.reduceSub, Nat.reduceMul, Nat.reduceLT, Nat.reduceLeDiff, Int.reduceEq, Int.reduceLT, Int.reduceLE, Int.reduceAdd, Int.reduceSub, Int.reduceMul, Int.reduceToNat, Int.reduceNeg, ↓reduceIte, reduceCtorEq, L_ferrymanlaw03_awake, v_frame_Encode, v_frame_Size, v_frame_Decode, Ow.enc, Sl.enc, rr_ferrymanlaw03_awake, ro_ferrymanlaw03_awake, b0_ferrymanlaw03_awake, *]
end Go.Dvm.C
