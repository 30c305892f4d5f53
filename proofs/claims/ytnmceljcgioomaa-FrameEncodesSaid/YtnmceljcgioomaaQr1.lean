/- The machine comes to these answers: part 2. -/
import Derived.Test.YtnmceljcgioomaaQl0
import Derived.Test.YtnmceljcgioomaaQr0
set_option linter.all false
set_option maxRecDepth 100000
set_option maxHeartbeats 4000000
namespace Go.Dvm.C
open Go Go.Dvm Go.Dvm.I
def St_ferrymanref01_groups_l0 (q : Nat) : Prop := ∀ (M : Nat) (hM : 8 * q ≤ M) (j : Nat) (hj : q ≤ j) (v0 : Int) (h0z : Bool) (h0l : List Int) (r : (Ow Int)) (_ : ferrymanref01_groups_l0 q v0 h0z h0l = some r) (R : Option (List V)) (_ : some [(Ow.enc 1 (V.int .u8)) r] = R) (fr : Fr) (H : Hp) (_ : canon 0 [0, 3] fr H = ([(0, (.int .u64 v0)), (3, (.vw 0 0 0 h0l.length 1))], [(.row 0 h0z 1 (List.map (V.int .u8) h0l) true)])), fin m_ferrymanref01_groups (unw T (orc T (M + 7)) (M + 7) 0 [.blk 0, .code c_ferrymanref01_groups_11] (iter 0 [0, 3] (exec T (orc T (M + 7)) (M + 7) 0 c_ferrymanref01_groups_9) j fr H)) = R
theorem step_ferrymanref01_groups_l0 (q : Nat) (ih_ferrymanref01_groups_l0 : St_ferrymanref01_groups_l0 q) : St_ferrymanref01_groups_l0 (q + 1) := by
  intro M hM j hj v0 h0z h0l r h R hR fr H hc
  obtain ⟨j, rfl⟩ : ∃ i, j = i + 1 := ⟨j - 1, by omega⟩
  rw [unw_iter, hc]; clear hc
  rw [ferrymanref01_groups_l0] at h
  rcases Classical.em (127 < v0) with h1 | h1
  · rw [if_pos h1] at h; replace h1 := eq_true h1
    rcases Classical.em ((h0l.length + 1) ≤ 4294967296) with h2 | h2
    · rw [if_pos h2] at h; replace h2 := eq_true h2
      try simp only [kn0, kn1, kn2, kn3, kn4, kn5, kn6, eq_self_iff_true, implies_true, forall_const, Int.cast_ofNat_Int, Nat.reduceEqDiff, Nat.reduceAdd, Nat.reduceSub, Nat.reduceMul, Nat.reduceLT, Nat.reduceLeDiff, Int.reduceEq, Int.reduceLT, Int.reduceLE, Int.reduceAdd, Int.reduceSub, Int.reduceMul, Int.reduceToNat, Int.reduceNeg, ↓reduceIte, reduceCtorEq] at h2
      replace h := ih_ferrymanref01_groups_l0 M (by omega) j (by omega) _ _ _ _ h R hR
      simp (maxDischargeDepth := 12) only [kk0, kk1, kk2, kk3, kk4, kk5, kk6, kk7, kk8, kk9, kk10, kk11, kk12, kk13, kk14, kk15, kk16, kn0, kn1, kn2, kn3, kn4, kn5, kn6, eq_self_iff_true, implies_true, forall_const, Int.cast_ofNat_Int, Nat.reduceEqDiff, Nat.reduceAdd, Nat.reduceSub, Nat.reduceMul, Nat.reduceLT, Nat.reduceLeDiff, Int.reduceEq, Int.reduceLT, Int.reduceLE, Int.reduceAdd, Int.reduceSub, Int.reduceMul, Int.reduceToNat, Int.reduceNeg, ↓reduceIte, reduceCtorEq, L_ferrymanref01_groups, Ow.enc, Sl.enc, rr_ferrymanref01_groups, ro_ferrymanref01_groups, b0_ferrymanref01_groups, *]
    · rw [if_neg h2] at h; replace h2 := eq_false h2
      try simp only [kn0, kn1, kn2, kn3, kn4, kn5, kn6, eq_self_iff_true, implies_true, forall_const, Int.cast_ofNat_Int, Nat.reduceEqDiff, Nat.reduceAdd, Nat.reduceSub, Nat.reduceMul, Nat.reduceLT, Nat.reduceLeDiff, Int.reduceEq, Int.reduceLT, Int.reduceLE, Int.reduceAdd, Int.reduceSub, Int.reduceMul, Int.reduceToNat, Int.reduceNeg, ↓reduceIte, reduceCtorEq] at h2
      cases h
  · rw [if_neg h1] at h; replace h1 := eq_false h1
    rcases Classical.em ((h0l.length + 1) ≤ 4294967296) with h3 | h3
    · rw [if_pos h3] at h; replace h3 := eq_true h3
      try simp only [kn0, kn1, kn2, kn3, kn4, kn5, kn6, eq_self_iff_true, implies_true, forall_const, Int.cast_ofNat_Int, Nat.reduceEqDiff, Nat.reduceAdd, Nat.reduceSub, Nat.reduceMul, Nat.reduceLT, Nat.reduceLeDiff, Int.reduceEq, Int.reduceLT, Int.reduceLE, Int.reduceAdd, Int.reduceSub, Int.reduceMul, Int.reduceToNat, Int.reduceNeg, ↓reduceIte, reduceCtorEq] at h3
      cases h; subst hR; simp (maxDischargeDepth := 12) only [kk0, kk1, kk2, kk3, kk4, kk5, kk6, kk7, kk8, kk9, kk10, kk11, kk12, kk13, kk14, kk15, kk16, kn0, kn1, kn2, kn3, kn4, kn5, kn6, eq_self_iff_true, implies_true, forall_const, Int.cast_ofNat_Int, Nat.reduceEqDiff, Nat.reduceAdd, Nat.reduceSub, Nat.reduceMul, Nat.reduceLT, Nat.reduceLeDiff, Int.reduceEq, Int.reduceLT, Int.reduceLE, Int.reduceAdd, Int.reduceSub, Int.reduceMul, Int.reduceToNat, Int.reduceNeg, ↓reduceIte, reduceCtorEq, L_ferrymanref01_groups, Ow.enc, Sl.enc, rr_ferrymanref01_groups, ro_ferrymanref01_groups, b0_ferrymanref01_groups, *]
    · rw [if_neg h3] at h; replace h3 := eq_false h3
      try simp only [kn0, kn1, kn2, kn3, kn4, kn5, kn6, eq_self_iff_true, implies_true, forall_const, Int.cast_ofNat_Int, Nat.reduceEqDiff, Nat.reduceAdd, Nat.reduceSub, Nat.reduceMul, Nat.reduceLT, Nat.reduceLeDiff, Int.reduceEq, Int.reduceLT, Int.reduceLE, Int.reduceAdd, Int.reduceSub, Int.reduceMul, Int.reduceToNat, Int.reduceNeg, ↓reduceIte, reduceCtorEq] at h3
      cases h
theorem all_ferrymanref01_groups : ∀ q, St_ferrymanref01_groups_l0 q
  | 0 => by intro M hM j hj; intros; rename_i h _ _ _ _ _; cases h
  | q + 1 => by have i0 := all_ferrymanref01_groups q; exact step_ferrymanref01_groups_l0 q i0
theorem run_ferrymanref01_groups : ∀ (q N : Nat), 8 * q ≤ N → ∀ (a0 : Int), ∀ (r : (Ow Int)), ferrymanref01_groups q a0 = some r → (orc T N).deep F.ferrymanref01_groups [(V.int .u64) a0] = some [(Ow.enc 1 (V.int .u8)) r] := by
  intro q N hM a0 r h
  rcases q with _ | q
  · cases h
  obtain ⟨M, rfl⟩ : ∃ M, N = M + 8 := ⟨N - 8, by omega⟩
  have ih_ferrymanref01_groups_l0 := (all_ferrymanref01_groups q)
  generalize hR : some [(Ow.enc 1 (V.int .u8)) r] = R
  rw [orc_deep, T_ferrymanref01_groups, Option.bind_some, runDeep_eq]
  rw [ferrymanref01_groups] at h
  replace h := ih_ferrymanref01_groups_l0 M (by omega) (M + 7) (by omega) _ _ _ _ h R hR
  simp (maxDischargeDepth := 12) only [kk0, kk1, kk2, kk3, kk4, kk5, kk6, kk7, kk8, kk9, kk10, kk11, kk12, kk13, kk14, kk15, kk16, kn0, kn1, kn2, kn3, kn4, kn5, kn6, eq_self_iff_true, implies_true, forall_const, Int.cast_ofNat_Int, Nat.reduceEqDiff, Nat.reduceAdd, Nat.reduceSub, Nat.reduceMul, Nat.reduceLT, Nat.reduceLeDiff, Int.reduceEq, Int.reduceLT, Int.reduceLE, Int.reduceAdd, Int.reduceSub, Int.reduceMul, Int.reduceToNat, Int.reduceNeg, ↓reduceIte, reduceCtorEq, L_ferrymanref01_groups, Ow.enc, Sl.enc, rr_ferrymanref01_groups, ro_ferrymanref01_groups, b0_ferrymanref01_groups, *]
theorem run_ferrymanref01_Put : ∀ (q N : Nat), 8 * q ≤ N → ∀ (a0 : (Sl Int)) (a1 : Int), ∀ (r : (Ow Int)), ferrymanref01_Put q a0 a1 = some r → (orc T N).deep F.ferrymanref01_Put [(Sl.enc (V.int .u8)) a0, (V.int .i64) a1] = some [(Ow.enc 1 (V.int .u8)) r] := by
  intro q N hM a0 a1 r h
  rcases q with _ | q
  · cases h
  obtain ⟨M, rfl⟩ : ∃ M, N = M + 8 := ⟨N - 8, by omega⟩
  generalize hR : some [(Ow.enc 1 (V.int .u8)) r] = R
  rw [orc_deep, T_ferrymanref01_Put, Option.bind_some, runDeep_eq]
  rw [ferrymanref01_Put] at h
  rcases Classical.em (a0.l.length ≤ 4294967296) with h1 | h1
  · rw [if_pos h1] at h; replace h1 := eq_true h1
    rcases Classical.em (a1 < 0) with h2 | h2
    · rw [if_pos h2] at h; replace h2 := eq_true h2
      cases h; subst hR; simp (maxDischargeDepth := 12) only [kk0, kk1, kk2, kk3, kk4, kk5, kk6, kk7, kk8, kk9, kk10, kk11, kk12, kk13, kk14, kk15, kk16, kn0, kn1, kn2, kn3, kn4, kn5, kn6, eq_self_iff_true, implies_true, forall_const, Int.cast_ofNat_Int, Nat.reduceEqDiff, Nat.reduceAdd, Nat.reduceSub, Nat.reduceMul, Nat.reduceLT, Nat.reduceLeDiff, Int.reduceEq, Int.reduceLT, Int.reduceLE, Int.reduceAdd, Int.reduceSub, Int.reduceMul, Int.reduceToNat, Int.reduceNeg, ↓reduceIte, reduceCtorEq, L_ferrymanref01_Put, v_ferrymanref01_groups, Ow.enc, Sl.enc, rr_ferrymanref01_Put, ro_ferrymanref01_Put, b0_ferrymanref01_Put, *]
    · rw [if_neg h2] at h; replace h2 := eq_false h2
      rcases Classical.em (4611686018427387904 ≤ a1) with h3 | h3
      · rw [if_pos h3] at h; replace h3 := eq_true h3
        cases h; subst hR; simp (maxDischargeDepth := 12) only [kk0, kk1, kk2, kk3, kk4, kk5, kk6, kk7, kk8, kk9, kk10, kk11, kk12, kk13, kk14, kk15, kk16, kn0, kn1, kn2, kn3, kn4, kn5, kn6, eq_self_iff_true, implies_true, forall_const, Int.cast_ofNat_Int, Nat.reduceEqDiff, Nat.reduceAdd, Nat.reduceSub, Nat.reduceMul, Nat.reduceLT, Nat.reduceLeDiff, Int.reduceEq, Int.reduceLT, Int.reduceLE, Int.reduceAdd, Int.reduceSub, Int.reduceMul, Int.reduceToNat, Int.reduceNeg, ↓reduceIte, reduceCtorEq, L_ferrymanref01_Put, v_ferrymanref01_groups, Ow.enc, Sl.enc, rr_ferrymanref01_Put, ro_ferrymanref01_Put, b0_ferrymanref01_Put, *]
      · rw [if_neg h3] at h; replace h3 := eq_false h3
        rcases h4 : ferrymanref01_groups q (wrp .u64 a1) with _ | r1
        · rw [h4] at h; cases h
        · rw [h4, Option.bind_some] at h
          replace h4 := run_ferrymanref01_groups q (M + 7) (by omega) _ _ h4
          try simp only [Ow.enc, kn0, kn1, kn2, kn3, kn4, kn5, kn6, eq_self_iff_true, implies_true, forall_const, Int.cast_ofNat_Int, Nat.reduceEqDiff, Nat.reduceAdd, Nat.reduceSub, Nat.reduceMul, Nat.reduceLT, Nat.reduceLeDiff, Int.reduceEq, Int.reduceLT, Int.reduceLE, Int.reduceAdd, Int.reduceSub, Int.reduceMul, Int.reduceToNat, Int.reduceNeg, ↓reduceIte, reduceCtorEq] at h4
          rcases Classical.em ((a0.l.length + r1.xs.length) ≤ 4294967296) with h5 | h5
          · rw [if_pos h5] at h; replace h5 := eq_true h5
            try simp only [kn0, kn1, kn2, kn3, kn4, kn5, kn6, eq_self_iff_true, implies_true, forall_const, Int.cast_ofNat_Int, Nat.reduceEqDiff, Nat.reduceAdd, Nat.reduceSub, Nat.reduceMul, Nat.reduceLT, Nat.reduceLeDiff, Int.reduceEq, Int.reduceLT, Int.reduceLE, Int.reduceAdd, Int.reduceSub, Int.reduceMul, Int.reduceToNat, Int.reduceNeg, ↓reduceIte, reduceCtorEq] at h5
            cases h; subst hR; simp (maxDischargeDepth := 12) only [kk0, kk1, kk2, kk3, kk4, kk5, kk6, kk7, kk8, kk9, kk10, kk11, kk12, kk13, kk14, kk15, kk16, kn0, kn1, kn2, kn3, kn4, kn5, kn6, eq_self_iff_true, implies_true, forall_const, Int.cast_ofNat_Int, Nat.reduceEqDiff, Nat.reduceAdd, Nat.reduceSub, Nat.reduceMul, Nat.reduceLT, Nat.reduceLeDiff, Int.reduceEq, Int.reduceLT, Int.reduceLE, Int.reduceAdd, Int.reduceSub, Int.reduceMul, Int.reduceToNat, Int.reduceNeg, ↓reduceIte, reduceCtorEq, L_ferrymanref01_Put, v_ferrymanref01_groups, Ow.enc, Sl.enc, rr_ferrymanref01_Put, ro_ferrymanref01_Put, b0_ferrymanref01_Put, *]
          · rw [if_neg h5] at h; replace h5 := eq_false h5
            try simp only [kn0, kn1, kn2, kn3, kn4, kn5, kn6, eq_self_iff_true, implies_true, forall_const, Int.cast_ofNat_Int, Nat.reduceEqDiff, Nat.reduceAdd, Nat.reduceSub, Nat.reduceMul, Nat.reduceLT, Nat.reduceLeDiff, Int.reduceEq, Int.reduceLT, Int.reduceLE, Int.reduceAdd, Int.reduceSub, Int.reduceMul, Int.reduceToNat, Int.reduceNeg, ↓reduceIte, reduceCtorEq] at h5
            cases h
  · rw [if_neg h1] at h; replace h1 := eq_false h1
    cases h
def St_ferrymanref02_Entry_l0 (q : Nat) : Prop := ∀ (M : Nat) (hM : 8 * q ≤ M) (j : Nat) (hj : q ≤ j) (v3 : Int) (v4 : Int) (r : Int) (_ : ferrymanref02_Entry_l0 q v3 v4 = some r) (R : Option (List V)) (_ : some [(V.int .u32) r] = R) (fr : Fr) (H : Hp) (_ : canon 0 [3, 4] fr H = ([(3, (.int .u32 v3)), (4, (.int .i64 v4))], [])), fin m_ferrymanref02_Entry (unw T (orc T (M + 7)) (M + 7) 0 [.blk 0, .code c_ferrymanref02_Entry_19] (iter 0 [3, 4] (exec T (orc T (M + 7)) (M + 7) 0 c_ferrymanref02_Entry_16) j fr H)) = R
theorem step_ferrymanref02_Entry_l0 (q : Nat) (ih_ferrymanref02_Entry_l0 : St_ferrymanref02_Entry_l0 q) : St_ferrymanref02_Entry_l0 (q + 1) := by
  intro M hM j hj v3 v4 r h R hR fr H hc
  obtain ⟨j, rfl⟩ : ∃ i, j = i + 1 := ⟨j - 1, by omega⟩
  rw [unw_iter, hc]; clear hc
  rw [ferrymanref02_Entry_l0] at h
  rcases Classical.em (v4 < 8) with h1 | h1
  · rw [if_pos h1] at h; replace h1 := eq_true h1
    rcases Classical.em ((Int.tmod v3 2) = 1) with h2 | h2
    · rw [if_pos h2] at h; replace h2 := eq_true h2
      replace h := ih_ferrymanref02_Entry_l0 M (by omega) j (by omega) _ _ _ h R hR
      simp (maxDischargeDepth := 12) only [kk0, kk1, kk2, kk3, kk4, kk5, kk6, kk7, kk8, kk9, kk10, kk11, kk12, kk13, kk14, kk15, kk16, kn0, kn1, kn2, kn3, kn4, kn5, kn6, eq_self_iff_true, implies_true, forall_const, Int.cast_ofNat_Int, Nat.reduceEqDiff, Nat.reduceAdd, Nat.reduceSub, Nat.reduceMul, Nat.reduceLT, Nat.reduceLeDiff, Int.reduceEq, Int.reduceLT, Int.reduceLE, Int.reduceAdd, Int.reduceSub, Int.reduceMul, Int.reduceToNat, Int.reduceNeg, ↓reduceIte, reduceCtorEq, L_ferrymanref02_Entry, Ow.enc, Sl.enc, rr_ferrymanref02_Entry, ro_ferrymanref02_Entry, b0_ferrymanref02_Entry, *]
    · rw [if_neg h2] at h; replace h2 := eq_false h2
      replace h := ih_ferrymanref02_Entry_l0 M (by omega) j (by omega) _ _ _ h R hR
      simp (maxDischargeDepth := 12) only [kk0, kk1, kk2, kk3, kk4, kk5, kk6, kk7, kk8, kk9, kk10, kk11, kk12, kk13, kk14, kk15, kk16, kn0, kn1, kn2, kn3, kn4, kn5, kn6, eq_self_iff_true, implies_true, forall_const, Int.cast_ofNat_Int, Nat.reduceEqDiff, Nat.reduceAdd, Nat.reduceSub, Nat.reduceMul, Nat.reduceLT, Nat.reduceLeDiff, Int.reduceEq, Int.reduceLT, Int.reduceLE, Int.reduceAdd, Int.reduceSub, Int.reduceMul, Int.reduceToNat, Int.reduceNeg, ↓reduceIte, reduceCtorEq, L_ferrymanref02_Entry, Ow.enc, Sl.enc, rr_ferrymanref02_Entry, ro_ferrymanref02_Entry, b0_ferrymanref02_Entry, *]
  · rw [if_neg h1] at h; replace h1 := eq_false h1
    cases h; subst hR; simp (maxDischargeDepth := 12) only [kk0, kk1, kk2, kk3, kk4, kk5, kk6, kk7, kk8, kk9, kk10, kk11, kk12, kk13, kk14, kk15, kk16, kn0, kn1, kn2, kn3, kn4, kn5, kn6, eq_self_iff_true, implies_true, forall_const, Int.cast_ofNat_Int, Nat.reduceEqDiff, Nat.reduceAdd, Nat.reduceSub, Nat.reduceMul, Nat.reduceLT, Nat.reduceLeDiff, Int.reduceEq, Int.reduceLT, Int.reduceLE, Int.reduceAdd, Int.reduceSub, Int.reduceMul, Int.reduceToNat, Int.reduceNeg, ↓reduceIte, reduceCtorEq, L_ferrymanref02_Entry, Ow.enc, Sl.enc, rr_ferrymanref02_Entry, ro_ferrymanref02_Entry, b0_ferrymanref02_Entry, *]
theorem all_ferrymanref02_Entry : ∀ q, St_ferrymanref02_Entry_l0 q
  | 0 => by intro M hM j hj; intros; rename_i h _ _ _ _ _; cases h
  | q + 1 => by have i0 := all_ferrymanref02_Entry q; exact step_ferrymanref02_Entry_l0 q i0
theorem run_ferrymanref02_Entry : ∀ (q N : Nat), 8 * q ≤ N → ∀ (a0 : Int), ∀ (r : Int), ferrymanref02_Entry q a0 = some r → (orc T N).deep F.ferrymanref02_Entry [(V.int .u8) a0] = some [(V.int .u32) r] := by
  intro q N hM a0 r h
  rcases q with _ | q
  · cases h
  obtain ⟨M, rfl⟩ : ∃ M, N = M + 8 := ⟨N - 8, by omega⟩
  have ih_ferrymanref02_Entry_l0 := (all_ferrymanref02_Entry q)
  generalize hR : some [(V.int .u32) r] = R
  rw [orc_deep, T_ferrymanref02_Entry, Option.bind_some, runDeep_eq]
  rw [ferrymanref02_Entry] at h
  replace h := ih_ferrymanref02_Entry_l0 M (by omega) (M + 7) (by omega) _ _ _ h R hR
  simp (maxDischargeDepth := 12) only [kk0, kk1, kk2, kk3, kk4, kk5, kk6, kk7, kk8, kk9, kk10, kk11, kk12, kk13, kk14, kk15, kk16, kn0, kn1, kn2, kn3, kn4, kn5, kn6, eq_self_iff_true, implies_true, forall_const, Int.cast_ofNat_Int, Nat.reduceEqDiff, Nat.reduceAdd, Nat.reduceSub, Nat.reduceMul, Nat.reduceLT, Nat.reduceLeDiff, Int.reduceEq, Int.reduceLT, Int.reduceLE, Int.reduceAdd, Int.reduceSub, Int.reduceMul, Int.reduceToNat, Int.reduceNeg, ↓reduceIte, reduceCtorEq, L_ferrymanref02_Entry, Ow.enc, Sl.enc, rr_ferrymanref02_Entry, ro_ferrymanref02_Entry, b0_ferrymanref02_Entry, *]
def St_ferrymanref02_More_l0 (q : Nat) : Prop := ∀ (M : Nat) (hM : 8 * q ≤ M) (j : Nat) (hj : q ≤ j) (v1z : Bool) (v1l : List Int) (v5 : Int) (v6 : Int) (r : Int) (_ : ferrymanref02_More_l0 q v1z v1l v5 v6 = some r) (R : Option (List V)) (_ : some [(V.int .u32) r] = R) (fr : Fr) (H : Hp) (_ : canon 0 [1, 5, 6] fr H = ([(1, (.sl v1z (List.map (V.int .u8) v1l))), (5, (.int .u32 v5)), (6, (.int .i64 v6))], [])), fin m_ferrymanref02_More (unw T (orc T (M + 7)) (M + 7) 0 [.blk 0, .code c_ferrymanref02_More_13] (iter 0 [1, 5, 6] (exec T (orc T (M + 7)) (M + 7) 0 c_ferrymanref02_More_10) j fr H)) = R
theorem step_ferrymanref02_More_l0 (q : Nat) (ih_ferrymanref02_More_l0 : St_ferrymanref02_More_l0 q) : St_ferrymanref02_More_l0 (q + 1) := by
  intro M hM j hj v1z v1l v5 v6 r h R hR fr H hc
  obtain ⟨j, rfl⟩ : ∃ i, j = i + 1 := ⟨j - 1, by omega⟩
  rw [unw_iter, hc]; clear hc
  rw [ferrymanref02_More_l0] at h
  rcases Classical.em (v6 < (v1l.length : Int)) with h1 | h1
  · rw [if_pos h1] at h; replace h1 := eq_true h1
    rcases Classical.em (0 ≤ v6) with h2 | h2
    · rw [if_pos h2] at h; replace h2 := eq_true h2
      rcases h3 : v1l[v6.toNat]? with _ | e1
      · rw [h3] at h; cases h
      · rw [h3, Option.bind_some] at h
        rcases h4 : ferrymanref02_Entry q (ibits .xor .u8 (wrp .u8 v5) e1) with _ | r2
        · rw [h4] at h; cases h
        · rw [h4, Option.bind_some] at h
          replace h4 := run_ferrymanref02_Entry q (M + 7) (by omega) _ _ h4
          skip
          replace h := ih_ferrymanref02_More_l0 M (by omega) j (by omega) _ _ _ _ _ h R hR
          simp (maxDischargeDepth := 12) only [kk0, kk1, kk2, kk3, kk4, kk5, kk6, kk7, kk8, kk9, kk10, kk11, kk12, kk13, kk14, kk15, kk16, kn0, kn1, kn2, kn3, kn4, kn5, kn6, eq_self_iff_true, implies_true, forall_const, Int.cast_ofNat_Int, Nat.reduceEqDiff, Nat.reduceAdd, Nat.reduceSub, Nat.reduceMul, Nat.reduceLT, Nat.reduceLeDiff, Int.reduceEq, Int.reduceLT, Int.reduceLE, Int.reduceAdd, Int.reduceSub, Int.reduceMul, Int.reduceToNat, Int.reduceNeg, ↓reduceIte, reduceCtorEq, L_ferrymanref02_More, v_ferrymanref02_Entry, Ow.enc, Sl.enc, rr_ferrymanref02_More, ro_ferrymanref02_More, b0_ferrymanref02_More, *]
    · rw [if_neg h2] at h; replace h2 := eq_false h2
      cases h
  · rw [if_neg h1] at h; replace h1 := eq_false h1
    cases h; subst hR; simp (maxDischargeDepth := 12) only [kk0, kk1, kk2, kk3, kk4, kk5, kk6, kk7, kk8, kk9, kk10, kk11, kk12, kk13, kk14, kk15, kk16, kn0, kn1, kn2, kn3, kn4, kn5, kn6, eq_self_iff_true, implies_true, forall_const, Int.cast_ofNat_Int, Nat.reduceEqDiff, Nat.reduceAdd, Nat.reduceSub, Nat.reduceMul, Nat.reduceLT, Nat.reduceLeDiff, Int.reduceEq, Int.reduceLT, Int.reduceLE, Int.reduceAdd, Int.reduceSub, Int.reduceMul, Int.reduceToNat, Int.reduceNeg, ↓reduceIte, reduceCtorEq, L_ferrymanref02_More, v_ferrymanref02_Entry, Ow.enc, Sl.enc, rr_ferrymanref02_More, ro_ferrymanref02_More, b0_ferrymanref02_More, *]
theorem all_ferrymanref02_More : ∀ q, St_ferrymanref02_More_l0 q
  | 0 => by intro M hM j hj; intros; rename_i h _ _ _ _ _; cases h
  | q + 1 => by have i0 := all_ferrymanref02_More q; exact step_ferrymanref02_More_l0 q i0
theorem run_ferrymanref02_More : ∀ (q N : Nat), 8 * q ≤ N → ∀ (a0 : Int) (a1 : (Sl Int)), ∀ (r : Int), ferrymanref02_More q a0 a1 = some r → (orc T N).deep F.ferrymanref02_More [(V.int .u32) a0, (Sl.enc (V.int .u8)) a1] = some [(V.int .u32) r] := by
  intro q N hM a0 a1 r h
  rcases q with _ | q
  · cases h
  obtain ⟨M, rfl⟩ : ∃ M, N = M + 8 := ⟨N - 8, by omega⟩
  have ih_ferrymanref02_More_l0 := (all_ferrymanref02_More q)
  generalize hR : some [(V.int .u32) r] = R
  rw [orc_deep, T_ferrymanref02_More, Option.bind_some, runDeep_eq]
  rw [ferrymanref02_More] at h
  replace h := ih_ferrymanref02_More_l0 M (by omega) (M + 7) (by omega) _ _ _ _ _ h R hR
  simp (maxDischargeDepth := 12) only [kk0, kk1, kk2, kk3, kk4, kk5, kk6, kk7, kk8, kk9, kk10, kk11, kk12, kk13, kk14, kk15, kk16, kn0, kn1, kn2, kn3, kn4, kn5, kn6, eq_self_iff_true, implies_true, forall_const, Int.cast_ofNat_Int, Nat.reduceEqDiff, Nat.reduceAdd, Nat.reduceSub, Nat.reduceMul, Nat.reduceLT, Nat.reduceLeDiff, Int.reduceEq, Int.reduceLT, Int.reduceLE, Int.reduceAdd, Int.reduceSub, Int.reduceMul, Int.reduceToNat, Int.reduceNeg, ↓reduceIte, reduceCtorEq, L_ferrymanref02_More, v_ferrymanref02_Entry, Ow.enc, Sl.enc, rr_ferrymanref02_More, ro_ferrymanref02_More, b0_ferrymanref02_More, *]
theorem run_ferrymanref02_Sum : ∀ (q N : Nat), 8 * q ≤ N → ∀ (a0 : (Sl Int)), ∀ (r : Int), ferrymanref02_Sum q a0 = some r → (orc T N).deep F.ferrymanref02_Sum [(Sl.enc (V.int .u8)) a0] = some [(V.int .u32) r] := by
  intro q N hM a0 r h
  rcases q with _ | q
  · cases h
  obtain ⟨M, rfl⟩ : ∃ M, N = M + 8 := ⟨N - 8, by omega⟩
  generalize hR : some [(V.int .u32) r] = R
  rw [orc_deep, T_ferrymanref02_Sum, Option.bind_some, runDeep_eq]
  rw [ferrymanref02_Sum] at h
  rcases h1 : ferrymanref02_More q 0 a0 with _ | r1
  · rw [h1] at h; cases h
  · rw [h1, Option.bind_some] at h
    replace h1 := run_ferrymanref02_More q (M + 7) (by omega) _ _ _ h1
    try simp only [Ow.enc, Sl.enc, kn0, kn1, kn2, kn3, kn4, kn5, kn6, eq_self_iff_true, implies_true, forall_const, Int.cast_ofNat_Int, Nat.reduceEqDiff, Nat.reduceAdd, Nat.reduceSub, Nat.reduceMul, Nat.reduceLT, Nat.reduceLeDiff, Int.reduceEq, Int.reduceLT, Int.reduceLE, Int.reduceAdd, Int.reduceSub, Int.reduceMul, Int.reduceToNat, Int.reduceNeg, ↓reduceIte, reduceCtorEq] at h1
    cases h; subst hR; simp (maxDischargeDepth := 12) only [kk0, kk1, kk2, kk3, kk4, kk5, kk6, kk7, kk8, kk9, kk10, kk11, kk12, kk13, kk14, kk15, kk16, kn0, kn1, kn2, kn3, kn4, kn5, kn6, eq_self_iff_true, implies_true, forall_const, Int.cast_ofNat_Int, Nat.reduceEqDiff, Nat.reduceAdd, Nat.reduceSub, Nat.reduceMul, Nat.reduceLT, Nat.reduceLeDiff, Int.reduceEq, Int.reduceLT, Int.reduceLE, Int.reduceAdd, Int.reduceSub, Int.reduceMul, Int.reduceToNat, Int.reduceNeg, ↓reduceIte, reduceCtorEq, L_ferrymanref02_Sum, v_ferrymanref02_More, Ow.enc, Sl.enc, rr_ferrymanref02_Sum, ro_ferrymanref02_Sum, b0_ferrymanref02_Sum, *]
def St_ferrymanref01_Fix_l0 (q : Nat) : Prop := ∀ (M : Nat) (hM : 8 * q ≤ M) (j : Nat) (hj : q ≤ j) (v0 : Int) (v1 : Int) (v6 : Int) (h0z : Bool) (h0l : List Int) (r : (Ow Int)) (_ : ferrymanref01_Fix_l0 q v0 v1 v6 h0z h0l = some r) (R : Option (List V)) (_ : some [(Ow.enc 1 (V.int .u8)) r] = R) (fr : Fr) (H : Hp) (_ : canon 0 [0, 1, 5, 6] fr H = ([(0, (.int .u64 v0)), (1, (.int .i64 v1)), (5, (.vw 0 0 0 h0l.length 1)), (6, (.int .i64 v6))], [(.row 0 h0z 1 (List.map (V.int .u8) h0l) true)])), fin m_ferrymanref01_Fix (unw T (orc T (M + 7)) (M + 7) 0 [.blk 0, .code c_ferrymanref01_Fix_15] (iter 0 [0, 1, 5, 6] (exec T (orc T (M + 7)) (M + 7) 0 c_ferrymanref01_Fix_12) j fr H)) = R
theorem step_ferrymanref01_Fix_l0 (q : Nat) (ih_ferrymanref01_Fix_l0 : St_ferrymanref01_Fix_l0 q) : St_ferrymanref01_Fix_l0 (q + 1) := by
  intro M hM j hj v0 v1 v6 h0z h0l r h R hR fr H hc
  obtain ⟨j, rfl⟩ : ∃ i, j = i + 1 := ⟨j - 1, by omega⟩
  rw [unw_iter, hc]; clear hc
  rw [ferrymanref01_Fix_l0] at h
  rcases Classical.em (v6 < v1) with h1 | h1
  · rw [if_pos h1] at h; replace h1 := eq_true h1
    rcases Classical.em ((h0l.length + 1) ≤ 4294967296) with h2 | h2
    · rw [if_pos h2] at h; replace h2 := eq_true h2
      try simp only [kn0, kn1, kn2, kn3, kn4, kn5, kn6, eq_self_iff_true, implies_true, forall_const, Int.cast_ofNat_Int, Nat.reduceEqDiff, Nat.reduceAdd, Nat.reduceSub, Nat.reduceMul, Nat.reduceLT, Nat.reduceLeDiff, Int.reduceEq, Int.reduceLT, Int.reduceLE, Int.reduceAdd, Int.reduceSub, Int.reduceMul, Int.reduceToNat, Int.reduceNeg, ↓reduceIte, reduceCtorEq] at h2
      replace h := ih_ferrymanref01_Fix_l0 M (by omega) j (by omega) _ _ _ _ _ _ h R hR
      simp (maxDischargeDepth := 12) only [kk0, kk1, kk2, kk3, kk4, kk5, kk6, kk7, kk8, kk9, kk10, kk11, kk12, kk13, kk14, kk15, kk16, kn0, kn1, kn2, kn3, kn4, kn5, kn6, eq_self_iff_true, implies_true, forall_const, Int.cast_ofNat_Int, Nat.reduceEqDiff, Nat.reduceAdd, Nat.reduceSub, Nat.reduceMul, Nat.reduceLT, Nat.reduceLeDiff, Int.reduceEq, Int.reduceLT, Int.reduceLE, Int.reduceAdd, Int.reduceSub, Int.reduceMul, Int.reduceToNat, Int.reduceNeg, ↓reduceIte, reduceCtorEq, L_ferrymanref01_Fix, Ow.enc, Sl.enc, rr_ferrymanref01_Fix, ro_ferrymanref01_Fix, b0_ferrymanref01_Fix, *]
    · rw [if_neg h2] at h; replace h2 := eq_false h2
      try simp only [kn0, kn1, kn2, kn3, kn4, kn5, kn6, eq_self_iff_true, implies_true, forall_const, Int.cast_ofNat_Int, Nat.reduceEqDiff, Nat.reduceAdd, Nat.reduceSub, Nat.reduceMul, Nat.reduceLT, Nat.reduceLeDiff, Int.reduceEq, Int.reduceLT, Int.reduceLE, Int.reduceAdd, Int.reduceSub, Int.reduceMul, Int.reduceToNat, Int.reduceNeg, ↓reduceIte, reduceCtorEq] at h2
      cases h
  · rw [if_neg h1] at h; replace h1 := eq_false h1
    cases h; subst hR; simp (maxDischargeDepth := 12) only [kk0, kk1, kk2, kk3, kk4, kk5, kk6, kk7, kk8, kk9, kk10, kk11, kk12, kk13, kk14, kk15, kk16, kn0, kn1, kn2, kn3, kn4, kn5, kn6, eq_self_iff_true, implies_true, forall_const, Int.cast_ofNat_Int, Nat.reduceEqDiff, Nat.reduceAdd, Nat.reduceSub, Nat.reduceMul, Nat.reduceLT, Nat.reduceLeDiff, Int.reduceEq, Int.reduceLT, Int.reduceLE, Int.reduceAdd, Int.reduceSub, Int.reduceMul, Int.reduceToNat, Int.reduceNeg, ↓reduceIte, reduceCtorEq, L_ferrymanref01_Fix, Ow.enc, Sl.enc, rr_ferrymanref01_Fix, ro_ferrymanref01_Fix, b0_ferrymanref01_Fix, *]
theorem all_ferrymanref01_Fix : ∀ q, St_ferrymanref01_Fix_l0 q
  | 0 => by intro M hM j hj; intros; rename_i h _ _ _ _ _; cases h
  | q + 1 => by have i0 := all_ferrymanref01_Fix q; exact step_ferrymanref01_Fix_l0 q i0
theorem run_ferrymanref01_Fix : ∀ (q N : Nat), 8 * q ≤ N → ∀ (a0 : Int) (a1 : Int), ∀ (r : (Ow Int)), ferrymanref01_Fix q a0 a1 = some r → (orc T N).deep F.ferrymanref01_Fix [(V.int .u64) a0, (V.int .i64) a1] = some [(Ow.enc 1 (V.int .u8)) r] := by
  intro q N hM a0 a1 r h
  rcases q with _ | q
  · cases h
  obtain ⟨M, rfl⟩ : ∃ M, N = M + 8 := ⟨N - 8, by omega⟩
  have ih_ferrymanref01_Fix_l0 := (all_ferrymanref01_Fix q)
  generalize hR : some [(Ow.enc 1 (V.int .u8)) r] = R
  rw [orc_deep, T_ferrymanref01_Fix, Option.bind_some, runDeep_eq]
  rw [ferrymanref01_Fix] at h
  replace h := ih_ferrymanref01_Fix_l0 M (by omega) (M + 7) (by omega) _ _ _ _ _ _ h R hR
  simp (maxDischargeDepth := 12) only [kk0, kk1, kk2, kk3, kk4, kk5, kk6, kk7, kk8, kk9, kk10, kk11, kk12, kk13, kk14, kk15, kk16, kn0, kn1, kn2, kn3, kn4, kn5, kn6, eq_self_iff_true, implies_true, forall_const, Int.cast_ofNat_Int, Nat.reduceEqDiff, Nat.reduceAdd, Nat.reduceSub, Nat.reduceMul, Nat.reduceLT, Nat.reduceLeDiff, Int.reduceEq, Int.reduceLT, Int.reduceLE, Int.reduceAdd, Int.reduceSub, Int.reduceMul, Int.reduceToNat, Int.reduceNeg, ↓reduceIte, reduceCtorEq, L_ferrymanref01_Fix, Ow.enc, Sl.enc, rr_ferrymanref01_Fix, ro_ferrymanref01_Fix, b0_ferrymanref01_Fix, *]
theorem run_ferrymanref03_Encode : ∀ (q N : Nat), 8 * q ≤ N → ∀ (a0 : (Sl Int)), ∀ (r : (Ow Int) × Int), ferrymanref03_Encode q a0 = some r → (orc T N).deep F.ferrymanref03_Encode [(Sl.enc (V.int .u8)) a0] = some [(Ow.enc 1 (V.int .u8)) r.1, (V.int .i64) r.2] := by
  intro q N hM a0 r h
  rcases q with _ | q
  · cases h
  obtain ⟨M, rfl⟩ : ∃ M, N = M + 8 := ⟨N - 8, by omega⟩
  generalize hR : some [(Ow.enc 1 (V.int .u8)) r.1, (V.int .i64) r.2] = R
  rw [orc_deep, T_ferrymanref03_Encode, Option.bind_some, runDeep_eq]
  rw [ferrymanref03_Encode] at h
  rcases Classical.em (1048576 < (a0.l.length : Int)) with h1 | h1
  · rw [if_pos h1] at h; replace h1 := eq_true h1
    cases h; subst hR; simp (maxDischargeDepth := 12) only [kk0, kk1, kk2, kk3, kk4, kk5, kk6, kk7, kk8, kk9, kk10, kk11, kk12, kk13, kk14, kk15, kk16, kn0, kn1, kn2, kn3, kn4, kn5, kn6, eq_self_iff_true, implies_true, forall_const, Int.cast_ofNat_Int, Nat.reduceEqDiff, Nat.reduceAdd, Nat.reduceSub, Nat.reduceMul, Nat.reduceLT, Nat.reduceLeDiff, Int.reduceEq, Int.reduceLT, Int.reduceLE, Int.reduceAdd, Int.reduceSub, Int.reduceMul, Int.reduceToNat, Int.reduceNeg, ↓reduceIte, reduceCtorEq, L_ferrymanref03_Encode, v_ferrymanref01_Put, v_ferrymanref02_More, v_ferrymanref02_Sum, v_ferrymanref01_Fix, Ow.enc, Sl.enc, rr_ferrymanref03_Encode, ro_ferrymanref03_Encode, b0_ferrymanref03_Encode, *]
  · rw [if_neg h1] at h; replace h1 := eq_false h1
    rcases h2 : ferrymanref01_Put q ⟨true, []⟩ (a0.l.length : Int) with _ | r1
    · rw [h2] at h; cases h
    · rw [h2, Option.bind_some] at h
      replace h2 := run_ferrymanref01_Put q (M + 7) (by omega) _ _ _ h2
      try simp only [Ow.enc, Sl.enc, kn0, kn1, kn2, kn3, kn4, kn5, kn6, eq_self_iff_true, implies_true, forall_const, Int.cast_ofNat_Int, Nat.reduceEqDiff, Nat.reduceAdd, Nat.reduceSub, Nat.reduceMul, Nat.reduceLT, Nat.reduceLeDiff, Int.reduceEq, Int.reduceLT, Int.reduceLE, Int.reduceAdd, Int.reduceSub, Int.reduceMul, Int.reduceToNat, Int.reduceNeg, ↓reduceIte, reduceCtorEq] at h2
      rcases h3 : ferrymanref02_Sum q ⟨r1.n, r1.xs⟩ with _ | r2
      · rw [h3] at h; cases h
      · rw [h3, Option.bind_some] at h
        replace h3 := run_ferrymanref02_Sum q (M + 7) (by omega) _ _ h3
        try simp only [Ow.enc, Sl.enc, kn0, kn1, kn2, kn3, kn4, kn5, kn6, eq_self_iff_true, implies_true, forall_const, Int.cast_ofNat_Int, Nat.reduceEqDiff, Nat.reduceAdd, Nat.reduceSub, Nat.reduceMul, Nat.reduceLT, Nat.reduceLeDiff, Int.reduceEq, Int.reduceLT, Int.reduceLE, Int.reduceAdd, Int.reduceSub, Int.reduceMul, Int.reduceToNat, Int.reduceNeg, ↓reduceIte, reduceCtorEq] at h3
        rcases h4 : ferrymanref02_More q r2 a0 with _ | r3
        · rw [h4] at h; cases h
        · rw [h4, Option.bind_some] at h
          replace h4 := run_ferrymanref02_More q (M + 7) (by omega) _ _ _ h4
          try simp only [Ow.enc, Sl.enc, kn0, kn1, kn2, kn3, kn4, kn5, kn6, eq_self_iff_true, implies_true, forall_const, Int.cast_ofNat_Int, Nat.reduceEqDiff, Nat.reduceAdd, Nat.reduceSub, Nat.reduceMul, Nat.reduceLT, Nat.reduceLeDiff, Int.reduceEq, Int.reduceLT, Int.reduceLE, Int.reduceAdd, Int.reduceSub, Int.reduceMul, Int.reduceToNat, Int.reduceNeg, ↓reduceIte, reduceCtorEq] at h4
          rcases Classical.em (r1.xs.length ≤ 4294967296) with h5 | h5
          · rw [if_pos h5] at h; replace h5 := eq_true h5
            rcases Classical.em ((r1.xs.length + a0.l.length) ≤ 4294967296) with h6 | h6
            · rw [if_pos h6] at h; replace h6 := eq_true h6
              try simp only [kn0, kn1, kn2, kn3, kn4, kn5, kn6, eq_self_iff_true, implies_true, forall_const, Int.cast_ofNat_Int, Nat.reduceEqDiff, Nat.reduceAdd, Nat.reduceSub, Nat.reduceMul, Nat.reduceLT, Nat.reduceLeDiff, Int.reduceEq, Int.reduceLT, Int.reduceLE, Int.reduceAdd, Int.reduceSub, Int.reduceMul, Int.reduceToNat, Int.reduceNeg, ↓reduceIte, reduceCtorEq] at h6
              rcases h7 : ferrymanref01_Fix q (wrp .u64 r3) 4 with _ | r4
              · rw [h7] at h; cases h
              · rw [h7, Option.bind_some] at h
                replace h7 := run_ferrymanref01_Fix q (M + 7) (by omega) _ _ _ h7
                try simp only [Ow.enc, kn0, kn1, kn2, kn3, kn4, kn5, kn6, eq_self_iff_true, implies_true, forall_const, Int.cast_ofNat_Int, Nat.reduceEqDiff, Nat.reduceAdd, Nat.reduceSub, Nat.reduceMul, Nat.reduceLT, Nat.reduceLeDiff, Int.reduceEq, Int.reduceLT, Int.reduceLE, Int.reduceAdd, Int.reduceSub, Int.reduceMul, Int.reduceToNat, Int.reduceNeg, ↓reduceIte, reduceCtorEq] at h7
                rcases Classical.em (((r1.xs.length + a0.l.length) + r4.xs.length) ≤ 4294967296) with h8 | h8
                · rw [if_pos h8] at h; replace h8 := eq_true h8
                  try simp only [kn0, kn1, kn2, kn3, kn4, kn5, kn6, eq_self_iff_true, implies_true, forall_const, Int.cast_ofNat_Int, Nat.reduceEqDiff, Nat.reduceAdd, Nat.reduceSub, Nat.reduceMul, Nat.reduceLT, Nat.reduceLeDiff, Int.reduceEq, Int.reduceLT, Int.reduceLE, Int.reduceAdd, Int.reduceSub, Int.reduceMul, Int.reduceToNat, Int.reduceNeg, ↓reduceIte, reduceCtorEq] at h8
                  cases h; subst hR; simp (maxDischargeDepth := 12) only [kk0, kk1, kk2, kk3, kk4, kk5, kk6, kk7, kk8, kk9, kk10, kk11, kk12, kk13, kk14, kk15, kk16, kn0, kn1, kn2, kn3, kn4, kn5, kn6, eq_self_iff_true, implies_true, forall_const, Int.cast_ofNat_Int, Nat.reduceEqDiff, Nat.reduceAdd, Nat.reduceSub, Nat.reduceMul, Nat.reduceLT, Nat.reduceLeDiff, Int.reduceEq, Int.reduceLT, Int.reduceLE, Int.reduceAdd, Int.reduceSub, Int.reduceMul, Int.reduceToNat, Int.reduceNeg, ↓reduceIte, reduceCtorEq, L_ferrymanref03_Encode, v_ferrymanref01_Put, v_ferrymanref02_More, v_ferrymanref02_Sum, v_ferrymanref01_Fix, Ow.enc, Sl.enc, rr_ferrymanref03_Encode, ro_ferrymanref03_Encode, b0_ferrymanref03_Encode, *]
                · rw [if_neg h8] at h; replace h8 := eq_false h8
                  try simp only [kn0, kn1, kn2, kn3, kn4, kn5, kn6, eq_self_iff_true, implies_true, forall_const, Int.cast_ofNat_Int, Nat.reduceEqDiff, Nat.reduceAdd, Nat.reduceSub, Nat.reduceMul, Nat.reduceLT, Nat.reduceLeDiff, Int.reduceEq, Int.reduceLT, Int.reduceLE, Int.reduceAdd, Int.reduceSub, Int.reduceMul, Int.reduceToNat, Int.reduceNeg, ↓reduceIte, reduceCtorEq] at h8
                  cases h
            · rw [if_neg h6] at h; replace h6 := eq_false h6
              try simp only [kn0, kn1, kn2, kn3, kn4, kn5, kn6, eq_self_iff_true, implies_true, forall_const, Int.cast_ofNat_Int, Nat.reduceEqDiff, Nat.reduceAdd, Nat.reduceSub, Nat.reduceMul, Nat.reduceLT, Nat.reduceLeDiff, Int.reduceEq, Int.reduceLT, Int.reduceLE, Int.reduceAdd, Int.reduceSub, Int.reduceMul, Int.reduceToNat, Int.reduceNeg, ↓reduceIte, reduceCtorEq] at h6
              cases h
          · rw [if_neg h5] at h; replace h5 := eq_false h5
            cases h
theorem run_ferrymanref03_Size : ∀ (q N : Nat), 8 * q ≤ N → ∀ (a0 : Int), ∀ (r : Int), ferrymanref03_Size q a0 = some r → (orc T N).deep F.ferrymanref03_Size [(V.int .i64) a0] = some [(V.int .i64) r] := by
  intro q N hM a0 r h
  rcases q with _ | q
  · cases h
  obtain ⟨M, rfl⟩ : ∃ M, N = M + 8 := ⟨N - 8, by omega⟩
  generalize hR : some [(V.int .i64) r] = R
  rw [orc_deep, T_ferrymanref03_Size, Option.bind_some, runDeep_eq]
  rw [ferrymanref03_Size] at h
  rcases Classical.em (a0 < 0) with h1 | h1
  · rw [if_pos h1] at h; replace h1 := eq_true h1
    cases h; subst hR; simp (maxDischargeDepth := 12) only [kk0, kk1, kk2, kk3, kk4, kk5, kk6, kk7, kk8, kk9, kk10, kk11, kk12, kk13, kk14, kk15, kk16, kn0, kn1, kn2, kn3, kn4, kn5, kn6, eq_self_iff_true, implies_true, forall_const, Int.cast_ofNat_Int, Nat.reduceEqDiff, Nat.reduceAdd, Nat.reduceSub, Nat.reduceMul, Nat.reduceLT, Nat.reduceLeDiff, Int.reduceEq, Int.reduceLT, Int.reduceLE, Int.reduceAdd, Int.reduceSub, Int.reduceMul, Int.reduceToNat, Int.reduceNeg, ↓reduceIte, reduceCtorEq, L_ferrymanref03_Size, v_ferrymanref01_Put, Ow.enc, Sl.enc, rr_ferrymanref03_Size, ro_ferrymanref03_Size, b0_ferrymanref03_Size, *]
  · rw [if_neg h1] at h; replace h1 := eq_false h1
    rcases Classical.em (1048576 < a0) with h2 | h2
    · rw [if_pos h2] at h; replace h2 := eq_true h2
      cases h; subst hR; simp (maxDischargeDepth := 12) only [kk0, kk1, kk2, kk3, kk4, kk5, kk6, kk7, kk8, kk9, kk10, kk11, kk12, kk13, kk14, kk15, kk16, kn0, kn1, kn2, kn3, kn4, kn5, kn6, eq_self_iff_true, implies_true, forall_const, Int.cast_ofNat_Int, Nat.reduceEqDiff, Nat.reduceAdd, Nat.reduceSub, Nat.reduceMul, Nat.reduceLT, Nat.reduceLeDiff, Int.reduceEq, Int.reduceLT, Int.reduceLE, Int.reduceAdd, Int.reduceSub, Int.reduceMul, Int.reduceToNat, Int.reduceNeg, ↓reduceIte, reduceCtorEq, L_ferrymanref03_Size, v_ferrymanref01_Put, Ow.enc, Sl.enc, rr_ferrymanref03_Size, ro_ferrymanref03_Size, b0_ferrymanref03_Size, *]
    · rw [if_neg h2] at h; replace h2 := eq_false h2
      rcases h3 : ferrymanref01_Put q ⟨true, []⟩ a0 with _ | r1
      · rw [h3] at h; cases h
      · rw [h3, Option.bind_some] at h
        replace h3 := run_ferrymanref01_Put q (M + 7) (by omega) _ _ _ h3
        try simp only [Ow.enc, Sl.enc, kn0, kn1, kn2, kn3, kn4, kn5, kn6, eq_self_iff_true, implies_true, forall_const, Int.cast_ofNat_Int, Nat.reduceEqDiff, Nat.reduceAdd, Nat.reduceSub, Nat.reduceMul, Nat.reduceLT, Nat.reduceLeDiff, Int.reduceEq, Int.reduceLT, Int.reduceLE, Int.reduceAdd, Int.reduceSub, Int.reduceMul, Int.reduceToNat, Int.reduceNeg, ↓reduceIte, reduceCtorEq] at h3
        cases h; subst hR; simp (maxDischargeDepth := 12) only [kk0, kk1, kk2, kk3, kk4, kk5, kk6, kk7, kk8, kk9, kk10, kk11, kk12, kk13, kk14, kk15, kk16, kn0, kn1, kn2, kn3, kn4, kn5, kn6, eq_self_iff_true, implies_true, forall_const, Int.cast_ofNat_Int, Nat.reduceEqDiff, Nat.reduceAdd, Nat.reduceSub, Nat.reduceMul, Nat.reduceLT, Nat.reduceLeDiff, Int.reduceEq, Int.reduceLT, Int.reduceLE, Int.reduceAdd, Int.reduceSub, Int.reduceMul, Int.reduceToNat, Int.reduceNeg, ↓reduceIte, reduceCtorEq, L_ferrymanref03_Size, v_ferrymanref01_Put, Ow.enc, Sl.enc, rr_ferrymanref03_Size, ro_ferrymanref03_Size, b0_ferrymanref03_Size, *]
theorem run_ferrymanlaw03_FrameEncodes : ∀ (q N : Nat), 8 * q ≤ N → ∀ (a0 : (Sl Int)) (a1 : Int), ∀ (r : Bool), ferrymanlaw03_FrameEncodes q a0 a1 = some r → (orc T N).deep F.ferrymanlaw03_FrameEncodes [(Sl.enc (V.int .u8)) a0, (V.int .i64) a1] = some [V.bool r] := by
  intro q N hM a0 a1 r h
  rcases q with _ | q
  · cases h
  obtain ⟨M, rfl⟩ : ∃ M, N = M + 8 := ⟨N - 8, by omega⟩
  generalize hR : some [V.bool r] = R
  rw [orc_deep, T_ferrymanlaw03_FrameEncodes, Option.bind_some, runDeep_eq]
  rw [ferrymanlaw03_FrameEncodes] at h
  rcases h1 : ferrymanlaw03_awake q with _ | r1
  · rw [h1] at h; cases h
  · rw [h1, Option.bind_some] at h
    replace h1 := run_ferrymanlaw03_awake q (M + 7) (by omega)  _ h1
    skip
    rcases Classical.em (5000 < (a0.l.length : Int)) with h2 | h2
    · rw [if_pos h2] at h; replace h2 := eq_true h2
      cases h; subst hR; simp (maxDischargeDepth := 12) only [kk0, kk1, kk2, kk3, kk4, kk5, kk6, kk7, kk8, kk9, kk10, kk11, kk12, kk13, kk14, kk15, kk16, kn0, kn1, kn2, kn3, kn4, kn5, kn6, eq_self_iff_true, implies_true, forall_const, Int.cast_ofNat_Int, Nat.reduceEqDiff, Nat.reduceAdd, Nat.reduceSub, Nat.reduceMul, Nat.reduceLT, Nat.reduceLeDiff, Int.reduceEq, Int.reduceLT, Int.reduceLE, Int.reduceAdd, Int.reduceSub, Int.reduceMul, Int.reduceToNat, Int.reduceNeg, ↓reduceIte, reduceCtorEq, L_ferrymanlaw03_FrameEncodes, v_ferrymanlaw03_awake, v_frame_Encode, v_ferrymanref03_Encode, v_frame_Size, v_ferrymanref03_Size, Ow.enc, Sl.enc, rr_ferrymanlaw03_FrameEncodes, ro_ferrymanlaw03_FrameEncodes, b0_ferrymanlaw03_FrameEncodes, *]
    · rw [if_neg h2] at h; replace h2 := eq_false h2
      rcases h3 : frame_Encode q a0 with _ | r2
      · rw [h3] at h; cases h
      · rw [h3, Option.bind_some] at h
        replace h3 := run_frame_Encode q (M + 7) (by omega) _ _ h3
        try simp only [Ow.enc, Sl.enc, kn0, kn1, kn2, kn3, kn4, kn5, kn6, eq_self_iff_true, implies_true, forall_const, Int.cast_ofNat_Int, Nat.reduceEqDiff, Nat.reduceAdd, Nat.reduceSub, Nat.reduceMul, Nat.reduceLT, Nat.reduceLeDiff, Int.reduceEq, Int.reduceLT, Int.reduceLE, Int.reduceAdd, Int.reduceSub, Int.reduceMul, Int.reduceToNat, Int.reduceNeg, ↓reduceIte, reduceCtorEq] at h3
        rcases h4 : ferrymanref03_Encode q a0 with _ | r3
        · rw [h4] at h; cases h
        · rw [h4, Option.bind_some] at h
          replace h4 := run_ferrymanref03_Encode q (M + 7) (by omega) _ _ h4
          try simp only [Ow.enc, Sl.enc, kn0, kn1, kn2, kn3, kn4, kn5, kn6, eq_self_iff_true, implies_true, forall_const, Int.cast_ofNat_Int, Nat.reduceEqDiff, Nat.reduceAdd, Nat.reduceSub, Nat.reduceMul, Nat.reduceLT, Nat.reduceLeDiff, Int.reduceEq, Int.reduceLT, Int.reduceLE, Int.reduceAdd, Int.reduceSub, Int.reduceMul, Int.reduceToNat, Int.reduceNeg, ↓reduceIte, reduceCtorEq] at h4
          rcases Classical.em (r1 = true) with h5 | h5
          · rw [if_pos h5] at h; have h5' := bt1 h5; replace h5 := eq_true h5
            rcases Classical.em (r2.1.xs = r3.1.xs) with h6 | h6
            · rw [if_pos h6] at h; replace h6 := eq_true h6
              rcases Classical.em (r2.2 = r3.2) with h7 | h7
              · rw [if_pos h7] at h; replace h7 := eq_true h7
                rcases h8 : frame_Size q a1 with _ | r4
                · rw [h8] at h; cases h
                · rw [h8, Option.bind_some] at h
                  replace h8 := run_frame_Size q (M + 7) (by omega) _ _ h8
                  skip
                  rcases h9 : ferrymanref03_Size q a1 with _ | r5
                  · rw [h9] at h; cases h
                  · rw [h9, Option.bind_some] at h
                    replace h9 := run_ferrymanref03_Size q (M + 7) (by omega) _ _ h9
                    skip
                    rcases Classical.em (r4 = r5) with h10 | h10
                    · rw [if_pos h10] at h; replace h10 := eq_true h10
                      rcases h11 : frame_Size q (a0.l.length : Int) with _ | r6
                      · rw [h11] at h; cases h
                      · rw [h11, Option.bind_some] at h
                        replace h11 := run_frame_Size q (M + 7) (by omega) _ _ h11
                        skip
                        cases h; subst hR; simp (maxDischargeDepth := 12) only [kk0, kk1, kk2, kk3, kk4, kk5, kk6, kk7, kk8, kk9, kk10, kk11, kk12, kk13, kk14, kk15, kk16, kn0, kn1, kn2, kn3, kn4, kn5, kn6, eq_self_iff_true, implies_true, forall_const, Int.cast_ofNat_Int, Nat.reduceEqDiff, Nat.reduceAdd, Nat.reduceSub, Nat.reduceMul, Nat.reduceLT, Nat.reduceLeDiff, Int.reduceEq, Int.reduceLT, Int.reduceLE, Int.reduceAdd, Int.reduceSub, Int.reduceMul, Int.reduceToNat, Int.reduceNeg, ↓reduceIte, reduceCtorEq, L_ferrymanlaw03_FrameEncodes, v_ferrymanlaw03_awake, v_frame_Encode, v_ferrymanref03_Encode, v_frame_Size, v_ferrymanref03_Size, Ow.enc, Sl.enc, rr_ferrymanlaw03_FrameEncodes, ro_ferrymanlaw03_FrameEncodes, b0_ferrymanlaw03_FrameEncodes, *]
                    · rw [if_neg h10] at h; replace h10 := eq_false h10
                      cases h; subst hR; simp (maxDischargeDepth := 12) only [kk0, kk1, kk2, kk3, kk4, kk5, kk6, kk7, kk8, kk9, kk10, kk11, kk12, kk13, kk14, kk15, kk16, kn0, kn1, kn2, kn3, kn4, kn5, kn6, eq_self_iff_true, implies_true, forall_const, Int.cast_ofNat_Int, Nat.reduceEqDiff, Nat.reduceAdd, Nat.reduceSub, Nat.reduceMul, Nat.reduceLT, Nat.reduceLeDiff, Int.reduceEq, Int.reduceLT, Int.reduceLE, Int.reduceAdd, Int.reduceSub, Int.reduceMul, Int.reduceToNat, Int.reduceNeg, ↓reduceIte, reduceCtorEq, L_ferrymanlaw03_FrameEncodes, v_ferrymanlaw03_awake, v_frame_Encode, v_ferrymanref03_Encode, v_frame_Size, v_ferrymanref03_Size, Ow.enc, Sl.enc, rr_ferrymanlaw03_FrameEncodes, ro_ferrymanlaw03_FrameEncodes, b0_ferrymanlaw03_FrameEncodes, *]
              · rw [if_neg h7] at h; replace h7 := eq_false h7
                cases h; subst hR; simp (maxDischargeDepth := 12) only [kk0, kk1, kk2, kk3, kk4, kk5, kk6, kk7, kk8, kk9, kk10, kk11, kk12, kk13, kk14, kk15, kk16, kn0, kn1, kn2, kn3, kn4, kn5, kn6, eq_self_iff_true, implies_true, forall_const, Int.cast_ofNat_Int, Nat.reduceEqDiff, Nat.reduceAdd, Nat.reduceSub, Nat.reduceMul, Nat.reduceLT, Nat.reduceLeDiff, Int.reduceEq, Int.reduceLT, Int.reduceLE, Int.reduceAdd, Int.reduceSub, Int.reduceMul, Int.reduceToNat, Int.reduceNeg, ↓reduceIte, reduceCtorEq, L_ferrymanlaw03_FrameEncodes, v_ferrymanlaw03_awake, v_frame_Encode, v_ferrymanref03_Encode, v_frame_Size, v_ferrymanref03_Size, Ow.enc, Sl.enc, rr_ferrymanlaw03_FrameEncodes, ro_ferrymanlaw03_FrameEncodes, b0_ferrymanlaw03_FrameEncodes, *]
            · rw [if_neg h6] at h; replace h6 := eq_false h6
              cases h; subst hR; simp (maxDischargeDepth := 12) only [kk0, kk1, kk2, kk3, kk4, kk5, kk6, kk7, kk8, kk9, kk10, kk11, kk12, kk13, kk14, kk15, kk16, kn0, kn1, kn2, kn3, kn4, kn5, kn6, eq_self_iff_true, implies_true, forall_const, Int.cast_ofNat_Int, Nat.reduceEqDiff, Nat.reduceAdd, Nat.reduceSub, Nat.reduceMul, Nat.reduceLT, Nat.reduceLeDiff, Int.reduceEq, Int.reduceLT, Int.reduceLE, Int.reduceAdd, Int.reduceSub, Int.reduceMul, Int.reduceToNat, Int.reduceNeg, ↓reduceIte, reduceCtorEq, L_ferrymanlaw03_FrameEncodes, v_ferrymanlaw03_awake, v_frame_Encode, v_ferrymanref03_Encode, v_frame_Size, v_ferrymanref03_Size, Ow.enc, Sl.enc, rr_ferrymanlaw03_FrameEncodes, ro_ferrymanlaw03_FrameEncodes, b0_ferrymanlaw03_FrameEncodes, *]
          · rw [if_neg h5] at h; have h5' := bt0 h5; replace h5 := eq_false h5
            cases h; subst hR; simp (maxDischargeDepth := 12) only [kk0, kk1, kk2, kk3, kk4, kk5, kk6, kk7, kk8, kk9, kk10, kk11, kk12, kk13, kk14, kk15, kk16, kn0, kn1, kn2, kn3, kn4, kn5, kn6, eq_self_iff_true, implies_true, forall_const, Int.cast_ofNat_Int, Nat.reduceEqDiff, Nat.reduceAdd, Nat.reduceSub, Nat.reduceMul, Nat.reduceLT, Nat.reduceLeDiff, Int.reduceEq, Int.reduceLT, Int.reduceLE, Int.reduceAdd, Int.reduceSub, Int.reduceMul, Int.reduceToNat, Int.reduceNeg, ↓reduceIte, reduceCtorEq, L_ferrymanlaw03_FrameEncodes, v_ferrymanlaw03_awake, v_frame_Encode, v_ferrymanref03_Encode, v_frame_Size, v_ferrymanref03_Size, Ow.enc, Sl.enc, rr_ferrymanlaw03_FrameEncodes, ro_ferrymanlaw03_FrameEncodes, b0_ferrymanlaw03_FrameEncodes, *]
end Go.Dvm.C
