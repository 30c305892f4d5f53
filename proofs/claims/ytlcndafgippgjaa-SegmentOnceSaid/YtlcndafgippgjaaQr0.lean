/- The machine comes to these answers: part 1. -/
import Derived.Test.YtlcndafgippgjaaQl0
set_option linter.all false
set_option maxRecDepth 100000
set_option maxHeartbeats 4000000
namespace Go.Dvm.C
open Go Go.Dvm Go.Dvm.I
def A_segment_known := And.intro @kk <| And.intro @L_segment_known <| And.intro @rr_segment_known <| And.intro @ro_segment_known <| @b0_segment_known
theorem run_segment_known : ∀ (q N : Nat), 8 * q ≤ N → ∀ (a0 : Int), ∀ (r : Bool), segment_known q a0 = some r → (orc T N).deep F.segment_known [(V.int .i64) a0] = some [V.bool r] := by
  intro q N hM a0 r h
  rcases q with _ | q
  · cases h
  obtain ⟨M, rfl⟩ : ∃ M, N = M + 8 := ⟨N - 8, by omega⟩
  generalize hR : some [V.bool r] = R
  rw [orc_deep, T_segment_known, Option.bind_some, runDeep_eq]
  rw [segment_known] at h
  rcases Classical.em (1 ≤ a0) with h1 | h1
  · rw [if_pos h1] at h; replace h1 := eq_true h1
    cases h; subst hR; simp (maxDischargeDepth := 12) only [A_segment_known, kn, simprocAttr, qa, qb, qc, qd, Ow.enc, Sl.enc, *]
  · rw [if_neg h1] at h; replace h1 := eq_false h1
    cases h; subst hR; simp (maxDischargeDepth := 12) only [A_segment_known, kn, simprocAttr, qa, qb, qc, qd, Ow.enc, Sl.enc, *]
def St_num_groups_l0 (q : Nat) : Prop := ∀ (M : Nat) (hM : 8 * q ≤ M) (j : Nat) (hj : q ≤ j) (w0 : Nat) (v1 : Int) (h0z : Bool) (h0l : List Int) (h0x : Bool) (r : (Ow Int)) (_ : num_groups_l0 q v1 h0z h0l h0x = some r) (R : Option (List V)) (_ : some [(Ow.enc 1 (V.int .u8)) r] = R) (fr : Fr) (H : Hp) (_ : canon 1 [0, 1] fr H = ([(0, (.vw 0 w0 0 h0l.length 1)), (1, (.int .u64 v1))], [(.row w0 h0z 1 (List.map (V.int .u8) h0l) h0x)])), fin m_num_groups (unw T (orc T (M + 7)) (M + 7) 1 [.blk 0, .code c_num_groups_10] (iter 1 [0, 1] (exec T (orc T (M + 7)) (M + 7) 1 c_num_groups_8) j fr H)) = R
def A_num_groups := And.intro @kk <| And.intro @L_num_groups <| And.intro @rr_num_groups <| And.intro @ro_num_groups <| @b0_num_groups
theorem step_num_groups_l0 (q : Nat) (ih_num_groups_l0 : St_num_groups_l0 q) : St_num_groups_l0 (q + 1) := by
  intro M hM j hj w0 v1 h0z h0l h0x r h R hR fr H hc
  obtain ⟨j, rfl⟩ : ∃ i, j = i + 1 := ⟨j - 1, by omega⟩
  rw [unw_iter, hc]; clear hc
  rw [num_groups_l0] at h
  rcases Classical.em (128 ≤ v1) with h1 | h1
  · rw [if_pos h1] at h; replace h1 := eq_true h1
    rcases Classical.em ((h0l.length + 1) ≤ 4294967296) with h2 | h2
    · rw [if_pos h2] at h; replace h2 := eq_true h2
      try simp only [kn, simprocAttr, qa, qb, qc, qd] at h2
      replace h := ih_num_groups_l0 M (by omega) j (by omega) (w0 + 1) _ _ _ _ _ h R hR
      simp (maxDischargeDepth := 12) only [A_num_groups, kn, simprocAttr, qa, qb, qc, qd, Ow.enc, Sl.enc, *]
    · rw [if_neg h2] at h; replace h2 := eq_false h2
      try simp only [kn, simprocAttr, qa, qb, qc, qd] at h2
      cases h
  · rw [if_neg h1] at h; replace h1 := eq_false h1
    rcases Classical.em ((h0l.length + 1) ≤ 4294967296) with h3 | h3
    · rw [if_pos h3] at h; replace h3 := eq_true h3
      try simp only [kn, simprocAttr, qa, qb, qc, qd] at h3
      cases h; subst hR; simp (maxDischargeDepth := 12) only [A_num_groups, kn, simprocAttr, qa, qb, qc, qd, Ow.enc, Sl.enc, *]
    · rw [if_neg h3] at h; replace h3 := eq_false h3
      try simp only [kn, simprocAttr, qa, qb, qc, qd] at h3
      cases h
theorem all_num_groups : ∀ q, St_num_groups_l0 q
  | 0 => by intro M hM j hj; intros; rename_i h _ _ _ _ _; cases h
  | q + 1 => by have i0 := all_num_groups q; exact step_num_groups_l0 q i0
theorem run_num_groups : ∀ (q N : Nat), 8 * q ≤ N → ∀ (a0 : (Ow Int)) (a1 : Int), ∀ (r : (Ow Int)), num_groups q a0 a1 = some r → (orc T N).deep F.num_groups [(Ow.enc 1 (V.int .u8)) a0, (V.int .u64) a1] = some [(Ow.enc 1 (V.int .u8)) r] := by
  intro q N hM a0 a1 r h
  rcases q with _ | q
  · cases h
  obtain ⟨M, rfl⟩ : ∃ M, N = M + 8 := ⟨N - 8, by omega⟩
  have ih_num_groups_l0 := (all_num_groups q)
  generalize hR : some [(Ow.enc 1 (V.int .u8)) r] = R
  rw [orc_deep, T_num_groups, Option.bind_some, runDeep_eq]
  rw [num_groups] at h
  replace h := ih_num_groups_l0 M (by omega) (M + 7) (by omega) 0 _ _ _ _ _ h R hR
  simp (maxDischargeDepth := 12) only [A_num_groups, kn, simprocAttr, qa, qb, qc, qd, Ow.enc, Sl.enc, *]
def A_num_Put := And.intro @kk <| And.intro @L_num_Put <| And.intro @v_num_groups <| And.intro @rr_num_Put <| And.intro @ro_num_Put <| @b0_num_Put
theorem run_num_Put : ∀ (q N : Nat), 8 * q ≤ N → ∀ (a0 : (Ow Int)) (a1 : Int), ∀ (r : (Ow Int)), num_Put q a0 a1 = some r → (orc T N).deep F.num_Put [(Ow.enc 1 (V.int .u8)) a0, (V.int .i64) a1] = some [(Ow.enc 1 (V.int .u8)) r] := by
  intro q N hM a0 a1 r h
  rcases q with _ | q
  · cases h
  obtain ⟨M, rfl⟩ : ∃ M, N = M + 8 := ⟨N - 8, by omega⟩
  generalize hR : some [(Ow.enc 1 (V.int .u8)) r] = R
  rw [orc_deep, T_num_Put, Option.bind_some, runDeep_eq]
  rw [num_Put] at h
  rcases Classical.em (a1 < 0) with h1 | h1
  · rw [if_pos h1] at h; replace h1 := eq_true h1
    cases h; subst hR; simp (maxDischargeDepth := 12) only [A_num_Put, kn, simprocAttr, qa, qb, qc, qd, Ow.enc, Sl.enc, *]
  · rw [if_neg h1] at h; replace h1 := eq_false h1
    rcases Classical.em (4611686018427387904 ≤ a1) with h2 | h2
    · rw [if_pos h2] at h; replace h2 := eq_true h2
      cases h; subst hR; simp (maxDischargeDepth := 12) only [A_num_Put, kn, simprocAttr, qa, qb, qc, qd, Ow.enc, Sl.enc, *]
    · rw [if_neg h2] at h; replace h2 := eq_false h2
      rcases h3 : num_groups q a0 (wrp .u64 a1) with _ | r1
      · rw [h3] at h; cases h
      · rw [h3, Option.bind_some] at h
        replace h3 := run_num_groups q (M + 7) (by omega) _ _ _ h3
        try simp only [Ow.enc, Sl.enc, kn, simprocAttr, qa, qb, qc, qd] at h3
        cases h; subst hR; simp (maxDischargeDepth := 12) only [A_num_Put, kn, simprocAttr, qa, qb, qc, qd, Ow.enc, Sl.enc, *]
def St_crc_Table_l0 (q : Nat) : Prop := ∀ (M : Nat) (hM : 8 * q ≤ M) (j : Nat) (hj : q ≤ j) (v5 : Int) (h0_0 : List Int) (h1_0 : List Int) (r : (List Int)) (_ : crc_Table_l0 q v5 h0_0 h1_0 = some r) (R : Option (List V)) (_ : some [(arrEnc (V.int .u32)) r] = R) (fr : Fr) (H : Hp) (_ : canon 0 [0, 1, 5] fr H = ([(0, (.ptr 0 0)), (1, (.ptr 1 0)), (5, (.int .i64 v5))], [(.box (List.map (V.int .u32) h0_0)), (.box (List.map (V.int .u32) h1_0))])), fin m_crc_Table (unw T (orc T (M + 7)) (M + 7) 0 [.blk 0, .code c_crc_Table_29] (iter 0 [0, 1, 5] (exec T (orc T (M + 7)) (M + 7) 0 c_crc_Table_26) j fr H)) = R
def St_crc_Table_l1 (q : Nat) : Prop := ∀ (M : Nat) (hM : 8 * q ≤ M) (j : Nat) (hj : q ≤ j) (j1 : Nat) (hj1 : q ≤ j1) (v2 : Int) (v3 : Int) (v5 : Int) (v10 : Int) (h0_0 : List Int) (h1_0 : List Int) (r : (List Int)) (_ : crc_Table_l1 q v2 v3 v5 v10 h0_0 h1_0 = some r) (R : Option (List V)) (_ : some [(arrEnc (V.int .u32)) r] = R) (fr : Fr) (H : Hp) (_ : canon 0 [0, 1, 2, 3, 5, 10] fr H = ([(0, (.ptr 0 0)), (1, (.ptr 1 0)), (2, (.int .i64 v2)), (3, (.int .u32 v3)), (5, (.int .i64 v5)), (10, (.int .i64 v10))], [(.box (List.map (V.int .u32) h0_0)), (.box (List.map (V.int .u32) h1_0))])), fin m_crc_Table (unw T (orc T (M + 7)) (M + 7) 0 [.blk 2, .code c_crc_Table_19, .blk 1, .code c_crc_Table_23, .rounds [0, 1, 5] c_crc_Table_26 j1, .blk 0, .code c_crc_Table_29] (iter 0 [0, 1, 2, 3, 5, 10] (exec T (orc T (M + 7)) (M + 7) 0 c_crc_Table_16) j fr H)) = R
def A_crc_Table := And.intro @kk <| And.intro @L_crc_Table <| And.intro @rr_crc_Table <| And.intro @ro_crc_Table <| @b0_crc_Table
theorem step_crc_Table_l0 (q : Nat) (ih_crc_Table_l1 : St_crc_Table_l1 q) : St_crc_Table_l0 (q + 1) := by
  intro M hM j hj v5 h0_0 h1_0 r h R hR fr H hc
  obtain ⟨j, rfl⟩ : ∃ i, j = i + 1 := ⟨j - 1, by omega⟩
  rw [unw_iter, hc]; clear hc
  rw [crc_Table_l0] at h
  rcases Classical.em (v5 < 256) with h1 | h1
  · rw [if_pos h1] at h; replace h1 := eq_true h1
    replace h := ih_crc_Table_l1 M (by omega) (M + 7) (by omega) j (by omega) _ _ _ _ _ _ _ h R hR
    simp (maxDischargeDepth := 12) only [A_crc_Table, kn, simprocAttr, qa, qb, qc, qd, Ow.enc, Sl.enc, arrEnc, *]
  · rw [if_neg h1] at h; replace h1 := eq_false h1
    rcases Classical.em (256 ≤ h1_0.length) with h2 | h2
    · rw [if_pos h2] at h; replace h2 := eq_true h2
      rcases Classical.em ((min 256 h1_0.length) = 256) with h3 | h3
      · rw [if_pos h3] at h
        rcases Classical.em (256 ≤ h0_0.length) with h4 | h4
        · rw [if_pos h4] at h; replace h4 := eq_true h4
          rcases Classical.em (256 ≤ (256 + (h0_0.length - 256))) with h5 | h5
          · rw [if_pos h5] at h; replace h5 := eq_true h5
            try simp only [kn, simprocAttr, qa, qb, qc, qd] at h5
            cases h; subst hR; simp (maxDischargeDepth := 12) only [A_crc_Table, kn, simprocAttr, qa, qb, qc, qd, Ow.enc, Sl.enc, arrEnc, *]
          · rw [if_neg h5] at h; replace h5 := eq_false h5
            try simp only [kn, simprocAttr, qa, qb, qc, qd] at h5
            cases h
        · rw [if_neg h4] at h; replace h4 := eq_false h4
          cases h
      · rw [if_neg h3] at h; replace h3 := eq_false h3
        cases h
    · rw [if_neg h2] at h; replace h2 := eq_false h2
      cases h
theorem step_crc_Table_l1 (q : Nat) (ih_crc_Table_l0 : St_crc_Table_l0 q) (ih_crc_Table_l1 : St_crc_Table_l1 q) : St_crc_Table_l1 (q + 1) := by
  intro M hM j hj j1 hj1 v2 v3 v5 v10 h0_0 h1_0 r h R hR fr H hc
  obtain ⟨j, rfl⟩ : ∃ i, j = i + 1 := ⟨j - 1, by omega⟩
  rw [unw_iter, hc]; clear hc
  rw [crc_Table_l1] at h
  rcases Classical.em (v10 < 8) with h1 | h1
  · rw [if_pos h1] at h; replace h1 := eq_true h1
    replace h := ih_crc_Table_l1 M (by omega) j (by omega) j1 (by omega) _ _ _ _ _ _ _ h R hR
    simp (maxDischargeDepth := 12) only [A_crc_Table, kn, simprocAttr, qa, qb, qc, qd, Ow.enc, Sl.enc, arrEnc, *]
  · rw [if_neg h1] at h; replace h1 := eq_false h1
    rcases Classical.em (0 ≤ v2) with h2 | h2
    · rw [if_pos h2] at h; replace h2 := eq_true h2
      rcases Classical.em (v2.toNat < 256) with h3 | h3
      · rw [if_pos h3] at h; replace h3 := eq_true h3
        rcases Classical.em ((v2.toNat + 1) ≤ h1_0.length) with h4 | h4
        · rw [if_pos h4] at h; replace h4 := eq_true h4
          try simp only [kn, simprocAttr, qa, qb, qc, qd] at h4
          replace h := ih_crc_Table_l0 M (by omega) j1 (by omega) _ _ _ _ h R hR
          simp (maxDischargeDepth := 12) only [A_crc_Table, kn, simprocAttr, qa, qb, qc, qd, Ow.enc, Sl.enc, arrEnc, *]
        · rw [if_neg h4] at h; replace h4 := eq_false h4
          try simp only [kn, simprocAttr, qa, qb, qc, qd] at h4
          cases h
      · rw [if_neg h3] at h; replace h3 := eq_false h3
        cases h
    · rw [if_neg h2] at h; replace h2 := eq_false h2
      cases h
theorem all_crc_Table : ∀ q, St_crc_Table_l0 q ∧ St_crc_Table_l1 q
  | 0 => by refine ⟨?_, ?_⟩ <;> (intro M hM j hj; intros; rename_i h _ _ _ _ _; cases h)
  | q + 1 => by have ⟨i0, i1⟩ := all_crc_Table q; exact ⟨step_crc_Table_l0 q i1, step_crc_Table_l1 q i0 i1⟩
theorem run_crc_Table : ∀ (q N : Nat), 8 * q ≤ N → ∀ (r : (List Int)), crc_Table q = some r → (orc T N).deep F.crc_Table [] = some [(arrEnc (V.int .u32)) r] := by
  intro q N hM r h
  rcases q with _ | q
  · cases h
  obtain ⟨M, rfl⟩ : ∃ M, N = M + 8 := ⟨N - 8, by omega⟩
  have ih_crc_Table_l0 := (all_crc_Table q).1
  generalize hR : some [(arrEnc (V.int .u32)) r] = R
  rw [orc_deep, T_crc_Table, Option.bind_some, runDeep_eq]
  rw [crc_Table] at h
  replace h := ih_crc_Table_l0 M (by omega) (M + 7) (by omega) _ _ _ _ h R hR
  simp (maxDischargeDepth := 12) only [A_crc_Table, kn, simprocAttr, qa, qb, qc, qd, Ow.enc, Sl.enc, arrEnc, *]
def St_crc_More_l0 (q : Nat) : Prop := ∀ (M : Nat) (hM : 8 * q ≤ M) (j : Nat) (hj : q ≤ j) (v6 : Int) (v12z : Bool) (v12l : List Int) (v13 : Int) (v14 : Int) (h0_0 : List Int) (r : Int) (_ : crc_More_l0 q v6 v12z v12l v13 v14 h0_0 = some r) (R : Option (List V)) (_ : some [(V.int .u32) r] = R) (fr : Fr) (H : Hp) (_ : canon 0 [5, 6, 12, 13, 14] fr H = ([(5, (.ptr 0 0)), (6, (.int .u32 v6)), (12, (.sl v12z (List.map (V.int .u8) v12l))), (13, (.int .i64 v13)), (14, (.int .i64 v14))], [(.box (List.map (V.int .u32) h0_0))])), fin m_crc_More (unw T (orc T (M + 7)) (M + 7) 0 [.blk 0, .code c_crc_More_16] (iter 0 [5, 6, 12, 13, 14] (exec T (orc T (M + 7)) (M + 7) 0 c_crc_More_13) j fr H)) = R
def A_crc_More := And.intro @kk <| And.intro @L_crc_More <| And.intro @v_crc_Table <| And.intro @rr_crc_More <| And.intro @ro_crc_More <| @b0_crc_More
theorem step_crc_More_l0 (q : Nat) (ih_crc_More_l0 : St_crc_More_l0 q) : St_crc_More_l0 (q + 1) := by
  intro M hM j hj v6 v12z v12l v13 v14 h0_0 r h R hR fr H hc
  obtain ⟨j, rfl⟩ : ∃ i, j = i + 1 := ⟨j - 1, by omega⟩
  rw [unw_iter, hc]; clear hc
  rw [crc_More_l0] at h
  rcases Classical.em (v14 < v13) with h1 | h1
  · rw [if_pos h1] at h; replace h1 := eq_true h1
    rcases Classical.em (0 ≤ v14) with h2 | h2
    · rw [if_pos h2] at h; replace h2 := eq_true h2
      rcases h3 : v12l[v14.toNat]? with _ | e2
      · rw [h3] at h; cases h
      · rw [h3, Option.bind_some] at h
        rcases Classical.em (0 ≤ (ibits .xor .u8 (wrp .u8 v6) e2)) with h4 | h4
        · rw [if_pos h4] at h; replace h4 := eq_true h4
          rcases Classical.em ((ibits .xor .u8 (wrp .u8 v6) e2).toNat < 256) with h5 | h5
          · rw [if_pos h5] at h; replace h5 := eq_true h5
            rcases h6 : h0_0[(ibits .xor .u8 (wrp .u8 v6) e2).toNat]? with _ | e3
            · rw [h6] at h; cases h
            · rw [h6, Option.bind_some] at h
              replace h := ih_crc_More_l0 M (by omega) j (by omega) _ _ _ _ _ _ _ h R hR
              simp (maxDischargeDepth := 12) only [A_crc_More, kn, simprocAttr, qa, qb, qc, qd, Ow.enc, Sl.enc, arrEnc, *]
          · rw [if_neg h5] at h; replace h5 := eq_false h5
            cases h
        · rw [if_neg h4] at h; replace h4 := eq_false h4
          cases h
    · rw [if_neg h2] at h; replace h2 := eq_false h2
      cases h
  · rw [if_neg h1] at h; replace h1 := eq_false h1
    cases h; subst hR; simp (maxDischargeDepth := 12) only [A_crc_More, kn, simprocAttr, qa, qb, qc, qd, Ow.enc, Sl.enc, arrEnc, *]
theorem all_crc_More : ∀ q, St_crc_More_l0 q
  | 0 => by intro M hM j hj; intros; rename_i h _ _ _ _ _; cases h
  | q + 1 => by have i0 := all_crc_More q; exact step_crc_More_l0 q i0
theorem run_crc_More : ∀ (q N : Nat), 8 * q ≤ N → ∀ (a0 : Int) (a1 : (Sl Int)), ∀ (r : Int), crc_More q a0 a1 = some r → (orc T N).deep F.crc_More [(V.int .u32) a0, (Sl.enc (V.int .u8)) a1] = some [(V.int .u32) r] := by
  intro q N hM a0 a1 r h
  rcases q with _ | q
  · cases h
  obtain ⟨M, rfl⟩ : ∃ M, N = M + 8 := ⟨N - 8, by omega⟩
  have ih_crc_More_l0 := (all_crc_More q)
  generalize hR : some [(V.int .u32) r] = R
  rw [orc_deep, T_crc_More, Option.bind_some, runDeep_eq]
  rw [crc_More] at h
  rcases h1 : crc_Table q with _ | r1
  · rw [h1] at h; cases h
  · rw [h1, Option.bind_some] at h
    replace h1 := run_crc_Table q (M + 7) (by omega)  _ h1
    try simp only [Ow.enc, arrEnc, kn, simprocAttr, qa, qb, qc, qd] at h1
    rcases Classical.em (r1.length = 256) with h2 | h2
    · rw [if_pos h2] at h
      replace h := ih_crc_More_l0 M (by omega) (M + 7) (by omega) _ _ _ _ _ _ _ h R hR
      simp (maxDischargeDepth := 12) only [A_crc_More, kn, simprocAttr, qa, qb, qc, qd, Ow.enc, Sl.enc, arrEnc, *]
    · rw [if_neg h2] at h; replace h2 := eq_false h2
      cases h
def A_crc_Sum := And.intro @kk <| And.intro @L_crc_Sum <| And.intro @v_crc_More <| And.intro @rr_crc_Sum <| And.intro @ro_crc_Sum <| @b0_crc_Sum
theorem run_crc_Sum : ∀ (q N : Nat), 8 * q ≤ N → ∀ (a0 : (Sl Int)), ∀ (r : Int), crc_Sum q a0 = some r → (orc T N).deep F.crc_Sum [(Sl.enc (V.int .u8)) a0] = some [(V.int .u32) r] := by
  intro q N hM a0 r h
  rcases q with _ | q
  · cases h
  obtain ⟨M, rfl⟩ : ∃ M, N = M + 8 := ⟨N - 8, by omega⟩
  generalize hR : some [(V.int .u32) r] = R
  rw [orc_deep, T_crc_Sum, Option.bind_some, runDeep_eq]
  rw [crc_Sum] at h
  rcases h1 : crc_More q 0 a0 with _ | r1
  · rw [h1] at h; cases h
  · rw [h1, Option.bind_some] at h
    replace h1 := run_crc_More q (M + 7) (by omega) _ _ _ h1
    try simp only [Ow.enc, Sl.enc, kn, simprocAttr, qa, qb, qc, qd] at h1
    cases h; subst hR; simp (maxDischargeDepth := 12) only [A_crc_Sum, kn, simprocAttr, qa, qb, qc, qd, Ow.enc, Sl.enc, *]
def St_num_fixed_l0 (q : Nat) : Prop := ∀ (M : Nat) (hM : 8 * q ≤ M) (j : Nat) (hj : q ≤ j) (v0 : Int) (v7 : Int) (v8 : Int) (h0z : Bool) (h0l : List Int) (r : (Ow Int)) (_ : num_fixed_l0 q v0 v7 v8 h0z h0l = some r) (R : Option (List V)) (_ : some [(Ow.enc 1 (V.int .u8)) r] = R) (fr : Fr) (H : Hp) (_ : canon 0 [0, 5, 7, 8] fr H = ([(0, (.int .u64 v0)), (5, (.vw 0 0 0 h0l.length 1)), (7, (.int .i64 v7)), (8, (.int .i64 v8))], [(.row 0 h0z 1 (List.map (V.int .u8) h0l) true)])), fin m_num_fixed (unw T (orc T (M + 7)) (M + 7) 0 [.blk 0, .code c_num_fixed_15] (iter 0 [0, 5, 7, 8] (exec T (orc T (M + 7)) (M + 7) 0 c_num_fixed_12) j fr H)) = R
def A_num_fixed := And.intro @kk <| And.intro @L_num_fixed <| And.intro @rr_num_fixed <| And.intro @ro_num_fixed <| @b0_num_fixed
theorem step_num_fixed_l0 (q : Nat) (ih_num_fixed_l0 : St_num_fixed_l0 q) : St_num_fixed_l0 (q + 1) := by
  intro M hM j hj v0 v7 v8 h0z h0l r h R hR fr H hc
  obtain ⟨j, rfl⟩ : ∃ i, j = i + 1 := ⟨j - 1, by omega⟩
  rw [unw_iter, hc]; clear hc
  rw [num_fixed_l0] at h
  rcases Classical.em (v8 < v7) with h1 | h1
  · rw [if_pos h1] at h; replace h1 := eq_true h1
    rcases Classical.em ((wrp .i64 (8 * v8)) < 0) with h2 | h2
    · rw [if_pos h2] at h; replace h2 := eq_true h2
      cases h
    · rw [if_neg h2] at h; replace h2 := eq_false h2
      rcases Classical.em ((h0l.length + 1) ≤ 4294967296) with h3 | h3
      · rw [if_pos h3] at h; replace h3 := eq_true h3
        try simp only [kn, simprocAttr, qa, qb, qc, qd] at h3
        replace h := ih_num_fixed_l0 M (by omega) j (by omega) _ _ _ _ _ _ h R hR
        simp (maxDischargeDepth := 12) only [A_num_fixed, kn, simprocAttr, qa, qb, qc, qd, Ow.enc, Sl.enc, *]
      · rw [if_neg h3] at h; replace h3 := eq_false h3
        try simp only [kn, simprocAttr, qa, qb, qc, qd] at h3
        cases h
  · rw [if_neg h1] at h; replace h1 := eq_false h1
    cases h; subst hR; simp (maxDischargeDepth := 12) only [A_num_fixed, kn, simprocAttr, qa, qb, qc, qd, Ow.enc, Sl.enc, *]
theorem all_num_fixed : ∀ q, St_num_fixed_l0 q
  | 0 => by intro M hM j hj; intros; rename_i h _ _ _ _ _; cases h
  | q + 1 => by have i0 := all_num_fixed q; exact step_num_fixed_l0 q i0
theorem run_num_fixed : ∀ (q N : Nat), 8 * q ≤ N → ∀ (a0 : Int) (a1 : Int), ∀ (r : (Ow Int)), num_fixed q a0 a1 = some r → (orc T N).deep F.num_fixed [(V.int .u64) a0, (V.int .i64) a1] = some [(Ow.enc 1 (V.int .u8)) r] := by
  intro q N hM a0 a1 r h
  rcases q with _ | q
  · cases h
  obtain ⟨M, rfl⟩ : ∃ M, N = M + 8 := ⟨N - 8, by omega⟩
  have ih_num_fixed_l0 := (all_num_fixed q)
  generalize hR : some [(Ow.enc 1 (V.int .u8)) r] = R
  rw [orc_deep, T_num_fixed, Option.bind_some, runDeep_eq]
  rw [num_fixed] at h
  replace h := ih_num_fixed_l0 M (by omega) (M + 7) (by omega) _ _ _ _ _ _ h R hR
  simp (maxDischargeDepth := 12) only [A_num_fixed, kn, simprocAttr, qa, qb, qc, qd, Ow.enc, Sl.enc, *]
def A_num_Fixed32 := And.intro @kk <| And.intro @L_num_Fixed32 <| And.intro @v_num_fixed <| And.intro @rr_num_Fixed32 <| And.intro @ro_num_Fixed32 <| @b0_num_Fixed32
theorem run_num_Fixed32 : ∀ (q N : Nat), 8 * q ≤ N → ∀ (a0 : Int), ∀ (r : (Ow Int)), num_Fixed32 q a0 = some r → (orc T N).deep F.num_Fixed32 [(V.int .u32) a0] = some [(Ow.enc 1 (V.int .u8)) r] := by
  intro q N hM a0 r h
  rcases q with _ | q
  · cases h
  obtain ⟨M, rfl⟩ : ∃ M, N = M + 8 := ⟨N - 8, by omega⟩
  generalize hR : some [(Ow.enc 1 (V.int .u8)) r] = R
  rw [orc_deep, T_num_Fixed32, Option.bind_some, runDeep_eq]
  rw [num_Fixed32] at h
  rcases h1 : num_fixed q (wrp .u64 a0) 4 with _ | r1
  · rw [h1] at h; cases h
  · rw [h1, Option.bind_some] at h
    replace h1 := run_num_fixed q (M + 7) (by omega) _ _ _ h1
    try simp only [Ow.enc, kn, simprocAttr, qa, qb, qc, qd] at h1
    cases h; subst hR; simp (maxDischargeDepth := 12) only [A_num_Fixed32, kn, simprocAttr, qa, qb, qc, qd, Ow.enc, Sl.enc, *]
def A_frame_sum := And.intro @kk <| And.intro @L_frame_sum <| And.intro @v_num_Fixed32 <| And.intro @v_crc_More <| And.intro @v_crc_Sum <| And.intro @rr_frame_sum <| And.intro @ro_frame_sum <| @b0_frame_sum
theorem run_frame_sum : ∀ (q N : Nat), 8 * q ≤ N → ∀ (a0 : (Sl Int)) (a1 : (Sl Int)), ∀ (r : (Ow Int)), frame_sum q a0 a1 = some r → (orc T N).deep F.frame_sum [(Sl.enc (V.int .u8)) a0, (Sl.enc (V.int .u8)) a1] = some [(Ow.enc 1 (V.int .u8)) r] := by
  intro q N hM a0 a1 r h
  rcases q with _ | q
  · cases h
  obtain ⟨M, rfl⟩ : ∃ M, N = M + 8 := ⟨N - 8, by omega⟩
  generalize hR : some [(Ow.enc 1 (V.int .u8)) r] = R
  rw [orc_deep, T_frame_sum, Option.bind_some, runDeep_eq]
  rw [frame_sum] at h
  rcases h1 : crc_Sum q a0 with _ | r1
  · rw [h1] at h; cases h
  · rw [h1, Option.bind_some] at h
    replace h1 := run_crc_Sum q (M + 7) (by omega) _ _ h1
    try simp only [Ow.enc, Sl.enc, kn, simprocAttr, qa, qb, qc, qd] at h1
    rcases h2 : crc_More q r1 a1 with _ | r2
    · rw [h2] at h; cases h
    · rw [h2, Option.bind_some] at h
      replace h2 := run_crc_More q (M + 7) (by omega) _ _ _ h2
      try simp only [Ow.enc, Sl.enc, kn, simprocAttr, qa, qb, qc, qd] at h2
      rcases h3 : num_Fixed32 q r2 with _ | r3
      · rw [h3] at h; cases h
      · rw [h3, Option.bind_some] at h
        replace h3 := run_num_Fixed32 q (M + 7) (by omega) _ _ h3
        try simp only [Ow.enc, kn, simprocAttr, qa, qb, qc, qd] at h3
        cases h; subst hR; simp (maxDischargeDepth := 12) only [A_frame_sum, kn, simprocAttr, qa, qb, qc, qd, Ow.enc, Sl.enc, *]
def St_slices_Concat_byte_byte_l0 (q : Nat) : Prop := ∀ (M : Nat) (hM : 8 * q ≤ M) (j : Nat) (hj : q ≤ j) (v0z : Bool) (v0l : List (Sl Int)) (v3 : Int) (v9z : Bool) (v9l : List (Sl Int)) (v10 : Int) (v11 : Int) (r : (Ow Int)) (_ : slices_Concat_byte_byte_l0 q v0z v0l v3 v9z v9l v10 v11 = some r) (R : Option (List V)) (_ : some [(Ow.enc 1 (V.int .u8)) r] = R) (fr : Fr) (H : Hp) (_ : canon 0 [0, 3, 9, 10, 11] fr H = ([(0, (.sl v0z (List.map (Sl.enc (V.int .u8)) v0l))), (3, (.int .i64 v3)), (9, (.sl v9z (List.map (Sl.enc (V.int .u8)) v9l))), (10, (.int .i64 v10)), (11, (.int .i64 v11))], [])), fin m_slices_Concat_byte_byte (unw T (orc T (M + 7)) (M + 7) 0 [.blk 0, .code c_slices_Concat_byte_byte_32] (iter 0 [0, 3, 9, 10, 11] (exec T (orc T (M + 7)) (M + 7) 0 c_slices_Concat_byte_byte_15) j fr H)) = R
def St_slices_Concat_byte_byte_l1 (q : Nat) : Prop := ∀ (M : Nat) (hM : 8 * q ≤ M) (j : Nat) (hj : q ≤ j) (v6len : Nat) (v25z : Bool) (v25l : List (Sl Int)) (v26 : Int) (v27 : Int) (h0z : Bool) (h0l : List Int) (r : (Ow Int)) (_ : slices_Concat_byte_byte_l1 q v6len v25z v25l v26 v27 h0z h0l = some r) (R : Option (List V)) (_ : some [(Ow.enc 1 (V.int .u8)) r] = R) (fr : Fr) (H : Hp) (_ : canon 0 [6, 25, 26, 27] fr H = ([(6, (.vw 0 0 0 v6len 0)), (25, (.sl v25z (List.map (Sl.enc (V.int .u8)) v25l))), (26, (.int .i64 v26)), (27, (.int .i64 v27))], [(.row 0 h0z 1 (List.map (V.int .u8) h0l) true)])), fin m_slices_Concat_byte_byte (unw T (orc T (M + 7)) (M + 7) 0 [.blk 2, .code c_slices_Concat_byte_byte_30] (iter 0 [6, 25, 26, 27] (exec T (orc T (M + 7)) (M + 7) 0 c_slices_Concat_byte_byte_27) j fr H)) = R
def St_slices_Concat_byte_byte_l2 (q : Nat) : Prop := ∀ (M : Nat) (hM : 8 * q ≤ M) (j : Nat) (hj : q ≤ j) (v25z : Bool) (v25l : List (Sl Int)) (v26 : Int) (r : (Ow Int)) (_ : slices_Concat_byte_byte_l2 q v25z v25l v26 = some r) (R : Option (List V)) (_ : some [(Ow.enc 1 (V.int .u8)) r] = R) (fr : Fr) (H : Hp) (_ : canon 0 [6, 25, 26, 27] fr H = ([(6, (.sl true [])), (25, (.sl v25z (List.map (Sl.enc (V.int .u8)) v25l))), (26, (.int .i64 v26)), (27, (.int .i64 0))], [])), fin m_slices_Concat_byte_byte (unw T (orc T (M + 7)) (M + 7) 0 [.blk 2, .code c_slices_Concat_byte_byte_30] (iter 0 [6, 25, 26, 27] (exec T (orc T (M + 7)) (M + 7) 0 c_slices_Concat_byte_byte_27) j fr H)) = R
def St_slices_Concat_byte_byte_l3 (q : Nat) : Prop := ∀ (M : Nat) (hM : 8 * q ≤ M) (j : Nat) (hj : q ≤ j) (v25z : Bool) (v25l : List (Sl Int)) (v26 : Int) (v27 : Int) (h0z : Bool) (h0l : List Int) (r : (Ow Int)) (_ : slices_Concat_byte_byte_l3 q v25z v25l v26 v27 h0z h0l = some r) (R : Option (List V)) (_ : some [(Ow.enc 1 (V.int .u8)) r] = R) (fr : Fr) (H : Hp) (_ : canon 0 [6, 25, 26, 27] fr H = ([(6, (.vw 0 0 0 h0l.length 1)), (25, (.sl v25z (List.map (Sl.enc (V.int .u8)) v25l))), (26, (.int .i64 v26)), (27, (.int .i64 v27))], [(.row 0 h0z 1 (List.map (V.int .u8) h0l) true)])), fin m_slices_Concat_byte_byte (unw T (orc T (M + 7)) (M + 7) 0 [.blk 2, .code c_slices_Concat_byte_byte_30] (iter 0 [6, 25, 26, 27] (exec T (orc T (M + 7)) (M + 7) 0 c_slices_Concat_byte_byte_27) j fr H)) = R
def A_slices_Concat_byte_byte := And.intro @kk <| And.intro @L_slices_Concat_byte_byte <| And.intro @L_slices_Grow_byte_byte <| And.intro @v_slices_Grow_byte_byte <| And.intro @i_slices_Grow_byte_byte <| And.intro @rr_slices_Concat_byte_byte <| And.intro @ro_slices_Concat_byte_byte <| @b0_slices_Concat_byte_byte
theorem step_slices_Concat_byte_byte_l0 (q : Nat) (ih_slices_Concat_byte_byte_l0 : St_slices_Concat_byte_byte_l0 q) (ih_slices_Concat_byte_byte_l1 : St_slices_Concat_byte_byte_l1 q) (ih_slices_Concat_byte_byte_l2 : St_slices_Concat_byte_byte_l2 q) : St_slices_Concat_byte_byte_l0 (q + 1) := by
  intro M hM j hj v0z v0l v3 v9z v9l v10 v11 r h R hR fr H hc
  obtain ⟨j, rfl⟩ : ∃ i, j = i + 1 := ⟨j - 1, by omega⟩
  rw [unw_iter, hc]; clear hc
  rw [slices_Concat_byte_byte_l0] at h
  rcases Classical.em (v11 < v10) with h1 | h1
  · rw [if_pos h1] at h; replace h1 := eq_true h1
    rcases Classical.em (0 ≤ v11) with h2 | h2
    · rw [if_pos h2] at h; replace h2 := eq_true h2
      rcases h3 : v9l[v11.toNat]? with _ | e1
      · rw [h3] at h; cases h
      · rw [h3, Option.bind_some] at h
        rcases Classical.em ((wrp .i64 (v3 + (e1.l.length : Int))) < 0) with h4 | h4
        · rw [if_pos h4] at h; replace h4 := eq_true h4
          try simp only [kn, simprocAttr, qa, qb, qc, qd] at h4
          cases h
        · rw [if_neg h4] at h; replace h4 := eq_false h4
          try simp only [kn, simprocAttr, qa, qb, qc, qd] at h4
          replace h := ih_slices_Concat_byte_byte_l0 M (by omega) j (by omega) _ _ _ _ _ _ _ _ h R hR
          simp (maxDischargeDepth := 12) only [A_slices_Concat_byte_byte, kn, simprocAttr, qa, qb, qc, qd, Ow.enc, Sl.enc, *]
    · rw [if_neg h2] at h; replace h2 := eq_false h2
      cases h
  · rw [if_neg h1] at h; replace h1 := eq_false h1
    rcases Classical.em (v3 < 0) with h5 | h5
    · rw [if_pos h5] at h; replace h5 := eq_true h5
      cases h
    · rw [if_neg h5] at h; replace h5 := eq_false h5
      rcases Classical.em (0 < (wrp .i64 (v3 - (wrp .i64 0)))) with h6 | h6
      · rw [if_pos h6] at h; replace h6 := eq_true h6
        try simp only [kn, simprocAttr, qa, qb, qc, qd] at h6
        rcases Classical.em (0 ≤ (wrp .i64 (v3 - (wrp .i64 0)))) with h7 | h7
        · rw [if_pos h7] at h; replace h7 := eq_true h7
          try simp only [kn, simprocAttr, qa, qb, qc, qd] at h7
          rcases Classical.em ((wrp .i64 (v3 - (wrp .i64 0))).toNat ≤ 4294967296) with h8 | h8
          · rw [if_pos h8] at h; replace h8 := eq_true h8
            try simp only [kn, simprocAttr, qa, qb, qc, qd] at h8
            rcases Classical.em ((wrp .i64 (v3 - (wrp .i64 0))) = 0) with h9 | h9
            · rw [if_pos h9] at h; replace h9 := eq_true h9
              try simp only [kn, simprocAttr, qa, qb, qc, qd] at h9
              cases h
            · rw [if_neg h9] at h; replace h9 := eq_false h9
              try simp only [kn, simprocAttr, qa, qb, qc, qd] at h9
              replace h := ih_slices_Concat_byte_byte_l1 M (by omega) (M + 7) (by omega) _ _ _ _ _ _ _ _ h R hR
              simp (maxDischargeDepth := 12) only [A_slices_Concat_byte_byte, kn, simprocAttr, qa, qb, qc, qd, Ow.enc, Sl.enc, *]
          · rw [if_neg h8] at h; replace h8 := eq_false h8
            try simp only [kn, simprocAttr, qa, qb, qc, qd] at h8
            cases h
        · rw [if_neg h7] at h; replace h7 := eq_false h7
          try simp only [kn, simprocAttr, qa, qb, qc, qd] at h7
          cases h
      · rw [if_neg h6] at h; replace h6 := eq_false h6
        try simp only [kn, simprocAttr, qa, qb, qc, qd] at h6
        replace h := ih_slices_Concat_byte_byte_l2 M (by omega) (M + 7) (by omega) _ _ _ _ h R hR
        simp (maxDischargeDepth := 12) only [A_slices_Concat_byte_byte, kn, simprocAttr, qa, qb, qc, qd, Ow.enc, Sl.enc, *]
theorem step_slices_Concat_byte_byte_l1 (q : Nat) (ih_slices_Concat_byte_byte_l1 : St_slices_Concat_byte_byte_l1 q) : St_slices_Concat_byte_byte_l1 (q + 1) := by
  intro M hM j hj v6len v25z v25l v26 v27 h0z h0l r h R hR fr H hc
  obtain ⟨j, rfl⟩ : ∃ i, j = i + 1 := ⟨j - 1, by omega⟩
  rw [unw_iter, hc]; clear hc
  rw [slices_Concat_byte_byte_l1] at h
  rcases Classical.em (v27 < v26) with h1 | h1
  · rw [if_pos h1] at h; replace h1 := eq_true h1
    rcases Classical.em (0 ≤ v27) with h2 | h2
    · rw [if_pos h2] at h; replace h2 := eq_true h2
      rcases h3 : v25l[v27.toNat]? with _ | e2
      · rw [h3] at h; cases h
      · rw [h3, Option.bind_some] at h
        rcases Classical.em ((v6len + e2.l.length) ≤ h0l.length) with h4 | h4
        · rw [if_pos h4] at h; replace h4 := eq_true h4
          try simp only [kn, simprocAttr, qa, qb, qc, qd] at h4
          replace h := ih_slices_Concat_byte_byte_l1 M (by omega) j (by omega) _ _ _ _ _ _ _ _ h R hR
          simp (maxDischargeDepth := 12) only [A_slices_Concat_byte_byte, kn, simprocAttr, qa, qb, qc, qd, Ow.enc, Sl.enc, *]
        · rw [if_neg h4] at h; replace h4 := eq_false h4
          try simp only [kn, simprocAttr, qa, qb, qc, qd] at h4
          cases h
    · rw [if_neg h2] at h; replace h2 := eq_false h2
      cases h
  · rw [if_neg h1] at h; replace h1 := eq_false h1
    cases h; subst hR; simp (maxDischargeDepth := 12) only [A_slices_Concat_byte_byte, kn, simprocAttr, qa, qb, qc, qd, Ow.enc, Sl.enc, *]
theorem step_slices_Concat_byte_byte_l2 (q : Nat) (ih_slices_Concat_byte_byte_l3 : St_slices_Concat_byte_byte_l3 q) : St_slices_Concat_byte_byte_l2 (q + 1) := by
  intro M hM j hj v25z v25l v26 r h R hR fr H hc
  obtain ⟨j, rfl⟩ : ∃ i, j = i + 1 := ⟨j - 1, by omega⟩
  rw [unw_iter, hc]; clear hc
  rw [slices_Concat_byte_byte_l2] at h
  rcases Classical.em (0 < v26) with h1 | h1
  · rw [if_pos h1] at h; replace h1 := eq_true h1
    rcases h2 : v25l[0]? with _ | e3
    · rw [h2] at h; cases h
    · rw [h2, Option.bind_some] at h
      rcases Classical.em (e3.l.length ≤ 4294967296) with h3 | h3
      · rw [if_pos h3] at h; replace h3 := eq_true h3
        replace h := ih_slices_Concat_byte_byte_l3 M (by omega) j (by omega) _ _ _ _ _ _ _ h R hR
        simp (maxDischargeDepth := 12) only [A_slices_Concat_byte_byte, kn, simprocAttr, qa, qb, qc, qd, Ow.enc, Sl.enc, *]
      · rw [if_neg h3] at h; replace h3 := eq_false h3
        cases h
  · rw [if_neg h1] at h; replace h1 := eq_false h1
    cases h; subst hR; simp (maxDischargeDepth := 12) only [A_slices_Concat_byte_byte, kn, simprocAttr, qa, qb, qc, qd, Ow.enc, Sl.enc, *]
theorem step_slices_Concat_byte_byte_l3 (q : Nat) (ih_slices_Concat_byte_byte_l3 : St_slices_Concat_byte_byte_l3 q) : St_slices_Concat_byte_byte_l3 (q + 1) := by
  intro M hM j hj v25z v25l v26 v27 h0z h0l r h R hR fr H hc
  obtain ⟨j, rfl⟩ : ∃ i, j = i + 1 := ⟨j - 1, by omega⟩
  rw [unw_iter, hc]; clear hc
  rw [slices_Concat_byte_byte_l3] at h
  rcases Classical.em (v27 < v26) with h1 | h1
  · rw [if_pos h1] at h; replace h1 := eq_true h1
    rcases Classical.em (0 ≤ v27) with h2 | h2
    · rw [if_pos h2] at h; replace h2 := eq_true h2
      rcases h3 : v25l[v27.toNat]? with _ | e4
      · rw [h3] at h; cases h
      · rw [h3, Option.bind_some] at h
        rcases Classical.em ((h0l.length + e4.l.length) ≤ 4294967296) with h4 | h4
        · rw [if_pos h4] at h; replace h4 := eq_true h4
          try simp only [kn, simprocAttr, qa, qb, qc, qd] at h4
          replace h := ih_slices_Concat_byte_byte_l3 M (by omega) j (by omega) _ _ _ _ _ _ _ h R hR
          simp (maxDischargeDepth := 12) only [A_slices_Concat_byte_byte, kn, simprocAttr, qa, qb, qc, qd, Ow.enc, Sl.enc, *]
        · rw [if_neg h4] at h; replace h4 := eq_false h4
          try simp only [kn, simprocAttr, qa, qb, qc, qd] at h4
          cases h
    · rw [if_neg h2] at h; replace h2 := eq_false h2
      cases h
  · rw [if_neg h1] at h; replace h1 := eq_false h1
    cases h; subst hR; simp (maxDischargeDepth := 12) only [A_slices_Concat_byte_byte, kn, simprocAttr, qa, qb, qc, qd, Ow.enc, Sl.enc, *]
theorem all_slices_Concat_byte_byte : ∀ q, St_slices_Concat_byte_byte_l0 q ∧ St_slices_Concat_byte_byte_l1 q ∧ St_slices_Concat_byte_byte_l2 q ∧ St_slices_Concat_byte_byte_l3 q
  | 0 => by refine ⟨?_, ?_, ?_, ?_⟩ <;> (intro M hM j hj; intros; rename_i h _ _ _ _ _; cases h)
  | q + 1 => by have ⟨i0, i1, i2, i3⟩ := all_slices_Concat_byte_byte q; exact ⟨step_slices_Concat_byte_byte_l0 q i0 i1 i2, step_slices_Concat_byte_byte_l1 q i1, step_slices_Concat_byte_byte_l2 q i3, step_slices_Concat_byte_byte_l3 q i3⟩
theorem run_slices_Concat_byte_byte : ∀ (q N : Nat), 8 * q ≤ N → ∀ (a0 : (Sl (Sl Int))), ∀ (r : (Ow Int)), slices_Concat_byte_byte q a0 = some r → (orc T N).deep F.slices_Concat_byte_byte [(Sl.enc (Sl.enc (V.int .u8))) a0] = some [(Ow.enc 1 (V.int .u8)) r] := by
  intro q N hM a0 r h
  rcases q with _ | q
  · cases h
  obtain ⟨M, rfl⟩ : ∃ M, N = M + 8 := ⟨N - 8, by omega⟩
  have ih_slices_Concat_byte_byte_l0 := (all_slices_Concat_byte_byte q).1
  generalize hR : some [(Ow.enc 1 (V.int .u8)) r] = R
  rw [orc_deep, T_slices_Concat_byte_byte, Option.bind_some, runDeep_eq]
  rw [slices_Concat_byte_byte] at h
  replace h := ih_slices_Concat_byte_byte_l0 M (by omega) (M + 7) (by omega) _ _ _ _ _ _ _ _ h R hR
  simp (maxDischargeDepth := 12) only [A_slices_Concat_byte_byte, kn, simprocAttr, qa, qb, qc, qd, Ow.enc, Sl.enc, *]
def A_frame_Encode := And.intro @kk <| And.intro @L_frame_Encode <| And.intro @v_slices_Concat_byte_byte <| And.intro @v_num_Put <| And.intro @v_frame_sum <| And.intro @rr_frame_Encode <| And.intro @ro_frame_Encode <| @b0_frame_Encode
theorem run_frame_Encode : ∀ (q N : Nat), 8 * q ≤ N → ∀ (a0 : (Sl Int)), ∀ (r : (Ow Int) × Int), frame_Encode q a0 = some r → (orc T N).deep F.frame_Encode [(Sl.enc (V.int .u8)) a0] = some [(Ow.enc 1 (V.int .u8)) r.1, (V.int .i64) r.2] := by
  intro q N hM a0 r h
  rcases q with _ | q
  · cases h
  obtain ⟨M, rfl⟩ : ∃ M, N = M + 8 := ⟨N - 8, by omega⟩
  generalize hR : some [(Ow.enc 1 (V.int .u8)) r.1, (V.int .i64) r.2] = R
  rw [orc_deep, T_frame_Encode, Option.bind_some, runDeep_eq]
  rw [frame_Encode] at h
  rcases Classical.em (1048576 < (a0.l.length : Int)) with h1 | h1
  · rw [if_pos h1] at h; replace h1 := eq_true h1
    cases h; subst hR; simp (maxDischargeDepth := 12) only [A_frame_Encode, kn, simprocAttr, qa, qb, qc, qd, Ow.enc, Sl.enc, *]
  · rw [if_neg h1] at h; replace h1 := eq_false h1
    rcases h2 : num_Put q ⟨true, true, []⟩ (a0.l.length : Int) with _ | r1
    · rw [h2] at h; cases h
    · rw [h2, Option.bind_some] at h
      replace h2 := run_num_Put q (M + 7) (by omega) _ _ _ h2
      try simp only [Ow.enc, Sl.enc, kn, simprocAttr, qa, qb, qc, qd] at h2
      rcases h3 : frame_sum q ⟨r1.n, r1.xs⟩ a0 with _ | r2
      · rw [h3] at h; cases h
      · rw [h3, Option.bind_some] at h
        replace h3 := run_frame_sum q (M + 7) (by omega) _ _ _ h3
        try simp only [Ow.enc, Sl.enc, kn, simprocAttr, qa, qb, qc, qd] at h3
        rcases h4 : slices_Concat_byte_byte q ⟨false, [⟨r1.n, r1.xs⟩, a0, ⟨r2.n, r2.xs⟩]⟩ with _ | r3
        · rw [h4] at h; cases h
        · rw [h4, Option.bind_some] at h
          replace h4 := run_slices_Concat_byte_byte q (M + 7) (by omega) _ _ h4
          try simp only [Ow.enc, Sl.enc, kn, simprocAttr, qa, qb, qc, qd] at h4
          cases h; subst hR; simp (maxDischargeDepth := 12) only [A_frame_Encode, kn, simprocAttr, qa, qb, qc, qd, Ow.enc, Sl.enc, *]
def A_segment_framed := And.intro @kk <| And.intro @L_segment_framed <| And.intro @v_frame_Encode <| And.intro @rr_segment_framed <| And.intro @ro_segment_framed <| @b0_segment_framed
theorem run_segment_framed : ∀ (q N : Nat), 8 * q ≤ N → ∀ (a0 : (Sl Int)), ∀ (r : (Ow Int)), segment_framed q a0 = some r → (orc T N).deep F.segment_framed [(Sl.enc (V.int .u8)) a0] = some [(Ow.enc 1 (V.int .u8)) r] := by
  intro q N hM a0 r h
  rcases q with _ | q
  · cases h
  obtain ⟨M, rfl⟩ : ∃ M, N = M + 8 := ⟨N - 8, by omega⟩
  generalize hR : some [(Ow.enc 1 (V.int .u8)) r] = R
  rw [orc_deep, T_segment_framed, Option.bind_some, runDeep_eq]
  rw [segment_framed] at h
  rcases h1 : frame_Encode q a0 with _ | r1
  · rw [h1] at h; cases h
  · rw [h1, Option.bind_some] at h
    replace h1 := run_frame_Encode q (M + 7) (by omega) _ _ h1
    try simp only [Ow.enc, Sl.enc, kn, simprocAttr, qa, qb, qc, qd] at h1
    cases h; subst hR; simp (maxDischargeDepth := 12) only [A_segment_framed, kn, simprocAttr, qa, qb, qc, qd, Ow.enc, Sl.enc, *]
def A_segment_Head := And.intro @kk <| And.intro @L_segment_Head <| And.intro @v_segment_known <| And.intro @v_segment_framed <| And.intro @v_num_Put <| And.intro @rr_segment_Head <| And.intro @ro_segment_Head <| @b0_segment_Head
theorem run_segment_Head : ∀ (q N : Nat), 8 * q ≤ N → ∀ (a0 : Int) (a1 : Int) (a2 : Int), ∀ (r : (Ow Int) × Int), segment_Head q a0 a1 a2 = some r → (orc T N).deep F.segment_Head [(V.int .i64) a0, (V.int .i64) a1, (V.int .i64) a2] = some [(Ow.enc 1 (V.int .u8)) r.1, (V.int .i64) r.2] := by
  intro q N hM a0 a1 a2 r h
  rcases q with _ | q
  · cases h
  obtain ⟨M, rfl⟩ : ∃ M, N = M + 8 := ⟨N - 8, by omega⟩
  generalize hR : some [(Ow.enc 1 (V.int .u8)) r.1, (V.int .i64) r.2] = R
  rw [orc_deep, T_segment_Head, Option.bind_some, runDeep_eq]
  rw [segment_Head] at h
  rcases h1 : segment_known q a0 with _ | r1
  · rw [h1] at h; cases h
  · rw [h1, Option.bind_some] at h
    replace h1 := run_segment_known q (M + 7) (by omega) _ _ h1
    skip
    rcases Classical.em (r1 = true) with h2 | h2
    · rw [if_pos h2] at h; have h2' := bt1 h2; replace h2 := eq_true h2
      rcases Classical.em (a1 < 0) with h3 | h3
      · rw [if_pos h3] at h; replace h3 := eq_true h3
        cases h; subst hR; simp (maxDischargeDepth := 12) only [A_segment_Head, kn, simprocAttr, qa, qb, qc, qd, Ow.enc, Sl.enc, *]
      · rw [if_neg h3] at h; replace h3 := eq_false h3
        rcases Classical.em (6 ≤ a1) with h4 | h4
        · rw [if_pos h4] at h; replace h4 := eq_true h4
          cases h; subst hR; simp (maxDischargeDepth := 12) only [A_segment_Head, kn, simprocAttr, qa, qb, qc, qd, Ow.enc, Sl.enc, *]
        · rw [if_neg h4] at h; replace h4 := eq_false h4
          rcases Classical.em (a2 < 0) with h5 | h5
          · rw [if_pos h5] at h; replace h5 := eq_true h5
            cases h; subst hR; simp (maxDischargeDepth := 12) only [A_segment_Head, kn, simprocAttr, qa, qb, qc, qd, Ow.enc, Sl.enc, *]
          · rw [if_neg h5] at h; replace h5 := eq_false h5
            rcases Classical.em (4611686018427387904 ≤ a2) with h6 | h6
            · rw [if_pos h6] at h; replace h6 := eq_true h6
              cases h; subst hR; simp (maxDischargeDepth := 12) only [A_segment_Head, kn, simprocAttr, qa, qb, qc, qd, Ow.enc, Sl.enc, *]
            · rw [if_neg h6] at h; replace h6 := eq_false h6
              rcases h7 : num_Put q ⟨false, true, [108]⟩ a0 with _ | r2
              · rw [h7] at h; cases h
              · rw [h7, Option.bind_some] at h
                replace h7 := run_num_Put q (M + 7) (by omega) _ _ _ h7
                try simp only [Ow.enc, Sl.enc, kn, simprocAttr, qa, qb, qc, qd] at h7
                rcases h8 : num_Put q r2 a1 with _ | r3
                · rw [h8] at h; cases h
                · rw [h8, Option.bind_some] at h
                  replace h8 := run_num_Put q (M + 7) (by omega) _ _ _ h8
                  try simp only [Ow.enc, Sl.enc, kn, simprocAttr, qa, qb, qc, qd] at h8
                  rcases h9 : num_Put q r3 a2 with _ | r4
                  · rw [h9] at h; cases h
                  · rw [h9, Option.bind_some] at h
                    replace h9 := run_num_Put q (M + 7) (by omega) _ _ _ h9
                    try simp only [Ow.enc, Sl.enc, kn, simprocAttr, qa, qb, qc, qd] at h9
                    rcases h10 : segment_framed q ⟨r4.n, r4.xs⟩ with _ | r5
                    · rw [h10] at h; cases h
                    · rw [h10, Option.bind_some] at h
                      replace h10 := run_segment_framed q (M + 7) (by omega) _ _ h10
                      try simp only [Ow.enc, Sl.enc, kn, simprocAttr, qa, qb, qc, qd] at h10
                      cases h; subst hR; simp (maxDischargeDepth := 12) only [A_segment_Head, kn, simprocAttr, qa, qb, qc, qd, Ow.enc, Sl.enc, *]
    · rw [if_neg h2] at h; have h2' := bt0 h2; replace h2 := eq_false h2
      cases h; subst hR; simp (maxDischargeDepth := 12) only [A_segment_Head, kn, simprocAttr, qa, qb, qc, qd, Ow.enc, Sl.enc, *]
def A_objs_cut := And.intro @kk <| And.intro @L_objs_cut <| And.intro @rr_objs_cut <| And.intro @ro_objs_cut <| @b0_objs_cut
theorem run_objs_cut : ∀ (q N : Nat), 8 * q ≤ N → ∀ (a0 : Int), ∀ (r : Int), objs_cut q a0 = some r → (orc T N).deep F.objs_cut [(V.int .i64) a0] = some [(V.int .i64) r] := by
  intro q N hM a0 r h
  rcases q with _ | q
  · cases h
  obtain ⟨M, rfl⟩ : ∃ M, N = M + 8 := ⟨N - 8, by omega⟩
  generalize hR : some [(V.int .i64) r] = R
  rw [orc_deep, T_objs_cut, Option.bind_some, runDeep_eq]
  rw [objs_cut] at h
  cases h; subst hR; simp (maxDischargeDepth := 12) only [A_objs_cut, kn, simprocAttr, qa, qb, qc, qd, Ow.enc, Sl.enc, *]
def A_objs_Fits := And.intro @kk <| And.intro @L_objs_Fits <| And.intro @v_objs_cut <| And.intro @rr_objs_Fits <| And.intro @ro_objs_Fits <| @b0_objs_Fits
theorem run_objs_Fits : ∀ (q N : Nat), 8 * q ≤ N → ∀ (a0 : S_api_Op), ∀ (r : Bool), objs_Fits q a0 = some r → (orc T N).deep F.objs_Fits [S_api_Op.enc a0] = some [V.bool r] := by
  intro q N hM a0 r h
  rcases q with _ | q
  · cases h
  obtain ⟨M, rfl⟩ : ∃ M, N = M + 8 := ⟨N - 8, by omega⟩
  generalize hR : some [V.bool r] = R
  rw [orc_deep, T_objs_Fits, Option.bind_some, runDeep_eq]
  rw [objs_Fits] at h
  rcases Classical.em (0 ≤ a0.Code) with h1 | h1
  · rw [if_pos h1] at h; replace h1 := eq_true h1
    rcases Classical.em (a0.Code ≤ 10) with h2 | h2
    · rw [if_pos h2] at h; replace h2 := eq_true h2
      rcases h3 : objs_cut q a0.A with _ | r1
      · rw [h3] at h; cases h
      · rw [h3, Option.bind_some] at h
        replace h3 := run_objs_cut q (M + 7) (by omega) _ _ h3
        skip
        rcases Classical.em (a0.A = r1) with h4 | h4
        · rw [if_pos h4] at h; replace h4 := eq_true h4
          rcases h5 : objs_cut q a0.B with _ | r2
          · rw [h5] at h; cases h
          · rw [h5, Option.bind_some] at h
            replace h5 := run_objs_cut q (M + 7) (by omega) _ _ h5
            skip
            cases h; subst hR; simp (maxDischargeDepth := 12) only [A_objs_Fits, kn, simprocAttr, qa, qb, qc, qd, Ow.enc, S_api_Op.enc, Sl.enc, *]
        · rw [if_neg h4] at h; replace h4 := eq_false h4
          cases h; subst hR; simp (maxDischargeDepth := 12) only [A_objs_Fits, kn, simprocAttr, qa, qb, qc, qd, Ow.enc, S_api_Op.enc, Sl.enc, *]
    · rw [if_neg h2] at h; replace h2 := eq_false h2
      cases h; subst hR; simp (maxDischargeDepth := 12) only [A_objs_Fits, kn, simprocAttr, qa, qb, qc, qd, Ow.enc, S_api_Op.enc, Sl.enc, *]
  · rw [if_neg h1] at h; replace h1 := eq_false h1
    cases h; subst hR; simp (maxDischargeDepth := 12) only [A_objs_Fits, kn, simprocAttr, qa, qb, qc, qd, Ow.enc, S_api_Op.enc, Sl.enc, *]
def A_schema_Fits := And.intro @kk <| And.intro @L_schema_Fits <| And.intro @v_objs_Fits <| And.intro @rr_schema_Fits <| And.intro @ro_schema_Fits <| @b0_schema_Fits
theorem run_schema_Fits : ∀ (q N : Nat), 8 * q ≤ N → ∀ (a0 : S_api_Record), ∀ (r : Bool), schema_Fits q a0 = some r → (orc T N).deep F.schema_Fits [S_api_Record.enc a0] = some [V.bool r] := by
  intro q N hM a0 r h
  rcases q with _ | q
  · cases h
  obtain ⟨M, rfl⟩ : ∃ M, N = M + 8 := ⟨N - 8, by omega⟩
  generalize hR : some [V.bool r] = R
  rw [orc_deep, T_schema_Fits, Option.bind_some, runDeep_eq]
  rw [schema_Fits] at h
  rcases Classical.em (0 ≤ a0.Index) with h1 | h1
  · rw [if_pos h1] at h; replace h1 := eq_true h1
    rcases Classical.em (a0.Index < 4611686018427387904) with h2 | h2
    · rw [if_pos h2] at h; replace h2 := eq_true h2
      rcases Classical.em (0 ≤ a0.Proc) with h3 | h3
      · rw [if_pos h3] at h; replace h3 := eq_true h3
        rcases Classical.em (a0.Proc ≤ 64) with h4 | h4
        · rw [if_pos h4] at h; replace h4 := eq_true h4
          rcases Classical.em (0 ≤ a0.Seq) with h5 | h5
          · rw [if_pos h5] at h; replace h5 := eq_true h5
            rcases Classical.em (a0.Seq < 4611686018427387904) with h6 | h6
            · rw [if_pos h6] at h; replace h6 := eq_true h6
              rcases h7 : objs_Fits q a0.Op with _ | r1
              · rw [h7] at h; cases h
              · rw [h7, Option.bind_some] at h
                replace h7 := run_objs_Fits q (M + 7) (by omega) _ _ h7
                try simp only [Ow.enc, S_api_Op.enc, kn, simprocAttr, qa, qb, qc, qd] at h7
                rcases Classical.em (r1 = true) with h8 | h8
                · rw [if_pos h8] at h; have h8' := bt1 h8; replace h8 := eq_true h8
                  rcases Classical.em ((-1125899906842624) ≤ a0.Resp) with h9 | h9
                  · rw [if_pos h9] at h; replace h9 := eq_true h9
                    cases h; subst hR; simp (maxDischargeDepth := 12) only [A_schema_Fits, kn, simprocAttr, qa, qb, qc, qd, Ow.enc, S_api_Op.enc, S_api_Record.enc, Sl.enc, *]
                  · rw [if_neg h9] at h; replace h9 := eq_false h9
                    cases h; subst hR; simp (maxDischargeDepth := 12) only [A_schema_Fits, kn, simprocAttr, qa, qb, qc, qd, Ow.enc, S_api_Op.enc, S_api_Record.enc, Sl.enc, *]
                · rw [if_neg h8] at h; have h8' := bt0 h8; replace h8 := eq_false h8
                  cases h; subst hR; simp (maxDischargeDepth := 12) only [A_schema_Fits, kn, simprocAttr, qa, qb, qc, qd, Ow.enc, S_api_Op.enc, S_api_Record.enc, Sl.enc, *]
            · rw [if_neg h6] at h; replace h6 := eq_false h6
              cases h; subst hR; simp (maxDischargeDepth := 12) only [A_schema_Fits, kn, simprocAttr, qa, qb, qc, qd, Ow.enc, S_api_Op.enc, S_api_Record.enc, Sl.enc, *]
          · rw [if_neg h5] at h; replace h5 := eq_false h5
            cases h; subst hR; simp (maxDischargeDepth := 12) only [A_schema_Fits, kn, simprocAttr, qa, qb, qc, qd, Ow.enc, S_api_Op.enc, S_api_Record.enc, Sl.enc, *]
        · rw [if_neg h4] at h; replace h4 := eq_false h4
          cases h; subst hR; simp (maxDischargeDepth := 12) only [A_schema_Fits, kn, simprocAttr, qa, qb, qc, qd, Ow.enc, S_api_Op.enc, S_api_Record.enc, Sl.enc, *]
      · rw [if_neg h3] at h; replace h3 := eq_false h3
        cases h; subst hR; simp (maxDischargeDepth := 12) only [A_schema_Fits, kn, simprocAttr, qa, qb, qc, qd, Ow.enc, S_api_Op.enc, S_api_Record.enc, Sl.enc, *]
    · rw [if_neg h2] at h; replace h2 := eq_false h2
      cases h; subst hR; simp (maxDischargeDepth := 12) only [A_schema_Fits, kn, simprocAttr, qa, qb, qc, qd, Ow.enc, S_api_Op.enc, S_api_Record.enc, Sl.enc, *]
  · rw [if_neg h1] at h; replace h1 := eq_false h1
    cases h; subst hR; simp (maxDischargeDepth := 12) only [A_schema_Fits, kn, simprocAttr, qa, qb, qc, qd, Ow.enc, S_api_Op.enc, S_api_Record.enc, Sl.enc, *]
def St_segment_fit_l0 (q : Nat) : Prop := ∀ (M : Nat) (hM : 8 * q ≤ M) (j : Nat) (hj : q ≤ j) (v0z : Bool) (v0l : List S_api_Record) (v1 : Int) (v7z : Bool) (v7l : List S_api_Record) (v8 : Int) (v9 : Int) (r : Bool) (_ : segment_fit_l0 q v0z v0l v1 v7z v7l v8 v9 = some r) (R : Option (List V)) (_ : some [V.bool r] = R) (fr : Fr) (H : Hp) (_ : canon 0 [0, 1, 7, 8, 9] fr H = ([(0, (.sl v0z (List.map S_api_Record.enc v0l))), (1, (.int .i64 v1)), (7, (.sl v7z (List.map S_api_Record.enc v7l))), (8, (.int .i64 v8)), (9, (.int .i64 v9))], [])), fin m_segment_fit (unw T (orc T (M + 7)) (M + 7) 0 [.blk 0, .code c_segment_fit_16] (iter 0 [0, 1, 7, 8, 9] (exec T (orc T (M + 7)) (M + 7) 0 c_segment_fit_13) j fr H)) = R
def A_segment_fit := And.intro @kk <| And.intro @L_segment_fit <| And.intro @v_schema_Fits <| And.intro @rr_segment_fit <| And.intro @ro_segment_fit <| @b0_segment_fit
theorem step_segment_fit_l0 (q : Nat) (ih_segment_fit_l0 : St_segment_fit_l0 q) : St_segment_fit_l0 (q + 1) := by
  intro M hM j hj v0z v0l v1 v7z v7l v8 v9 r h R hR fr H hc
  obtain ⟨j, rfl⟩ : ∃ i, j = i + 1 := ⟨j - 1, by omega⟩
  rw [unw_iter, hc]; clear hc
  rw [segment_fit_l0] at h
  rcases Classical.em (v9 < v8) with h1 | h1
  · rw [if_pos h1] at h; replace h1 := eq_true h1
    rcases Classical.em (0 ≤ v9) with h2 | h2
    · rw [if_pos h2] at h; replace h2 := eq_true h2
      rcases h3 : v7l[v9.toNat]? with _ | e1
      · rw [h3] at h; cases h
      · rw [h3, Option.bind_some] at h
        rcases h4 : schema_Fits q e1 with _ | r2
        · rw [h4] at h; cases h
        · rw [h4, Option.bind_some] at h
          replace h4 := run_schema_Fits q (M + 7) (by omega) _ _ h4
          try simp only [Ow.enc, S_api_Op.enc, S_api_Record.enc, kn, simprocAttr, qa, qb, qc, qd] at h4
          rcases Classical.em (r2 = true) with h5 | h5
          · rw [if_pos h5] at h; have h5' := bt1 h5; replace h5 := eq_true h5
            rcases Classical.em (e1.Index = (wrp .i64 (v1 + v9))) with h6 | h6
            · rw [if_pos h6] at h; replace h6 := eq_true h6
              try simp only [kn, simprocAttr, qa, qb, qc, qd] at h6
              replace h := ih_segment_fit_l0 M (by omega) j (by omega) _ _ _ _ _ _ _ _ h R hR
              simp (maxDischargeDepth := 12) only [A_segment_fit, kn, simprocAttr, qa, qb, qc, qd, Ow.enc, S_api_Op.enc, S_api_Record.enc, Sl.enc, *]
            · rw [if_neg h6] at h; replace h6 := eq_false h6
              try simp only [kn, simprocAttr, qa, qb, qc, qd] at h6
              cases h; subst hR; simp (maxDischargeDepth := 12) only [A_segment_fit, kn, simprocAttr, qa, qb, qc, qd, Ow.enc, S_api_Op.enc, S_api_Record.enc, Sl.enc, *]
          · rw [if_neg h5] at h; have h5' := bt0 h5; replace h5 := eq_false h5
            cases h; subst hR; simp (maxDischargeDepth := 12) only [A_segment_fit, kn, simprocAttr, qa, qb, qc, qd, Ow.enc, S_api_Op.enc, S_api_Record.enc, Sl.enc, *]
    · rw [if_neg h2] at h; replace h2 := eq_false h2
      cases h
  · rw [if_neg h1] at h; replace h1 := eq_false h1
    cases h; subst hR; simp (maxDischargeDepth := 12) only [A_segment_fit, kn, simprocAttr, qa, qb, qc, qd, Ow.enc, S_api_Op.enc, S_api_Record.enc, Sl.enc, *]
theorem all_segment_fit : ∀ q, St_segment_fit_l0 q
  | 0 => by intro M hM j hj; intros; rename_i h _ _ _ _ _; cases h
  | q + 1 => by have i0 := all_segment_fit q; exact step_segment_fit_l0 q i0
theorem run_segment_fit : ∀ (q N : Nat), 8 * q ≤ N → ∀ (a0 : (Sl S_api_Record)) (a1 : Int), ∀ (r : Bool), segment_fit q a0 a1 = some r → (orc T N).deep F.segment_fit [(Sl.enc S_api_Record.enc) a0, (V.int .i64) a1] = some [V.bool r] := by
  intro q N hM a0 a1 r h
  rcases q with _ | q
  · cases h
  obtain ⟨M, rfl⟩ : ∃ M, N = M + 8 := ⟨N - 8, by omega⟩
  have ih_segment_fit_l0 := (all_segment_fit q)
  generalize hR : some [V.bool r] = R
  rw [orc_deep, T_segment_fit, Option.bind_some, runDeep_eq]
  rw [segment_fit] at h
  replace h := ih_segment_fit_l0 M (by omega) (M + 7) (by omega) _ _ _ _ _ _ _ _ h R hR
  simp (maxDischargeDepth := 12) only [A_segment_fit, kn, simprocAttr, qa, qb, qc, qd, Ow.enc, S_api_Op.enc, S_api_Record.enc, Sl.enc, *]
def St_block_Fits_l0 (q : Nat) : Prop := ∀ (M : Nat) (hM : 8 * q ≤ M) (j : Nat) (hj : q ≤ j) (v0z : Bool) (v0l : List S_api_Record) (v5z : Bool) (v5l : List S_api_Record) (v6 : Int) (v7 : Int) (r : Bool) (_ : block_Fits_l0 q v0z v0l v5z v5l v6 v7 = some r) (R : Option (List V)) (_ : some [V.bool r] = R) (fr : Fr) (H : Hp) (_ : canon 0 [0, 5, 6, 7] fr H = ([(0, (.sl v0z (List.map S_api_Record.enc v0l))), (5, (.sl v5z (List.map S_api_Record.enc v5l))), (6, (.int .i64 v6)), (7, (.int .i64 v7))], [])), fin m_block_Fits (unw T (orc T (M + 7)) (M + 7) 0 [.blk 0, .code c_block_Fits_16] (iter 0 [0, 5, 6, 7] (exec T (orc T (M + 7)) (M + 7) 0 c_block_Fits_13) j fr H)) = R
def A_block_Fits := And.intro @kk <| And.intro @L_block_Fits <| And.intro @v_schema_Fits <| And.intro @rr_block_Fits <| And.intro @ro_block_Fits <| @b0_block_Fits
theorem step_block_Fits_l0 (q : Nat) (ih_block_Fits_l0 : St_block_Fits_l0 q) : St_block_Fits_l0 (q + 1) := by
  intro M hM j hj v0z v0l v5z v5l v6 v7 r h R hR fr H hc
  obtain ⟨j, rfl⟩ : ∃ i, j = i + 1 := ⟨j - 1, by omega⟩
  rw [unw_iter, hc]; clear hc
  rw [block_Fits_l0] at h
  rcases Classical.em (v7 < v6) with h1 | h1
  · rw [if_pos h1] at h; replace h1 := eq_true h1
    rcases Classical.em (0 ≤ v7) with h2 | h2
    · rw [if_pos h2] at h; replace h2 := eq_true h2
      rcases h3 : v5l[v7.toNat]? with _ | e1
      · rw [h3] at h; cases h
      · rw [h3, Option.bind_some] at h
        rcases h4 : schema_Fits q e1 with _ | r2
        · rw [h4] at h; cases h
        · rw [h4, Option.bind_some] at h
          replace h4 := run_schema_Fits q (M + 7) (by omega) _ _ h4
          try simp only [Ow.enc, S_api_Op.enc, S_api_Record.enc, kn, simprocAttr, qa, qb, qc, qd] at h4
          rcases Classical.em (r2 = true) with h5 | h5
          · rw [if_pos h5] at h; have h5' := bt1 h5; replace h5 := eq_true h5
            rcases h6 : v0l[0]? with _ | e3
            · rw [h6] at h; cases h
            · rw [h6, Option.bind_some] at h
              rcases Classical.em (e1.Index = (wrp .i64 (e3.Index + v7))) with h7 | h7
              · rw [if_pos h7] at h; replace h7 := eq_true h7
                try simp only [kn, simprocAttr, qa, qb, qc, qd] at h7
                replace h := ih_block_Fits_l0 M (by omega) j (by omega) _ _ _ _ _ _ _ h R hR
                simp (maxDischargeDepth := 12) only [A_block_Fits, kn, simprocAttr, qa, qb, qc, qd, Ow.enc, S_api_Op.enc, S_api_Record.enc, Sl.enc, *]
              · rw [if_neg h7] at h; replace h7 := eq_false h7
                try simp only [kn, simprocAttr, qa, qb, qc, qd] at h7
                cases h; subst hR; simp (maxDischargeDepth := 12) only [A_block_Fits, kn, simprocAttr, qa, qb, qc, qd, Ow.enc, S_api_Op.enc, S_api_Record.enc, Sl.enc, *]
          · rw [if_neg h5] at h; have h5' := bt0 h5; replace h5 := eq_false h5
            cases h; subst hR; simp (maxDischargeDepth := 12) only [A_block_Fits, kn, simprocAttr, qa, qb, qc, qd, Ow.enc, S_api_Op.enc, S_api_Record.enc, Sl.enc, *]
    · rw [if_neg h2] at h; replace h2 := eq_false h2
      cases h
  · rw [if_neg h1] at h; replace h1 := eq_false h1
    rcases Classical.em (0 < (v0l.length : Int)) with h8 | h8
    · rw [if_pos h8] at h; replace h8 := eq_true h8
      cases h; subst hR; simp (maxDischargeDepth := 12) only [A_block_Fits, kn, simprocAttr, qa, qb, qc, qd, Ow.enc, S_api_Op.enc, S_api_Record.enc, Sl.enc, *]
    · rw [if_neg h8] at h; replace h8 := eq_false h8
      cases h; subst hR; simp (maxDischargeDepth := 12) only [A_block_Fits, kn, simprocAttr, qa, qb, qc, qd, Ow.enc, S_api_Op.enc, S_api_Record.enc, Sl.enc, *]
theorem all_block_Fits : ∀ q, St_block_Fits_l0 q
  | 0 => by intro M hM j hj; intros; rename_i h _ _ _ _ _; cases h
  | q + 1 => by have i0 := all_block_Fits q; exact step_block_Fits_l0 q i0
theorem run_block_Fits : ∀ (q N : Nat), 8 * q ≤ N → ∀ (a0 : (Sl S_api_Record)), ∀ (r : Bool), block_Fits q a0 = some r → (orc T N).deep F.block_Fits [(Sl.enc S_api_Record.enc) a0] = some [V.bool r] := by
  intro q N hM a0 r h
  rcases q with _ | q
  · cases h
  obtain ⟨M, rfl⟩ : ∃ M, N = M + 8 := ⟨N - 8, by omega⟩
  have ih_block_Fits_l0 := (all_block_Fits q)
  generalize hR : some [V.bool r] = R
  rw [orc_deep, T_block_Fits, Option.bind_some, runDeep_eq]
  rw [block_Fits] at h
  replace h := ih_block_Fits_l0 M (by omega) (M + 7) (by omega) _ _ _ _ _ _ _ h R hR
  simp (maxDischargeDepth := 12) only [A_block_Fits, kn, simprocAttr, qa, qb, qc, qd, Ow.enc, S_api_Op.enc, S_api_Record.enc, Sl.enc, *]
def A_num_Zig := And.intro @kk <| And.intro @L_num_Zig <| And.intro @rr_num_Zig <| And.intro @ro_num_Zig <| @b0_num_Zig
theorem run_num_Zig : ∀ (q N : Nat), 8 * q ≤ N → ∀ (a0 : Int), ∀ (r : Int), num_Zig q a0 = some r → (orc T N).deep F.num_Zig [(V.int .i64) a0] = some [(V.int .u64) r] := by
  intro q N hM a0 r h
  rcases q with _ | q
  · cases h
  obtain ⟨M, rfl⟩ : ∃ M, N = M + 8 := ⟨N - 8, by omega⟩
  generalize hR : some [(V.int .u64) r] = R
  rw [orc_deep, T_num_Zig, Option.bind_some, runDeep_eq]
  rw [num_Zig] at h
  cases h; subst hR; simp (maxDischargeDepth := 12) only [A_num_Zig, kn, simprocAttr, qa, qb, qc, qd, Ow.enc, Sl.enc, *]
def A_num_PutSigned := And.intro @kk <| And.intro @L_num_PutSigned <| And.intro @v_num_groups <| And.intro @v_num_Zig <| And.intro @rr_num_PutSigned <| And.intro @ro_num_PutSigned <| @b0_num_PutSigned
theorem run_num_PutSigned : ∀ (q N : Nat), 8 * q ≤ N → ∀ (a0 : (Ow Int)) (a1 : Int), ∀ (r : (Ow Int)), num_PutSigned q a0 a1 = some r → (orc T N).deep F.num_PutSigned [(Ow.enc 1 (V.int .u8)) a0, (V.int .i64) a1] = some [(Ow.enc 1 (V.int .u8)) r] := by
  intro q N hM a0 a1 r h
  rcases q with _ | q
  · cases h
  obtain ⟨M, rfl⟩ : ∃ M, N = M + 8 := ⟨N - 8, by omega⟩
  generalize hR : some [(Ow.enc 1 (V.int .u8)) r] = R
  rw [orc_deep, T_num_PutSigned, Option.bind_some, runDeep_eq]
  rw [num_PutSigned] at h
  rcases h1 : num_Zig q a1 with _ | r1
  · rw [h1] at h; cases h
  · rw [h1, Option.bind_some] at h
    replace h1 := run_num_Zig q (M + 7) (by omega) _ _ h1
    skip
    rcases h2 : num_groups q a0 r1 with _ | r2
    · rw [h2] at h; cases h
    · rw [h2, Option.bind_some] at h
      replace h2 := run_num_groups q (M + 7) (by omega) _ _ _ h2
      try simp only [Ow.enc, Sl.enc, kn, simprocAttr, qa, qb, qc, qd] at h2
      cases h; subst hR; simp (maxDischargeDepth := 12) only [A_num_PutSigned, kn, simprocAttr, qa, qb, qc, qd, Ow.enc, Sl.enc, *]
def A_codec_PutOp := And.intro @kk <| And.intro @L_codec_PutOp <| And.intro @v_num_Put <| And.intro @v_objs_Fits <| And.intro @v_num_PutSigned <| And.intro @rr_codec_PutOp <| And.intro @ro_codec_PutOp <| @b0_codec_PutOp
theorem run_codec_PutOp : ∀ (q N : Nat), 8 * q ≤ N → ∀ (a0 : (Ow Int)) (a1 : S_api_Op), ∀ (r : (Ow Int) × Int), codec_PutOp q a0 a1 = some r → (orc T N).deep F.codec_PutOp [(Ow.enc 1 (V.int .u8)) a0, S_api_Op.enc a1] = some [(Ow.enc 1 (V.int .u8)) r.1, (V.int .i64) r.2] := by
  intro q N hM a0 a1 r h
  rcases q with _ | q
  · cases h
  obtain ⟨M, rfl⟩ : ∃ M, N = M + 8 := ⟨N - 8, by omega⟩
  generalize hR : some [(Ow.enc 1 (V.int .u8)) r.1, (V.int .i64) r.2] = R
  rw [orc_deep, T_codec_PutOp, Option.bind_some, runDeep_eq]
  rw [codec_PutOp] at h
  rcases h1 : objs_Fits q a1 with _ | r1
  · rw [h1] at h; cases h
  · rw [h1, Option.bind_some] at h
    replace h1 := run_objs_Fits q (M + 7) (by omega) _ _ h1
    try simp only [Ow.enc, S_api_Op.enc, kn, simprocAttr, qa, qb, qc, qd] at h1
    rcases Classical.em (r1 = true) with h2 | h2
    · rw [if_pos h2] at h; have h2' := bt1 h2; replace h2 := eq_true h2
      rcases h3 : num_Put q a0 a1.Code with _ | r2
      · rw [h3] at h; cases h
      · rw [h3, Option.bind_some] at h
        replace h3 := run_num_Put q (M + 7) (by omega) _ _ _ h3
        try simp only [Ow.enc, Sl.enc, kn, simprocAttr, qa, qb, qc, qd] at h3
        rcases h4 : num_PutSigned q r2 a1.A with _ | r3
        · rw [h4] at h; cases h
        · rw [h4, Option.bind_some] at h
          replace h4 := run_num_PutSigned q (M + 7) (by omega) _ _ _ h4
          try simp only [Ow.enc, Sl.enc, kn, simprocAttr, qa, qb, qc, qd] at h4
          rcases h5 : num_PutSigned q r3 a1.B with _ | r4
          · rw [h5] at h; cases h
          · rw [h5, Option.bind_some] at h
            replace h5 := run_num_PutSigned q (M + 7) (by omega) _ _ _ h5
            try simp only [Ow.enc, Sl.enc, kn, simprocAttr, qa, qb, qc, qd] at h5
            cases h; subst hR; simp (maxDischargeDepth := 12) only [A_codec_PutOp, kn, simprocAttr, qa, qb, qc, qd, Ow.enc, S_api_Op.enc, Sl.enc, *]
    · rw [if_neg h2] at h; have h2' := bt0 h2; replace h2 := eq_false h2
      cases h; subst hR; simp (maxDischargeDepth := 12) only [A_codec_PutOp, kn, simprocAttr, qa, qb, qc, qd, Ow.enc, S_api_Op.enc, Sl.enc, *]
def St_block_Encode_l0 (q : Nat) : Prop := ∀ (M : Nat) (hM : 8 * q ≤ M) (j : Nat) (hj : q ≤ j) (v20z : Bool) (v20l : List S_api_Record) (v21 : Int) (v22 : Int) (h0m : List (Int × Int)) (h1z : Bool) (h1l : List Int) (h1x : Bool) (r : (Ow Int) × Int) (_ : block_Encode_l0 q v20z v20l v21 v22 h0m h1z h1l h1x = some r) (R : Option (List V)) (_ : some [(Ow.enc 1 (V.int .u8)) r.1, (V.int .i64) r.2] = R) (fr : Fr) (H : Hp) (_ : canon 0 [4, 5, 20, 21, 22] fr H = ([(4, (.mp 0)), (5, (.vw 1 0 0 h1l.length 1)), (20, (.sl v20z (List.map S_api_Record.enc v20l))), (21, (.int .i64 v21)), (22, (.int .i64 v22))], [(.map h0m), (.row 0 h1z 1 (List.map (V.int .u8) h1l) h1x)])), fin m_block_Encode (unw T (orc T (M + 7)) (M + 7) 0 [.blk 0, .code c_block_Encode_25] (iter 0 [4, 5, 20, 21, 22] (exec T (orc T (M + 7)) (M + 7) 0 c_block_Encode_22) j fr H)) = R
def A_block_Encode := And.intro @kk <| And.intro @L_block_Encode <| And.intro @v_num_Put <| And.intro @v_block_Fits <| And.intro @v_num_PutSigned <| And.intro @v_codec_PutOp <| And.intro @rr_block_Encode <| And.intro @ro_block_Encode <| @b0_block_Encode
theorem step_block_Encode_l0 (q : Nat) (ih_block_Encode_l0 : St_block_Encode_l0 q) : St_block_Encode_l0 (q + 1) := by
  intro M hM j hj v20z v20l v21 v22 h0m h1z h1l h1x r h R hR fr H hc
  obtain ⟨j, rfl⟩ : ∃ i, j = i + 1 := ⟨j - 1, by omega⟩
  rw [unw_iter, hc]; clear hc
  rw [block_Encode_l0] at h
  rcases Classical.em (v22 < v21) with h1 | h1
  · rw [if_pos h1] at h; replace h1 := eq_true h1
    rcases Classical.em (0 ≤ v22) with h2 | h2
    · rw [if_pos h2] at h; replace h2 := eq_true h2
      rcases h3 : v20l[v22.toNat]? with _ | e5
      · rw [h3] at h; cases h
      · rw [h3, Option.bind_some] at h
        rcases h4 : num_Put q ⟨h1z, h1x, h1l⟩ e5.Proc with _ | r6
        · rw [h4] at h; cases h
        · rw [h4, Option.bind_some] at h
          replace h4 := run_num_Put q (M + 7) (by omega) _ _ _ h4
          try simp only [Ow.enc, Sl.enc, kn, simprocAttr, qa, qb, qc, qd] at h4
          rcases h5 : num_PutSigned q r6 (wrp .i64 (e5.Seq - (mget h0m e5.Proc))) with _ | r7
          · rw [h5] at h; cases h
          · rw [h5, Option.bind_some] at h
            replace h5 := run_num_PutSigned q (M + 7) (by omega) _ _ _ h5
            try simp only [Ow.enc, Sl.enc, kn, simprocAttr, qa, qb, qc, qd] at h5
            rcases h6 : codec_PutOp q r7 e5.Op with _ | r8
            · rw [h6] at h; cases h
            · rw [h6, Option.bind_some] at h
              replace h6 := run_codec_PutOp q (M + 7) (by omega) _ _ _ h6
              try simp only [Ow.enc, S_api_Op.enc, Sl.enc, kn, simprocAttr, qa, qb, qc, qd] at h6
              rcases h7 : num_PutSigned q r8.1 e5.Resp with _ | r9
              · rw [h7] at h; cases h
              · rw [h7, Option.bind_some] at h
                replace h7 := run_num_PutSigned q (M + 7) (by omega) _ _ _ h7
                try simp only [Ow.enc, Sl.enc, kn, simprocAttr, qa, qb, qc, qd] at h7
                replace h := ih_block_Encode_l0 M (by omega) j (by omega) _ _ _ _ _ _ _ _ _ h R hR
                simp (maxDischargeDepth := 12) only [A_block_Encode, kn, simprocAttr, qa, qb, qc, qd, Ow.enc, S_api_Op.enc, S_api_Record.enc, Sl.enc, *]
    · rw [if_neg h2] at h; replace h2 := eq_false h2
      cases h
  · rw [if_neg h1] at h; replace h1 := eq_false h1
    cases h; subst hR; simp (maxDischargeDepth := 12) only [A_block_Encode, kn, simprocAttr, qa, qb, qc, qd, Ow.enc, S_api_Op.enc, S_api_Record.enc, Sl.enc, *]
theorem all_block_Encode : ∀ q, St_block_Encode_l0 q
  | 0 => by intro M hM j hj; intros; rename_i h _ _ _ _ _; cases h
  | q + 1 => by have i0 := all_block_Encode q; exact step_block_Encode_l0 q i0
theorem run_block_Encode : ∀ (q N : Nat), 8 * q ≤ N → ∀ (a0 : (Sl S_api_Record)), ∀ (r : (Ow Int) × Int), block_Encode q a0 = some r → (orc T N).deep F.block_Encode [(Sl.enc S_api_Record.enc) a0] = some [(Ow.enc 1 (V.int .u8)) r.1, (V.int .i64) r.2] := by
  intro q N hM a0 r h
  rcases q with _ | q
  · cases h
  obtain ⟨M, rfl⟩ : ∃ M, N = M + 8 := ⟨N - 8, by omega⟩
  have ih_block_Encode_l0 := (all_block_Encode q)
  generalize hR : some [(Ow.enc 1 (V.int .u8)) r.1, (V.int .i64) r.2] = R
  rw [orc_deep, T_block_Encode, Option.bind_some, runDeep_eq]
  rw [block_Encode] at h
  rcases h1 : block_Fits q a0 with _ | r1
  · rw [h1] at h; cases h
  · rw [h1, Option.bind_some] at h
    replace h1 := run_block_Fits q (M + 7) (by omega) _ _ h1
    try simp only [Ow.enc, S_api_Op.enc, S_api_Record.enc, Sl.enc, kn, simprocAttr, qa, qb, qc, qd] at h1
    rcases Classical.em (r1 = true) with h2 | h2
    · rw [if_pos h2] at h; have h2' := bt1 h2; replace h2 := eq_true h2
      rcases h3 : a0.l[0]? with _ | e2
      · rw [h3] at h; cases h
      · rw [h3, Option.bind_some] at h
        rcases h4 : num_Put q ⟨true, true, []⟩ e2.Index with _ | r3
        · rw [h4] at h; cases h
        · rw [h4, Option.bind_some] at h
          replace h4 := run_num_Put q (M + 7) (by omega) _ _ _ h4
          try simp only [Ow.enc, Sl.enc, kn, simprocAttr, qa, qb, qc, qd] at h4
          rcases h5 : num_Put q r3 (a0.l.length : Int) with _ | r4
          · rw [h5] at h; cases h
          · rw [h5, Option.bind_some] at h
            replace h5 := run_num_Put q (M + 7) (by omega) _ _ _ h5
            try simp only [Ow.enc, Sl.enc, kn, simprocAttr, qa, qb, qc, qd] at h5
            replace h := ih_block_Encode_l0 M (by omega) (M + 7) (by omega) _ _ _ _ _ _ _ _ _ h R hR
            simp (maxDischargeDepth := 12) only [A_block_Encode, kn, simprocAttr, qa, qb, qc, qd, Ow.enc, S_api_Op.enc, S_api_Record.enc, Sl.enc, *]
    · rw [if_neg h2] at h; have h2' := bt0 h2; replace h2 := eq_false h2
      cases h; subst hR; simp (maxDischargeDepth := 12) only [A_block_Encode, kn, simprocAttr, qa, qb, qc, qd, Ow.enc, S_api_Op.enc, S_api_Record.enc, Sl.enc, *]
def A_schema_fields := And.intro @kk <| And.intro @L_schema_fields <| And.intro @rr_schema_fields <| And.intro @ro_schema_fields <| @b0_schema_fields
theorem run_schema_fields : ∀ (q N : Nat), 8 * q ≤ N → ∀ (a0 : Int), ∀ (r : (Ow Int)), schema_fields q a0 = some r → (orc T N).deep F.schema_fields [(V.int .i64) a0] = some [(Ow.enc 1 (V.int .i64)) r] := by
  intro q N hM a0 r h
  rcases q with _ | q
  · cases h
  obtain ⟨M, rfl⟩ : ∃ M, N = M + 8 := ⟨N - 8, by omega⟩
  generalize hR : some [(Ow.enc 1 (V.int .i64)) r] = R
  rw [orc_deep, T_schema_fields, Option.bind_some, runDeep_eq]
  rw [schema_fields] at h
  rcases Classical.em (a0 < 1) with h1 | h1
  · rw [if_pos h1] at h; replace h1 := eq_true h1
    cases h; subst hR; simp (maxDischargeDepth := 12) only [A_schema_fields, kn, simprocAttr, qa, qb, qc, qd, Ow.enc, Sl.enc, *]
  · rw [if_neg h1] at h; replace h1 := eq_false h1
    rcases Classical.em (4 ≤ a0) with h2 | h2
    · rw [if_pos h2] at h; replace h2 := eq_true h2
      cases h; subst hR; simp (maxDischargeDepth := 12) only [A_schema_fields, kn, simprocAttr, qa, qb, qc, qd, Ow.enc, Sl.enc, *]
    · rw [if_neg h2] at h; replace h2 := eq_false h2
      rcases Classical.em (0 ≤ a0) with h3 | h3
      · rw [if_pos h3] at h; replace h3 := eq_true h3
        rcases Classical.em (a0.toNat < 4) with h4 | h4
        · rw [if_pos h4] at h; replace h4 := eq_true h4
          rcases Classical.em (a0.toNat = 0) with h5 | h5
          · rw [if_pos h5] at h
            cases h; subst hR; simp (maxDischargeDepth := 12) only [A_schema_fields, kn, simprocAttr, qa, qb, qc, qd, Ow.enc, Sl.enc, *]
          · rw [if_neg h5] at h; replace h5 := eq_false h5
            rcases Classical.em (a0.toNat = 1) with h6 | h6
            · rw [if_pos h6] at h
              cases h; subst hR; simp (maxDischargeDepth := 12) only [A_schema_fields, kn, simprocAttr, qa, qb, qc, qd, Ow.enc, Sl.enc, *]
            · rw [if_neg h6] at h; replace h6 := eq_false h6
              rcases Classical.em (a0.toNat = 2) with h7 | h7
              · rw [if_pos h7] at h
                cases h; subst hR; simp (maxDischargeDepth := 12) only [A_schema_fields, kn, simprocAttr, qa, qb, qc, qd, Ow.enc, Sl.enc, *]
              · rw [if_neg h7] at h; replace h7 := eq_false h7
                rcases Classical.em (a0.toNat = 3) with h8 | h8
                · rw [if_pos h8] at h
                  cases h; subst hR; simp (maxDischargeDepth := 12) only [A_schema_fields, kn, simprocAttr, qa, qb, qc, qd, Ow.enc, Sl.enc, *]
                · rw [if_neg h8] at h; replace h8 := eq_false h8
                  cases h
        · rw [if_neg h4] at h; replace h4 := eq_false h4
          cases h
      · rw [if_neg h3] at h; replace h3 := eq_false h3
        cases h
def A_schema_put := And.intro @kk <| And.intro @L_schema_put <| And.intro @v_num_Put <| And.intro @v_num_PutSigned <| And.intro @v_codec_PutOp <| And.intro @rr_schema_put <| And.intro @ro_schema_put <| @b0_schema_put
theorem run_schema_put : ∀ (q N : Nat), 8 * q ≤ N → ∀ (a0 : (Ow Int)) (a1 : Int) (a2 : S_api_Record), ∀ (r : (Ow Int)), schema_put q a0 a1 a2 = some r → (orc T N).deep F.schema_put [(Ow.enc 1 (V.int .u8)) a0, (V.int .i64) a1, S_api_Record.enc a2] = some [(Ow.enc 1 (V.int .u8)) r] := by
  intro q N hM a0 a1 a2 r h
  rcases q with _ | q
  · cases h
  obtain ⟨M, rfl⟩ : ∃ M, N = M + 8 := ⟨N - 8, by omega⟩
  generalize hR : some [(Ow.enc 1 (V.int .u8)) r] = R
  rw [orc_deep, T_schema_put, Option.bind_some, runDeep_eq]
  rw [schema_put] at h
  rcases h1 : num_Put q a0 a1 with _ | r1
  · rw [h1] at h; cases h
  · rw [h1, Option.bind_some] at h
    replace h1 := run_num_Put q (M + 7) (by omega) _ _ _ h1
    try simp only [Ow.enc, Sl.enc, kn, simprocAttr, qa, qb, qc, qd] at h1
    rcases Classical.em (a1 = 1) with h2 | h2
    · rw [if_pos h2] at h; replace h2 := eq_true h2
      rcases h3 : num_Put q r1 a2.Index with _ | r2
      · rw [h3] at h; cases h
      · rw [h3, Option.bind_some] at h
        replace h3 := run_num_Put q (M + 7) (by omega) _ _ _ h3
        try simp only [Ow.enc, Sl.enc, kn, simprocAttr, qa, qb, qc, qd] at h3
        cases h; subst hR; simp (maxDischargeDepth := 12) only [A_schema_put, kn, simprocAttr, qa, qb, qc, qd, Ow.enc, S_api_Op.enc, S_api_Record.enc, Sl.enc, *]
    · rw [if_neg h2] at h; replace h2 := eq_false h2
      rcases Classical.em (a1 = 2) with h4 | h4
      · rw [if_pos h4] at h; replace h4 := eq_true h4
        rcases h5 : num_Put q r1 a2.Proc with _ | r3
        · rw [h5] at h; cases h
        · rw [h5, Option.bind_some] at h
          replace h5 := run_num_Put q (M + 7) (by omega) _ _ _ h5
          try simp only [Ow.enc, Sl.enc, kn, simprocAttr, qa, qb, qc, qd] at h5
          cases h; subst hR; simp (maxDischargeDepth := 12) only [A_schema_put, kn, simprocAttr, qa, qb, qc, qd, Ow.enc, S_api_Op.enc, S_api_Record.enc, Sl.enc, *]
      · rw [if_neg h4] at h; replace h4 := eq_false h4
        rcases Classical.em (a1 = 3) with h6 | h6
        · rw [if_pos h6] at h; replace h6 := eq_true h6
          rcases h7 : num_Put q r1 a2.Seq with _ | r4
          · rw [h7] at h; cases h
          · rw [h7, Option.bind_some] at h
            replace h7 := run_num_Put q (M + 7) (by omega) _ _ _ h7
            try simp only [Ow.enc, Sl.enc, kn, simprocAttr, qa, qb, qc, qd] at h7
            cases h; subst hR; simp (maxDischargeDepth := 12) only [A_schema_put, kn, simprocAttr, qa, qb, qc, qd, Ow.enc, S_api_Op.enc, S_api_Record.enc, Sl.enc, *]
        · rw [if_neg h6] at h; replace h6 := eq_false h6
          rcases Classical.em (a1 = 4) with h8 | h8
          · rw [if_pos h8] at h; replace h8 := eq_true h8
            rcases h9 : codec_PutOp q r1 a2.Op with _ | r5
            · rw [h9] at h; cases h
            · rw [h9, Option.bind_some] at h
              replace h9 := run_codec_PutOp q (M + 7) (by omega) _ _ _ h9
              try simp only [Ow.enc, S_api_Op.enc, Sl.enc, kn, simprocAttr, qa, qb, qc, qd] at h9
              cases h; subst hR; simp (maxDischargeDepth := 12) only [A_schema_put, kn, simprocAttr, qa, qb, qc, qd, Ow.enc, S_api_Op.enc, S_api_Record.enc, Sl.enc, *]
          · rw [if_neg h8] at h; replace h8 := eq_false h8
            rcases h10 : num_PutSigned q r1 a2.Resp with _ | r6
            · rw [h10] at h; cases h
            · rw [h10, Option.bind_some] at h
              replace h10 := run_num_PutSigned q (M + 7) (by omega) _ _ _ h10
              try simp only [Ow.enc, Sl.enc, kn, simprocAttr, qa, qb, qc, qd] at h10
              cases h; subst hR; simp (maxDischargeDepth := 12) only [A_schema_put, kn, simprocAttr, qa, qb, qc, qd, Ow.enc, S_api_Op.enc, S_api_Record.enc, Sl.enc, *]
def St_schema_Encode_l0 (q : Nat) : Prop := ∀ (M : Nat) (hM : 8 * q ≤ M) (j : Nat) (hj : q ≤ j) (v22 : Int) (v23 : Int) (h0_0 : Int) (h0_1 : Int) (h0_2 : Int) (h0_3 : Int) (h0_4 : Int) (h0_5 : Int) (h0_6 : Int) (h1z : Bool) (h1l : List Int) (h1x : Bool) (h2z : Bool) (h2l : List Int) (h2x : Bool) (r : (Ow Int) × Int) (_ : schema_Encode_l0 q v22 v23 h0_0 h0_1 h0_2 h0_3 h0_4 h0_5 h0_6 h1z h1l h1x h2z h2l h2x = some r) (R : Option (List V)) (_ : some [(Ow.enc 1 (V.int .u8)) r.1, (V.int .i64) r.2] = R) (fr : Fr) (H : Hp) (_ : canon 0 [3, 7, 21, 22, 23] fr H = ([(3, (.ptr 0 0)), (7, (.vw 1 0 0 h1l.length 1)), (21, (.vw 2 0 0 h2l.length 1)), (22, (.int .i64 v22)), (23, (.int .i64 v23))], [(.box [(.int .i64 h0_0), (.int .i64 h0_1), (.int .i64 h0_2), (.int .i64 h0_3), (.int .i64 h0_4), (.int .i64 h0_5), (.int .i64 h0_6)]), (.row 0 h1z 1 (List.map (V.int .u8) h1l) h1x), (.row 0 h2z 1 (List.map (V.int .i64) h2l) h2x)])), fin m_schema_Encode (unw T (orc T (M + 7)) (M + 7) 0 [.blk 1, .code c_schema_Encode_22] (iter 0 [3, 7, 21, 22, 23] (exec T (orc T (M + 7)) (M + 7) 0 c_schema_Encode_19) j fr H)) = R
def A_schema_Encode := And.intro @kk <| And.intro @L_schema_Encode <| And.intro @v_num_Put <| And.intro @v_schema_Fits <| And.intro @v_schema_fields <| And.intro @v_schema_put <| And.intro @rr_schema_Encode <| And.intro @ro_schema_Encode <| @b0_schema_Encode
theorem step_schema_Encode_l0 (q : Nat) (ih_schema_Encode_l0 : St_schema_Encode_l0 q) : St_schema_Encode_l0 (q + 1) := by
  intro M hM j hj v22 v23 h0_0 h0_1 h0_2 h0_3 h0_4 h0_5 h0_6 h1z h1l h1x h2z h2l h2x r h R hR fr H hc
  obtain ⟨j, rfl⟩ : ∃ i, j = i + 1 := ⟨j - 1, by omega⟩
  rw [unw_iter, hc]; clear hc
  rw [schema_Encode_l0] at h
  rcases Classical.em (v23 < v22) with h1 | h1
  · rw [if_pos h1] at h; replace h1 := eq_true h1
    rcases Classical.em (0 ≤ v23) with h2 | h2
    · rw [if_pos h2] at h; replace h2 := eq_true h2
      rcases Classical.em (v23.toNat < h2l.length) with h3 | h3
      · rw [if_pos h3] at h; replace h3 := eq_true h3
        rcases h4 : h2l[v23.toNat]? with _ | e4
        · rw [h4] at h; cases h
        · rw [h4, Option.bind_some] at h
          rcases h5 : schema_put q ⟨h1z, h1x, h1l⟩ e4 (⟨h0_0, h0_1, h0_2, (⟨h0_3, h0_4, h0_5⟩ : S_api_Op), h0_6⟩ : S_api_Record) with _ | r5
          · rw [h5] at h; cases h
          · rw [h5, Option.bind_some] at h
            replace h5 := run_schema_put q (M + 7) (by omega) _ _ _ _ h5
            try simp only [Ow.enc, S_api_Op.enc, S_api_Record.enc, Sl.enc, kn, simprocAttr, qa, qb, qc, qd] at h5
            replace h := ih_schema_Encode_l0 M (by omega) j (by omega) _ _ _ _ _ _ _ _ _ _ _ _ _ _ _ _ h R hR
            simp (maxDischargeDepth := 12) only [A_schema_Encode, kn, simprocAttr, qa, qb, qc, qd, Ow.enc, S_api_Op.enc, S_api_Record.enc, Sl.enc, *]
      · rw [if_neg h3] at h; replace h3 := eq_false h3
        cases h
    · rw [if_neg h2] at h; replace h2 := eq_false h2
      cases h
  · rw [if_neg h1] at h; replace h1 := eq_false h1
    cases h; subst hR; simp (maxDischargeDepth := 12) only [A_schema_Encode, kn, simprocAttr, qa, qb, qc, qd, Ow.enc, S_api_Op.enc, S_api_Record.enc, Sl.enc, *]
theorem all_schema_Encode : ∀ q, St_schema_Encode_l0 q
  | 0 => by intro M hM j hj; intros; rename_i h _ _ _ _ _; cases h
  | q + 1 => by have i0 := all_schema_Encode q; exact step_schema_Encode_l0 q i0
theorem run_schema_Encode : ∀ (q N : Nat), 8 * q ≤ N → ∀ (a0 : Int) (a1 : S_api_Record), ∀ (r : (Ow Int) × Int), schema_Encode q a0 a1 = some r → (orc T N).deep F.schema_Encode [(V.int .i64) a0, S_api_Record.enc a1] = some [(Ow.enc 1 (V.int .u8)) r.1, (V.int .i64) r.2] := by
  intro q N hM a0 a1 r h
  rcases q with _ | q
  · cases h
  obtain ⟨M, rfl⟩ : ∃ M, N = M + 8 := ⟨N - 8, by omega⟩
  have ih_schema_Encode_l0 := (all_schema_Encode q)
  generalize hR : some [(Ow.enc 1 (V.int .u8)) r.1, (V.int .i64) r.2] = R
  rw [orc_deep, T_schema_Encode, Option.bind_some, runDeep_eq]
  rw [schema_Encode] at h
  rcases h1 : schema_fields q a0 with _ | r1
  · rw [h1] at h; cases h
  · rw [h1, Option.bind_some] at h
    replace h1 := run_schema_fields q (M + 7) (by omega) _ _ h1
    try simp only [Ow.enc, kn, simprocAttr, qa, qb, qc, qd] at h1
    rcases Classical.em (r1.n = true) with h2 | h2
    · rw [if_pos h2] at h; have h2' := bt1 h2; replace h2 := eq_true h2
      cases h; subst hR; simp (maxDischargeDepth := 12) only [A_schema_Encode, kn, simprocAttr, qa, qb, qc, qd, Ow.enc, S_api_Op.enc, S_api_Record.enc, Sl.enc, *]
    · rw [if_neg h2] at h; have h2' := bt0 h2; replace h2 := eq_false h2
      rcases h3 : schema_Fits q a1 with _ | r2
      · rw [h3] at h; cases h
      · rw [h3, Option.bind_some] at h
        replace h3 := run_schema_Fits q (M + 7) (by omega) _ _ h3
        try simp only [Ow.enc, S_api_Op.enc, S_api_Record.enc, kn, simprocAttr, qa, qb, qc, qd] at h3
        rcases Classical.em (r2 = true) with h4 | h4
        · rw [if_pos h4] at h; have h4' := bt1 h4; replace h4 := eq_true h4
          rcases h5 : num_Put q ⟨true, true, []⟩ a0 with _ | r3
          · rw [h5] at h; cases h
          · rw [h5, Option.bind_some] at h
            replace h5 := run_num_Put q (M + 7) (by omega) _ _ _ h5
            try simp only [Ow.enc, Sl.enc, kn, simprocAttr, qa, qb, qc, qd] at h5
            replace h := ih_schema_Encode_l0 M (by omega) (M + 7) (by omega) _ _ _ _ _ _ _ _ _ _ _ _ _ _ _ _ h R hR
            simp (maxDischargeDepth := 12) only [A_schema_Encode, kn, simprocAttr, qa, qb, qc, qd, Ow.enc, S_api_Op.enc, S_api_Record.enc, Sl.enc, *]
        · rw [if_neg h4] at h; have h4' := bt0 h4; replace h4 := eq_false h4
          cases h; subst hR; simp (maxDischargeDepth := 12) only [A_schema_Encode, kn, simprocAttr, qa, qb, qc, qd, Ow.enc, S_api_Op.enc, S_api_Record.enc, Sl.enc, *]
def St_segment_data_l0 (q : Nat) : Prop := ∀ (M : Nat) (hM : 8 * q ≤ M) (j : Nat) (hj : q ≤ j) (v0 : Int) (v20z : Bool) (v20l : List S_api_Record) (v21 : Int) (v22 : Int) (h0z : Bool) (h0l : List Int) (h0x : Bool) (r : (Ow Int)) (_ : segment_data_l0 q v0 v20z v20l v21 v22 h0z h0l h0x = some r) (R : Option (List V)) (_ : some [(Ow.enc 1 (V.int .u8)) r] = R) (fr : Fr) (H : Hp) (_ : canon 0 [0, 7, 20, 21, 22] fr H = ([(0, (.int .i64 v0)), (7, (.vw 0 0 0 h0l.length 1)), (20, (.sl v20z (List.map S_api_Record.enc v20l))), (21, (.int .i64 v21)), (22, (.int .i64 v22))], [(.row 0 h0z 1 (List.map (V.int .u8) h0l) h0x)])), fin m_segment_data (unw T (orc T (M + 7)) (M + 7) 0 [.blk 0, .code c_segment_data_22] (iter 0 [0, 7, 20, 21, 22] (exec T (orc T (M + 7)) (M + 7) 0 c_segment_data_19) j fr H)) = R
def A_segment_data := And.intro @kk <| And.intro @L_segment_data <| And.intro @v_num_Put <| And.intro @v_block_Encode <| And.intro @v_schema_Encode <| And.intro @rr_segment_data <| And.intro @ro_segment_data <| @b0_segment_data
theorem step_segment_data_l0 (q : Nat) (ih_segment_data_l0 : St_segment_data_l0 q) : St_segment_data_l0 (q + 1) := by
  intro M hM j hj v0 v20z v20l v21 v22 h0z h0l h0x r h R hR fr H hc
  obtain ⟨j, rfl⟩ : ∃ i, j = i + 1 := ⟨j - 1, by omega⟩
  rw [unw_iter, hc]; clear hc
  rw [segment_data_l0] at h
  rcases Classical.em (v22 < v21) with h1 | h1
  · rw [if_pos h1] at h; replace h1 := eq_true h1
    rcases Classical.em (0 ≤ v22) with h2 | h2
    · rw [if_pos h2] at h; replace h2 := eq_true h2
      rcases h3 : v20l[v22.toNat]? with _ | e2
      · rw [h3] at h; cases h
      · rw [h3, Option.bind_some] at h
        rcases h4 : schema_Encode q v0 e2 with _ | r3
        · rw [h4] at h; cases h
        · rw [h4, Option.bind_some] at h
          replace h4 := run_schema_Encode q (M + 7) (by omega) _ _ _ h4
          try simp only [Ow.enc, S_api_Op.enc, S_api_Record.enc, kn, simprocAttr, qa, qb, qc, qd] at h4
          rcases h5 : num_Put q ⟨h0z, h0x, h0l⟩ (r3.1.xs.length : Int) with _ | r4
          · rw [h5] at h; cases h
          · rw [h5, Option.bind_some] at h
            replace h5 := run_num_Put q (M + 7) (by omega) _ _ _ h5
            try simp only [Ow.enc, Sl.enc, kn, simprocAttr, qa, qb, qc, qd] at h5
            rcases Classical.em ((r4.xs.length + r3.1.xs.length) ≤ 4294967296) with h6 | h6
            · rw [if_pos h6] at h; replace h6 := eq_true h6
              try simp only [kn, simprocAttr, qa, qb, qc, qd] at h6
              replace h := ih_segment_data_l0 M (by omega) j (by omega) _ _ _ _ _ _ _ _ _ h R hR
              simp (maxDischargeDepth := 12) only [A_segment_data, kn, simprocAttr, qa, qb, qc, qd, Ow.enc, S_api_Op.enc, S_api_Record.enc, Sl.enc, *]
            · rw [if_neg h6] at h; replace h6 := eq_false h6
              try simp only [kn, simprocAttr, qa, qb, qc, qd] at h6
              cases h
    · rw [if_neg h2] at h; replace h2 := eq_false h2
      cases h
  · rw [if_neg h1] at h; replace h1 := eq_false h1
    cases h; subst hR; simp (maxDischargeDepth := 12) only [A_segment_data, kn, simprocAttr, qa, qb, qc, qd, Ow.enc, S_api_Op.enc, S_api_Record.enc, Sl.enc, *]
theorem all_segment_data : ∀ q, St_segment_data_l0 q
  | 0 => by intro M hM j hj; intros; rename_i h _ _ _ _ _; cases h
  | q + 1 => by have i0 := all_segment_data q; exact step_segment_data_l0 q i0
theorem run_segment_data : ∀ (q N : Nat), 8 * q ≤ N → ∀ (a0 : Int) (a1 : (Sl S_api_Record)), ∀ (r : (Ow Int)), segment_data q a0 a1 = some r → (orc T N).deep F.segment_data [(V.int .i64) a0, (Sl.enc S_api_Record.enc) a1] = some [(Ow.enc 1 (V.int .u8)) r] := by
  intro q N hM a0 a1 r h
  rcases q with _ | q
  · cases h
  obtain ⟨M, rfl⟩ : ∃ M, N = M + 8 := ⟨N - 8, by omega⟩
  have ih_segment_data_l0 := (all_segment_data q)
  generalize hR : some [(Ow.enc 1 (V.int .u8)) r] = R
  rw [orc_deep, T_segment_data, Option.bind_some, runDeep_eq]
  rw [segment_data] at h
  rcases Classical.em (a0 = 3) with h1 | h1
  · rw [if_pos h1] at h; replace h1 := eq_true h1
    rcases h2 : block_Encode q a1 with _ | r1
    · rw [h2] at h; cases h
    · rw [h2, Option.bind_some] at h
      replace h2 := run_block_Encode q (M + 7) (by omega) _ _ h2
      try simp only [Ow.enc, S_api_Op.enc, S_api_Record.enc, Sl.enc, kn, simprocAttr, qa, qb, qc, qd] at h2
      cases h; subst hR; simp (maxDischargeDepth := 12) only [A_segment_data, kn, simprocAttr, qa, qb, qc, qd, Ow.enc, S_api_Op.enc, S_api_Record.enc, Sl.enc, *]
  · rw [if_neg h1] at h; replace h1 := eq_false h1
    replace h := ih_segment_data_l0 M (by omega) (M + 7) (by omega) _ _ _ _ _ _ _ _ _ h R hR
    simp (maxDischargeDepth := 12) only [A_segment_data, kn, simprocAttr, qa, qb, qc, qd, Ow.enc, S_api_Op.enc, S_api_Record.enc, Sl.enc, *]
def St_segment_blocks_l0 (q : Nat) : Prop := ∀ (M : Nat) (hM : 8 * q ≤ M) (j : Nat) (hj : q ≤ j) (v0 : Int) (v1z : Bool) (v1l : List S_api_Record) (h0z : Bool) (h0l : List (Sl Int)) (r : (Ow (Sl Int))) (_ : segment_blocks_l0 q v0 v1z v1l h0z h0l = some r) (R : Option (List V)) (_ : some [(Ow.enc 1 (Sl.enc (V.int .u8))) r] = R) (fr : Fr) (H : Hp) (_ : canon 0 [0, 1, 5] fr H = ([(0, (.int .i64 v0)), (1, (.sl v1z (List.map S_api_Record.enc v1l))), (5, (.vw 0 0 0 h0l.length 1))], [(.row 0 h0z 1 (List.map (Sl.enc (V.int .u8)) h0l) true)])), fin m_segment_blocks (unw T (orc T (M + 7)) (M + 7) 0 [.blk 0, .code c_segment_blocks_13] (iter 0 [0, 1, 5] (exec T (orc T (M + 7)) (M + 7) 0 c_segment_blocks_11) j fr H)) = R
def A_segment_blocks := And.intro @kk <| And.intro @L_segment_blocks <| And.intro @v_segment_framed <| And.intro @v_segment_data <| And.intro @rr_segment_blocks <| And.intro @ro_segment_blocks <| @b0_segment_blocks
theorem step_segment_blocks_l0 (q : Nat) (ih_segment_blocks_l0 : St_segment_blocks_l0 q) : St_segment_blocks_l0 (q + 1) := by
  intro M hM j hj v0 v1z v1l h0z h0l r h R hR fr H hc
  obtain ⟨j, rfl⟩ : ∃ i, j = i + 1 := ⟨j - 1, by omega⟩
  rw [unw_iter, hc]; clear hc
  rw [segment_blocks_l0] at h
  rcases Classical.em (0 < (v1l.length : Int)) with h1 | h1
  · rw [if_pos h1] at h; replace h1 := eq_true h1
    rcases Classical.em (0 ≤ (if 16 < (v1l.length : Int) then 16 else (v1l.length : Int))) with h2 | h2
    · rw [if_pos h2] at h; replace h2 := eq_true h2
      rcases Classical.em ((if 16 < (v1l.length : Int) then 16 else (v1l.length : Int)) ≤ (if 16 < (v1l.length : Int) then 16 else (v1l.length : Int))) with h3 | h3
      · rw [if_pos h3] at h; replace h3 := eq_true h3
        rcases Classical.em ((if 16 < (v1l.length : Int) then 16 else (v1l.length : Int)).toNat ≤ v1l.length) with h4 | h4
        · rw [if_pos h4] at h; replace h4 := eq_true h4
          rcases h5 : segment_data q v0 ⟨v1z, (List.take ((if 16 < (v1l.length : Int) then 16 else (v1l.length : Int)).toNat) v1l)⟩ with _ | r1
          · rw [h5] at h; cases h
          · rw [h5, Option.bind_some] at h
            replace h5 := run_segment_data q (M + 7) (by omega) _ _ _ h5
            try simp only [Ow.enc, S_api_Op.enc, S_api_Record.enc, Sl.enc, kn, simprocAttr, qa, qb, qc, qd] at h5
            rcases h6 : segment_framed q ⟨r1.n, r1.xs⟩ with _ | r2
            · rw [h6] at h; cases h
            · rw [h6, Option.bind_some] at h
              replace h6 := run_segment_framed q (M + 7) (by omega) _ _ h6
              try simp only [Ow.enc, Sl.enc, kn, simprocAttr, qa, qb, qc, qd] at h6
              rcases Classical.em ((h0l.length + 1) ≤ 4294967296) with h7 | h7
              · rw [if_pos h7] at h; replace h7 := eq_true h7
                try simp only [kn, simprocAttr, qa, qb, qc, qd] at h7
                rcases Classical.em ((if 16 < (v1l.length : Int) then 16 else (v1l.length : Int)) ≤ (v1l.length : Int)) with h8 | h8
                · rw [if_pos h8] at h; replace h8 := eq_true h8
                  replace h := ih_segment_blocks_l0 M (by omega) j (by omega) _ _ _ _ _ _ h R hR
                  simp (maxDischargeDepth := 12) only [A_segment_blocks, kn, simprocAttr, qa, qb, qc, qd, Ow.enc, S_api_Op.enc, S_api_Record.enc, Sl.enc, *]
                · rw [if_neg h8] at h; replace h8 := eq_false h8
                  cases h
              · rw [if_neg h7] at h; replace h7 := eq_false h7
                try simp only [kn, simprocAttr, qa, qb, qc, qd] at h7
                cases h
        · rw [if_neg h4] at h; replace h4 := eq_false h4
          cases h
      · rw [if_neg h3] at h; replace h3 := eq_false h3
        cases h
    · rw [if_neg h2] at h; replace h2 := eq_false h2
      cases h
  · rw [if_neg h1] at h; replace h1 := eq_false h1
    cases h; subst hR; simp (maxDischargeDepth := 12) only [A_segment_blocks, kn, simprocAttr, qa, qb, qc, qd, Ow.enc, S_api_Op.enc, S_api_Record.enc, Sl.enc, *]
theorem all_segment_blocks : ∀ q, St_segment_blocks_l0 q
  | 0 => by intro M hM j hj; intros; rename_i h _ _ _ _ _; cases h
  | q + 1 => by have i0 := all_segment_blocks q; exact step_segment_blocks_l0 q i0
theorem run_segment_blocks : ∀ (q N : Nat), 8 * q ≤ N → ∀ (a0 : Int) (a1 : (Sl S_api_Record)), ∀ (r : (Ow (Sl Int))), segment_blocks q a0 a1 = some r → (orc T N).deep F.segment_blocks [(V.int .i64) a0, (Sl.enc S_api_Record.enc) a1] = some [(Ow.enc 1 (Sl.enc (V.int .u8))) r] := by
  intro q N hM a0 a1 r h
  rcases q with _ | q
  · cases h
  obtain ⟨M, rfl⟩ : ∃ M, N = M + 8 := ⟨N - 8, by omega⟩
  have ih_segment_blocks_l0 := (all_segment_blocks q)
  generalize hR : some [(Ow.enc 1 (Sl.enc (V.int .u8))) r] = R
  rw [orc_deep, T_segment_blocks, Option.bind_some, runDeep_eq]
  rw [segment_blocks] at h
  replace h := ih_segment_blocks_l0 M (by omega) (M + 7) (by omega) _ _ _ _ _ _ h R hR
  simp (maxDischargeDepth := 12) only [A_segment_blocks, kn, simprocAttr, qa, qb, qc, qd, Ow.enc, S_api_Op.enc, S_api_Record.enc, Sl.enc, *]
def St_segment_footer_l0 (q : Nat) : Prop := ∀ (M : Nat) (hM : 8 * q ≤ M) (j : Nat) (hj : q ≤ j) (v14z : Bool) (v14l : List (Sl Int)) (v15 : Int) (v16 : Int) (h0z : Bool) (h0l : List Int) (h0x : Bool) (r : (Ow Int)) (_ : segment_footer_l0 q v14z v14l v15 v16 h0z h0l h0x = some r) (R : Option (List V)) (_ : some [(Ow.enc 1 (V.int .u8)) r] = R) (fr : Fr) (H : Hp) (_ : canon 0 [3, 14, 15, 16] fr H = ([(3, (.vw 0 0 0 h0l.length 1)), (14, (.sl v14z (List.map (Sl.enc (V.int .u8)) v14l))), (15, (.int .i64 v15)), (16, (.int .i64 v16))], [(.row 0 h0z 1 (List.map (V.int .u8) h0l) h0x)])), fin m_segment_footer (unw T (orc T (M + 7)) (M + 7) 0 [.blk 0, .code c_segment_footer_15] (iter 0 [3, 14, 15, 16] (exec T (orc T (M + 7)) (M + 7) 0 c_segment_footer_12) j fr H)) = R
def A_segment_footer := And.intro @kk <| And.intro @L_segment_footer <| And.intro @v_segment_framed <| And.intro @v_num_Put <| And.intro @rr_segment_footer <| And.intro @ro_segment_footer <| @b0_segment_footer
theorem step_segment_footer_l0 (q : Nat) (ih_segment_footer_l0 : St_segment_footer_l0 q) : St_segment_footer_l0 (q + 1) := by
  intro M hM j hj v14z v14l v15 v16 h0z h0l h0x r h R hR fr H hc
  obtain ⟨j, rfl⟩ : ∃ i, j = i + 1 := ⟨j - 1, by omega⟩
  rw [unw_iter, hc]; clear hc
  rw [segment_footer_l0] at h
  rcases Classical.em (v16 < v15) with h1 | h1
  · rw [if_pos h1] at h; replace h1 := eq_true h1
    rcases Classical.em (0 ≤ v16) with h2 | h2
    · rw [if_pos h2] at h; replace h2 := eq_true h2
      rcases h3 : v14l[v16.toNat]? with _ | e2
      · rw [h3] at h; cases h
      · rw [h3, Option.bind_some] at h
        rcases h4 : num_Put q ⟨h0z, h0x, h0l⟩ (e2.l.length : Int) with _ | r3
        · rw [h4] at h; cases h
        · rw [h4, Option.bind_some] at h
          replace h4 := run_num_Put q (M + 7) (by omega) _ _ _ h4
          try simp only [Ow.enc, Sl.enc, kn, simprocAttr, qa, qb, qc, qd] at h4
          replace h := ih_segment_footer_l0 M (by omega) j (by omega) _ _ _ _ _ _ _ _ h R hR
          simp (maxDischargeDepth := 12) only [A_segment_footer, kn, simprocAttr, qa, qb, qc, qd, Ow.enc, Sl.enc, *]
    · rw [if_neg h2] at h; replace h2 := eq_false h2
      cases h
  · rw [if_neg h1] at h; replace h1 := eq_false h1
    rcases h5 : segment_framed q ⟨h0z, h0l⟩ with _ | r4
    · rw [h5] at h; cases h
    · rw [h5, Option.bind_some] at h
      replace h5 := run_segment_framed q (M + 7) (by omega) _ _ h5
      try simp only [Ow.enc, Sl.enc, kn, simprocAttr, qa, qb, qc, qd] at h5
      cases h; subst hR; simp (maxDischargeDepth := 12) only [A_segment_footer, kn, simprocAttr, qa, qb, qc, qd, Ow.enc, Sl.enc, *]
theorem all_segment_footer : ∀ q, St_segment_footer_l0 q
  | 0 => by intro M hM j hj; intros; rename_i h _ _ _ _ _; cases h
  | q + 1 => by have i0 := all_segment_footer q; exact step_segment_footer_l0 q i0
theorem run_segment_footer : ∀ (q N : Nat), 8 * q ≤ N → ∀ (a0 : (Sl (Sl Int))), ∀ (r : (Ow Int)), segment_footer q a0 = some r → (orc T N).deep F.segment_footer [(Sl.enc (Sl.enc (V.int .u8))) a0] = some [(Ow.enc 1 (V.int .u8)) r] := by
  intro q N hM a0 r h
  rcases q with _ | q
  · cases h
  obtain ⟨M, rfl⟩ : ∃ M, N = M + 8 := ⟨N - 8, by omega⟩
  have ih_segment_footer_l0 := (all_segment_footer q)
  generalize hR : some [(Ow.enc 1 (V.int .u8)) r] = R
  rw [orc_deep, T_segment_footer, Option.bind_some, runDeep_eq]
  rw [segment_footer] at h
  rcases h1 : num_Put q ⟨true, true, []⟩ (wrp .i64 ((a0.l.length : Int) - 1)) with _ | r1
  · rw [h1] at h; cases h
  · rw [h1, Option.bind_some] at h
    replace h1 := run_num_Put q (M + 7) (by omega) _ _ _ h1
    try simp only [Ow.enc, Sl.enc, kn, simprocAttr, qa, qb, qc, qd] at h1
    rcases Classical.em (0 ≤ (wrp .i64 ((a0.l.length : Int) - 1))) with h2 | h2
    · rw [if_pos h2] at h; replace h2 := eq_true h2
      try simp only [kn, simprocAttr, qa, qb, qc, qd] at h2
      rcases Classical.em ((wrp .i64 ((a0.l.length : Int) - 1)).toNat ≤ a0.l.length) with h3 | h3
      · rw [if_pos h3] at h; replace h3 := eq_true h3
        try simp only [kn, simprocAttr, qa, qb, qc, qd] at h3
        replace h := ih_segment_footer_l0 M (by omega) (M + 7) (by omega) _ _ _ _ _ _ _ _ h R hR
        simp (maxDischargeDepth := 12) only [A_segment_footer, kn, simprocAttr, qa, qb, qc, qd, Ow.enc, Sl.enc, *]
      · rw [if_neg h3] at h; replace h3 := eq_false h3
        try simp only [kn, simprocAttr, qa, qb, qc, qd] at h3
        cases h
    · rw [if_neg h2] at h; replace h2 := eq_false h2
      try simp only [kn, simprocAttr, qa, qb, qc, qd] at h2
      cases h
def A_segment_Encode := And.intro @kk <| And.intro @L_segment_Encode <| And.intro @v_segment_Head <| And.intro @v_segment_fit <| And.intro @v_segment_blocks <| And.intro @v_slices_Concat_byte_byte <| And.intro @v_segment_footer <| And.intro @rr_segment_Encode <| And.intro @ro_segment_Encode <| @b0_segment_Encode
theorem run_segment_Encode : ∀ (q N : Nat), 8 * q ≤ N → ∀ (a0 : Int) (a1 : S_api_Segment), ∀ (r : (Ow Int) × Int), segment_Encode q a0 a1 = some r → (orc T N).deep F.segment_Encode [(V.int .i64) a0, S_api_Segment.enc a1] = some [(Ow.enc 1 (V.int .u8)) r.1, (V.int .i64) r.2] := by
  intro q N hM a0 a1 r h
  rcases q with _ | q
  · cases h
  obtain ⟨M, rfl⟩ : ∃ M, N = M + 8 := ⟨N - 8, by omega⟩
  generalize hR : some [(Ow.enc 1 (V.int .u8)) r.1, (V.int .i64) r.2] = R
  rw [orc_deep, T_segment_Encode, Option.bind_some, runDeep_eq]
  rw [segment_Encode] at h
  rcases h1 : segment_Head q a0 a1.Kind a1.First with _ | r1
  · rw [h1] at h; cases h
  · rw [h1, Option.bind_some] at h
    replace h1 := run_segment_Head q (M + 7) (by omega) _ _ _ _ h1
    try simp only [Ow.enc, kn, simprocAttr, qa, qb, qc, qd] at h1
    rcases Classical.em (r1.2 = 0) with h2 | h2
    · rw [if_pos h2] at h; replace h2 := eq_true h2
      rcases h3 : segment_fit q a1.Records a1.First with _ | r2
      · rw [h3] at h; cases h
      · rw [h3, Option.bind_some] at h
        replace h3 := run_segment_fit q (M + 7) (by omega) _ _ _ h3
        try simp only [Ow.enc, S_api_Op.enc, S_api_Record.enc, Sl.enc, kn, simprocAttr, qa, qb, qc, qd] at h3
        rcases Classical.em (r2 = true) with h4 | h4
        · rw [if_pos h4] at h; have h4' := bt1 h4; replace h4 := eq_true h4
          rcases h5 : segment_blocks q a0 a1.Records with _ | r3
          · rw [h5] at h; cases h
          · rw [h5, Option.bind_some] at h
            replace h5 := run_segment_blocks q (M + 7) (by omega) _ _ _ h5
            try simp only [Ow.enc, S_api_Op.enc, S_api_Record.enc, Sl.enc, kn, simprocAttr, qa, qb, qc, qd] at h5
            rcases Classical.em ((1 + r3.xs.length) ≤ 4294967296) with h6 | h6
            · rw [if_pos h6] at h; replace h6 := eq_true h6
              try simp only [kn, simprocAttr, qa, qb, qc, qd] at h6
              rcases h7 : slices_Concat_byte_byte q ⟨false, ([⟨r1.1.n, r1.1.xs⟩] ++ r3.xs)⟩ with _ | r4
              · rw [h7] at h; cases h
              · rw [h7, Option.bind_some] at h
                replace h7 := run_slices_Concat_byte_byte q (M + 7) (by omega) _ _ h7
                try simp only [Ow.enc, Sl.enc, kn, simprocAttr, qa, qb, qc, qd] at h7
                rcases h8 : segment_footer q ⟨false, ([⟨r1.1.n, r1.1.xs⟩] ++ r3.xs)⟩ with _ | r5
                · rw [h8] at h; cases h
                · rw [h8, Option.bind_some] at h
                  replace h8 := run_segment_footer q (M + 7) (by omega) _ _ h8
                  try simp only [Ow.enc, Sl.enc, kn, simprocAttr, qa, qb, qc, qd] at h8
                  rcases Classical.em ((r4.xs.length + r5.xs.length) ≤ 4294967296) with h9 | h9
                  · rw [if_pos h9] at h; replace h9 := eq_true h9
                    try simp only [kn, simprocAttr, qa, qb, qc, qd] at h9
                    cases h; subst hR; simp (maxDischargeDepth := 12) only [A_segment_Encode, kn, simprocAttr, qa, qb, qc, qd, Ow.enc, S_api_Op.enc, S_api_Record.enc, S_api_Segment.enc, Sl.enc, *]
                  · rw [if_neg h9] at h; replace h9 := eq_false h9
                    try simp only [kn, simprocAttr, qa, qb, qc, qd] at h9
                    cases h
            · rw [if_neg h6] at h; replace h6 := eq_false h6
              try simp only [kn, simprocAttr, qa, qb, qc, qd] at h6
              cases h
        · rw [if_neg h4] at h; have h4' := bt0 h4; replace h4 := eq_false h4
          cases h; subst hR; simp (maxDischargeDepth := 12) only [A_segment_Encode, kn, simprocAttr, qa, qb, qc, qd, Ow.enc, S_api_Op.enc, S_api_Record.enc, S_api_Segment.enc, Sl.enc, *]
    · rw [if_neg h2] at h; replace h2 := eq_false h2
      cases h; subst hR; simp (maxDischargeDepth := 12) only [A_segment_Encode, kn, simprocAttr, qa, qb, qc, qd, Ow.enc, S_api_Op.enc, S_api_Record.enc, S_api_Segment.enc, Sl.enc, *]
def A_ferrymanlaw08_awake := And.intro @kk <| And.intro @L_ferrymanlaw08_awake <| And.intro @v_segment_Encode <| And.intro @rr_ferrymanlaw08_awake <| And.intro @ro_ferrymanlaw08_awake <| @b0_ferrymanlaw08_awake
theorem run_ferrymanlaw08_awake : ∀ (q N : Nat), 8 * q ≤ N → ∀ (r : Bool), ferrymanlaw08_awake q = some r → (orc T N).deep F.ferrymanlaw08_awake [] = some [V.bool r] := by
  intro q N hM r h
  rcases q with _ | q
  · cases h
  obtain ⟨M, rfl⟩ : ∃ M, N = M + 8 := ⟨N - 8, by omega⟩
  generalize hR : some [V.bool r] = R
  rw [orc_deep, T_ferrymanlaw08_awake, Option.bind_some, runDeep_eq]
  rw [ferrymanlaw08_awake] at h
  rcases h1 : segment_Encode q 3 (⟨0, 0, ⟨true, []⟩⟩ : S_api_Segment) with _ | r1
  · rw [h1] at h; cases h
  · rw [h1, Option.bind_some] at h
    replace h1 := run_segment_Encode q (M + 7) (by omega) _ _ _ h1
    try simp only [Ow.enc, S_api_Op.enc, S_api_Record.enc, S_api_Segment.enc, Sl.enc, kn, simprocAttr, qa, qb, qc, qd] at h1
    rcases Classical.em (r1.2 = 0) with h2 | h2
    · rw [if_pos h2] at h; replace h2 := eq_true h2
      rcases Classical.em ((r1.1.xs.length : Int) = 15) with h3 | h3
      · rw [if_pos h3] at h; replace h3 := eq_true h3
        rcases Classical.em (5 ≤ r1.1.xs.length) with h4 | h4
        · rw [if_pos h4] at h; replace h4 := eq_true h4
          rcases Classical.em (r1.1.n = true) with h5 | h5
          · rw [if_pos h5] at h; have h5' := bt1 h5; replace h5 := eq_true h5
            rcases Classical.em (r1.1.xs = [4, 108, 3, 0, 0]) with h6 | h6
            · rw [if_pos h6] at h; replace h6 := eq_true h6
              rcases Classical.em (11 ≤ r1.1.xs.length) with h7 | h7
              · rw [if_pos h7] at h; replace h7 := eq_true h7
                cases h; subst hR; simp (maxDischargeDepth := 12) only [A_ferrymanlaw08_awake, kn, simprocAttr, qa, qb, qc, qd, Ow.enc, S_api_Op.enc, S_api_Record.enc, S_api_Segment.enc, Sl.enc, *]
              · rw [if_neg h7] at h; replace h7 := eq_false h7
                cases h
            · rw [if_neg h6] at h; replace h6 := eq_false h6
              cases h; subst hR; simp (maxDischargeDepth := 12) only [A_ferrymanlaw08_awake, kn, simprocAttr, qa, qb, qc, qd, Ow.enc, S_api_Op.enc, S_api_Record.enc, S_api_Segment.enc, Sl.enc, *]
          · rw [if_neg h5] at h; have h5' := bt0 h5; replace h5 := eq_false h5
            rcases Classical.em ((List.take 5 r1.1.xs) = [4, 108, 3, 0, 0]) with h8 | h8
            · rw [if_pos h8] at h; replace h8 := eq_true h8
              try simp only [kn, simprocAttr, qa, qb, qc, qd] at h8
              rcases Classical.em (11 ≤ r1.1.xs.length) with h9 | h9
              · rw [if_pos h9] at h; replace h9 := eq_true h9
                cases h; subst hR; simp (maxDischargeDepth := 12) only [A_ferrymanlaw08_awake, kn, simprocAttr, qa, qb, qc, qd, Ow.enc, S_api_Op.enc, S_api_Record.enc, S_api_Segment.enc, Sl.enc, *]
              · rw [if_neg h9] at h; replace h9 := eq_false h9
                cases h
            · rw [if_neg h8] at h; replace h8 := eq_false h8
              try simp only [kn, simprocAttr, qa, qb, qc, qd] at h8
              cases h; subst hR; simp (maxDischargeDepth := 12) only [A_ferrymanlaw08_awake, kn, simprocAttr, qa, qb, qc, qd, Ow.enc, S_api_Op.enc, S_api_Record.enc, S_api_Segment.enc, Sl.enc, *]
        · rw [if_neg h4] at h; replace h4 := eq_false h4
          cases h
      · rw [if_neg h3] at h; replace h3 := eq_false h3
        cases h; subst hR; simp (maxDischargeDepth := 12) only [A_ferrymanlaw08_awake, kn, simprocAttr, qa, qb, qc, qd, Ow.enc, S_api_Op.enc, S_api_Record.enc, S_api_Segment.enc, Sl.enc, *]
    · rw [if_neg h2] at h; replace h2 := eq_false h2
      cases h; subst hR; simp (maxDischargeDepth := 12) only [A_ferrymanlaw08_awake, kn, simprocAttr, qa, qb, qc, qd, Ow.enc, S_api_Op.enc, S_api_Record.enc, S_api_Segment.enc, Sl.enc, *]
def A_frame_open_1 := And.intro @kk <| And.intro @L_frame_open_1 <| And.intro @rr_frame_open_1 <| And.intro @ro_frame_open_1 <| @b0_frame_open_1
theorem run_frame_open_1 : ∀ (q N : Nat), 8 * q ≤ N → ∀ (a0 : Int), ∀ (r : Bool), frame_open_1 q a0 = some r → (orc T N).deep F.frame_open_1 [(V.int .u8) a0] = some [V.bool r] := by
  intro q N hM a0 r h
  rcases q with _ | q
  · cases h
  obtain ⟨M, rfl⟩ : ∃ M, N = M + 8 := ⟨N - 8, by omega⟩
  generalize hR : some [V.bool r] = R
  rw [orc_deep, T_frame_open_1, Option.bind_some, runDeep_eq]
  rw [frame_open_1] at h
  cases h; subst hR; simp (maxDischargeDepth := 12) only [A_frame_open_1, kn, simprocAttr, qa, qb, qc, qd, Ow.enc, Sl.enc, *]
def St_frame_open_s0_l0 (q : Nat) : Prop := ∀ (M : Nat) (hM : 8 * q ≤ M) (j : Nat) (hj : q ≤ j) (v0z : Bool) (v0l : List Int) (v7 : Int) (v8 : Int) (r : Int) (_ : frame_open_s0_l0 q v0z v0l v7 v8 = some r) (R : Option (List V × Hp)) (_ : (some ([(.int .i64 r)], []) : Option (List V × Hp)) = R) (fr : Fr) (H : Hp) (_ : canon 0 [0, 1, 7, 8] fr H = ([(0, (.sl v0z (List.map (V.int .u8) v0l))), (1, (.fn F.frame_open_1 [])), (7, (.int .i64 v7)), (8, (.int .i64 v8))], [])), finI 0 false [.tmp 4] (unw T (orc T (M + 5)) (M + 5) 0 [.blk 0, .code c_slices_IndexFunc_byte_byte_16] (iter 0 [0, 1, 7, 8] (exec T (orc T (M + 5)) (M + 5) 0 c_slices_IndexFunc_byte_byte_13) j fr H)) = R
def A_frame_open_s0 := And.intro @kk <| And.intro @L_slices_IndexFunc_byte_byte <| @v_frame_open_1
theorem step_frame_open_s0_l0 (q : Nat) (ih_frame_open_s0_l0 : St_frame_open_s0_l0 q) : St_frame_open_s0_l0 (q + 1) := by
  intro M hM j hj v0z v0l v7 v8 r h R hR fr H hc
  obtain ⟨j, rfl⟩ : ∃ i, j = i + 1 := ⟨j - 1, by omega⟩
  rw [unw_iter, hc]; clear hc
  rw [frame_open_s0_l0] at h
  rcases Classical.em (v8 < v7) with h1 | h1
  · rw [if_pos h1] at h; replace h1 := eq_true h1
    rcases Classical.em (0 ≤ v8) with h2 | h2
    · rw [if_pos h2] at h; replace h2 := eq_true h2
      rcases h3 : v0l[v8.toNat]? with _ | e1
      · rw [h3] at h; cases h
      · rw [h3, Option.bind_some] at h
        rcases h4 : frame_open_1 q e1 with _ | r2
        · rw [h4] at h; cases h
        · rw [h4, Option.bind_some] at h
          replace h4 := run_frame_open_1 q (M + 5) (by omega) _ _ h4
          skip
          rcases Classical.em (r2 = true) with h5 | h5
          · rw [if_pos h5] at h; have h5' := bt1 h5; replace h5 := eq_true h5
            cases h; subst hR; simp (maxDischargeDepth := 12) only [A_frame_open_s0, kn, simprocAttr, qa, qb, qc, qd, Ow.enc, Sl.enc, *]
          · rw [if_neg h5] at h; have h5' := bt0 h5; replace h5 := eq_false h5
            replace h := ih_frame_open_s0_l0 M (by omega) j (by omega) _ _ _ _ _ h R hR
            simp (maxDischargeDepth := 12) only [A_frame_open_s0, kn, simprocAttr, qa, qb, qc, qd, Ow.enc, Sl.enc, *]
    · rw [if_neg h2] at h; replace h2 := eq_false h2
      cases h
  · rw [if_neg h1] at h; replace h1 := eq_false h1
    cases h; subst hR; simp (maxDischargeDepth := 12) only [A_frame_open_s0, kn, simprocAttr, qa, qb, qc, qd, Ow.enc, Sl.enc, *]
theorem all_frame_open_s0 : ∀ q, St_frame_open_s0_l0 q
  | 0 => by intro M hM j hj; intros; rename_i h _ _ _ _ _; cases h
  | q + 1 => by have i0 := all_frame_open_s0 q; exact step_frame_open_s0_l0 q i0
theorem run_frame_open_s0 : ∀ (q M : Nat), 8 * q ≤ M → ∀ (v0z : Bool), ∀ (v0l : List Int), ∀ (r : Int), frame_open_s0 q v0z v0l = some r → (orc T (M + 6)).inl F.slices_IndexFunc_byte_byte [(.sl v0z (List.map (V.int .u8) v0l)), (.fn F.frame_open_1 [])] [] = (some ([(.int .i64 r)], []) : Option (List V × Hp)) := by
  intro q M hM v0z v0l r h
  rcases q with _ | q
  · cases h
  have ih_frame_open_s0_l0 := (all_frame_open_s0 q)
  generalize hR : (some ([(.int .i64 r)], []) : Option (List V × Hp)) = R
  rw [i_slices_IndexFunc_byte_byte (n := M + 5)]
  rw [frame_open_s0] at h
  replace h := ih_frame_open_s0_l0 M (by omega) (M + 5) (by omega) _ _ _ _ _ h R hR
  simp (maxDischargeDepth := 12) only [A_frame_open_s0, kn, simprocAttr, qa, qb, qc, qd, Ow.enc, Sl.enc, *]
def A_frame_open := And.intro @kk <| And.intro @L_frame_open <| And.intro @L_slices_ContainsFunc_byte_byte <| And.intro @v_slices_IndexFunc_byte_byte <| And.intro @v_slices_ContainsFunc_byte_byte <| And.intro @i_slices_ContainsFunc_byte_byte <| And.intro @rr_frame_open <| And.intro @ro_frame_open <| @b0_frame_open
theorem run_frame_open : ∀ (q N : Nat), 8 * q ≤ N → ∀ (a0 : (Sl Int)), ∀ (r : Bool), frame_open q a0 = some r → (orc T N).deep F.frame_open [(Sl.enc (V.int .u8)) a0] = some [V.bool r] := by
  intro q N hM a0 r h
  rcases q with _ | q
  · cases h
  obtain ⟨M, rfl⟩ : ∃ M, N = M + 8 := ⟨N - 8, by omega⟩
  generalize hR : some [V.bool r] = R
  rw [orc_deep, T_frame_open, Option.bind_some, runDeep_eq]
  rw [frame_open] at h
  rcases Classical.em ((a0.l.length : Int) < 10) with h1 | h1
  · rw [if_pos h1] at h; replace h1 := eq_true h1
    rcases h2 : frame_open_s0 q a0.z a0.l with _ | r1
    · rw [h2] at h; cases h
    · rw [h2, Option.bind_some] at h
      replace h2 := run_frame_open_s0 q M (by omega) _ _ _ h2
      try simp only [Ow.enc, Sl.enc, kn, simprocAttr, qa, qb, qc, qd] at h2
      cases h; subst hR; simp (maxDischargeDepth := 12) only [A_frame_open, kn, simprocAttr, qa, qb, qc, qd, Ow.enc, Sl.enc, *]
  · rw [if_neg h1] at h; replace h1 := eq_false h1
    cases h; subst hR; simp (maxDischargeDepth := 12) only [A_frame_open, kn, simprocAttr, qa, qb, qc, qd, Ow.enc, Sl.enc, *]
def St_num_read_l0 (q : Nat) : Prop := ∀ (M : Nat) (hM : 8 * q ≤ M) (j : Nat) (hj : q ≤ j) (v0z : Bool) (v0l : List Int) (v4 : Int) (v9 : Int) (v10 : Int) (r : Int × Int) (_ : num_read_l0 q v0z v0l v4 v9 v10 = some r) (R : Option (List V)) (_ : some [(V.int .u64) r.1, (V.int .i64) r.2] = R) (fr : Fr) (H : Hp) (_ : canon 0 [0, 4, 9, 10] fr H = ([(0, (.sl v0z (List.map (V.int .u8) v0l))), (4, (.int .u64 v4)), (9, (.int .i64 v9)), (10, (.int .i64 v10))], [])), fin m_num_read (unw T (orc T (M + 7)) (M + 7) 0 [.blk 0, .code c_num_read_30] (iter 0 [0, 4, 9, 10] (exec T (orc T (M + 7)) (M + 7) 0 c_num_read_27) j fr H)) = R
def A_num_read := And.intro @kk <| And.intro @L_num_read <| And.intro @rr_num_read <| And.intro @ro_num_read <| @b0_num_read
theorem step_num_read_l0 (q : Nat) (ih_num_read_l0 : St_num_read_l0 q) : St_num_read_l0 (q + 1) := by
  intro M hM j hj v0z v0l v4 v9 v10 r h R hR fr H hc
  obtain ⟨j, rfl⟩ : ∃ i, j = i + 1 := ⟨j - 1, by omega⟩
  rw [unw_iter, hc]; clear hc
  rw [num_read_l0] at h
  rcases Classical.em (v10 < v9) with h1 | h1
  · rw [if_pos h1] at h; replace h1 := eq_true h1
    rcases Classical.em (0 ≤ v10) with h2 | h2
    · rw [if_pos h2] at h; replace h2 := eq_true h2
      rcases h3 : v0l[v10.toNat]? with _ | e1
      · rw [h3] at h; cases h
      · rw [h3, Option.bind_some] at h
        rcases Classical.em ((wrp .i64 (7 * v10)) < 0) with h4 | h4
        · rw [if_pos h4] at h; replace h4 := eq_true h4
          cases h
        · rw [if_neg h4] at h; replace h4 := eq_false h4
          rcases Classical.em (v10 = 9) with h5 | h5
          · rw [if_pos h5] at h; replace h5 := eq_true h5
            rcases Classical.em (1 < e1) with h6 | h6
            · rw [if_pos h6] at h; replace h6 := eq_true h6
              cases h; subst hR; simp (maxDischargeDepth := 12) only [A_num_read, kn, simprocAttr, qa, qb, qc, qd, Ow.enc, Sl.enc, *]
            · rw [if_neg h6] at h; replace h6 := eq_false h6
              rcases Classical.em (e1 = 0) with h7 | h7
              · rw [if_pos h7] at h; replace h7 := eq_true h7
                rcases Classical.em (0 < v10) with h8 | h8
                · rw [if_pos h8] at h; replace h8 := eq_true h8
                  cases h; subst hR; simp (maxDischargeDepth := 12) only [A_num_read, kn, simprocAttr, qa, qb, qc, qd, Ow.enc, Sl.enc, *]
                · rw [if_neg h8] at h; replace h8 := eq_false h8
                  rcases Classical.em (e1 < 128) with h9 | h9
                  · rw [if_pos h9] at h; replace h9 := eq_true h9
                    cases h; subst hR; simp (maxDischargeDepth := 12) only [A_num_read, kn, simprocAttr, qa, qb, qc, qd, Ow.enc, Sl.enc, *]
                  · rw [if_neg h9] at h; replace h9 := eq_false h9
                    replace h := ih_num_read_l0 M (by omega) j (by omega) _ _ _ _ _ _ h R hR
                    simp (maxDischargeDepth := 12) only [A_num_read, kn, simprocAttr, qa, qb, qc, qd, Ow.enc, Sl.enc, *]
              · rw [if_neg h7] at h; replace h7 := eq_false h7
                rcases Classical.em (e1 < 128) with h10 | h10
                · rw [if_pos h10] at h; replace h10 := eq_true h10
                  cases h; subst hR; simp (maxDischargeDepth := 12) only [A_num_read, kn, simprocAttr, qa, qb, qc, qd, Ow.enc, Sl.enc, *]
                · rw [if_neg h10] at h; replace h10 := eq_false h10
                  replace h := ih_num_read_l0 M (by omega) j (by omega) _ _ _ _ _ _ h R hR
                  simp (maxDischargeDepth := 12) only [A_num_read, kn, simprocAttr, qa, qb, qc, qd, Ow.enc, Sl.enc, *]
          · rw [if_neg h5] at h; replace h5 := eq_false h5
            rcases Classical.em (e1 = 0) with h11 | h11
            · rw [if_pos h11] at h; replace h11 := eq_true h11
              rcases Classical.em (0 < v10) with h12 | h12
              · rw [if_pos h12] at h; replace h12 := eq_true h12
                cases h; subst hR; simp (maxDischargeDepth := 12) only [A_num_read, kn, simprocAttr, qa, qb, qc, qd, Ow.enc, Sl.enc, *]
              · rw [if_neg h12] at h; replace h12 := eq_false h12
                rcases Classical.em (e1 < 128) with h13 | h13
                · rw [if_pos h13] at h; replace h13 := eq_true h13
                  cases h; subst hR; simp (maxDischargeDepth := 12) only [A_num_read, kn, simprocAttr, qa, qb, qc, qd, Ow.enc, Sl.enc, *]
                · rw [if_neg h13] at h; replace h13 := eq_false h13
                  replace h := ih_num_read_l0 M (by omega) j (by omega) _ _ _ _ _ _ h R hR
                  simp (maxDischargeDepth := 12) only [A_num_read, kn, simprocAttr, qa, qb, qc, qd, Ow.enc, Sl.enc, *]
            · rw [if_neg h11] at h; replace h11 := eq_false h11
              rcases Classical.em (e1 < 128) with h14 | h14
              · rw [if_pos h14] at h; replace h14 := eq_true h14
                cases h; subst hR; simp (maxDischargeDepth := 12) only [A_num_read, kn, simprocAttr, qa, qb, qc, qd, Ow.enc, Sl.enc, *]
              · rw [if_neg h14] at h; replace h14 := eq_false h14
                replace h := ih_num_read_l0 M (by omega) j (by omega) _ _ _ _ _ _ h R hR
                simp (maxDischargeDepth := 12) only [A_num_read, kn, simprocAttr, qa, qb, qc, qd, Ow.enc, Sl.enc, *]
    · rw [if_neg h2] at h; replace h2 := eq_false h2
      cases h
  · rw [if_neg h1] at h; replace h1 := eq_false h1
    cases h; subst hR; simp (maxDischargeDepth := 12) only [A_num_read, kn, simprocAttr, qa, qb, qc, qd, Ow.enc, Sl.enc, *]
theorem all_num_read : ∀ q, St_num_read_l0 q
  | 0 => by intro M hM j hj; intros; rename_i h _ _ _ _ _; cases h
  | q + 1 => by have i0 := all_num_read q; exact step_num_read_l0 q i0
theorem run_num_read : ∀ (q N : Nat), 8 * q ≤ N → ∀ (a0 : (Sl Int)), ∀ (r : Int × Int), num_read q a0 = some r → (orc T N).deep F.num_read [(Sl.enc (V.int .u8)) a0] = some [(V.int .u64) r.1, (V.int .i64) r.2] := by
  intro q N hM a0 r h
  rcases q with _ | q
  · cases h
  obtain ⟨M, rfl⟩ : ∃ M, N = M + 8 := ⟨N - 8, by omega⟩
  have ih_num_read_l0 := (all_num_read q)
  generalize hR : some [(V.int .u64) r.1, (V.int .i64) r.2] = R
  rw [orc_deep, T_num_read, Option.bind_some, runDeep_eq]
  rw [num_read] at h
  replace h := ih_num_read_l0 M (by omega) (M + 7) (by omega) _ _ _ _ _ _ h R hR
  simp (maxDischargeDepth := 12) only [A_num_read, kn, simprocAttr, qa, qb, qc, qd, Ow.enc, Sl.enc, *]
def A_num_Get := And.intro @kk <| And.intro @L_num_Get <| And.intro @v_num_read <| And.intro @rr_num_Get <| And.intro @ro_num_Get <| @b0_num_Get
theorem run_num_Get : ∀ (q N : Nat), 8 * q ≤ N → ∀ (a0 : (Sl Int)), ∀ (r : Int × Int), num_Get q a0 = some r → (orc T N).deep F.num_Get [(Sl.enc (V.int .u8)) a0] = some [(V.int .i64) r.1, (V.int .i64) r.2] := by
  intro q N hM a0 r h
  rcases q with _ | q
  · cases h
  obtain ⟨M, rfl⟩ : ∃ M, N = M + 8 := ⟨N - 8, by omega⟩
  generalize hR : some [(V.int .i64) r.1, (V.int .i64) r.2] = R
  rw [orc_deep, T_num_Get, Option.bind_some, runDeep_eq]
  rw [num_Get] at h
  rcases h1 : num_read q a0 with _ | r1
  · rw [h1] at h; cases h
  · rw [h1, Option.bind_some] at h
    replace h1 := run_num_read q (M + 7) (by omega) _ _ h1
    try simp only [Ow.enc, Sl.enc, kn, simprocAttr, qa, qb, qc, qd] at h1
    rcases Classical.em (4611686018427387904 ≤ r1.1) with h2 | h2
    · rw [if_pos h2] at h; replace h2 := eq_true h2
      cases h; subst hR; simp (maxDischargeDepth := 12) only [A_num_Get, kn, simprocAttr, qa, qb, qc, qd, Ow.enc, Sl.enc, *]
    · rw [if_neg h2] at h; replace h2 := eq_false h2
      cases h; subst hR; simp (maxDischargeDepth := 12) only [A_num_Get, kn, simprocAttr, qa, qb, qc, qd, Ow.enc, Sl.enc, *]
def St_slices_Equal_byte_byte_l0 (q : Nat) : Prop := ∀ (M : Nat) (hM : 8 * q ≤ M) (j : Nat) (hj : q ≤ j) (v0z : Bool) (v0l : List Int) (v1z : Bool) (v1l : List Int) (v12 : Int) (v13 : Int) (r : Bool) (_ : slices_Equal_byte_byte_l0 q v0z v0l v1z v1l v12 v13 = some r) (R : Option (List V)) (_ : some [V.bool r] = R) (fr : Fr) (H : Hp) (_ : canon 0 [0, 1, 12, 13] fr H = ([(0, (.sl v0z (List.map (V.int .u8) v0l))), (1, (.sl v1z (List.map (V.int .u8) v1l))), (12, (.int .i64 v12)), (13, (.int .i64 v13))], [])), fin m_slices_Equal_byte_byte (unw T (orc T (M + 7)) (M + 7) 0 [.blk 0, .code c_slices_Equal_byte_byte_19] (iter 0 [0, 1, 12, 13] (exec T (orc T (M + 7)) (M + 7) 0 c_slices_Equal_byte_byte_16) j fr H)) = R
def A_slices_Equal_byte_byte := And.intro @kk <| And.intro @L_slices_Equal_byte_byte <| And.intro @rr_slices_Equal_byte_byte <| And.intro @ro_slices_Equal_byte_byte <| @b0_slices_Equal_byte_byte
theorem step_slices_Equal_byte_byte_l0 (q : Nat) (ih_slices_Equal_byte_byte_l0 : St_slices_Equal_byte_byte_l0 q) : St_slices_Equal_byte_byte_l0 (q + 1) := by
  intro M hM j hj v0z v0l v1z v1l v12 v13 r h R hR fr H hc
  obtain ⟨j, rfl⟩ : ∃ i, j = i + 1 := ⟨j - 1, by omega⟩
  rw [unw_iter, hc]; clear hc
  rw [slices_Equal_byte_byte_l0] at h
  rcases Classical.em (v13 < v12) with h1 | h1
  · rw [if_pos h1] at h; replace h1 := eq_true h1
    rcases Classical.em (0 ≤ v13) with h2 | h2
    · rw [if_pos h2] at h; replace h2 := eq_true h2
      rcases h3 : v0l[v13.toNat]? with _ | e1
      · rw [h3] at h; cases h
      · rw [h3, Option.bind_some] at h
        rcases h4 : v1l[v13.toNat]? with _ | e2
        · rw [h4] at h; cases h
        · rw [h4, Option.bind_some] at h
          rcases Classical.em (e1 = e2) with h5 | h5
          · rw [if_pos h5] at h; replace h5 := eq_true h5
            replace h := ih_slices_Equal_byte_byte_l0 M (by omega) j (by omega) _ _ _ _ _ _ _ h R hR
            simp (maxDischargeDepth := 12) only [A_slices_Equal_byte_byte, kn, simprocAttr, qa, qb, qc, qd, Ow.enc, Sl.enc, *]
          · rw [if_neg h5] at h; replace h5 := eq_false h5
            cases h; subst hR; simp (maxDischargeDepth := 12) only [A_slices_Equal_byte_byte, kn, simprocAttr, qa, qb, qc, qd, Ow.enc, Sl.enc, *]
    · rw [if_neg h2] at h; replace h2 := eq_false h2
      cases h
  · rw [if_neg h1] at h; replace h1 := eq_false h1
    cases h; subst hR; simp (maxDischargeDepth := 12) only [A_slices_Equal_byte_byte, kn, simprocAttr, qa, qb, qc, qd, Ow.enc, Sl.enc, *]
theorem all_slices_Equal_byte_byte : ∀ q, St_slices_Equal_byte_byte_l0 q
  | 0 => by intro M hM j hj; intros; rename_i h _ _ _ _ _; cases h
  | q + 1 => by have i0 := all_slices_Equal_byte_byte q; exact step_slices_Equal_byte_byte_l0 q i0
theorem run_slices_Equal_byte_byte : ∀ (q N : Nat), 8 * q ≤ N → ∀ (a0 : (Sl Int)) (a1 : (Sl Int)), ∀ (r : Bool), slices_Equal_byte_byte q a0 a1 = some r → (orc T N).deep F.slices_Equal_byte_byte [(Sl.enc (V.int .u8)) a0, (Sl.enc (V.int .u8)) a1] = some [V.bool r] := by
  intro q N hM a0 a1 r h
  rcases q with _ | q
  · cases h
  obtain ⟨M, rfl⟩ : ∃ M, N = M + 8 := ⟨N - 8, by omega⟩
  have ih_slices_Equal_byte_byte_l0 := (all_slices_Equal_byte_byte q)
  generalize hR : some [V.bool r] = R
  rw [orc_deep, T_slices_Equal_byte_byte, Option.bind_some, runDeep_eq]
  rw [slices_Equal_byte_byte] at h
  rcases Classical.em ((a0.l.length : Int) = (a1.l.length : Int)) with h1 | h1
  · rw [if_pos h1] at h; replace h1 := eq_true h1
    replace h := ih_slices_Equal_byte_byte_l0 M (by omega) (M + 7) (by omega) _ _ _ _ _ _ _ h R hR
    simp (maxDischargeDepth := 12) only [A_slices_Equal_byte_byte, kn, simprocAttr, qa, qb, qc, qd, Ow.enc, Sl.enc, *]
  · rw [if_neg h1] at h; replace h1 := eq_false h1
    cases h; subst hR; simp (maxDischargeDepth := 12) only [A_slices_Equal_byte_byte, kn, simprocAttr, qa, qb, qc, qd, Ow.enc, Sl.enc, *]
end Go.Dvm.C
