/- The machine comes to these answers: part 1. -/
import Derived.Test.YtlcndafgippgjaaQl0
set_option linter.all false
set_option maxRecDepth 100000
set_option maxHeartbeats 4000000
namespace Go.Dvm.C
open Go Go.Dvm Go.Dvm.I
def A_segment_known := And.intro @kk <| And.intro @L_segment_known <| And.intro @rr_segment_known <| And.intro @ro_segment_known <| @b0_segment_known
theorem run_segment_known : ∀ (q N : Nat), 8 * q ≤ N → ∀ (a0 : Int), ∀ (r : Bool), segment_known q a0 = some r → (orc T N).deep F.segment_known [(V.int .i64) a0] = some [V.bool r] := by
  intro q N hM a0 r h
  rcases q with _ | q
  · cases h
  obtain ⟨M, rfl⟩ : ∃ M, N = M + 8 := ⟨N - 8, by omega⟩
  generalize hR : some [V.bool r] = R
  rw [orc_deep, T_segment_known, Option.bind_some, runDeep_eq]
  rw [segment_known] at h
  replace h := br h; rcases h with ⟨h1, h⟩ | ⟨h1, h⟩
  · cases h; subst hR; simp (maxDischargeDepth := 12) only [A_segment_known, kn, simprocAttr, qa, qb, qc, qd, Ow.enc, Sl.enc, *]
  · cases h; subst hR; simp (maxDischargeDepth := 12) only [A_segment_known, kn, simprocAttr, qa, qb, qc, qd, Ow.enc, Sl.enc, *]
def St_num_groups_l0 (q : Nat) : Prop := ∀ (M : Nat) (hM : 8 * q ≤ M) (j : Nat) (hj : q ≤ j) (w0 : Nat) (v1 : Int) (h0z : Bool) (h0l : List Int) (h0x : Bool) (r : (Ow Int)) (_ : num_groups_l0 q v1 h0z h0l h0x = some r) (R : Option (List V)) (_ : some [(Ow.enc 1 (V.int .u8)) r] = R) (fr : Fr) (H : Hp) (_ : canon 1 [0, 1] fr H = ([(0, (.vw 0 w0 0 h0l.length 1)), (1, (.int .u64 v1))], [(.row w0 h0z 1 (List.map (V.int .u8) h0l) h0x)])), fin m_num_groups (unw T (orc T (M + 7)) (M + 7) 1 [.blk 0, .code c_48_10] (iter 1 [0, 1] (exec T (orc T (M + 7)) (M + 7) 1 c_48_8) j fr H)) = R
def A_num_groups := And.intro @kk <| And.intro @L_num_groups <| And.intro @rr_num_groups <| And.intro @ro_num_groups <| @b0_num_groups
theorem step_num_groups_l0 (q : Nat) (ih_num_groups_l0 : St_num_groups_l0 q) : St_num_groups_l0 (q + 1) := by
  intro M hM j hj w0 v1 h0z h0l h0x r h R hR fr H hc
  obtain ⟨j, rfl⟩ : ∃ i, j = i + 1 := ⟨j - 1, by omega⟩
  rw [unw_iter, hc]; clear hc
  rw [num_groups_l0] at h
  replace h := br h; rcases h with ⟨h1, h⟩ | ⟨h1, h⟩
  · replace h := br h; rcases h with ⟨h2, h⟩ | ⟨h2, h⟩
    · try simp only [kn, simprocAttr, qa, qb, qc, qd] at h2
      replace h := ih_num_groups_l0 M (by omega) j (by omega) (w0 + 1) _ _ _ _ _ h R hR
      simp (maxDischargeDepth := 12) only [A_num_groups, kn, simprocAttr, qa, qb, qc, qd, Ow.enc, Sl.enc, *]
    · try simp only [kn, simprocAttr, qa, qb, qc, qd] at h2
      cases h
  · replace h := br h; rcases h with ⟨h3, h⟩ | ⟨h3, h⟩
    · try simp only [kn, simprocAttr, qa, qb, qc, qd] at h3
      cases h; subst hR; simp (maxDischargeDepth := 12) only [A_num_groups, kn, simprocAttr, qa, qb, qc, qd, Ow.enc, Sl.enc, *]
    · try simp only [kn, simprocAttr, qa, qb, qc, qd] at h3
      cases h
theorem all_num_groups : ∀ q, St_num_groups_l0 q
  | 0 => by intro M hM j hj; intros; rename_i h _ _ _ _ _; cases h
  | q + 1 => by have i0 := all_num_groups q; exact step_num_groups_l0 q i0
theorem run_num_groups : ∀ (q N : Nat), 8 * q ≤ N → ∀ (a0 : (Ow Int)) (a1 : Int), ∀ (r : (Ow Int)), num_groups q a0 a1 = some r → (orc T N).deep F.num_groups [(Ow.enc 1 (V.int .u8)) a0, (V.int .u64) a1] = some [(Ow.enc 1 (V.int .u8)) r] := by
  intro q N hM a0 a1 r h
  rcases q with _ | q
  · cases h
  obtain ⟨M, rfl⟩ : ∃ M, N = M + 8 := ⟨N - 8, by omega⟩
  have ih_num_groups_l0 := (all_num_groups q)
  generalize hR : some [(Ow.enc 1 (V.int .u8)) r] = R
  rw [orc_deep, T_num_groups, Option.bind_some, runDeep_eq]
  rw [num_groups] at h
  replace h := ih_num_groups_l0 M (by omega) (M + 7) (by omega) 0 _ _ _ _ _ h R hR
  simp (maxDischargeDepth := 12) only [A_num_groups, kn, simprocAttr, qa, qb, qc, qd, Ow.enc, Sl.enc, *]
def A_num_Put := And.intro @kk <| And.intro @L_num_Put <| And.intro @v_num_groups <| And.intro @rr_num_Put <| And.intro @ro_num_Put <| @b0_num_Put
theorem run_num_Put : ∀ (q N : Nat), 8 * q ≤ N → ∀ (a0 : (Ow Int)) (a1 : Int), ∀ (r : (Ow Int)), num_Put q a0 a1 = some r → (orc T N).deep F.num_Put [(Ow.enc 1 (V.int .u8)) a0, (V.int .i64) a1] = some [(Ow.enc 1 (V.int .u8)) r] := by
  intro q N hM a0 a1 r h
  rcases q with _ | q
  · cases h
  obtain ⟨M, rfl⟩ : ∃ M, N = M + 8 := ⟨N - 8, by omega⟩
  generalize hR : some [(Ow.enc 1 (V.int .u8)) r] = R
  rw [orc_deep, T_num_Put, Option.bind_some, runDeep_eq]
  rw [num_Put] at h
  replace h := br h; rcases h with ⟨h1, h⟩ | ⟨h1, h⟩
  · cases h; subst hR; simp (maxDischargeDepth := 12) only [A_num_Put, kn, simprocAttr, qa, qb, qc, qd, Ow.enc, Sl.enc, *]
  · replace h := br h; rcases h with ⟨h2, h⟩ | ⟨h2, h⟩
    · cases h; subst hR; simp (maxDischargeDepth := 12) only [A_num_Put, kn, simprocAttr, qa, qb, qc, qd, Ow.enc, Sl.enc, *]
    · replace h := ob h; obtain ⟨r1, h3, h⟩ := h
      replace h3 := run_num_groups q (M + 7) (by omega) _ _ _ h3
      try simp only [Ow.enc, Sl.enc, kn, simprocAttr, qa, qb, qc, qd] at h3
      cases h; subst hR; simp (maxDischargeDepth := 12) only [A_num_Put, kn, simprocAttr, qa, qb, qc, qd, Ow.enc, Sl.enc, *]
def St_crc_Table_l0 (q : Nat) : Prop := ∀ (M : Nat) (hM : 8 * q ≤ M) (j : Nat) (hj : q ≤ j) (v5 : Int) (h0_0 : List Int) (h1_0 : List Int) (r : (List Int)) (_ : crc_Table_l0 q v5 h0_0 h1_0 = some r) (R : Option (List V)) (_ : some [(arrEnc (V.int .u32)) r] = R) (fr : Fr) (H : Hp) (_ : canon 0 [0, 1, 5] fr H = ([(0, (.ptr 0 0)), (1, (.ptr 1 0)), (5, (.int .i64 v5))], [(.box (List.map (V.int .u32) h0_0)), (.box (List.map (V.int .u32) h1_0))])), fin m_crc_Table (unw T (orc T (M + 7)) (M + 7) 0 [.blk 0, .code c_93_29] (iter 0 [0, 1, 5] (exec T (orc T (M + 7)) (M + 7) 0 c_93_26) j fr H)) = R
def St_crc_Table_l1 (q : Nat) : Prop := ∀ (M : Nat) (hM : 8 * q ≤ M) (j : Nat) (hj : q ≤ j) (j1 : Nat) (hj1 : q ≤ j1) (v2 : Int) (v3 : Int) (v5 : Int) (v10 : Int) (h0_0 : List Int) (h1_0 : List Int) (r : (List Int)) (_ : crc_Table_l1 q v2 v3 v5 v10 h0_0 h1_0 = some r) (R : Option (List V)) (_ : some [(arrEnc (V.int .u32)) r] = R) (fr : Fr) (H : Hp) (_ : canon 0 [0, 1, 2, 3, 5, 10] fr H = ([(0, (.ptr 0 0)), (1, (.ptr 1 0)), (2, (.int .i64 v2)), (3, (.int .u32 v3)), (5, (.int .i64 v5)), (10, (.int .i64 v10))], [(.box (List.map (V.int .u32) h0_0)), (.box (List.map (V.int .u32) h1_0))])), fin m_crc_Table (unw T (orc T (M + 7)) (M + 7) 0 [.blk 2, .code c_93_19, .blk 1, .code c_93_23, .rounds [0, 1, 5] c_93_26 j1, .blk 0, .code c_93_29] (iter 0 [0, 1, 2, 3, 5, 10] (exec T (orc T (M + 7)) (M + 7) 0 c_93_16) j fr H)) = R
def A_crc_Table := And.intro @kk <| And.intro @L_crc_Table <| And.intro @rr_crc_Table <| And.intro @ro_crc_Table <| @b0_crc_Table
theorem step_crc_Table_l0 (q : Nat) (ih_crc_Table_l1 : St_crc_Table_l1 q) : St_crc_Table_l0 (q + 1) := by
  intro M hM j hj v5 h0_0 h1_0 r h R hR fr H hc
  obtain ⟨j, rfl⟩ : ∃ i, j = i + 1 := ⟨j - 1, by omega⟩
  rw [unw_iter, hc]; clear hc
  rw [crc_Table_l0] at h
  replace h := br h; rcases h with ⟨h1, h⟩ | ⟨h1, h⟩
  · replace h := ih_crc_Table_l1 M (by omega) (M + 7) (by omega) j (by omega) _ _ _ _ _ _ _ h R hR
    simp (maxDischargeDepth := 12) only [A_crc_Table, kn, simprocAttr, qa, qb, qc, qd, Ow.enc, Sl.enc, arrEnc, *]
  · replace h := br h; rcases h with ⟨h2, h⟩ | ⟨h2, h⟩
    · replace h := bc h; rcases h with ⟨h3, h⟩ | ⟨h3, h⟩
      · replace h := br h; rcases h with ⟨h4, h⟩ | ⟨h4, h⟩
        · replace h := br h; rcases h with ⟨h5, h⟩ | ⟨h5, h⟩
          · try simp only [kn, simprocAttr, qa, qb, qc, qd] at h5
            cases h; subst hR; simp (maxDischargeDepth := 12) only [A_crc_Table, kn, simprocAttr, qa, qb, qc, qd, Ow.enc, Sl.enc, arrEnc, *]
          · try simp only [kn, simprocAttr, qa, qb, qc, qd] at h5
            cases h
        · cases h
      · cases h
    · cases h
theorem step_crc_Table_l1 (q : Nat) (ih_crc_Table_l0 : St_crc_Table_l0 q) (ih_crc_Table_l1 : St_crc_Table_l1 q) : St_crc_Table_l1 (q + 1) := by
  intro M hM j hj j1 hj1 v2 v3 v5 v10 h0_0 h1_0 r h R hR fr H hc
  obtain ⟨j, rfl⟩ : ∃ i, j = i + 1 := ⟨j - 1, by omega⟩
  rw [unw_iter, hc]; clear hc
  rw [crc_Table_l1] at h
  replace h := br h; rcases h with ⟨h1, h⟩ | ⟨h1, h⟩
  · replace h := ih_crc_Table_l1 M (by omega) j (by omega) j1 (by omega) _ _ _ _ _ _ _ h R hR
    simp (maxDischargeDepth := 12) only [A_crc_Table, kn, simprocAttr, qa, qb, qc, qd, Ow.enc, Sl.enc, arrEnc, *]
  · replace h := br h; rcases h with ⟨h2, h⟩ | ⟨h2, h⟩
    · replace h := br h; rcases h with ⟨h3, h⟩ | ⟨h3, h⟩
      · replace h := br h; rcases h with ⟨h4, h⟩ | ⟨h4, h⟩
        · try simp only [kn, simprocAttr, qa, qb, qc, qd] at h4
          replace h := ih_crc_Table_l0 M (by omega) j1 (by omega) _ _ _ _ h R hR
          simp (maxDischargeDepth := 12) only [A_crc_Table, kn, simprocAttr, qa, qb, qc, qd, Ow.enc, Sl.enc, arrEnc, *]
        · try simp only [kn, simprocAttr, qa, qb, qc, qd] at h4
          cases h
      · cases h
    · cases h
theorem all_crc_Table : ∀ q, St_crc_Table_l0 q ∧ St_crc_Table_l1 q
  | 0 => by refine ⟨?_, ?_⟩ <;> (intro M hM j hj; intros; rename_i h _ _ _ _ _; cases h)
  | q + 1 => by have ⟨i0, i1⟩ := all_crc_Table q; exact ⟨step_crc_Table_l0 q i1, step_crc_Table_l1 q i0 i1⟩
theorem run_crc_Table : ∀ (q N : Nat), 8 * q ≤ N → ∀ (r : (List Int)), crc_Table q = some r → (orc T N).deep F.crc_Table [] = some [(arrEnc (V.int .u32)) r] := by
  intro q N hM r h
  rcases q with _ | q
  · cases h
  obtain ⟨M, rfl⟩ : ∃ M, N = M + 8 := ⟨N - 8, by omega⟩
  have ih_crc_Table_l0 := (all_crc_Table q).1
  generalize hR : some [(arrEnc (V.int .u32)) r] = R
  rw [orc_deep, T_crc_Table, Option.bind_some, runDeep_eq]
  rw [crc_Table] at h
  replace h := ih_crc_Table_l0 M (by omega) (M + 7) (by omega) _ _ _ _ h R hR
  simp (maxDischargeDepth := 12) only [A_crc_Table, kn, simprocAttr, qa, qb, qc, qd, Ow.enc, Sl.enc, arrEnc, *]
def St_crc_More_l0 (q : Nat) : Prop := ∀ (M : Nat) (hM : 8 * q ≤ M) (j : Nat) (hj : q ≤ j) (v6 : Int) (v12z : Bool) (v12l : List Int) (v13 : Int) (v14 : Int) (h0_0 : List Int) (r : Int) (_ : crc_More_l0 q v6 v12z v12l v13 v14 h0_0 = some r) (R : Option (List V)) (_ : some [(V.int .u32) r] = R) (fr : Fr) (H : Hp) (_ : canon 0 [5, 6, 12, 13, 14] fr H = ([(5, (.ptr 0 0)), (6, (.int .u32 v6)), (12, (.sl v12z (List.map (V.int .u8) v12l))), (13, (.int .i64 v13)), (14, (.int .i64 v14))], [(.box (List.map (V.int .u32) h0_0))])), fin m_crc_More (unw T (orc T (M + 7)) (M + 7) 0 [.blk 0, .code c_81_16] (iter 0 [5, 6, 12, 13, 14] (exec T (orc T (M + 7)) (M + 7) 0 c_81_13) j fr H)) = R
def A_crc_More := And.intro @kk <| And.intro @L_crc_More <| And.intro @v_crc_Table <| And.intro @rr_crc_More <| And.intro @ro_crc_More <| @b0_crc_More
theorem step_crc_More_l0 (q : Nat) (ih_crc_More_l0 : St_crc_More_l0 q) : St_crc_More_l0 (q + 1) := by
  intro M hM j hj v6 v12z v12l v13 v14 h0_0 r h R hR fr H hc
  obtain ⟨j, rfl⟩ : ∃ i, j = i + 1 := ⟨j - 1, by omega⟩
  rw [unw_iter, hc]; clear hc
  rw [crc_More_l0] at h
  replace h := br h; rcases h with ⟨h1, h⟩ | ⟨h1, h⟩
  · replace h := br h; rcases h with ⟨h2, h⟩ | ⟨h2, h⟩
    · replace h := ob h; obtain ⟨e2, h3, h⟩ := h
      replace h := br h; rcases h with ⟨h4, h⟩ | ⟨h4, h⟩
      · replace h := br h; rcases h with ⟨h5, h⟩ | ⟨h5, h⟩
        · replace h := ob h; obtain ⟨e3, h6, h⟩ := h
          replace h := ih_crc_More_l0 M (by omega) j (by omega) _ _ _ _ _ _ _ h R hR
          simp (maxDischargeDepth := 12) only [A_crc_More, kn, simprocAttr, qa, qb, qc, qd, Ow.enc, Sl.enc, arrEnc, *]
        · cases h
      · cases h
    · cases h
  · cases h; subst hR; simp (maxDischargeDepth := 12) only [A_crc_More, kn, simprocAttr, qa, qb, qc, qd, Ow.enc, Sl.enc, arrEnc, *]
theorem all_crc_More : ∀ q, St_crc_More_l0 q
  | 0 => by intro M hM j hj; intros; rename_i h _ _ _ _ _; cases h
  | q + 1 => by have i0 := all_crc_More q; exact step_crc_More_l0 q i0
theorem run_crc_More : ∀ (q N : Nat), 8 * q ≤ N → ∀ (a0 : Int) (a1 : (Sl Int)), ∀ (r : Int), crc_More q a0 a1 = some r → (orc T N).deep F.crc_More [(V.int .u32) a0, (Sl.enc (V.int .u8)) a1] = some [(V.int .u32) r] := by
  intro q N hM a0 a1 r h
  rcases q with _ | q
  · cases h
  obtain ⟨M, rfl⟩ : ∃ M, N = M + 8 := ⟨N - 8, by omega⟩
  have ih_crc_More_l0 := (all_crc_More q)
  generalize hR : some [(V.int .u32) r] = R
  rw [orc_deep, T_crc_More, Option.bind_some, runDeep_eq]
  rw [crc_More] at h
  replace h := ob h; obtain ⟨r1, h1, h⟩ := h
  replace h1 := run_crc_Table q (M + 7) (by omega)  _ h1
  try simp only [Ow.enc, arrEnc, kn, simprocAttr, qa, qb, qc, qd] at h1
  replace h := bc h; rcases h with ⟨h2, h⟩ | ⟨h2, h⟩
  · replace h := ih_crc_More_l0 M (by omega) (M + 7) (by omega) _ _ _ _ _ _ _ h R hR
    simp (maxDischargeDepth := 12) only [A_crc_More, kn, simprocAttr, qa, qb, qc, qd, Ow.enc, Sl.enc, arrEnc, *]
  · cases h
def A_crc_Sum := And.intro @kk <| And.intro @L_crc_Sum <| And.intro @v_crc_More <| And.intro @rr_crc_Sum <| And.intro @ro_crc_Sum <| @b0_crc_Sum
theorem run_crc_Sum : ∀ (q N : Nat), 8 * q ≤ N → ∀ (a0 : (Sl Int)), ∀ (r : Int), crc_Sum q a0 = some r → (orc T N).deep F.crc_Sum [(Sl.enc (V.int .u8)) a0] = some [(V.int .u32) r] := by
  intro q N hM a0 r h
  rcases q with _ | q
  · cases h
  obtain ⟨M, rfl⟩ : ∃ M, N = M + 8 := ⟨N - 8, by omega⟩
  generalize hR : some [(V.int .u32) r] = R
  rw [orc_deep, T_crc_Sum, Option.bind_some, runDeep_eq]
  rw [crc_Sum] at h
  replace h := ob h; obtain ⟨r1, h1, h⟩ := h
  replace h1 := run_crc_More q (M + 7) (by omega) _ _ _ h1
  try simp only [Ow.enc, Sl.enc, kn, simprocAttr, qa, qb, qc, qd] at h1
  cases h; subst hR; simp (maxDischargeDepth := 12) only [A_crc_Sum, kn, simprocAttr, qa, qb, qc, qd, Ow.enc, Sl.enc, *]
def St_num_fixed_l0 (q : Nat) : Prop := ∀ (M : Nat) (hM : 8 * q ≤ M) (j : Nat) (hj : q ≤ j) (v0 : Int) (v7 : Int) (v8 : Int) (h0z : Bool) (h0l : List Int) (r : (Ow Int)) (_ : num_fixed_l0 q v0 v7 v8 h0z h0l = some r) (R : Option (List V)) (_ : some [(Ow.enc 1 (V.int .u8)) r] = R) (fr : Fr) (H : Hp) (_ : canon 0 [0, 5, 7, 8] fr H = ([(0, (.int .u64 v0)), (5, (.vw 0 0 0 h0l.length 1)), (7, (.int .i64 v7)), (8, (.int .i64 v8))], [(.row 0 h0z 1 (List.map (V.int .u8) h0l) true)])), fin m_num_fixed (unw T (orc T (M + 7)) (M + 7) 0 [.blk 0, .code c_92_15] (iter 0 [0, 5, 7, 8] (exec T (orc T (M + 7)) (M + 7) 0 c_92_12) j fr H)) = R
def A_num_fixed := And.intro @kk <| And.intro @L_num_fixed <| And.intro @rr_num_fixed <| And.intro @ro_num_fixed <| @b0_num_fixed
theorem step_num_fixed_l0 (q : Nat) (ih_num_fixed_l0 : St_num_fixed_l0 q) : St_num_fixed_l0 (q + 1) := by
  intro M hM j hj v0 v7 v8 h0z h0l r h R hR fr H hc
  obtain ⟨j, rfl⟩ : ∃ i, j = i + 1 := ⟨j - 1, by omega⟩
  rw [unw_iter, hc]; clear hc
  rw [num_fixed_l0] at h
  replace h := br h; rcases h with ⟨h1, h⟩ | ⟨h1, h⟩
  · replace h := br h; rcases h with ⟨h2, h⟩ | ⟨h2, h⟩
    · cases h
    · replace h := br h; rcases h with ⟨h3, h⟩ | ⟨h3, h⟩
      · try simp only [kn, simprocAttr, qa, qb, qc, qd] at h3
        replace h := ih_num_fixed_l0 M (by omega) j (by omega) _ _ _ _ _ _ h R hR
        simp (maxDischargeDepth := 12) only [A_num_fixed, kn, simprocAttr, qa, qb, qc, qd, Ow.enc, Sl.enc, *]
      · try simp only [kn, simprocAttr, qa, qb, qc, qd] at h3
        cases h
  · cases h; subst hR; simp (maxDischargeDepth := 12) only [A_num_fixed, kn, simprocAttr, qa, qb, qc, qd, Ow.enc, Sl.enc, *]
theorem all_num_fixed : ∀ q, St_num_fixed_l0 q
  | 0 => by intro M hM j hj; intros; rename_i h _ _ _ _ _; cases h
  | q + 1 => by have i0 := all_num_fixed q; exact step_num_fixed_l0 q i0
theorem run_num_fixed : ∀ (q N : Nat), 8 * q ≤ N → ∀ (a0 : Int) (a1 : Int), ∀ (r : (Ow Int)), num_fixed q a0 a1 = some r → (orc T N).deep F.num_fixed [(V.int .u64) a0, (V.int .i64) a1] = some [(Ow.enc 1 (V.int .u8)) r] := by
  intro q N hM a0 a1 r h
  rcases q with _ | q
  · cases h
  obtain ⟨M, rfl⟩ : ∃ M, N = M + 8 := ⟨N - 8, by omega⟩
  have ih_num_fixed_l0 := (all_num_fixed q)
  generalize hR : some [(Ow.enc 1 (V.int .u8)) r] = R
  rw [orc_deep, T_num_fixed, Option.bind_some, runDeep_eq]
  rw [num_fixed] at h
  replace h := ih_num_fixed_l0 M (by omega) (M + 7) (by omega) _ _ _ _ _ _ h R hR
  simp (maxDischargeDepth := 12) only [A_num_fixed, kn, simprocAttr, qa, qb, qc, qd, Ow.enc, Sl.enc, *]
def A_num_Fixed32 := And.intro @kk <| And.intro @L_num_Fixed32 <| And.intro @v_num_fixed <| And.intro @rr_num_Fixed32 <| And.intro @ro_num_Fixed32 <| @b0_num_Fixed32
theorem run_num_Fixed32 : ∀ (q N : Nat), 8 * q ≤ N → ∀ (a0 : Int), ∀ (r : (Ow Int)), num_Fixed32 q a0 = some r → (orc T N).deep F.num_Fixed32 [(V.int .u32) a0] = some [(Ow.enc 1 (V.int .u8)) r] := by
  intro q N hM a0 r h
  rcases q with _ | q
  · cases h
  obtain ⟨M, rfl⟩ : ∃ M, N = M + 8 := ⟨N - 8, by omega⟩
  generalize hR : some [(Ow.enc 1 (V.int .u8)) r] = R
  rw [orc_deep, T_num_Fixed32, Option.bind_some, runDeep_eq]
  rw [num_Fixed32] at h
  replace h := ob h; obtain ⟨r1, h1, h⟩ := h
  replace h1 := run_num_fixed q (M + 7) (by omega) _ _ _ h1
  try simp only [Ow.enc, kn, simprocAttr, qa, qb, qc, qd] at h1
  cases h; subst hR; simp (maxDischargeDepth := 12) only [A_num_Fixed32, kn, simprocAttr, qa, qb, qc, qd, Ow.enc, Sl.enc, *]
def A_frame_sum := And.intro @kk <| And.intro @L_frame_sum <| And.intro @v_num_Fixed32 <| And.intro @v_crc_More <| And.intro @v_crc_Sum <| And.intro @rr_frame_sum <| And.intro @ro_frame_sum <| @b0_frame_sum
theorem run_frame_sum : ∀ (q N : Nat), 8 * q ≤ N → ∀ (a0 : (Sl Int)) (a1 : (Sl Int)), ∀ (r : (Ow Int)), frame_sum q a0 a1 = some r → (orc T N).deep F.frame_sum [(Sl.enc (V.int .u8)) a0, (Sl.enc (V.int .u8)) a1] = some [(Ow.enc 1 (V.int .u8)) r] := by
  intro q N hM a0 a1 r h
  rcases q with _ | q
  · cases h
  obtain ⟨M, rfl⟩ : ∃ M, N = M + 8 := ⟨N - 8, by omega⟩
  generalize hR : some [(Ow.enc 1 (V.int .u8)) r] = R
  rw [orc_deep, T_frame_sum, Option.bind_some, runDeep_eq]
  rw [frame_sum] at h
  replace h := ob h; obtain ⟨r1, h1, h⟩ := h
  replace h1 := run_crc_Sum q (M + 7) (by omega) _ _ h1
  try simp only [Ow.enc, Sl.enc, kn, simprocAttr, qa, qb, qc, qd] at h1
  replace h := ob h; obtain ⟨r2, h2, h⟩ := h
  replace h2 := run_crc_More q (M + 7) (by omega) _ _ _ h2
  try simp only [Ow.enc, Sl.enc, kn, simprocAttr, qa, qb, qc, qd] at h2
  replace h := ob h; obtain ⟨r3, h3, h⟩ := h
  replace h3 := run_num_Fixed32 q (M + 7) (by omega) _ _ h3
  try simp only [Ow.enc, kn, simprocAttr, qa, qb, qc, qd] at h3
  cases h; subst hR; simp (maxDischargeDepth := 12) only [A_frame_sum, kn, simprocAttr, qa, qb, qc, qd, Ow.enc, Sl.enc, *]
def St_slices_Concat_byte_byte_l0 (q : Nat) : Prop := ∀ (M : Nat) (hM : 8 * q ≤ M) (j : Nat) (hj : q ≤ j) (v0z : Bool) (v0l : List (Sl Int)) (v3 : Int) (v9z : Bool) (v9l : List (Sl Int)) (v10 : Int) (v11 : Int) (r : (Ow Int)) (_ : slices_Concat_byte_byte_l0 q v0z v0l v3 v9z v9l v10 v11 = some r) (R : Option (List V)) (_ : some [(Ow.enc 1 (V.int .u8)) r] = R) (fr : Fr) (H : Hp) (_ : canon 0 [0, 3, 9, 10, 11] fr H = ([(0, (.sl v0z (List.map (Sl.enc (V.int .u8)) v0l))), (3, (.int .i64 v3)), (9, (.sl v9z (List.map (Sl.enc (V.int .u8)) v9l))), (10, (.int .i64 v10)), (11, (.int .i64 v11))], [])), fin m_slices_Concat_byte_byte (unw T (orc T (M + 7)) (M + 7) 0 [.blk 0, .code c_22_32] (iter 0 [0, 3, 9, 10, 11] (exec T (orc T (M + 7)) (M + 7) 0 c_22_15) j fr H)) = R
def St_slices_Concat_byte_byte_l1 (q : Nat) : Prop := ∀ (M : Nat) (hM : 8 * q ≤ M) (j : Nat) (hj : q ≤ j) (v6len : Nat) (v25z : Bool) (v25l : List (Sl Int)) (v26 : Int) (v27 : Int) (h0z : Bool) (h0l : List Int) (r : (Ow Int)) (_ : slices_Concat_byte_byte_l1 q v6len v25z v25l v26 v27 h0z h0l = some r) (R : Option (List V)) (_ : some [(Ow.enc 1 (V.int .u8)) r] = R) (fr : Fr) (H : Hp) (_ : canon 0 [6, 25, 26, 27] fr H = ([(6, (.vw 0 0 0 v6len 0)), (25, (.sl v25z (List.map (Sl.enc (V.int .u8)) v25l))), (26, (.int .i64 v26)), (27, (.int .i64 v27))], [(.row 0 h0z 1 (List.map (V.int .u8) h0l) true)])), fin m_slices_Concat_byte_byte (unw T (orc T (M + 7)) (M + 7) 0 [.blk 2, .code c_22_30] (iter 0 [6, 25, 26, 27] (exec T (orc T (M + 7)) (M + 7) 0 c_22_27) j fr H)) = R
def St_slices_Concat_byte_byte_l2 (q : Nat) : Prop := ∀ (M : Nat) (hM : 8 * q ≤ M) (j : Nat) (hj : q ≤ j) (v25z : Bool) (v25l : List (Sl Int)) (v26 : Int) (r : (Ow Int)) (_ : slices_Concat_byte_byte_l2 q v25z v25l v26 = some r) (R : Option (List V)) (_ : some [(Ow.enc 1 (V.int .u8)) r] = R) (fr : Fr) (H : Hp) (_ : canon 0 [6, 25, 26, 27] fr H = ([(6, (.sl true [])), (25, (.sl v25z (List.map (Sl.enc (V.int .u8)) v25l))), (26, (.int .i64 v26)), (27, (.int .i64 0))], [])), fin m_slices_Concat_byte_byte (unw T (orc T (M + 7)) (M + 7) 0 [.blk 2, .code c_22_30] (iter 0 [6, 25, 26, 27] (exec T (orc T (M + 7)) (M + 7) 0 c_22_27) j fr H)) = R
def St_slices_Concat_byte_byte_l3 (q : Nat) : Prop := ∀ (M : Nat) (hM : 8 * q ≤ M) (j : Nat) (hj : q ≤ j) (v25z : Bool) (v25l : List (Sl Int)) (v26 : Int) (v27 : Int) (h0z : Bool) (h0l : List Int) (r : (Ow Int)) (_ : slices_Concat_byte_byte_l3 q v25z v25l v26 v27 h0z h0l = some r) (R : Option (List V)) (_ : some [(Ow.enc 1 (V.int .u8)) r] = R) (fr : Fr) (H : Hp) (_ : canon 0 [6, 25, 26, 27] fr H = ([(6, (.vw 0 0 0 h0l.length 1)), (25, (.sl v25z (List.map (Sl.enc (V.int .u8)) v25l))), (26, (.int .i64 v26)), (27, (.int .i64 v27))], [(.row 0 h0z 1 (List.map (V.int .u8) h0l) true)])), fin m_slices_Concat_byte_byte (unw T (orc T (M + 7)) (M + 7) 0 [.blk 2, .code c_22_30] (iter 0 [6, 25, 26, 27] (exec T (orc T (M + 7)) (M + 7) 0 c_22_27) j fr H)) = R
def A_slices_Concat_byte_byte := And.intro @kk <| And.intro @L_slices_Concat_byte_byte <| And.intro @L_slices_Grow_byte_byte <| And.intro @v_slices_Grow_byte_byte <| And.intro @i_slices_Grow_byte_byte <| And.intro @rr_slices_Concat_byte_byte <| And.intro @ro_slices_Concat_byte_byte <| @b0_slices_Concat_byte_byte
theorem step_slices_Concat_byte_byte_l0 (q : Nat) (ih_slices_Concat_byte_byte_l0 : St_slices_Concat_byte_byte_l0 q) (ih_slices_Concat_byte_byte_l1 : St_slices_Concat_byte_byte_l1 q) (ih_slices_Concat_byte_byte_l2 : St_slices_Concat_byte_byte_l2 q) : St_slices_Concat_byte_byte_l0 (q + 1) := by
  intro M hM j hj v0z v0l v3 v9z v9l v10 v11 r h R hR fr H hc
  obtain ⟨j, rfl⟩ : ∃ i, j = i + 1 := ⟨j - 1, by omega⟩
  rw [unw_iter, hc]; clear hc
  rw [slices_Concat_byte_byte_l0] at h
  replace h := br h; rcases h with ⟨h1, h⟩ | ⟨h1, h⟩
  · replace h := br h; rcases h with ⟨h2, h⟩ | ⟨h2, h⟩
    · replace h := ob h; obtain ⟨e1, h3, h⟩ := h
      replace h := br h; rcases h with ⟨h4, h⟩ | ⟨h4, h⟩
      · try simp only [kn, simprocAttr, qa, qb, qc, qd] at h4
        cases h
      · try simp only [kn, simprocAttr, qa, qb, qc, qd] at h4
        replace h := ih_slices_Concat_byte_byte_l0 M (by omega) j (by omega) _ _ _ _ _ _ _ _ h R hR
        simp (maxDischargeDepth := 12) only [A_slices_Concat_byte_byte, kn, simprocAttr, qa, qb, qc, qd, Ow.enc, Sl.enc, *]
    · cases h
  · replace h := br h; rcases h with ⟨h5, h⟩ | ⟨h5, h⟩
    · cases h
    · replace h := br h; rcases h with ⟨h6, h⟩ | ⟨h6, h⟩
      · try simp only [kn, simprocAttr, qa, qb, qc, qd] at h6
        replace h := br h; rcases h with ⟨h7, h⟩ | ⟨h7, h⟩
        · try simp only [kn, simprocAttr, qa, qb, qc, qd] at h7
          replace h := br h; rcases h with ⟨h8, h⟩ | ⟨h8, h⟩
          · try simp only [kn, simprocAttr, qa, qb, qc, qd] at h8
            replace h := br h; rcases h with ⟨h9, h⟩ | ⟨h9, h⟩
            · try simp only [kn, simprocAttr, qa, qb, qc, qd] at h9
              cases h
            · try simp only [kn, simprocAttr, qa, qb, qc, qd] at h9
              replace h := ih_slices_Concat_byte_byte_l1 M (by omega) (M + 7) (by omega) _ _ _ _ _ _ _ _ h R hR
              simp (maxDischargeDepth := 12) only [A_slices_Concat_byte_byte, kn, simprocAttr, qa, qb, qc, qd, Ow.enc, Sl.enc, *]
          · try simp only [kn, simprocAttr, qa, qb, qc, qd] at h8
            cases h
        · try simp only [kn, simprocAttr, qa, qb, qc, qd] at h7
          cases h
      · try simp only [kn, simprocAttr, qa, qb, qc, qd] at h6
        replace h := ih_slices_Concat_byte_byte_l2 M (by omega) (M + 7) (by omega) _ _ _ _ h R hR
        simp (maxDischargeDepth := 12) only [A_slices_Concat_byte_byte, kn, simprocAttr, qa, qb, qc, qd, Ow.enc, Sl.enc, *]
theorem step_slices_Concat_byte_byte_l1 (q : Nat) (ih_slices_Concat_byte_byte_l1 : St_slices_Concat_byte_byte_l1 q) : St_slices_Concat_byte_byte_l1 (q + 1) := by
  intro M hM j hj v6len v25z v25l v26 v27 h0z h0l r h R hR fr H hc
  obtain ⟨j, rfl⟩ : ∃ i, j = i + 1 := ⟨j - 1, by omega⟩
  rw [unw_iter, hc]; clear hc
  rw [slices_Concat_byte_byte_l1] at h
  replace h := br h; rcases h with ⟨h1, h⟩ | ⟨h1, h⟩
  · replace h := br h; rcases h with ⟨h2, h⟩ | ⟨h2, h⟩
    · replace h := ob h; obtain ⟨e2, h3, h⟩ := h
      replace h := br h; rcases h with ⟨h4, h⟩ | ⟨h4, h⟩
      · try simp only [kn, simprocAttr, qa, qb, qc, qd] at h4
        replace h := ih_slices_Concat_byte_byte_l1 M (by omega) j (by omega) _ _ _ _ _ _ _ _ h R hR
        simp (maxDischargeDepth := 12) only [A_slices_Concat_byte_byte, kn, simprocAttr, qa, qb, qc, qd, Ow.enc, Sl.enc, *]
      · try simp only [kn, simprocAttr, qa, qb, qc, qd] at h4
        cases h
    · cases h
  · cases h; subst hR; simp (maxDischargeDepth := 12) only [A_slices_Concat_byte_byte, kn, simprocAttr, qa, qb, qc, qd, Ow.enc, Sl.enc, *]
theorem step_slices_Concat_byte_byte_l2 (q : Nat) (ih_slices_Concat_byte_byte_l3 : St_slices_Concat_byte_byte_l3 q) : St_slices_Concat_byte_byte_l2 (q + 1) := by
  intro M hM j hj v25z v25l v26 r h R hR fr H hc
  obtain ⟨j, rfl⟩ : ∃ i, j = i + 1 := ⟨j - 1, by omega⟩
  rw [unw_iter, hc]; clear hc
  rw [slices_Concat_byte_byte_l2] at h
  replace h := br h; rcases h with ⟨h1, h⟩ | ⟨h1, h⟩
  · replace h := ob h; obtain ⟨e3, h2, h⟩ := h
    replace h := br h; rcases h with ⟨h3, h⟩ | ⟨h3, h⟩
    · replace h := ih_slices_Concat_byte_byte_l3 M (by omega) j (by omega) _ _ _ _ _ _ _ h R hR
      simp (maxDischargeDepth := 12) only [A_slices_Concat_byte_byte, kn, simprocAttr, qa, qb, qc, qd, Ow.enc, Sl.enc, *]
    · cases h
  · cases h; subst hR; simp (maxDischargeDepth := 12) only [A_slices_Concat_byte_byte, kn, simprocAttr, qa, qb, qc, qd, Ow.enc, Sl.enc, *]
theorem step_slices_Concat_byte_byte_l3 (q : Nat) (ih_slices_Concat_byte_byte_l3 : St_slices_Concat_byte_byte_l3 q) : St_slices_Concat_byte_byte_l3 (q + 1) := by
  intro M hM j hj v25z v25l v26 v27 h0z h0l r h R hR fr H hc
  obtain ⟨j, rfl⟩ : ∃ i, j = i + 1 := ⟨j - 1, by omega⟩
  rw [unw_iter, hc]; clear hc
  rw [slices_Concat_byte_byte_l3] at h
  replace h := br h; rcases h with ⟨h1, h⟩ | ⟨h1, h⟩
  · replace h := br h; rcases h with ⟨h2, h⟩ | ⟨h2, h⟩
    · replace h := ob h; obtain ⟨e4, h3, h⟩ := h
      replace h := br h; rcases h with ⟨h4, h⟩ | ⟨h4, h⟩
      · try simp only [kn, simprocAttr, qa, qb, qc, qd] at h4
        replace h := ih_slices_Concat_byte_byte_l3 M (by omega) j (by omega) _ _ _ _ _ _ _ h R hR
        simp (maxDischargeDepth := 12) only [A_slices_Concat_byte_byte, kn, simprocAttr, qa, qb, qc, qd, Ow.enc, Sl.enc, *]
      · try simp only [kn, simprocAttr, qa, qb, qc, qd] at h4
        cases h
    · cases h
  · cases h; subst hR; simp (maxDischargeDepth := 12) only [A_slices_Concat_byte_byte, kn, simprocAttr, qa, qb, qc, qd, Ow.enc, Sl.enc, *]
theorem all_slices_Concat_byte_byte : ∀ q, St_slices_Concat_byte_byte_l0 q ∧ St_slices_Concat_byte_byte_l1 q ∧ St_slices_Concat_byte_byte_l2 q ∧ St_slices_Concat_byte_byte_l3 q
  | 0 => by refine ⟨?_, ?_, ?_, ?_⟩ <;> (intro M hM j hj; intros; rename_i h _ _ _ _ _; cases h)
  | q + 1 => by have ⟨i0, i1, i2, i3⟩ := all_slices_Concat_byte_byte q; exact ⟨step_slices_Concat_byte_byte_l0 q i0 i1 i2, step_slices_Concat_byte_byte_l1 q i1, step_slices_Concat_byte_byte_l2 q i3, step_slices_Concat_byte_byte_l3 q i3⟩
theorem run_slices_Concat_byte_byte : ∀ (q N : Nat), 8 * q ≤ N → ∀ (a0 : (Sl (Sl Int))), ∀ (r : (Ow Int)), slices_Concat_byte_byte q a0 = some r → (orc T N).deep F.slices_Concat_byte_byte [(Sl.enc (Sl.enc (V.int .u8))) a0] = some [(Ow.enc 1 (V.int .u8)) r] := by
  intro q N hM a0 r h
  rcases q with _ | q
  · cases h
  obtain ⟨M, rfl⟩ : ∃ M, N = M + 8 := ⟨N - 8, by omega⟩
  have ih_slices_Concat_byte_byte_l0 := (all_slices_Concat_byte_byte q).1
  generalize hR : some [(Ow.enc 1 (V.int .u8)) r] = R
  rw [orc_deep, T_slices_Concat_byte_byte, Option.bind_some, runDeep_eq]
  rw [slices_Concat_byte_byte] at h
  replace h := ih_slices_Concat_byte_byte_l0 M (by omega) (M + 7) (by omega) _ _ _ _ _ _ _ _ h R hR
  simp (maxDischargeDepth := 12) only [A_slices_Concat_byte_byte, kn, simprocAttr, qa, qb, qc, qd, Ow.enc, Sl.enc, *]
def A_frame_Encode := And.intro @kk <| And.intro @L_frame_Encode <| And.intro @v_slices_Concat_byte_byte <| And.intro @v_num_Put <| And.intro @v_frame_sum <| And.intro @rr_frame_Encode <| And.intro @ro_frame_Encode <| @b0_frame_Encode
theorem run_frame_Encode : ∀ (q N : Nat), 8 * q ≤ N → ∀ (a0 : (Sl Int)), ∀ (r : (Ow Int) × Int), frame_Encode q a0 = some r → (orc T N).deep F.frame_Encode [(Sl.enc (V.int .u8)) a0] = some [(Ow.enc 1 (V.int .u8)) r.1, (V.int .i64) r.2] := by
  intro q N hM a0 r h
  rcases q with _ | q
  · cases h
  obtain ⟨M, rfl⟩ : ∃ M, N = M + 8 := ⟨N - 8, by omega⟩
  generalize hR : some [(Ow.enc 1 (V.int .u8)) r.1, (V.int .i64) r.2] = R
  rw [orc_deep, T_frame_Encode, Option.bind_some, runDeep_eq]
  rw [frame_Encode] at h
  replace h := br h; rcases h with ⟨h1, h⟩ | ⟨h1, h⟩
  · cases h; subst hR; simp (maxDischargeDepth := 12) only [A_frame_Encode, kn, simprocAttr, qa, qb, qc, qd, Ow.enc, Sl.enc, *]
  · replace h := ob h; obtain ⟨r1, h2, h⟩ := h
    replace h2 := run_num_Put q (M + 7) (by omega) _ _ _ h2
    try simp only [Ow.enc, Sl.enc, kn, simprocAttr, qa, qb, qc, qd] at h2
    replace h := ob h; obtain ⟨r2, h3, h⟩ := h
    replace h3 := run_frame_sum q (M + 7) (by omega) _ _ _ h3
    try simp only [Ow.enc, Sl.enc, kn, simprocAttr, qa, qb, qc, qd] at h3
    replace h := ob h; obtain ⟨r3, h4, h⟩ := h
    replace h4 := run_slices_Concat_byte_byte q (M + 7) (by omega) _ _ h4
    try simp only [Ow.enc, Sl.enc, kn, simprocAttr, qa, qb, qc, qd] at h4
    cases h; subst hR; simp (maxDischargeDepth := 12) only [A_frame_Encode, kn, simprocAttr, qa, qb, qc, qd, Ow.enc, Sl.enc, *]
def A_segment_framed := And.intro @kk <| And.intro @L_segment_framed <| And.intro @v_frame_Encode <| And.intro @rr_segment_framed <| And.intro @ro_segment_framed <| @b0_segment_framed
theorem run_segment_framed : ∀ (q N : Nat), 8 * q ≤ N → ∀ (a0 : (Sl Int)), ∀ (r : (Ow Int)), segment_framed q a0 = some r → (orc T N).deep F.segment_framed [(Sl.enc (V.int .u8)) a0] = some [(Ow.enc 1 (V.int .u8)) r] := by
  intro q N hM a0 r h
  rcases q with _ | q
  · cases h
  obtain ⟨M, rfl⟩ : ∃ M, N = M + 8 := ⟨N - 8, by omega⟩
  generalize hR : some [(Ow.enc 1 (V.int .u8)) r] = R
  rw [orc_deep, T_segment_framed, Option.bind_some, runDeep_eq]
  rw [segment_framed] at h
  replace h := ob h; obtain ⟨r1, h1, h⟩ := h
  replace h1 := run_frame_Encode q (M + 7) (by omega) _ _ h1
  try simp only [Ow.enc, Sl.enc, kn, simprocAttr, qa, qb, qc, qd] at h1
  cases h; subst hR; simp (maxDischargeDepth := 12) only [A_segment_framed, kn, simprocAttr, qa, qb, qc, qd, Ow.enc, Sl.enc, *]
def A_segment_Head := And.intro @kk <| And.intro @L_segment_Head <| And.intro @v_segment_known <| And.intro @v_segment_framed <| And.intro @v_num_Put <| And.intro @rr_segment_Head <| And.intro @ro_segment_Head <| @b0_segment_Head
theorem run_segment_Head : ∀ (q N : Nat), 8 * q ≤ N → ∀ (a0 : Int) (a1 : Int) (a2 : Int), ∀ (r : (Ow Int) × Int), segment_Head q a0 a1 a2 = some r → (orc T N).deep F.segment_Head [(V.int .i64) a0, (V.int .i64) a1, (V.int .i64) a2] = some [(Ow.enc 1 (V.int .u8)) r.1, (V.int .i64) r.2] := by
  intro q N hM a0 a1 a2 r h
  rcases q with _ | q
  · cases h
  obtain ⟨M, rfl⟩ : ∃ M, N = M + 8 := ⟨N - 8, by omega⟩
  generalize hR : some [(Ow.enc 1 (V.int .u8)) r.1, (V.int .i64) r.2] = R
  rw [orc_deep, T_segment_Head, Option.bind_some, runDeep_eq]
  rw [segment_Head] at h
  replace h := ob h; obtain ⟨r1, h1, h⟩ := h
  replace h1 := run_segment_known q (M + 7) (by omega) _ _ h1
  replace h := bb h; rcases h with ⟨h2', h2, h⟩ | ⟨h2', h2, h⟩
  · replace h := br h; rcases h with ⟨h3, h⟩ | ⟨h3, h⟩
    · cases h; subst hR; simp (maxDischargeDepth := 12) only [A_segment_Head, kn, simprocAttr, qa, qb, qc, qd, Ow.enc, Sl.enc, *]
    · replace h := br h; rcases h with ⟨h4, h⟩ | ⟨h4, h⟩
      · cases h; subst hR; simp (maxDischargeDepth := 12) only [A_segment_Head, kn, simprocAttr, qa, qb, qc, qd, Ow.enc, Sl.enc, *]
      · replace h := br h; rcases h with ⟨h5, h⟩ | ⟨h5, h⟩
        · cases h; subst hR; simp (maxDischargeDepth := 12) only [A_segment_Head, kn, simprocAttr, qa, qb, qc, qd, Ow.enc, Sl.enc, *]
        · replace h := br h; rcases h with ⟨h6, h⟩ | ⟨h6, h⟩
          · cases h; subst hR; simp (maxDischargeDepth := 12) only [A_segment_Head, kn, simprocAttr, qa, qb, qc, qd, Ow.enc, Sl.enc, *]
          · replace h := ob h; obtain ⟨r2, h7, h⟩ := h
            replace h7 := run_num_Put q (M + 7) (by omega) _ _ _ h7
            try simp only [Ow.enc, Sl.enc, kn, simprocAttr, qa, qb, qc, qd] at h7
            replace h := ob h; obtain ⟨r3, h8, h⟩ := h
            replace h8 := run_num_Put q (M + 7) (by omega) _ _ _ h8
            try simp only [Ow.enc, Sl.enc, kn, simprocAttr, qa, qb, qc, qd] at h8
            replace h := ob h; obtain ⟨r4, h9, h⟩ := h
            replace h9 := run_num_Put q (M + 7) (by omega) _ _ _ h9
            try simp only [Ow.enc, Sl.enc, kn, simprocAttr, qa, qb, qc, qd] at h9
            replace h := ob h; obtain ⟨r5, h10, h⟩ := h
            replace h10 := run_segment_framed q (M + 7) (by omega) _ _ h10
            try simp only [Ow.enc, Sl.enc, kn, simprocAttr, qa, qb, qc, qd] at h10
            cases h; subst hR; simp (maxDischargeDepth := 12) only [A_segment_Head, kn, simprocAttr, qa, qb, qc, qd, Ow.enc, Sl.enc, *]
  · cases h; subst hR; simp (maxDischargeDepth := 12) only [A_segment_Head, kn, simprocAttr, qa, qb, qc, qd, Ow.enc, Sl.enc, *]
def A_objs_cut := And.intro @kk <| And.intro @L_objs_cut <| And.intro @rr_objs_cut <| And.intro @ro_objs_cut <| @b0_objs_cut
theorem run_objs_cut : ∀ (q N : Nat), 8 * q ≤ N → ∀ (a0 : Int), ∀ (r : Int), objs_cut q a0 = some r → (orc T N).deep F.objs_cut [(V.int .i64) a0] = some [(V.int .i64) r] := by
  intro q N hM a0 r h
  rcases q with _ | q
  · cases h
  obtain ⟨M, rfl⟩ : ∃ M, N = M + 8 := ⟨N - 8, by omega⟩
  generalize hR : some [(V.int .i64) r] = R
  rw [orc_deep, T_objs_cut, Option.bind_some, runDeep_eq]
  rw [objs_cut] at h
  cases h; subst hR; simp (maxDischargeDepth := 12) only [A_objs_cut, kn, simprocAttr, qa, qb, qc, qd, Ow.enc, Sl.enc, *]
def A_objs_Fits := And.intro @kk <| And.intro @L_objs_Fits <| And.intro @v_objs_cut <| And.intro @rr_objs_Fits <| And.intro @ro_objs_Fits <| @b0_objs_Fits
theorem run_objs_Fits : ∀ (q N : Nat), 8 * q ≤ N → ∀ (a0 : S_api_Op), ∀ (r : Bool), objs_Fits q a0 = some r → (orc T N).deep F.objs_Fits [S_api_Op.enc a0] = some [V.bool r] := by
  intro q N hM a0 r h
  rcases q with _ | q
  · cases h
  obtain ⟨M, rfl⟩ : ∃ M, N = M + 8 := ⟨N - 8, by omega⟩
  generalize hR : some [V.bool r] = R
  rw [orc_deep, T_objs_Fits, Option.bind_some, runDeep_eq]
  rw [objs_Fits] at h
  replace h := br h; rcases h with ⟨h1, h⟩ | ⟨h1, h⟩
  · replace h := br h; rcases h with ⟨h2, h⟩ | ⟨h2, h⟩
    · replace h := ob h; obtain ⟨r1, h3, h⟩ := h
      replace h3 := run_objs_cut q (M + 7) (by omega) _ _ h3
      replace h := br h; rcases h with ⟨h4, h⟩ | ⟨h4, h⟩
      · replace h := ob h; obtain ⟨r2, h5, h⟩ := h
        replace h5 := run_objs_cut q (M + 7) (by omega) _ _ h5
        cases h; subst hR; simp (maxDischargeDepth := 12) only [A_objs_Fits, kn, simprocAttr, qa, qb, qc, qd, Ow.enc, S_api_Op.enc, Sl.enc, *]
      · cases h; subst hR; simp (maxDischargeDepth := 12) only [A_objs_Fits, kn, simprocAttr, qa, qb, qc, qd, Ow.enc, S_api_Op.enc, Sl.enc, *]
    · cases h; subst hR; simp (maxDischargeDepth := 12) only [A_objs_Fits, kn, simprocAttr, qa, qb, qc, qd, Ow.enc, S_api_Op.enc, Sl.enc, *]
  · cases h; subst hR; simp (maxDischargeDepth := 12) only [A_objs_Fits, kn, simprocAttr, qa, qb, qc, qd, Ow.enc, S_api_Op.enc, Sl.enc, *]
def A_schema_Fits := And.intro @kk <| And.intro @L_schema_Fits <| And.intro @v_objs_Fits <| And.intro @rr_schema_Fits <| And.intro @ro_schema_Fits <| @b0_schema_Fits
theorem run_schema_Fits : ∀ (q N : Nat), 8 * q ≤ N → ∀ (a0 : S_api_Record), ∀ (r : Bool), schema_Fits q a0 = some r → (orc T N).deep F.schema_Fits [S_api_Record.enc a0] = some [V.bool r] := by
  intro q N hM a0 r h
  rcases q with _ | q
  · cases h
  obtain ⟨M, rfl⟩ : ∃ M, N = M + 8 := ⟨N - 8, by omega⟩
  generalize hR : some [V.bool r] = R
  rw [orc_deep, T_schema_Fits, Option.bind_some, runDeep_eq]
  rw [schema_Fits] at h
  replace h := br h; rcases h with ⟨h1, h⟩ | ⟨h1, h⟩
  · replace h := br h; rcases h with ⟨h2, h⟩ | ⟨h2, h⟩
    · replace h := br h; rcases h with ⟨h3, h⟩ | ⟨h3, h⟩
      · replace h := br h; rcases h with ⟨h4, h⟩ | ⟨h4, h⟩
        · replace h := br h; rcases h with ⟨h5, h⟩ | ⟨h5, h⟩
          · replace h := br h; rcases h with ⟨h6, h⟩ | ⟨h6, h⟩
            · replace h := ob h; obtain ⟨r1, h7, h⟩ := h
              replace h7 := run_objs_Fits q (M + 7) (by omega) _ _ h7
              try simp only [Ow.enc, S_api_Op.enc, kn, simprocAttr, qa, qb, qc, qd] at h7
              replace h := bb h; rcases h with ⟨h8', h8, h⟩ | ⟨h8', h8, h⟩
              · replace h := br h; rcases h with ⟨h9, h⟩ | ⟨h9, h⟩
                · cases h; subst hR; simp (maxDischargeDepth := 12) only [A_schema_Fits, kn, simprocAttr, qa, qb, qc, qd, Ow.enc, S_api_Op.enc, S_api_Record.enc, Sl.enc, *]
                · cases h; subst hR; simp (maxDischargeDepth := 12) only [A_schema_Fits, kn, simprocAttr, qa, qb, qc, qd, Ow.enc, S_api_Op.enc, S_api_Record.enc, Sl.enc, *]
              · cases h; subst hR; simp (maxDischargeDepth := 12) only [A_schema_Fits, kn, simprocAttr, qa, qb, qc, qd, Ow.enc, S_api_Op.enc, S_api_Record.enc, Sl.enc, *]
            · cases h; subst hR; simp (maxDischargeDepth := 12) only [A_schema_Fits, kn, simprocAttr, qa, qb, qc, qd, Ow.enc, S_api_Op.enc, S_api_Record.enc, Sl.enc, *]
          · cases h; subst hR; simp (maxDischargeDepth := 12) only [A_schema_Fits, kn, simprocAttr, qa, qb, qc, qd, Ow.enc, S_api_Op.enc, S_api_Record.enc, Sl.enc, *]
        · cases h; subst hR; simp (maxDischargeDepth := 12) only [A_schema_Fits, kn, simprocAttr, qa, qb, qc, qd, Ow.enc, S_api_Op.enc, S_api_Record.enc, Sl.enc, *]
      · cases h; subst hR; simp (maxDischargeDepth := 12) only [A_schema_Fits, kn, simprocAttr, qa, qb, qc, qd, Ow.enc, S_api_Op.enc, S_api_Record.enc, Sl.enc, *]
    · cases h; subst hR; simp (maxDischargeDepth := 12) only [A_schema_Fits, kn, simprocAttr, qa, qb, qc, qd, Ow.enc, S_api_Op.enc, S_api_Record.enc, Sl.enc, *]
  · cases h; subst hR; simp (maxDischargeDepth := 12) only [A_schema_Fits, kn, simprocAttr, qa, qb, qc, qd, Ow.enc, S_api_Op.enc, S_api_Record.enc, Sl.enc, *]
def St_segment_fit_l0 (q : Nat) : Prop := ∀ (M : Nat) (hM : 8 * q ≤ M) (j : Nat) (hj : q ≤ j) (v0z : Bool) (v0l : List S_api_Record) (v1 : Int) (v7z : Bool) (v7l : List S_api_Record) (v8 : Int) (v9 : Int) (r : Bool) (_ : segment_fit_l0 q v0z v0l v1 v7z v7l v8 v9 = some r) (R : Option (List V)) (_ : some [V.bool r] = R) (fr : Fr) (H : Hp) (_ : canon 0 [0, 1, 7, 8, 9] fr H = ([(0, (.sl v0z (List.map S_api_Record.enc v0l))), (1, (.int .i64 v1)), (7, (.sl v7z (List.map S_api_Record.enc v7l))), (8, (.int .i64 v8)), (9, (.int .i64 v9))], [])), fin m_segment_fit (unw T (orc T (M + 7)) (M + 7) 0 [.blk 0, .code c_20_16] (iter 0 [0, 1, 7, 8, 9] (exec T (orc T (M + 7)) (M + 7) 0 c_20_13) j fr H)) = R
def A_segment_fit := And.intro @kk <| And.intro @L_segment_fit <| And.intro @v_schema_Fits <| And.intro @rr_segment_fit <| And.intro @ro_segment_fit <| @b0_segment_fit
theorem step_segment_fit_l0 (q : Nat) (ih_segment_fit_l0 : St_segment_fit_l0 q) : St_segment_fit_l0 (q + 1) := by
  intro M hM j hj v0z v0l v1 v7z v7l v8 v9 r h R hR fr H hc
  obtain ⟨j, rfl⟩ : ∃ i, j = i + 1 := ⟨j - 1, by omega⟩
  rw [unw_iter, hc]; clear hc
  rw [segment_fit_l0] at h
  replace h := br h; rcases h with ⟨h1, h⟩ | ⟨h1, h⟩
  · replace h := br h; rcases h with ⟨h2, h⟩ | ⟨h2, h⟩
    · replace h := ob h; obtain ⟨e1, h3, h⟩ := h
      replace h := ob h; obtain ⟨r2, h4, h⟩ := h
      replace h4 := run_schema_Fits q (M + 7) (by omega) _ _ h4
      try simp only [Ow.enc, S_api_Op.enc, S_api_Record.enc, kn, simprocAttr, qa, qb, qc, qd] at h4
      replace h := bb h; rcases h with ⟨h5', h5, h⟩ | ⟨h5', h5, h⟩
      · replace h := br h; rcases h with ⟨h6, h⟩ | ⟨h6, h⟩
        · try simp only [kn, simprocAttr, qa, qb, qc, qd] at h6
          replace h := ih_segment_fit_l0 M (by omega) j (by omega) _ _ _ _ _ _ _ _ h R hR
          simp (maxDischargeDepth := 12) only [A_segment_fit, kn, simprocAttr, qa, qb, qc, qd, Ow.enc, S_api_Op.enc, S_api_Record.enc, Sl.enc, *]
        · try simp only [kn, simprocAttr, qa, qb, qc, qd] at h6
          cases h; subst hR; simp (maxDischargeDepth := 12) only [A_segment_fit, kn, simprocAttr, qa, qb, qc, qd, Ow.enc, S_api_Op.enc, S_api_Record.enc, Sl.enc, *]
      · cases h; subst hR; simp (maxDischargeDepth := 12) only [A_segment_fit, kn, simprocAttr, qa, qb, qc, qd, Ow.enc, S_api_Op.enc, S_api_Record.enc, Sl.enc, *]
    · cases h
  · cases h; subst hR; simp (maxDischargeDepth := 12) only [A_segment_fit, kn, simprocAttr, qa, qb, qc, qd, Ow.enc, S_api_Op.enc, S_api_Record.enc, Sl.enc, *]
theorem all_segment_fit : ∀ q, St_segment_fit_l0 q
  | 0 => by intro M hM j hj; intros; rename_i h _ _ _ _ _; cases h
  | q + 1 => by have i0 := all_segment_fit q; exact step_segment_fit_l0 q i0
theorem run_segment_fit : ∀ (q N : Nat), 8 * q ≤ N → ∀ (a0 : (Sl S_api_Record)) (a1 : Int), ∀ (r : Bool), segment_fit q a0 a1 = some r → (orc T N).deep F.segment_fit [(Sl.enc S_api_Record.enc) a0, (V.int .i64) a1] = some [V.bool r] := by
  intro q N hM a0 a1 r h
  rcases q with _ | q
  · cases h
  obtain ⟨M, rfl⟩ : ∃ M, N = M + 8 := ⟨N - 8, by omega⟩
  have ih_segment_fit_l0 := (all_segment_fit q)
  generalize hR : some [V.bool r] = R
  rw [orc_deep, T_segment_fit, Option.bind_some, runDeep_eq]
  rw [segment_fit] at h
  replace h := ih_segment_fit_l0 M (by omega) (M + 7) (by omega) _ _ _ _ _ _ _ _ h R hR
  simp (maxDischargeDepth := 12) only [A_segment_fit, kn, simprocAttr, qa, qb, qc, qd, Ow.enc, S_api_Op.enc, S_api_Record.enc, Sl.enc, *]
def St_block_Fits_l0 (q : Nat) : Prop := ∀ (M : Nat) (hM : 8 * q ≤ M) (j : Nat) (hj : q ≤ j) (v0z : Bool) (v0l : List S_api_Record) (v5z : Bool) (v5l : List S_api_Record) (v6 : Int) (v7 : Int) (r : Bool) (_ : block_Fits_l0 q v0z v0l v5z v5l v6 v7 = some r) (R : Option (List V)) (_ : some [V.bool r] = R) (fr : Fr) (H : Hp) (_ : canon 0 [0, 5, 6, 7] fr H = ([(0, (.sl v0z (List.map S_api_Record.enc v0l))), (5, (.sl v5z (List.map S_api_Record.enc v5l))), (6, (.int .i64 v6)), (7, (.int .i64 v7))], [])), fin m_block_Fits (unw T (orc T (M + 7)) (M + 7) 0 [.blk 0, .code c_70_16] (iter 0 [0, 5, 6, 7] (exec T (orc T (M + 7)) (M + 7) 0 c_70_13) j fr H)) = R
def A_block_Fits := And.intro @kk <| And.intro @L_block_Fits <| And.intro @v_schema_Fits <| And.intro @rr_block_Fits <| And.intro @ro_block_Fits <| @b0_block_Fits
theorem step_block_Fits_l0 (q : Nat) (ih_block_Fits_l0 : St_block_Fits_l0 q) : St_block_Fits_l0 (q + 1) := by
  intro M hM j hj v0z v0l v5z v5l v6 v7 r h R hR fr H hc
  obtain ⟨j, rfl⟩ : ∃ i, j = i + 1 := ⟨j - 1, by omega⟩
  rw [unw_iter, hc]; clear hc
  rw [block_Fits_l0] at h
  replace h := br h; rcases h with ⟨h1, h⟩ | ⟨h1, h⟩
  · replace h := br h; rcases h with ⟨h2, h⟩ | ⟨h2, h⟩
    · replace h := ob h; obtain ⟨e1, h3, h⟩ := h
      replace h := ob h; obtain ⟨r2, h4, h⟩ := h
      replace h4 := run_schema_Fits q (M + 7) (by omega) _ _ h4
      try simp only [Ow.enc, S_api_Op.enc, S_api_Record.enc, kn, simprocAttr, qa, qb, qc, qd] at h4
      replace h := bb h; rcases h with ⟨h5', h5, h⟩ | ⟨h5', h5, h⟩
      · replace h := ob h; obtain ⟨e3, h6, h⟩ := h
        replace h := br h; rcases h with ⟨h7, h⟩ | ⟨h7, h⟩
        · try simp only [kn, simprocAttr, qa, qb, qc, qd] at h7
          replace h := ih_block_Fits_l0 M (by omega) j (by omega) _ _ _ _ _ _ _ h R hR
          simp (maxDischargeDepth := 12) only [A_block_Fits, kn, simprocAttr, qa, qb, qc, qd, Ow.enc, S_api_Op.enc, S_api_Record.enc, Sl.enc, *]
        · try simp only [kn, simprocAttr, qa, qb, qc, qd] at h7
          cases h; subst hR; simp (maxDischargeDepth := 12) only [A_block_Fits, kn, simprocAttr, qa, qb, qc, qd, Ow.enc, S_api_Op.enc, S_api_Record.enc, Sl.enc, *]
      · cases h; subst hR; simp (maxDischargeDepth := 12) only [A_block_Fits, kn, simprocAttr, qa, qb, qc, qd, Ow.enc, S_api_Op.enc, S_api_Record.enc, Sl.enc, *]
    · cases h
  · replace h := br h; rcases h with ⟨h8, h⟩ | ⟨h8, h⟩
    · cases h; subst hR; simp (maxDischargeDepth := 12) only [A_block_Fits, kn, simprocAttr, qa, qb, qc, qd, Ow.enc, S_api_Op.enc, S_api_Record.enc, Sl.enc, *]
    · cases h; subst hR; simp (maxDischargeDepth := 12) only [A_block_Fits, kn, simprocAttr, qa, qb, qc, qd, Ow.enc, S_api_Op.enc, S_api_Record.enc, Sl.enc, *]
theorem all_block_Fits : ∀ q, St_block_Fits_l0 q
  | 0 => by intro M hM j hj; intros; rename_i h _ _ _ _ _; cases h
  | q + 1 => by have i0 := all_block_Fits q; exact step_block_Fits_l0 q i0
theorem run_block_Fits : ∀ (q N : Nat), 8 * q ≤ N → ∀ (a0 : (Sl S_api_Record)), ∀ (r : Bool), block_Fits q a0 = some r → (orc T N).deep F.block_Fits [(Sl.enc S_api_Record.enc) a0] = some [V.bool r] := by
  intro q N hM a0 r h
  rcases q with _ | q
  · cases h
  obtain ⟨M, rfl⟩ : ∃ M, N = M + 8 := ⟨N - 8, by omega⟩
  have ih_block_Fits_l0 := (all_block_Fits q)
  generalize hR : some [V.bool r] = R
  rw [orc_deep, T_block_Fits, Option.bind_some, runDeep_eq]
  rw [block_Fits] at h
  replace h := ih_block_Fits_l0 M (by omega) (M + 7) (by omega) _ _ _ _ _ _ _ h R hR
  simp (maxDischargeDepth := 12) only [A_block_Fits, kn, simprocAttr, qa, qb, qc, qd, Ow.enc, S_api_Op.enc, S_api_Record.enc, Sl.enc, *]
def A_num_Zig := And.intro @kk <| And.intro @L_num_Zig <| And.intro @rr_num_Zig <| And.intro @ro_num_Zig <| @b0_num_Zig
theorem run_num_Zig : ∀ (q N : Nat), 8 * q ≤ N → ∀ (a0 : Int), ∀ (r : Int), num_Zig q a0 = some r → (orc T N).deep F.num_Zig [(V.int .i64) a0] = some [(V.int .u64) r] := by
  intro q N hM a0 r h
  rcases q with _ | q
  · cases h
  obtain ⟨M, rfl⟩ : ∃ M, N = M + 8 := ⟨N - 8, by omega⟩
  generalize hR : some [(V.int .u64) r] = R
  rw [orc_deep, T_num_Zig, Option.bind_some, runDeep_eq]
  rw [num_Zig] at h
  cases h; subst hR; simp (maxDischargeDepth := 12) only [A_num_Zig, kn, simprocAttr, qa, qb, qc, qd, Ow.enc, Sl.enc, *]
def A_num_PutSigned := And.intro @kk <| And.intro @L_num_PutSigned <| And.intro @v_num_groups <| And.intro @v_num_Zig <| And.intro @rr_num_PutSigned <| And.intro @ro_num_PutSigned <| @b0_num_PutSigned
theorem run_num_PutSigned : ∀ (q N : Nat), 8 * q ≤ N → ∀ (a0 : (Ow Int)) (a1 : Int), ∀ (r : (Ow Int)), num_PutSigned q a0 a1 = some r → (orc T N).deep F.num_PutSigned [(Ow.enc 1 (V.int .u8)) a0, (V.int .i64) a1] = some [(Ow.enc 1 (V.int .u8)) r] := by
  intro q N hM a0 a1 r h
  rcases q with _ | q
  · cases h
  obtain ⟨M, rfl⟩ : ∃ M, N = M + 8 := ⟨N - 8, by omega⟩
  generalize hR : some [(Ow.enc 1 (V.int .u8)) r] = R
  rw [orc_deep, T_num_PutSigned, Option.bind_some, runDeep_eq]
  rw [num_PutSigned] at h
  replace h := ob h; obtain ⟨r1, h1, h⟩ := h
  replace h1 := run_num_Zig q (M + 7) (by omega) _ _ h1
  replace h := ob h; obtain ⟨r2, h2, h⟩ := h
  replace h2 := run_num_groups q (M + 7) (by omega) _ _ _ h2
  try simp only [Ow.enc, Sl.enc, kn, simprocAttr, qa, qb, qc, qd] at h2
  cases h; subst hR; simp (maxDischargeDepth := 12) only [A_num_PutSigned, kn, simprocAttr, qa, qb, qc, qd, Ow.enc, Sl.enc, *]
def A_codec_PutOp := And.intro @kk <| And.intro @L_codec_PutOp <| And.intro @v_num_Put <| And.intro @v_objs_Fits <| And.intro @v_num_PutSigned <| And.intro @rr_codec_PutOp <| And.intro @ro_codec_PutOp <| @b0_codec_PutOp
theorem run_codec_PutOp : ∀ (q N : Nat), 8 * q ≤ N → ∀ (a0 : (Ow Int)) (a1 : S_api_Op), ∀ (r : (Ow Int) × Int), codec_PutOp q a0 a1 = some r → (orc T N).deep F.codec_PutOp [(Ow.enc 1 (V.int .u8)) a0, S_api_Op.enc a1] = some [(Ow.enc 1 (V.int .u8)) r.1, (V.int .i64) r.2] := by
  intro q N hM a0 a1 r h
  rcases q with _ | q
  · cases h
  obtain ⟨M, rfl⟩ : ∃ M, N = M + 8 := ⟨N - 8, by omega⟩
  generalize hR : some [(Ow.enc 1 (V.int .u8)) r.1, (V.int .i64) r.2] = R
  rw [orc_deep, T_codec_PutOp, Option.bind_some, runDeep_eq]
  rw [codec_PutOp] at h
  replace h := ob h; obtain ⟨r1, h1, h⟩ := h
  replace h1 := run_objs_Fits q (M + 7) (by omega) _ _ h1
  try simp only [Ow.enc, S_api_Op.enc, kn, simprocAttr, qa, qb, qc, qd] at h1
  replace h := bb h; rcases h with ⟨h2', h2, h⟩ | ⟨h2', h2, h⟩
  · replace h := ob h; obtain ⟨r2, h3, h⟩ := h
    replace h3 := run_num_Put q (M + 7) (by omega) _ _ _ h3
    try simp only [Ow.enc, Sl.enc, kn, simprocAttr, qa, qb, qc, qd] at h3
    replace h := ob h; obtain ⟨r3, h4, h⟩ := h
    replace h4 := run_num_PutSigned q (M + 7) (by omega) _ _ _ h4
    try simp only [Ow.enc, Sl.enc, kn, simprocAttr, qa, qb, qc, qd] at h4
    replace h := ob h; obtain ⟨r4, h5, h⟩ := h
    replace h5 := run_num_PutSigned q (M + 7) (by omega) _ _ _ h5
    try simp only [Ow.enc, Sl.enc, kn, simprocAttr, qa, qb, qc, qd] at h5
    cases h; subst hR; simp (maxDischargeDepth := 12) only [A_codec_PutOp, kn, simprocAttr, qa, qb, qc, qd, Ow.enc, S_api_Op.enc, Sl.enc, *]
  · cases h; subst hR; simp (maxDischargeDepth := 12) only [A_codec_PutOp, kn, simprocAttr, qa, qb, qc, qd, Ow.enc, S_api_Op.enc, Sl.enc, *]
def St_block_Encode_l0 (q : Nat) : Prop := ∀ (M : Nat) (hM : 8 * q ≤ M) (j : Nat) (hj : q ≤ j) (v20z : Bool) (v20l : List S_api_Record) (v21 : Int) (v22 : Int) (h0m : List (Int × Int)) (h1z : Bool) (h1l : List Int) (h1x : Bool) (r : (Ow Int) × Int) (_ : block_Encode_l0 q v20z v20l v21 v22 h0m h1z h1l h1x = some r) (R : Option (List V)) (_ : some [(Ow.enc 1 (V.int .u8)) r.1, (V.int .i64) r.2] = R) (fr : Fr) (H : Hp) (_ : canon 0 [4, 5, 20, 21, 22] fr H = ([(4, (.mp 0)), (5, (.vw 1 0 0 h1l.length 1)), (20, (.sl v20z (List.map S_api_Record.enc v20l))), (21, (.int .i64 v21)), (22, (.int .i64 v22))], [(.map h0m), (.row 0 h1z 1 (List.map (V.int .u8) h1l) h1x)])), fin m_block_Encode (unw T (orc T (M + 7)) (M + 7) 0 [.blk 0, .code c_58_25] (iter 0 [4, 5, 20, 21, 22] (exec T (orc T (M + 7)) (M + 7) 0 c_58_22) j fr H)) = R
def A_block_Encode := And.intro @kk <| And.intro @L_block_Encode <| And.intro @v_num_Put <| And.intro @v_block_Fits <| And.intro @v_num_PutSigned <| And.intro @v_codec_PutOp <| And.intro @rr_block_Encode <| And.intro @ro_block_Encode <| @b0_block_Encode
theorem step_block_Encode_l0 (q : Nat) (ih_block_Encode_l0 : St_block_Encode_l0 q) : St_block_Encode_l0 (q + 1) := by
  intro M hM j hj v20z v20l v21 v22 h0m h1z h1l h1x r h R hR fr H hc
  obtain ⟨j, rfl⟩ : ∃ i, j = i + 1 := ⟨j - 1, by omega⟩
  rw [unw_iter, hc]; clear hc
  rw [block_Encode_l0] at h
  replace h := br h; rcases h with ⟨h1, h⟩ | ⟨h1, h⟩
  · replace h := br h; rcases h with ⟨h2, h⟩ | ⟨h2, h⟩
    · replace h := ob h; obtain ⟨e5, h3, h⟩ := h
      replace h := ob h; obtain ⟨r6, h4, h⟩ := h
      replace h4 := run_num_Put q (M + 7) (by omega) _ _ _ h4
      try simp only [Ow.enc, Sl.enc, kn, simprocAttr, qa, qb, qc, qd] at h4
      replace h := ob h; obtain ⟨r7, h5, h⟩ := h
      replace h5 := run_num_PutSigned q (M + 7) (by omega) _ _ _ h5
      try simp only [Ow.enc, Sl.enc, kn, simprocAttr, qa, qb, qc, qd] at h5
      replace h := ob h; obtain ⟨r8, h6, h⟩ := h
      replace h6 := run_codec_PutOp q (M + 7) (by omega) _ _ _ h6
      try simp only [Ow.enc, S_api_Op.enc, Sl.enc, kn, simprocAttr, qa, qb, qc, qd] at h6
      replace h := ob h; obtain ⟨r9, h7, h⟩ := h
      replace h7 := run_num_PutSigned q (M + 7) (by omega) _ _ _ h7
      try simp only [Ow.enc, Sl.enc, kn, simprocAttr, qa, qb, qc, qd] at h7
      replace h := ih_block_Encode_l0 M (by omega) j (by omega) _ _ _ _ _ _ _ _ _ h R hR
      simp (maxDischargeDepth := 12) only [A_block_Encode, kn, simprocAttr, qa, qb, qc, qd, Ow.enc, S_api_Op.enc, S_api_Record.enc, Sl.enc, *]
    · cases h
  · cases h; subst hR; simp (maxDischargeDepth := 12) only [A_block_Encode, kn, simprocAttr, qa, qb, qc, qd, Ow.enc, S_api_Op.enc, S_api_Record.enc, Sl.enc, *]
theorem all_block_Encode : ∀ q, St_block_Encode_l0 q
  | 0 => by intro M hM j hj; intros; rename_i h _ _ _ _ _; cases h
  | q + 1 => by have i0 := all_block_Encode q; exact step_block_Encode_l0 q i0
theorem run_block_Encode : ∀ (q N : Nat), 8 * q ≤ N → ∀ (a0 : (Sl S_api_Record)), ∀ (r : (Ow Int) × Int), block_Encode q a0 = some r → (orc T N).deep F.block_Encode [(Sl.enc S_api_Record.enc) a0] = some [(Ow.enc 1 (V.int .u8)) r.1, (V.int .i64) r.2] := by
  intro q N hM a0 r h
  rcases q with _ | q
  · cases h
  obtain ⟨M, rfl⟩ : ∃ M, N = M + 8 := ⟨N - 8, by omega⟩
  have ih_block_Encode_l0 := (all_block_Encode q)
  generalize hR : some [(Ow.enc 1 (V.int .u8)) r.1, (V.int .i64) r.2] = R
  rw [orc_deep, T_block_Encode, Option.bind_some, runDeep_eq]
  rw [block_Encode] at h
  replace h := ob h; obtain ⟨r1, h1, h⟩ := h
  replace h1 := run_block_Fits q (M + 7) (by omega) _ _ h1
  try simp only [Ow.enc, S_api_Op.enc, S_api_Record.enc, Sl.enc, kn, simprocAttr, qa, qb, qc, qd] at h1
  replace h := bb h; rcases h with ⟨h2', h2, h⟩ | ⟨h2', h2, h⟩
  · replace h := ob h; obtain ⟨e2, h3, h⟩ := h
    replace h := ob h; obtain ⟨r3, h4, h⟩ := h
    replace h4 := run_num_Put q (M + 7) (by omega) _ _ _ h4
    try simp only [Ow.enc, Sl.enc, kn, simprocAttr, qa, qb, qc, qd] at h4
    replace h := ob h; obtain ⟨r4, h5, h⟩ := h
    replace h5 := run_num_Put q (M + 7) (by omega) _ _ _ h5
    try simp only [Ow.enc, Sl.enc, kn, simprocAttr, qa, qb, qc, qd] at h5
    replace h := ih_block_Encode_l0 M (by omega) (M + 7) (by omega) _ _ _ _ _ _ _ _ _ h R hR
    simp (maxDischargeDepth := 12) only [A_block_Encode, kn, simprocAttr, qa, qb, qc, qd, Ow.enc, S_api_Op.enc, S_api_Record.enc, Sl.enc, *]
  · cases h; subst hR; simp (maxDischargeDepth := 12) only [A_block_Encode, kn, simprocAttr, qa, qb, qc, qd, Ow.enc, S_api_Op.enc, S_api_Record.enc, Sl.enc, *]
def A_schema_fields := And.intro @kk <| And.intro @L_schema_fields <| And.intro @rr_schema_fields <| And.intro @ro_schema_fields <| @b0_schema_fields
theorem run_schema_fields : ∀ (q N : Nat), 8 * q ≤ N → ∀ (a0 : Int), ∀ (r : (Ow Int)), schema_fields q a0 = some r → (orc T N).deep F.schema_fields [(V.int .i64) a0] = some [(Ow.enc 1 (V.int .i64)) r] := by
  intro q N hM a0 r h
  rcases q with _ | q
  · cases h
  obtain ⟨M, rfl⟩ : ∃ M, N = M + 8 := ⟨N - 8, by omega⟩
  generalize hR : some [(Ow.enc 1 (V.int .i64)) r] = R
  rw [orc_deep, T_schema_fields, Option.bind_some, runDeep_eq]
  rw [schema_fields] at h
  replace h := br h; rcases h with ⟨h1, h⟩ | ⟨h1, h⟩
  · cases h; subst hR; simp (maxDischargeDepth := 12) only [A_schema_fields, kn, simprocAttr, qa, qb, qc, qd, Ow.enc, Sl.enc, *]
  · replace h := br h; rcases h with ⟨h2, h⟩ | ⟨h2, h⟩
    · cases h; subst hR; simp (maxDischargeDepth := 12) only [A_schema_fields, kn, simprocAttr, qa, qb, qc, qd, Ow.enc, Sl.enc, *]
    · replace h := br h; rcases h with ⟨h3, h⟩ | ⟨h3, h⟩
      · replace h := br h; rcases h with ⟨h4, h⟩ | ⟨h4, h⟩
        · replace h := bc h; rcases h with ⟨h5, h⟩ | ⟨h5, h⟩
          · cases h; subst hR; simp (maxDischargeDepth := 12) only [A_schema_fields, kn, simprocAttr, qa, qb, qc, qd, Ow.enc, Sl.enc, *]
          · replace h := bc h; rcases h with ⟨h6, h⟩ | ⟨h6, h⟩
            · cases h; subst hR; simp (maxDischargeDepth := 12) only [A_schema_fields, kn, simprocAttr, qa, qb, qc, qd, Ow.enc, Sl.enc, *]
            · replace h := bc h; rcases h with ⟨h7, h⟩ | ⟨h7, h⟩
              · cases h; subst hR; simp (maxDischargeDepth := 12) only [A_schema_fields, kn, simprocAttr, qa, qb, qc, qd, Ow.enc, Sl.enc, *]
              · replace h := bc h; rcases h with ⟨h8, h⟩ | ⟨h8, h⟩
                · cases h; subst hR; simp (maxDischargeDepth := 12) only [A_schema_fields, kn, simprocAttr, qa, qb, qc, qd, Ow.enc, Sl.enc, *]
                · cases h
        · cases h
      · cases h
def A_schema_put := And.intro @kk <| And.intro @L_schema_put <| And.intro @v_num_Put <| And.intro @v_num_PutSigned <| And.intro @v_codec_PutOp <| And.intro @rr_schema_put <| And.intro @ro_schema_put <| @b0_schema_put
theorem run_schema_put : ∀ (q N : Nat), 8 * q ≤ N → ∀ (a0 : (Ow Int)) (a1 : Int) (a2 : S_api_Record), ∀ (r : (Ow Int)), schema_put q a0 a1 a2 = some r → (orc T N).deep F.schema_put [(Ow.enc 1 (V.int .u8)) a0, (V.int .i64) a1, S_api_Record.enc a2] = some [(Ow.enc 1 (V.int .u8)) r] := by
  intro q N hM a0 a1 a2 r h
  rcases q with _ | q
  · cases h
  obtain ⟨M, rfl⟩ : ∃ M, N = M + 8 := ⟨N - 8, by omega⟩
  generalize hR : some [(Ow.enc 1 (V.int .u8)) r] = R
  rw [orc_deep, T_schema_put, Option.bind_some, runDeep_eq]
  rw [schema_put] at h
  replace h := ob h; obtain ⟨r1, h1, h⟩ := h
  replace h1 := run_num_Put q (M + 7) (by omega) _ _ _ h1
  try simp only [Ow.enc, Sl.enc, kn, simprocAttr, qa, qb, qc, qd] at h1
  replace h := br h; rcases h with ⟨h2, h⟩ | ⟨h2, h⟩
  · replace h := ob h; obtain ⟨r2, h3, h⟩ := h
    replace h3 := run_num_Put q (M + 7) (by omega) _ _ _ h3
    try simp only [Ow.enc, Sl.enc, kn, simprocAttr, qa, qb, qc, qd] at h3
    cases h; subst hR; simp (maxDischargeDepth := 12) only [A_schema_put, kn, simprocAttr, qa, qb, qc, qd, Ow.enc, S_api_Op.enc, S_api_Record.enc, Sl.enc, *]
  · replace h := br h; rcases h with ⟨h4, h⟩ | ⟨h4, h⟩
    · replace h := ob h; obtain ⟨r3, h5, h⟩ := h
      replace h5 := run_num_Put q (M + 7) (by omega) _ _ _ h5
      try simp only [Ow.enc, Sl.enc, kn, simprocAttr, qa, qb, qc, qd] at h5
      cases h; subst hR; simp (maxDischargeDepth := 12) only [A_schema_put, kn, simprocAttr, qa, qb, qc, qd, Ow.enc, S_api_Op.enc, S_api_Record.enc, Sl.enc, *]
    · replace h := br h; rcases h with ⟨h6, h⟩ | ⟨h6, h⟩
      · replace h := ob h; obtain ⟨r4, h7, h⟩ := h
        replace h7 := run_num_Put q (M + 7) (by omega) _ _ _ h7
        try simp only [Ow.enc, Sl.enc, kn, simprocAttr, qa, qb, qc, qd] at h7
        cases h; subst hR; simp (maxDischargeDepth := 12) only [A_schema_put, kn, simprocAttr, qa, qb, qc, qd, Ow.enc, S_api_Op.enc, S_api_Record.enc, Sl.enc, *]
      · replace h := br h; rcases h with ⟨h8, h⟩ | ⟨h8, h⟩
        · replace h := ob h; obtain ⟨r5, h9, h⟩ := h
          replace h9 := run_codec_PutOp q (M + 7) (by omega) _ _ _ h9
          try simp only [Ow.enc, S_api_Op.enc, Sl.enc, kn, simprocAttr, qa, qb, qc, qd] at h9
          cases h; subst hR; simp (maxDischargeDepth := 12) only [A_schema_put, kn, simprocAttr, qa, qb, qc, qd, Ow.enc, S_api_Op.enc, S_api_Record.enc, Sl.enc, *]
        · replace h := ob h; obtain ⟨r6, h10, h⟩ := h
          replace h10 := run_num_PutSigned q (M + 7) (by omega) _ _ _ h10
          try simp only [Ow.enc, Sl.enc, kn, simprocAttr, qa, qb, qc, qd] at h10
          cases h; subst hR; simp (maxDischargeDepth := 12) only [A_schema_put, kn, simprocAttr, qa, qb, qc, qd, Ow.enc, S_api_Op.enc, S_api_Record.enc, Sl.enc, *]
def St_schema_Encode_l0 (q : Nat) : Prop := ∀ (M : Nat) (hM : 8 * q ≤ M) (j : Nat) (hj : q ≤ j) (v22 : Int) (v23 : Int) (h0_0 : Int) (h0_1 : Int) (h0_2 : Int) (h0_3 : Int) (h0_4 : Int) (h0_5 : Int) (h0_6 : Int) (h1z : Bool) (h1l : List Int) (h1x : Bool) (h2z : Bool) (h2l : List Int) (h2x : Bool) (r : (Ow Int) × Int) (_ : schema_Encode_l0 q v22 v23 h0_0 h0_1 h0_2 h0_3 h0_4 h0_5 h0_6 h1z h1l h1x h2z h2l h2x = some r) (R : Option (List V)) (_ : some [(Ow.enc 1 (V.int .u8)) r.1, (V.int .i64) r.2] = R) (fr : Fr) (H : Hp) (_ : canon 0 [3, 7, 21, 22, 23] fr H = ([(3, (.ptr 0 0)), (7, (.vw 1 0 0 h1l.length 1)), (21, (.vw 2 0 0 h2l.length 1)), (22, (.int .i64 v22)), (23, (.int .i64 v23))], [(.box [(.int .i64 h0_0), (.int .i64 h0_1), (.int .i64 h0_2), (.int .i64 h0_3), (.int .i64 h0_4), (.int .i64 h0_5), (.int .i64 h0_6)]), (.row 0 h1z 1 (List.map (V.int .u8) h1l) h1x), (.row 0 h2z 1 (List.map (V.int .i64) h2l) h2x)])), fin m_schema_Encode (unw T (orc T (M + 7)) (M + 7) 0 [.blk 1, .code c_59_22] (iter 0 [3, 7, 21, 22, 23] (exec T (orc T (M + 7)) (M + 7) 0 c_59_19) j fr H)) = R
def A_schema_Encode := And.intro @kk <| And.intro @L_schema_Encode <| And.intro @v_num_Put <| And.intro @v_schema_Fits <| And.intro @v_schema_fields <| And.intro @v_schema_put <| And.intro @rr_schema_Encode <| And.intro @ro_schema_Encode <| @b0_schema_Encode
theorem step_schema_Encode_l0 (q : Nat) (ih_schema_Encode_l0 : St_schema_Encode_l0 q) : St_schema_Encode_l0 (q + 1) := by
  intro M hM j hj v22 v23 h0_0 h0_1 h0_2 h0_3 h0_4 h0_5 h0_6 h1z h1l h1x h2z h2l h2x r h R hR fr H hc
  obtain ⟨j, rfl⟩ : ∃ i, j = i + 1 := ⟨j - 1, by omega⟩
  rw [unw_iter, hc]; clear hc
  rw [schema_Encode_l0] at h
  replace h := br h; rcases h with ⟨h1, h⟩ | ⟨h1, h⟩
  · replace h := br h; rcases h with ⟨h2, h⟩ | ⟨h2, h⟩
    · replace h := br h; rcases h with ⟨h3, h⟩ | ⟨h3, h⟩
      · replace h := ob h; obtain ⟨e4, h4, h⟩ := h
        replace h := ob h; obtain ⟨r5, h5, h⟩ := h
        replace h5 := run_schema_put q (M + 7) (by omega) _ _ _ _ h5
        try simp only [Ow.enc, S_api_Op.enc, S_api_Record.enc, Sl.enc, kn, simprocAttr, qa, qb, qc, qd] at h5
        replace h := ih_schema_Encode_l0 M (by omega) j (by omega) _ _ _ _ _ _ _ _ _ _ _ _ _ _ _ _ h R hR
        simp (maxDischargeDepth := 12) only [A_schema_Encode, kn, simprocAttr, qa, qb, qc, qd, Ow.enc, S_api_Op.enc, S_api_Record.enc, Sl.enc, *]
      · cases h
    · cases h
  · cases h; subst hR; simp (maxDischargeDepth := 12) only [A_schema_Encode, kn, simprocAttr, qa, qb, qc, qd, Ow.enc, S_api_Op.enc, S_api_Record.enc, Sl.enc, *]
theorem all_schema_Encode : ∀ q, St_schema_Encode_l0 q
  | 0 => by intro M hM j hj; intros; rename_i h _ _ _ _ _; cases h
  | q + 1 => by have i0 := all_schema_Encode q; exact step_schema_Encode_l0 q i0
theorem run_schema_Encode : ∀ (q N : Nat), 8 * q ≤ N → ∀ (a0 : Int) (a1 : S_api_Record), ∀ (r : (Ow Int) × Int), schema_Encode q a0 a1 = some r → (orc T N).deep F.schema_Encode [(V.int .i64) a0, S_api_Record.enc a1] = some [(Ow.enc 1 (V.int .u8)) r.1, (V.int .i64) r.2] := by
  intro q N hM a0 a1 r h
  rcases q with _ | q
  · cases h
  obtain ⟨M, rfl⟩ : ∃ M, N = M + 8 := ⟨N - 8, by omega⟩
  have ih_schema_Encode_l0 := (all_schema_Encode q)
  generalize hR : some [(Ow.enc 1 (V.int .u8)) r.1, (V.int .i64) r.2] = R
  rw [orc_deep, T_schema_Encode, Option.bind_some, runDeep_eq]
  rw [schema_Encode] at h
  replace h := ob h; obtain ⟨r1, h1, h⟩ := h
  replace h1 := run_schema_fields q (M + 7) (by omega) _ _ h1
  try simp only [Ow.enc, kn, simprocAttr, qa, qb, qc, qd] at h1
  replace h := bb h; rcases h with ⟨h2', h2, h⟩ | ⟨h2', h2, h⟩
  · cases h; subst hR; simp (maxDischargeDepth := 12) only [A_schema_Encode, kn, simprocAttr, qa, qb, qc, qd, Ow.enc, S_api_Op.enc, S_api_Record.enc, Sl.enc, *]
  · replace h := ob h; obtain ⟨r2, h3, h⟩ := h
    replace h3 := run_schema_Fits q (M + 7) (by omega) _ _ h3
    try simp only [Ow.enc, S_api_Op.enc, S_api_Record.enc, kn, simprocAttr, qa, qb, qc, qd] at h3
    replace h := bb h; rcases h with ⟨h4', h4, h⟩ | ⟨h4', h4, h⟩
    · replace h := ob h; obtain ⟨r3, h5, h⟩ := h
      replace h5 := run_num_Put q (M + 7) (by omega) _ _ _ h5
      try simp only [Ow.enc, Sl.enc, kn, simprocAttr, qa, qb, qc, qd] at h5
      replace h := ih_schema_Encode_l0 M (by omega) (M + 7) (by omega) _ _ _ _ _ _ _ _ _ _ _ _ _ _ _ _ h R hR
      simp (maxDischargeDepth := 12) only [A_schema_Encode, kn, simprocAttr, qa, qb, qc, qd, Ow.enc, S_api_Op.enc, S_api_Record.enc, Sl.enc, *]
    · cases h; subst hR; simp (maxDischargeDepth := 12) only [A_schema_Encode, kn, simprocAttr, qa, qb, qc, qd, Ow.enc, S_api_Op.enc, S_api_Record.enc, Sl.enc, *]
def St_segment_data_l0 (q : Nat) : Prop := ∀ (M : Nat) (hM : 8 * q ≤ M) (j : Nat) (hj : q ≤ j) (v0 : Int) (v20z : Bool) (v20l : List S_api_Record) (v21 : Int) (v22 : Int) (h0z : Bool) (h0l : List Int) (h0x : Bool) (r : (Ow Int)) (_ : segment_data_l0 q v0 v20z v20l v21 v22 h0z h0l h0x = some r) (R : Option (List V)) (_ : some [(Ow.enc 1 (V.int .u8)) r] = R) (fr : Fr) (H : Hp) (_ : canon 0 [0, 7, 20, 21, 22] fr H = ([(0, (.int .i64 v0)), (7, (.vw 0 0 0 h0l.length 1)), (20, (.sl v20z (List.map S_api_Record.enc v20l))), (21, (.int .i64 v21)), (22, (.int .i64 v22))], [(.row 0 h0z 1 (List.map (V.int .u8) h0l) h0x)])), fin m_segment_data (unw T (orc T (M + 7)) (M + 7) 0 [.blk 0, .code c_41_22] (iter 0 [0, 7, 20, 21, 22] (exec T (orc T (M + 7)) (M + 7) 0 c_41_19) j fr H)) = R
def A_segment_data := And.intro @kk <| And.intro @L_segment_data <| And.intro @v_num_Put <| And.intro @v_block_Encode <| And.intro @v_schema_Encode <| And.intro @rr_segment_data <| And.intro @ro_segment_data <| @b0_segment_data
theorem step_segment_data_l0 (q : Nat) (ih_segment_data_l0 : St_segment_data_l0 q) : St_segment_data_l0 (q + 1) := by
  intro M hM j hj v0 v20z v20l v21 v22 h0z h0l h0x r h R hR fr H hc
  obtain ⟨j, rfl⟩ : ∃ i, j = i + 1 := ⟨j - 1, by omega⟩
  rw [unw_iter, hc]; clear hc
  rw [segment_data_l0] at h
  replace h := br h; rcases h with ⟨h1, h⟩ | ⟨h1, h⟩
  · replace h := br h; rcases h with ⟨h2, h⟩ | ⟨h2, h⟩
    · replace h := ob h; obtain ⟨e2, h3, h⟩ := h
      replace h := ob h; obtain ⟨r3, h4, h⟩ := h
      replace h4 := run_schema_Encode q (M + 7) (by omega) _ _ _ h4
      try simp only [Ow.enc, S_api_Op.enc, S_api_Record.enc, kn, simprocAttr, qa, qb, qc, qd] at h4
      replace h := ob h; obtain ⟨r4, h5, h⟩ := h
      replace h5 := run_num_Put q (M + 7) (by omega) _ _ _ h5
      try simp only [Ow.enc, Sl.enc, kn, simprocAttr, qa, qb, qc, qd] at h5
      replace h := br h; rcases h with ⟨h6, h⟩ | ⟨h6, h⟩
      · try simp only [kn, simprocAttr, qa, qb, qc, qd] at h6
        replace h := ih_segment_data_l0 M (by omega) j (by omega) _ _ _ _ _ _ _ _ _ h R hR
        simp (maxDischargeDepth := 12) only [A_segment_data, kn, simprocAttr, qa, qb, qc, qd, Ow.enc, S_api_Op.enc, S_api_Record.enc, Sl.enc, *]
      · try simp only [kn, simprocAttr, qa, qb, qc, qd] at h6
        cases h
    · cases h
  · cases h; subst hR; simp (maxDischargeDepth := 12) only [A_segment_data, kn, simprocAttr, qa, qb, qc, qd, Ow.enc, S_api_Op.enc, S_api_Record.enc, Sl.enc, *]
theorem all_segment_data : ∀ q, St_segment_data_l0 q
  | 0 => by intro M hM j hj; intros; rename_i h _ _ _ _ _; cases h
  | q + 1 => by have i0 := all_segment_data q; exact step_segment_data_l0 q i0
theorem run_segment_data : ∀ (q N : Nat), 8 * q ≤ N → ∀ (a0 : Int) (a1 : (Sl S_api_Record)), ∀ (r : (Ow Int)), segment_data q a0 a1 = some r → (orc T N).deep F.segment_data [(V.int .i64) a0, (Sl.enc S_api_Record.enc) a1] = some [(Ow.enc 1 (V.int .u8)) r] := by
  intro q N hM a0 a1 r h
  rcases q with _ | q
  · cases h
  obtain ⟨M, rfl⟩ : ∃ M, N = M + 8 := ⟨N - 8, by omega⟩
  have ih_segment_data_l0 := (all_segment_data q)
  generalize hR : some [(Ow.enc 1 (V.int .u8)) r] = R
  rw [orc_deep, T_segment_data, Option.bind_some, runDeep_eq]
  rw [segment_data] at h
  replace h := br h; rcases h with ⟨h1, h⟩ | ⟨h1, h⟩
  · replace h := ob h; obtain ⟨r1, h2, h⟩ := h
    replace h2 := run_block_Encode q (M + 7) (by omega) _ _ h2
    try simp only [Ow.enc, S_api_Op.enc, S_api_Record.enc, Sl.enc, kn, simprocAttr, qa, qb, qc, qd] at h2
    cases h; subst hR; simp (maxDischargeDepth := 12) only [A_segment_data, kn, simprocAttr, qa, qb, qc, qd, Ow.enc, S_api_Op.enc, S_api_Record.enc, Sl.enc, *]
  · replace h := ih_segment_data_l0 M (by omega) (M + 7) (by omega) _ _ _ _ _ _ _ _ _ h R hR
    simp (maxDischargeDepth := 12) only [A_segment_data, kn, simprocAttr, qa, qb, qc, qd, Ow.enc, S_api_Op.enc, S_api_Record.enc, Sl.enc, *]
def St_segment_blocks_l0 (q : Nat) : Prop := ∀ (M : Nat) (hM : 8 * q ≤ M) (j : Nat) (hj : q ≤ j) (v0 : Int) (v1z : Bool) (v1l : List S_api_Record) (h0z : Bool) (h0l : List (Sl Int)) (r : (Ow (Sl Int))) (_ : segment_blocks_l0 q v0 v1z v1l h0z h0l = some r) (R : Option (List V)) (_ : some [(Ow.enc 1 (Sl.enc (V.int .u8))) r] = R) (fr : Fr) (H : Hp) (_ : canon 0 [0, 1, 5] fr H = ([(0, (.int .i64 v0)), (1, (.sl v1z (List.map S_api_Record.enc v1l))), (5, (.vw 0 0 0 h0l.length 1))], [(.row 0 h0z 1 (List.map (Sl.enc (V.int .u8)) h0l) true)])), fin m_segment_blocks (unw T (orc T (M + 7)) (M + 7) 0 [.blk 0, .code c_21_13] (iter 0 [0, 1, 5] (exec T (orc T (M + 7)) (M + 7) 0 c_21_11) j fr H)) = R
def A_segment_blocks := And.intro @kk <| And.intro @L_segment_blocks <| And.intro @v_segment_framed <| And.intro @v_segment_data <| And.intro @rr_segment_blocks <| And.intro @ro_segment_blocks <| @b0_segment_blocks
theorem step_segment_blocks_l0 (q : Nat) (ih_segment_blocks_l0 : St_segment_blocks_l0 q) : St_segment_blocks_l0 (q + 1) := by
  intro M hM j hj v0 v1z v1l h0z h0l r h R hR fr H hc
  obtain ⟨j, rfl⟩ : ∃ i, j = i + 1 := ⟨j - 1, by omega⟩
  rw [unw_iter, hc]; clear hc
  rw [segment_blocks_l0] at h
  replace h := br h; rcases h with ⟨h1, h⟩ | ⟨h1, h⟩
  · replace h := br h; rcases h with ⟨h2, h⟩ | ⟨h2, h⟩
    · replace h := br h; rcases h with ⟨h3, h⟩ | ⟨h3, h⟩
      · replace h := br h; rcases h with ⟨h4, h⟩ | ⟨h4, h⟩
        · replace h := ob h; obtain ⟨r1, h5, h⟩ := h
          replace h5 := run_segment_data q (M + 7) (by omega) _ _ _ h5
          try simp only [Ow.enc, S_api_Op.enc, S_api_Record.enc, Sl.enc, kn, simprocAttr, qa, qb, qc, qd] at h5
          replace h := ob h; obtain ⟨r2, h6, h⟩ := h
          replace h6 := run_segment_framed q (M + 7) (by omega) _ _ h6
          try simp only [Ow.enc, Sl.enc, kn, simprocAttr, qa, qb, qc, qd] at h6
          replace h := br h; rcases h with ⟨h7, h⟩ | ⟨h7, h⟩
          · try simp only [kn, simprocAttr, qa, qb, qc, qd] at h7
            replace h := br h; rcases h with ⟨h8, h⟩ | ⟨h8, h⟩
            · replace h := ih_segment_blocks_l0 M (by omega) j (by omega) _ _ _ _ _ _ h R hR
              simp (maxDischargeDepth := 12) only [A_segment_blocks, kn, simprocAttr, qa, qb, qc, qd, Ow.enc, S_api_Op.enc, S_api_Record.enc, Sl.enc, *]
            · cases h
          · try simp only [kn, simprocAttr, qa, qb, qc, qd] at h7
            cases h
        · cases h
      · cases h
    · cases h
  · cases h; subst hR; simp (maxDischargeDepth := 12) only [A_segment_blocks, kn, simprocAttr, qa, qb, qc, qd, Ow.enc, S_api_Op.enc, S_api_Record.enc, Sl.enc, *]
theorem all_segment_blocks : ∀ q, St_segment_blocks_l0 q
  | 0 => by intro M hM j hj; intros; rename_i h _ _ _ _ _; cases h
  | q + 1 => by have i0 := all_segment_blocks q; exact step_segment_blocks_l0 q i0
theorem run_segment_blocks : ∀ (q N : Nat), 8 * q ≤ N → ∀ (a0 : Int) (a1 : (Sl S_api_Record)), ∀ (r : (Ow (Sl Int))), segment_blocks q a0 a1 = some r → (orc T N).deep F.segment_blocks [(V.int .i64) a0, (Sl.enc S_api_Record.enc) a1] = some [(Ow.enc 1 (Sl.enc (V.int .u8))) r] := by
  intro q N hM a0 a1 r h
  rcases q with _ | q
  · cases h
  obtain ⟨M, rfl⟩ : ∃ M, N = M + 8 := ⟨N - 8, by omega⟩
  have ih_segment_blocks_l0 := (all_segment_blocks q)
  generalize hR : some [(Ow.enc 1 (Sl.enc (V.int .u8))) r] = R
  rw [orc_deep, T_segment_blocks, Option.bind_some, runDeep_eq]
  rw [segment_blocks] at h
  replace h := ih_segment_blocks_l0 M (by omega) (M + 7) (by omega) _ _ _ _ _ _ h R hR
  simp (maxDischargeDepth := 12) only [A_segment_blocks, kn, simprocAttr, qa, qb, qc, qd, Ow.enc, S_api_Op.enc, S_api_Record.enc, Sl.enc, *]
def St_segment_footer_l0 (q : Nat) : Prop := ∀ (M : Nat) (hM : 8 * q ≤ M) (j : Nat) (hj : q ≤ j) (v14z : Bool) (v14l : List (Sl Int)) (v15 : Int) (v16 : Int) (h0z : Bool) (h0l : List Int) (h0x : Bool) (r : (Ow Int)) (_ : segment_footer_l0 q v14z v14l v15 v16 h0z h0l h0x = some r) (R : Option (List V)) (_ : some [(Ow.enc 1 (V.int .u8)) r] = R) (fr : Fr) (H : Hp) (_ : canon 0 [3, 14, 15, 16] fr H = ([(3, (.vw 0 0 0 h0l.length 1)), (14, (.sl v14z (List.map (Sl.enc (V.int .u8)) v14l))), (15, (.int .i64 v15)), (16, (.int .i64 v16))], [(.row 0 h0z 1 (List.map (V.int .u8) h0l) h0x)])), fin m_segment_footer (unw T (orc T (M + 7)) (M + 7) 0 [.blk 0, .code c_23_15] (iter 0 [3, 14, 15, 16] (exec T (orc T (M + 7)) (M + 7) 0 c_23_12) j fr H)) = R
def A_segment_footer := And.intro @kk <| And.intro @L_segment_footer <| And.intro @v_segment_framed <| And.intro @v_num_Put <| And.intro @rr_segment_footer <| And.intro @ro_segment_footer <| @b0_segment_footer
theorem step_segment_footer_l0 (q : Nat) (ih_segment_footer_l0 : St_segment_footer_l0 q) : St_segment_footer_l0 (q + 1) := by
  intro M hM j hj v14z v14l v15 v16 h0z h0l h0x r h R hR fr H hc
  obtain ⟨j, rfl⟩ : ∃ i, j = i + 1 := ⟨j - 1, by omega⟩
  rw [unw_iter, hc]; clear hc
  rw [segment_footer_l0] at h
  replace h := br h; rcases h with ⟨h1, h⟩ | ⟨h1, h⟩
  · replace h := br h; rcases h with ⟨h2, h⟩ | ⟨h2, h⟩
    · replace h := ob h; obtain ⟨e2, h3, h⟩ := h
      replace h := ob h; obtain ⟨r3, h4, h⟩ := h
      replace h4 := run_num_Put q (M + 7) (by omega) _ _ _ h4
      try simp only [Ow.enc, Sl.enc, kn, simprocAttr, qa, qb, qc, qd] at h4
      replace h := ih_segment_footer_l0 M (by omega) j (by omega) _ _ _ _ _ _ _ _ h R hR
      simp (maxDischargeDepth := 12) only [A_segment_footer, kn, simprocAttr, qa, qb, qc, qd, Ow.enc, Sl.enc, *]
    · cases h
  · replace h := ob h; obtain ⟨r4, h5, h⟩ := h
    replace h5 := run_segment_framed q (M + 7) (by omega) _ _ h5
    try simp only [Ow.enc, Sl.enc, kn, simprocAttr, qa, qb, qc, qd] at h5
    cases h; subst hR; simp (maxDischargeDepth := 12) only [A_segment_footer, kn, simprocAttr, qa, qb, qc, qd, Ow.enc, Sl.enc, *]
theorem all_segment_footer : ∀ q, St_segment_footer_l0 q
  | 0 => by intro M hM j hj; intros; rename_i h _ _ _ _ _; cases h
  | q + 1 => by have i0 := all_segment_footer q; exact step_segment_footer_l0 q i0
theorem run_segment_footer : ∀ (q N : Nat), 8 * q ≤ N → ∀ (a0 : (Sl (Sl Int))), ∀ (r : (Ow Int)), segment_footer q a0 = some r → (orc T N).deep F.segment_footer [(Sl.enc (Sl.enc (V.int .u8))) a0] = some [(Ow.enc 1 (V.int .u8)) r] := by
  intro q N hM a0 r h
  rcases q with _ | q
  · cases h
  obtain ⟨M, rfl⟩ : ∃ M, N = M + 8 := ⟨N - 8, by omega⟩
  have ih_segment_footer_l0 := (all_segment_footer q)
  generalize hR : some [(Ow.enc 1 (V.int .u8)) r] = R
  rw [orc_deep, T_segment_footer, Option.bind_some, runDeep_eq]
  rw [segment_footer] at h
  replace h := ob h; obtain ⟨r1, h1, h⟩ := h
  replace h1 := run_num_Put q (M + 7) (by omega) _ _ _ h1
  try simp only [Ow.enc, Sl.enc, kn, simprocAttr, qa, qb, qc, qd] at h1
  replace h := br h; rcases h with ⟨h2, h⟩ | ⟨h2, h⟩
  · try simp only [kn, simprocAttr, qa, qb, qc, qd] at h2
    replace h := br h; rcases h with ⟨h3, h⟩ | ⟨h3, h⟩
    · try simp only [kn, simprocAttr, qa, qb, qc, qd] at h3
      replace h := ih_segment_footer_l0 M (by omega) (M + 7) (by omega) _ _ _ _ _ _ _ _ h R hR
      simp (maxDischargeDepth := 12) only [A_segment_footer, kn, simprocAttr, qa, qb, qc, qd, Ow.enc, Sl.enc, *]
    · try simp only [kn, simprocAttr, qa, qb, qc, qd] at h3
      cases h
  · try simp only [kn, simprocAttr, qa, qb, qc, qd] at h2
    cases h
def A_segment_Encode := And.intro @kk <| And.intro @L_segment_Encode <| And.intro @v_segment_Head <| And.intro @v_segment_fit <| And.intro @v_segment_blocks <| And.intro @v_slices_Concat_byte_byte <| And.intro @v_segment_footer <| And.intro @rr_segment_Encode <| And.intro @ro_segment_Encode <| @b0_segment_Encode
theorem run_segment_Encode : ∀ (q N : Nat), 8 * q ≤ N → ∀ (a0 : Int) (a1 : S_api_Segment), ∀ (r : (Ow Int) × Int), segment_Encode q a0 a1 = some r → (orc T N).deep F.segment_Encode [(V.int .i64) a0, S_api_Segment.enc a1] = some [(Ow.enc 1 (V.int .u8)) r.1, (V.int .i64) r.2] := by
  intro q N hM a0 a1 r h
  rcases q with _ | q
  · cases h
  obtain ⟨M, rfl⟩ : ∃ M, N = M + 8 := ⟨N - 8, by omega⟩
  generalize hR : some [(Ow.enc 1 (V.int .u8)) r.1, (V.int .i64) r.2] = R
  rw [orc_deep, T_segment_Encode, Option.bind_some, runDeep_eq]
  rw [segment_Encode] at h
  replace h := ob h; obtain ⟨r1, h1, h⟩ := h
  replace h1 := run_segment_Head q (M + 7) (by omega) _ _ _ _ h1
  try simp only [Ow.enc, kn, simprocAttr, qa, qb, qc, qd] at h1
  replace h := br h; rcases h with ⟨h2, h⟩ | ⟨h2, h⟩
  · replace h := ob h; obtain ⟨r2, h3, h⟩ := h
    replace h3 := run_segment_fit q (M + 7) (by omega) _ _ _ h3
    try simp only [Ow.enc, S_api_Op.enc, S_api_Record.enc, Sl.enc, kn, simprocAttr, qa, qb, qc, qd] at h3
    replace h := bb h; rcases h with ⟨h4', h4, h⟩ | ⟨h4', h4, h⟩
    · replace h := ob h; obtain ⟨r3, h5, h⟩ := h
      replace h5 := run_segment_blocks q (M + 7) (by omega) _ _ _ h5
      try simp only [Ow.enc, S_api_Op.enc, S_api_Record.enc, Sl.enc, kn, simprocAttr, qa, qb, qc, qd] at h5
      replace h := br h; rcases h with ⟨h6, h⟩ | ⟨h6, h⟩
      · try simp only [kn, simprocAttr, qa, qb, qc, qd] at h6
        replace h := ob h; obtain ⟨r4, h7, h⟩ := h
        replace h7 := run_slices_Concat_byte_byte q (M + 7) (by omega) _ _ h7
        try simp only [Ow.enc, Sl.enc, kn, simprocAttr, qa, qb, qc, qd] at h7
        replace h := ob h; obtain ⟨r5, h8, h⟩ := h
        replace h8 := run_segment_footer q (M + 7) (by omega) _ _ h8
        try simp only [Ow.enc, Sl.enc, kn, simprocAttr, qa, qb, qc, qd] at h8
        replace h := br h; rcases h with ⟨h9, h⟩ | ⟨h9, h⟩
        · try simp only [kn, simprocAttr, qa, qb, qc, qd] at h9
          cases h; subst hR; simp (maxDischargeDepth := 12) only [A_segment_Encode, kn, simprocAttr, qa, qb, qc, qd, Ow.enc, S_api_Op.enc, S_api_Record.enc, S_api_Segment.enc, Sl.enc, *]
        · try simp only [kn, simprocAttr, qa, qb, qc, qd] at h9
          cases h
      · try simp only [kn, simprocAttr, qa, qb, qc, qd] at h6
        cases h
    · cases h; subst hR; simp (maxDischargeDepth := 12) only [A_segment_Encode, kn, simprocAttr, qa, qb, qc, qd, Ow.enc, S_api_Op.enc, S_api_Record.enc, S_api_Segment.enc, Sl.enc, *]
  · cases h; subst hR; simp (maxDischargeDepth := 12) only [A_segment_Encode, kn, simprocAttr, qa, qb, qc, qd, Ow.enc, S_api_Op.enc, S_api_Record.enc, S_api_Segment.enc, Sl.enc, *]
def A_ferrymanlaw08_awake := And.intro @kk <| And.intro @L_ferrymanlaw08_awake <| And.intro @v_segment_Encode <| And.intro @rr_ferrymanlaw08_awake <| And.intro @ro_ferrymanlaw08_awake <| @b0_ferrymanlaw08_awake
theorem run_ferrymanlaw08_awake : ∀ (q N : Nat), 8 * q ≤ N → ∀ (r : Bool), ferrymanlaw08_awake q = some r → (orc T N).deep F.ferrymanlaw08_awake [] = some [V.bool r] := by
  intro q N hM r h
  rcases q with _ | q
  · cases h
  obtain ⟨M, rfl⟩ : ∃ M, N = M + 8 := ⟨N - 8, by omega⟩
  generalize hR : some [V.bool r] = R
  rw [orc_deep, T_ferrymanlaw08_awake, Option.bind_some, runDeep_eq]
  rw [ferrymanlaw08_awake] at h
  replace h := ob h; obtain ⟨r1, h1, h⟩ := h
  replace h1 := run_segment_Encode q (M + 7) (by omega) _ _ _ h1
  try simp only [Ow.enc, S_api_Op.enc, S_api_Record.enc, S_api_Segment.enc, Sl.enc, kn, simprocAttr, qa, qb, qc, qd] at h1
  replace h := br h; rcases h with ⟨h2, h⟩ | ⟨h2, h⟩
  · replace h := br h; rcases h with ⟨h3, h⟩ | ⟨h3, h⟩
    · replace h := br h; rcases h with ⟨h4, h⟩ | ⟨h4, h⟩
      · replace h := bb h; rcases h with ⟨h5', h5, h⟩ | ⟨h5', h5, h⟩
        · replace h := br h; rcases h with ⟨h6, h⟩ | ⟨h6, h⟩
          · replace h := br h; rcases h with ⟨h7, h⟩ | ⟨h7, h⟩
            · cases h; subst hR; simp (maxDischargeDepth := 12) only [A_ferrymanlaw08_awake, kn, simprocAttr, qa, qb, qc, qd, Ow.enc, S_api_Op.enc, S_api_Record.enc, S_api_Segment.enc, Sl.enc, *]
            · cases h
          · cases h; subst hR; simp (maxDischargeDepth := 12) only [A_ferrymanlaw08_awake, kn, simprocAttr, qa, qb, qc, qd, Ow.enc, S_api_Op.enc, S_api_Record.enc, S_api_Segment.enc, Sl.enc, *]
        · replace h := br h; rcases h with ⟨h8, h⟩ | ⟨h8, h⟩
          · try simp only [kn, simprocAttr, qa, qb, qc, qd] at h8
            replace h := br h; rcases h with ⟨h9, h⟩ | ⟨h9, h⟩
            · cases h; subst hR; simp (maxDischargeDepth := 12) only [A_ferrymanlaw08_awake, kn, simprocAttr, qa, qb, qc, qd, Ow.enc, S_api_Op.enc, S_api_Record.enc, S_api_Segment.enc, Sl.enc, *]
            · cases h
          · try simp only [kn, simprocAttr, qa, qb, qc, qd] at h8
            cases h; subst hR; simp (maxDischargeDepth := 12) only [A_ferrymanlaw08_awake, kn, simprocAttr, qa, qb, qc, qd, Ow.enc, S_api_Op.enc, S_api_Record.enc, S_api_Segment.enc, Sl.enc, *]
      · cases h
    · cases h; subst hR; simp (maxDischargeDepth := 12) only [A_ferrymanlaw08_awake, kn, simprocAttr, qa, qb, qc, qd, Ow.enc, S_api_Op.enc, S_api_Record.enc, S_api_Segment.enc, Sl.enc, *]
  · cases h; subst hR; simp (maxDischargeDepth := 12) only [A_ferrymanlaw08_awake, kn, simprocAttr, qa, qb, qc, qd, Ow.enc, S_api_Op.enc, S_api_Record.enc, S_api_Segment.enc, Sl.enc, *]
def A_segment_Body := And.intro @kk <| And.intro @L_segment_Body <| And.intro @v_segment_fit <| And.intro @v_segment_blocks <| And.intro @v_slices_Concat_byte_byte <| And.intro @v_segment_known <| And.intro @rr_segment_Body <| And.intro @ro_segment_Body <| @b0_segment_Body
theorem run_segment_Body : ∀ (q N : Nat), 8 * q ≤ N → ∀ (a0 : Int) (a1 : (Sl S_api_Record)), ∀ (r : (Ow Int) × Int), segment_Body q a0 a1 = some r → (orc T N).deep F.segment_Body [(V.int .i64) a0, (Sl.enc S_api_Record.enc) a1] = some [(Ow.enc 1 (V.int .u8)) r.1, (V.int .i64) r.2] := by
  intro q N hM a0 a1 r h
  rcases q with _ | q
  · cases h
  obtain ⟨M, rfl⟩ : ∃ M, N = M + 8 := ⟨N - 8, by omega⟩
  generalize hR : some [(Ow.enc 1 (V.int .u8)) r.1, (V.int .i64) r.2] = R
  rw [orc_deep, T_segment_Body, Option.bind_some, runDeep_eq]
  rw [segment_Body] at h
  replace h := ob h; obtain ⟨r1, h1, h⟩ := h
  replace h1 := run_segment_known q (M + 7) (by omega) _ _ h1
  replace h := bb h; rcases h with ⟨h2', h2, h⟩ | ⟨h2', h2, h⟩
  · replace h := br h; rcases h with ⟨h3, h⟩ | ⟨h3, h⟩
    · replace h := ob h; obtain ⟨e2, h4, h⟩ := h
      replace h := ob h; obtain ⟨r3, h5, h⟩ := h
      replace h5 := run_segment_fit q (M + 7) (by omega) _ _ _ h5
      try simp only [Ow.enc, S_api_Op.enc, S_api_Record.enc, Sl.enc, kn, simprocAttr, qa, qb, qc, qd] at h5
      replace h := bb h; rcases h with ⟨h6', h6, h⟩ | ⟨h6', h6, h⟩
      · replace h := ob h; obtain ⟨r4, h7, h⟩ := h
        replace h7 := run_segment_blocks q (M + 7) (by omega) _ _ _ h7
        try simp only [Ow.enc, S_api_Op.enc, S_api_Record.enc, Sl.enc, kn, simprocAttr, qa, qb, qc, qd] at h7
        replace h := ob h; obtain ⟨r5, h8, h⟩ := h
        replace h8 := run_slices_Concat_byte_byte q (M + 7) (by omega) _ _ h8
        try simp only [Ow.enc, Sl.enc, kn, simprocAttr, qa, qb, qc, qd] at h8
        cases h; subst hR; simp (maxDischargeDepth := 12) only [A_segment_Body, kn, simprocAttr, qa, qb, qc, qd, Ow.enc, S_api_Op.enc, S_api_Record.enc, Sl.enc, *]
      · cases h; subst hR; simp (maxDischargeDepth := 12) only [A_segment_Body, kn, simprocAttr, qa, qb, qc, qd, Ow.enc, S_api_Op.enc, S_api_Record.enc, Sl.enc, *]
    · replace h := ob h; obtain ⟨r6, h9, h⟩ := h
      replace h9 := run_segment_blocks q (M + 7) (by omega) _ _ _ h9
      try simp only [Ow.enc, S_api_Op.enc, S_api_Record.enc, Sl.enc, kn, simprocAttr, qa, qb, qc, qd] at h9
      replace h := ob h; obtain ⟨r7, h10, h⟩ := h
      replace h10 := run_slices_Concat_byte_byte q (M + 7) (by omega) _ _ h10
      try simp only [Ow.enc, Sl.enc, kn, simprocAttr, qa, qb, qc, qd] at h10
      cases h; subst hR; simp (maxDischargeDepth := 12) only [A_segment_Body, kn, simprocAttr, qa, qb, qc, qd, Ow.enc, S_api_Op.enc, S_api_Record.enc, Sl.enc, *]
  · cases h; subst hR; simp (maxDischargeDepth := 12) only [A_segment_Body, kn, simprocAttr, qa, qb, qc, qd, Ow.enc, S_api_Op.enc, S_api_Record.enc, Sl.enc, *]
def A_frame_open_1 := And.intro @kk <| And.intro @L_frame_open_1 <| And.intro @rr_frame_open_1 <| And.intro @ro_frame_open_1 <| @b0_frame_open_1
theorem run_frame_open_1 : ∀ (q N : Nat), 8 * q ≤ N → ∀ (a0 : Int), ∀ (r : Bool), frame_open_1 q a0 = some r → (orc T N).deep F.frame_open_1 [(V.int .u8) a0] = some [V.bool r] := by
  intro q N hM a0 r h
  rcases q with _ | q
  · cases h
  obtain ⟨M, rfl⟩ : ∃ M, N = M + 8 := ⟨N - 8, by omega⟩
  generalize hR : some [V.bool r] = R
  rw [orc_deep, T_frame_open_1, Option.bind_some, runDeep_eq]
  rw [frame_open_1] at h
  cases h; subst hR; simp (maxDischargeDepth := 12) only [A_frame_open_1, kn, simprocAttr, qa, qb, qc, qd, Ow.enc, Sl.enc, *]
def St_frame_open_s0_l0 (q : Nat) : Prop := ∀ (M : Nat) (hM : 8 * q ≤ M) (j : Nat) (hj : q ≤ j) (v0z : Bool) (v0l : List Int) (v7 : Int) (v8 : Int) (r : Int) (_ : frame_open_s0_l0 q v0z v0l v7 v8 = some r) (R : Option (List V × Hp)) (_ : (some ([(.int .i64 r)], []) : Option (List V × Hp)) = R) (fr : Fr) (H : Hp) (_ : canon 0 [0, 1, 7, 8] fr H = ([(0, (.sl v0z (List.map (V.int .u8) v0l))), (1, (.fn F.frame_open_1 [])), (7, (.int .i64 v7)), (8, (.int .i64 v8))], [])), finI 0 false [.tmp 4] (unw T (orc T (M + 5)) (M + 5) 0 [.blk 0, .code c_99_16] (iter 0 [0, 1, 7, 8] (exec T (orc T (M + 5)) (M + 5) 0 c_99_13) j fr H)) = R
def A_frame_open_s0 := And.intro @kk <| And.intro @L_slices_IndexFunc_byte_byte <| @v_frame_open_1
theorem step_frame_open_s0_l0 (q : Nat) (ih_frame_open_s0_l0 : St_frame_open_s0_l0 q) : St_frame_open_s0_l0 (q + 1) := by
  intro M hM j hj v0z v0l v7 v8 r h R hR fr H hc
  obtain ⟨j, rfl⟩ : ∃ i, j = i + 1 := ⟨j - 1, by omega⟩
  rw [unw_iter, hc]; clear hc
  rw [frame_open_s0_l0] at h
  replace h := br h; rcases h with ⟨h1, h⟩ | ⟨h1, h⟩
  · replace h := br h; rcases h with ⟨h2, h⟩ | ⟨h2, h⟩
    · replace h := ob h; obtain ⟨e1, h3, h⟩ := h
      replace h := ob h; obtain ⟨r2, h4, h⟩ := h
      replace h4 := run_frame_open_1 q (M + 5) (by omega) _ _ h4
      replace h := bb h; rcases h with ⟨h5', h5, h⟩ | ⟨h5', h5, h⟩
      · cases h; subst hR; simp (maxDischargeDepth := 12) only [A_frame_open_s0, kn, simprocAttr, qa, qb, qc, qd, Ow.enc, Sl.enc, *]
      · replace h := ih_frame_open_s0_l0 M (by omega) j (by omega) _ _ _ _ _ h R hR
        simp (maxDischargeDepth := 12) only [A_frame_open_s0, kn, simprocAttr, qa, qb, qc, qd, Ow.enc, Sl.enc, *]
    · cases h
  · cases h; subst hR; simp (maxDischargeDepth := 12) only [A_frame_open_s0, kn, simprocAttr, qa, qb, qc, qd, Ow.enc, Sl.enc, *]
theorem all_frame_open_s0 : ∀ q, St_frame_open_s0_l0 q
  | 0 => by intro M hM j hj; intros; rename_i h _ _ _ _ _; cases h
  | q + 1 => by have i0 := all_frame_open_s0 q; exact step_frame_open_s0_l0 q i0
theorem run_frame_open_s0 : ∀ (q M : Nat), 8 * q ≤ M → ∀ (v0z : Bool), ∀ (v0l : List Int), ∀ (r : Int), frame_open_s0 q v0z v0l = some r → (orc T (M + 6)).inl F.slices_IndexFunc_byte_byte [(.sl v0z (List.map (V.int .u8) v0l)), (.fn F.frame_open_1 [])] [] = (some ([(.int .i64 r)], []) : Option (List V × Hp)) := by
  intro q M hM v0z v0l r h
  rcases q with _ | q
  · cases h
  have ih_frame_open_s0_l0 := (all_frame_open_s0 q)
  generalize hR : (some ([(.int .i64 r)], []) : Option (List V × Hp)) = R
  rw [i_slices_IndexFunc_byte_byte (n := M + 5)]
  rw [frame_open_s0] at h
  replace h := ih_frame_open_s0_l0 M (by omega) (M + 5) (by omega) _ _ _ _ _ h R hR
  simp (maxDischargeDepth := 12) only [A_frame_open_s0, kn, simprocAttr, qa, qb, qc, qd, Ow.enc, Sl.enc, *]
def A_frame_open := And.intro @kk <| And.intro @L_frame_open <| And.intro @L_slices_ContainsFunc_byte_byte <| And.intro @v_slices_IndexFunc_byte_byte <| And.intro @v_slices_ContainsFunc_byte_byte <| And.intro @i_slices_ContainsFunc_byte_byte <| And.intro @rr_frame_open <| And.intro @ro_frame_open <| @b0_frame_open
theorem run_frame_open : ∀ (q N : Nat), 8 * q ≤ N → ∀ (a0 : (Sl Int)), ∀ (r : Bool), frame_open q a0 = some r → (orc T N).deep F.frame_open [(Sl.enc (V.int .u8)) a0] = some [V.bool r] := by
  intro q N hM a0 r h
  rcases q with _ | q
  · cases h
  obtain ⟨M, rfl⟩ : ∃ M, N = M + 8 := ⟨N - 8, by omega⟩
  generalize hR : some [V.bool r] = R
  rw [orc_deep, T_frame_open, Option.bind_some, runDeep_eq]
  rw [frame_open] at h
  replace h := br h; rcases h with ⟨h1, h⟩ | ⟨h1, h⟩
  · replace h := ob h; obtain ⟨r1, h2, h⟩ := h
    replace h2 := run_frame_open_s0 q M (by omega) _ _ _ h2
    try simp only [Ow.enc, Sl.enc, kn, simprocAttr, qa, qb, qc, qd] at h2
    cases h; subst hR; simp (maxDischargeDepth := 12) only [A_frame_open, kn, simprocAttr, qa, qb, qc, qd, Ow.enc, Sl.enc, *]
  · cases h; subst hR; simp (maxDischargeDepth := 12) only [A_frame_open, kn, simprocAttr, qa, qb, qc, qd, Ow.enc, Sl.enc, *]
def St_num_read_l0 (q : Nat) : Prop := ∀ (M : Nat) (hM : 8 * q ≤ M) (j : Nat) (hj : q ≤ j) (v0z : Bool) (v0l : List Int) (v4 : Int) (v9 : Int) (v10 : Int) (r : Int × Int) (_ : num_read_l0 q v0z v0l v4 v9 v10 = some r) (R : Option (List V)) (_ : some [(V.int .u64) r.1, (V.int .i64) r.2] = R) (fr : Fr) (H : Hp) (_ : canon 0 [0, 4, 9, 10] fr H = ([(0, (.sl v0z (List.map (V.int .u8) v0l))), (4, (.int .u64 v4)), (9, (.int .i64 v9)), (10, (.int .i64 v10))], [])), fin m_num_read (unw T (orc T (M + 7)) (M + 7) 0 [.blk 0, .code c_87_30] (iter 0 [0, 4, 9, 10] (exec T (orc T (M + 7)) (M + 7) 0 c_87_27) j fr H)) = R
def A_num_read := And.intro @kk <| And.intro @L_num_read <| And.intro @rr_num_read <| And.intro @ro_num_read <| @b0_num_read
theorem step_num_read_l0 (q : Nat) (ih_num_read_l0 : St_num_read_l0 q) : St_num_read_l0 (q + 1) := by
  intro M hM j hj v0z v0l v4 v9 v10 r h R hR fr H hc
  obtain ⟨j, rfl⟩ : ∃ i, j = i + 1 := ⟨j - 1, by omega⟩
  rw [unw_iter, hc]; clear hc
  rw [num_read_l0] at h
  replace h := br h; rcases h with ⟨h1, h⟩ | ⟨h1, h⟩
  · replace h := br h; rcases h with ⟨h2, h⟩ | ⟨h2, h⟩
    · replace h := ob h; obtain ⟨e1, h3, h⟩ := h
      replace h := br h; rcases h with ⟨h4, h⟩ | ⟨h4, h⟩
      · cases h
      · replace h := br h; rcases h with ⟨h5, h⟩ | ⟨h5, h⟩
        · replace h := br h; rcases h with ⟨h6, h⟩ | ⟨h6, h⟩
          · cases h; subst hR; simp (maxDischargeDepth := 12) only [A_num_read, kn, simprocAttr, qa, qb, qc, qd, Ow.enc, Sl.enc, *]
          · replace h := br h; rcases h with ⟨h7, h⟩ | ⟨h7, h⟩
            · replace h := br h; rcases h with ⟨h8, h⟩ | ⟨h8, h⟩
              · cases h; subst hR; simp (maxDischargeDepth := 12) only [A_num_read, kn, simprocAttr, qa, qb, qc, qd, Ow.enc, Sl.enc, *]
              · replace h := br h; rcases h with ⟨h9, h⟩ | ⟨h9, h⟩
                · cases h; subst hR; simp (maxDischargeDepth := 12) only [A_num_read, kn, simprocAttr, qa, qb, qc, qd, Ow.enc, Sl.enc, *]
                · replace h := ih_num_read_l0 M (by omega) j (by omega) _ _ _ _ _ _ h R hR
                  simp (maxDischargeDepth := 12) only [A_num_read, kn, simprocAttr, qa, qb, qc, qd, Ow.enc, Sl.enc, *]
            · replace h := br h; rcases h with ⟨h10, h⟩ | ⟨h10, h⟩
              · cases h; subst hR; simp (maxDischargeDepth := 12) only [A_num_read, kn, simprocAttr, qa, qb, qc, qd, Ow.enc, Sl.enc, *]
              · replace h := ih_num_read_l0 M (by omega) j (by omega) _ _ _ _ _ _ h R hR
                simp (maxDischargeDepth := 12) only [A_num_read, kn, simprocAttr, qa, qb, qc, qd, Ow.enc, Sl.enc, *]
        · replace h := br h; rcases h with ⟨h11, h⟩ | ⟨h11, h⟩
          · replace h := br h; rcases h with ⟨h12, h⟩ | ⟨h12, h⟩
            · cases h; subst hR; simp (maxDischargeDepth := 12) only [A_num_read, kn, simprocAttr, qa, qb, qc, qd, Ow.enc, Sl.enc, *]
            · replace h := br h; rcases h with ⟨h13, h⟩ | ⟨h13, h⟩
              · cases h; subst hR; simp (maxDischargeDepth := 12) only [A_num_read, kn, simprocAttr, qa, qb, qc, qd, Ow.enc, Sl.enc, *]
              · replace h := ih_num_read_l0 M (by omega) j (by omega) _ _ _ _ _ _ h R hR
                simp (maxDischargeDepth := 12) only [A_num_read, kn, simprocAttr, qa, qb, qc, qd, Ow.enc, Sl.enc, *]
          · replace h := br h; rcases h with ⟨h14, h⟩ | ⟨h14, h⟩
            · cases h; subst hR; simp (maxDischargeDepth := 12) only [A_num_read, kn, simprocAttr, qa, qb, qc, qd, Ow.enc, Sl.enc, *]
            · replace h := ih_num_read_l0 M (by omega) j (by omega) _ _ _ _ _ _ h R hR
              simp (maxDischargeDepth := 12) only [A_num_read, kn, simprocAttr, qa, qb, qc, qd, Ow.enc, Sl.enc, *]
    · cases h
  · cases h; subst hR; simp (maxDischargeDepth := 12) only [A_num_read, kn, simprocAttr, qa, qb, qc, qd, Ow.enc, Sl.enc, *]
theorem all_num_read : ∀ q, St_num_read_l0 q
  | 0 => by intro M hM j hj; intros; rename_i h _ _ _ _ _; cases h
  | q + 1 => by have i0 := all_num_read q; exact step_num_read_l0 q i0
theorem run_num_read : ∀ (q N : Nat), 8 * q ≤ N → ∀ (a0 : (Sl Int)), ∀ (r : Int × Int), num_read q a0 = some r → (orc T N).deep F.num_read [(Sl.enc (V.int .u8)) a0] = some [(V.int .u64) r.1, (V.int .i64) r.2] := by
  intro q N hM a0 r h
  rcases q with _ | q
  · cases h
  obtain ⟨M, rfl⟩ : ∃ M, N = M + 8 := ⟨N - 8, by omega⟩
  have ih_num_read_l0 := (all_num_read q)
  generalize hR : some [(V.int .u64) r.1, (V.int .i64) r.2] = R
  rw [orc_deep, T_num_read, Option.bind_some, runDeep_eq]
  rw [num_read] at h
  replace h := ih_num_read_l0 M (by omega) (M + 7) (by omega) _ _ _ _ _ _ h R hR
  simp (maxDischargeDepth := 12) only [A_num_read, kn, simprocAttr, qa, qb, qc, qd, Ow.enc, Sl.enc, *]
def A_num_Get := And.intro @kk <| And.intro @L_num_Get <| And.intro @v_num_read <| And.intro @rr_num_Get <| And.intro @ro_num_Get <| @b0_num_Get
theorem run_num_Get : ∀ (q N : Nat), 8 * q ≤ N → ∀ (a0 : (Sl Int)), ∀ (r : Int × Int), num_Get q a0 = some r → (orc T N).deep F.num_Get [(Sl.enc (V.int .u8)) a0] = some [(V.int .i64) r.1, (V.int .i64) r.2] := by
  intro q N hM a0 r h
  rcases q with _ | q
  · cases h
  obtain ⟨M, rfl⟩ : ∃ M, N = M + 8 := ⟨N - 8, by omega⟩
  generalize hR : some [(V.int .i64) r.1, (V.int .i64) r.2] = R
  rw [orc_deep, T_num_Get, Option.bind_some, runDeep_eq]
  rw [num_Get] at h
  replace h := ob h; obtain ⟨r1, h1, h⟩ := h
  replace h1 := run_num_read q (M + 7) (by omega) _ _ h1
  try simp only [Ow.enc, Sl.enc, kn, simprocAttr, qa, qb, qc, qd] at h1
  replace h := br h; rcases h with ⟨h2, h⟩ | ⟨h2, h⟩
  · cases h; subst hR; simp (maxDischargeDepth := 12) only [A_num_Get, kn, simprocAttr, qa, qb, qc, qd, Ow.enc, Sl.enc, *]
  · cases h; subst hR; simp (maxDischargeDepth := 12) only [A_num_Get, kn, simprocAttr, qa, qb, qc, qd, Ow.enc, Sl.enc, *]
def St_slices_Equal_byte_byte_l0 (q : Nat) : Prop := ∀ (M : Nat) (hM : 8 * q ≤ M) (j : Nat) (hj : q ≤ j) (v0z : Bool) (v0l : List Int) (v1z : Bool) (v1l : List Int) (v12 : Int) (v13 : Int) (r : Bool) (_ : slices_Equal_byte_byte_l0 q v0z v0l v1z v1l v12 v13 = some r) (R : Option (List V)) (_ : some [V.bool r] = R) (fr : Fr) (H : Hp) (_ : canon 0 [0, 1, 12, 13] fr H = ([(0, (.sl v0z (List.map (V.int .u8) v0l))), (1, (.sl v1z (List.map (V.int .u8) v1l))), (12, (.int .i64 v12)), (13, (.int .i64 v13))], [])), fin m_slices_Equal_byte_byte (unw T (orc T (M + 7)) (M + 7) 0 [.blk 0, .code c_85_19] (iter 0 [0, 1, 12, 13] (exec T (orc T (M + 7)) (M + 7) 0 c_85_16) j fr H)) = R
def A_slices_Equal_byte_byte := And.intro @kk <| And.intro @L_slices_Equal_byte_byte <| And.intro @rr_slices_Equal_byte_byte <| And.intro @ro_slices_Equal_byte_byte <| @b0_slices_Equal_byte_byte
theorem step_slices_Equal_byte_byte_l0 (q : Nat) (ih_slices_Equal_byte_byte_l0 : St_slices_Equal_byte_byte_l0 q) : St_slices_Equal_byte_byte_l0 (q + 1) := by
  intro M hM j hj v0z v0l v1z v1l v12 v13 r h R hR fr H hc
  obtain ⟨j, rfl⟩ : ∃ i, j = i + 1 := ⟨j - 1, by omega⟩
  rw [unw_iter, hc]; clear hc
  rw [slices_Equal_byte_byte_l0] at h
  replace h := br h; rcases h with ⟨h1, h⟩ | ⟨h1, h⟩
  · replace h := br h; rcases h with ⟨h2, h⟩ | ⟨h2, h⟩
    · replace h := ob h; obtain ⟨e1, h3, h⟩ := h
      replace h := ob h; obtain ⟨e2, h4, h⟩ := h
      replace h := br h; rcases h with ⟨h5, h⟩ | ⟨h5, h⟩
      · replace h := ih_slices_Equal_byte_byte_l0 M (by omega) j (by omega) _ _ _ _ _ _ _ h R hR
        simp (maxDischargeDepth := 12) only [A_slices_Equal_byte_byte, kn, simprocAttr, qa, qb, qc, qd, Ow.enc, Sl.enc, *]
      · cases h; subst hR; simp (maxDischargeDepth := 12) only [A_slices_Equal_byte_byte, kn, simprocAttr, qa, qb, qc, qd, Ow.enc, Sl.enc, *]
    · cases h
  · cases h; subst hR; simp (maxDischargeDepth := 12) only [A_slices_Equal_byte_byte, kn, simprocAttr, qa, qb, qc, qd, Ow.enc, Sl.enc, *]
theorem all_slices_Equal_byte_byte : ∀ q, St_slices_Equal_byte_byte_l0 q
  | 0 => by intro M hM j hj; intros; rename_i h _ _ _ _ _; cases h
  | q + 1 => by have i0 := all_slices_Equal_byte_byte q; exact step_slices_Equal_byte_byte_l0 q i0
theorem run_slices_Equal_byte_byte : ∀ (q N : Nat), 8 * q ≤ N → ∀ (a0 : (Sl Int)) (a1 : (Sl Int)), ∀ (r : Bool), slices_Equal_byte_byte q a0 a1 = some r → (orc T N).deep F.slices_Equal_byte_byte [(Sl.enc (V.int .u8)) a0, (Sl.enc (V.int .u8)) a1] = some [V.bool r] := by
  intro q N hM a0 a1 r h
  rcases q with _ | q
  · cases h
  obtain ⟨M, rfl⟩ : ∃ M, N = M + 8 := ⟨N - 8, by omega⟩
  have ih_slices_Equal_byte_byte_l0 := (all_slices_Equal_byte_byte q)
  generalize hR : some [V.bool r] = R
  rw [orc_deep, T_slices_Equal_byte_byte, Option.bind_some, runDeep_eq]
  rw [slices_Equal_byte_byte] at h
  replace h := br h; rcases h with ⟨h1, h⟩ | ⟨h1, h⟩
  · replace h := ih_slices_Equal_byte_byte_l0 M (by omega) (M + 7) (by omega) _ _ _ _ _ _ _ h R hR
    simp (maxDischargeDepth := 12) only [A_slices_Equal_byte_byte, kn, simprocAttr, qa, qb, qc, qd, Ow.enc, Sl.enc, *]
  · cases h; subst hR; simp (maxDischargeDepth := 12) only [A_slices_Equal_byte_byte, kn, simprocAttr, qa, qb, qc, qd, Ow.enc, Sl.enc, *]
def A_slices_Clone_byte_byte := And.intro @kk <| And.intro @L_slices_Clone_byte_byte <| And.intro @rr_slices_Clone_byte_byte <| And.intro @ro_slices_Clone_byte_byte <| @b0_slices_Clone_byte_byte
theorem run_slices_Clone_byte_byte : ∀ (q N : Nat), 8 * q ≤ N → ∀ (a0 : (Sl Int)), ∀ (r : (Ow Int)), slices_Clone_byte_byte q a0 = some r → (orc T N).deep F.slices_Clone_byte_byte [(Sl.enc (V.int .u8)) a0] = some [(Ow.enc 1 (V.int .u8)) r] := by
  intro q N hM a0 r h
  rcases q with _ | q
  · cases h
  obtain ⟨M, rfl⟩ : ∃ M, N = M + 8 := ⟨N - 8, by omega⟩
  generalize hR : some [(Ow.enc 1 (V.int .u8)) r] = R
  rw [orc_deep, T_slices_Clone_byte_byte, Option.bind_some, runDeep_eq]
  rw [slices_Clone_byte_byte] at h
  replace h := bb h; rcases h with ⟨h1', h1, h⟩ | ⟨h1', h1, h⟩
  · cases h; subst hR; simp (maxDischargeDepth := 12) only [A_slices_Clone_byte_byte, kn, simprocAttr, qa, qb, qc, qd, Ow.enc, Sl.enc, *]
  · replace h := br h; rcases h with ⟨h2, h⟩ | ⟨h2, h⟩
    · cases h; subst hR; simp (maxDischargeDepth := 12) only [A_slices_Clone_byte_byte, kn, simprocAttr, qa, qb, qc, qd, Ow.enc, Sl.enc, *]
    · cases h
def A_frame_Decode := And.intro @kk <| And.intro @L_frame_Decode <| And.intro @v_frame_sum <| And.intro @v_num_Get <| And.intro @v_frame_open <| And.intro @v_slices_Equal_byte_byte <| And.intro @v_slices_Clone_byte_byte <| And.intro @rr_frame_Decode <| And.intro @ro_frame_Decode <| @b0_frame_Decode
theorem run_frame_Decode : ∀ (q N : Nat), 8 * q ≤ N → ∀ (a0 : (Sl Int)), ∀ (r : (Ow Int) × Int × Int), frame_Decode q a0 = some r → (orc T N).deep F.frame_Decode [(Sl.enc (V.int .u8)) a0] = some [(Ow.enc 1 (V.int .u8)) r.1, (V.int .i64) r.2.1, (V.int .i64) r.2.2] := by
  intro q N hM a0 r h
  rcases q with _ | q
  · cases h
  obtain ⟨M, rfl⟩ : ∃ M, N = M + 8 := ⟨N - 8, by omega⟩
  generalize hR : some [(Ow.enc 1 (V.int .u8)) r.1, (V.int .i64) r.2.1, (V.int .i64) r.2.2] = R
  rw [orc_deep, T_frame_Decode, Option.bind_some, runDeep_eq]
  rw [frame_Decode] at h
  replace h := ob h; obtain ⟨r1, h1, h⟩ := h
  replace h1 := run_frame_open q (M + 7) (by omega) _ _ h1
  try simp only [Ow.enc, Sl.enc, kn, simprocAttr, qa, qb, qc, qd] at h1
  replace h := bb h; rcases h with ⟨h2', h2, h⟩ | ⟨h2', h2, h⟩
  · cases h; subst hR; simp (maxDischargeDepth := 12) only [A_frame_Decode, kn, simprocAttr, qa, qb, qc, qd, Ow.enc, Sl.enc, *]
  · replace h := ob h; obtain ⟨r2, h3, h⟩ := h
    replace h3 := run_num_Get q (M + 7) (by omega) _ _ h3
    try simp only [Ow.enc, Sl.enc, kn, simprocAttr, qa, qb, qc, qd] at h3
    replace h := br h; rcases h with ⟨h4, h⟩ | ⟨h4, h⟩
    · cases h; subst hR; simp (maxDischargeDepth := 12) only [A_frame_Decode, kn, simprocAttr, qa, qb, qc, qd, Ow.enc, Sl.enc, *]
    · replace h := br h; rcases h with ⟨h5, h⟩ | ⟨h5, h⟩
      · cases h; subst hR; simp (maxDischargeDepth := 12) only [A_frame_Decode, kn, simprocAttr, qa, qb, qc, qd, Ow.enc, Sl.enc, *]
      · replace h := br h; rcases h with ⟨h6, h⟩ | ⟨h6, h⟩
        · try simp only [kn, simprocAttr, qa, qb, qc, qd] at h6
          cases h; subst hR; simp (maxDischargeDepth := 12) only [A_frame_Decode, kn, simprocAttr, qa, qb, qc, qd, Ow.enc, Sl.enc, *]
        · try simp only [kn, simprocAttr, qa, qb, qc, qd] at h6
          replace h := br h; rcases h with ⟨h7, h⟩ | ⟨h7, h⟩
          · replace h := br h; rcases h with ⟨h8, h⟩ | ⟨h8, h⟩
            · replace h := br h; rcases h with ⟨h9, h⟩ | ⟨h9, h⟩
              · replace h := br h; rcases h with ⟨h10, h⟩ | ⟨h10, h⟩
                · try simp only [kn, simprocAttr, qa, qb, qc, qd] at h10
                  replace h := br h; rcases h with ⟨h11, h⟩ | ⟨h11, h⟩
                  · try simp only [kn, simprocAttr, qa, qb, qc, qd] at h11
                    replace h := br h; rcases h with ⟨h12, h⟩ | ⟨h12, h⟩
                    · try simp only [kn, simprocAttr, qa, qb, qc, qd] at h12
                      replace h := br h; rcases h with ⟨h13, h⟩ | ⟨h13, h⟩
                      · try simp only [kn, simprocAttr, qa, qb, qc, qd] at h13
                        replace h := br h; rcases h with ⟨h14, h⟩ | ⟨h14, h⟩
                        · try simp only [kn, simprocAttr, qa, qb, qc, qd] at h14
                          replace h := br h; rcases h with ⟨h15, h⟩ | ⟨h15, h⟩
                          · try simp only [kn, simprocAttr, qa, qb, qc, qd] at h15
                            replace h := ob h; obtain ⟨r3, h16, h⟩ := h
                            replace h16 := run_frame_sum q (M + 7) (by omega) _ _ _ h16
                            try simp only [Ow.enc, Sl.enc, kn, simprocAttr, qa, qb, qc, qd] at h16
                            replace h := ob h; obtain ⟨r4, h17, h⟩ := h
                            replace h17 := run_slices_Equal_byte_byte q (M + 7) (by omega) _ _ _ h17
                            try simp only [Ow.enc, Sl.enc, kn, simprocAttr, qa, qb, qc, qd] at h17
                            replace h := bb h; rcases h with ⟨h18', h18, h⟩ | ⟨h18', h18, h⟩
                            · replace h := ob h; obtain ⟨r5, h19, h⟩ := h
                              replace h19 := run_slices_Clone_byte_byte q (M + 7) (by omega) _ _ h19
                              try simp only [Ow.enc, Sl.enc, kn, simprocAttr, qa, qb, qc, qd] at h19
                              cases h; subst hR; simp (maxDischargeDepth := 12) only [A_frame_Decode, kn, simprocAttr, qa, qb, qc, qd, Ow.enc, Sl.enc, *]
                            · cases h; subst hR; simp (maxDischargeDepth := 12) only [A_frame_Decode, kn, simprocAttr, qa, qb, qc, qd, Ow.enc, Sl.enc, *]
                          · try simp only [kn, simprocAttr, qa, qb, qc, qd] at h15
                            cases h
                        · try simp only [kn, simprocAttr, qa, qb, qc, qd] at h14
                          cases h
                      · try simp only [kn, simprocAttr, qa, qb, qc, qd] at h13
                        cases h
                    · try simp only [kn, simprocAttr, qa, qb, qc, qd] at h12
                      cases h
                  · try simp only [kn, simprocAttr, qa, qb, qc, qd] at h11
                    cases h
                · try simp only [kn, simprocAttr, qa, qb, qc, qd] at h10
                  cases h
              · cases h
            · cases h
          · cases h
def St_frame_walk_l0 (q : Nat) : Prop := ∀ (M : Nat) (hM : 8 * q ≤ M) (j : Nat) (hj : q ≤ j) (v0z : Bool) (v0l : List Int) (v3 : Int) (h0z : Bool) (h0l : List (Sl Int)) (r : (Ow (Sl Int)) × Int × Int) (_ : frame_walk_l0 q v0z v0l v3 h0z h0l = some r) (R : Option (List V)) (_ : some [(Ow.enc 1 (Sl.enc (V.int .u8))) r.1, (V.int .i64) r.2.1, (V.int .i64) r.2.2] = R) (fr : Fr) (H : Hp) (_ : canon 0 [0, 2, 3] fr H = ([(0, (.sl v0z (List.map (V.int .u8) v0l))), (2, (.vw 0 0 0 h0l.length 1)), (3, (.int .i64 v3))], [(.row 0 h0z 1 (List.map (Sl.enc (V.int .u8)) h0l) true)])), fin m_frame_walk (unw T (orc T (M + 7)) (M + 7) 0 [.blk 0, .code c_51_16] (iter 0 [0, 2, 3] (exec T (orc T (M + 7)) (M + 7) 0 c_51_14) j fr H)) = R
def A_frame_walk := And.intro @kk <| And.intro @L_frame_walk <| And.intro @v_frame_Decode <| And.intro @rr_frame_walk <| And.intro @ro_frame_walk <| @b0_frame_walk
theorem step_frame_walk_l0 (q : Nat) (ih_frame_walk_l0 : St_frame_walk_l0 q) : St_frame_walk_l0 (q + 1) := by
  intro M hM j hj v0z v0l v3 h0z h0l r h R hR fr H hc
  obtain ⟨j, rfl⟩ : ∃ i, j = i + 1 := ⟨j - 1, by omega⟩
  rw [unw_iter, hc]; clear hc
  rw [frame_walk_l0] at h
  replace h := br h; rcases h with ⟨h1, h⟩ | ⟨h1, h⟩
  · replace h := br h; rcases h with ⟨h2, h⟩ | ⟨h2, h⟩
    · replace h := br h; rcases h with ⟨h3, h⟩ | ⟨h3, h⟩
      · replace h := ob h; obtain ⟨r1, h4, h⟩ := h
        replace h4 := run_frame_Decode q (M + 7) (by omega) _ _ h4
        try simp only [Ow.enc, Sl.enc, kn, simprocAttr, qa, qb, qc, qd] at h4
        replace h := br h; rcases h with ⟨h5, h⟩ | ⟨h5, h⟩
        · replace h := br h; rcases h with ⟨h6, h⟩ | ⟨h6, h⟩
          · try simp only [kn, simprocAttr, qa, qb, qc, qd] at h6
            replace h := ih_frame_walk_l0 M (by omega) j (by omega) _ _ _ _ _ _ h R hR
            simp (maxDischargeDepth := 12) only [A_frame_walk, kn, simprocAttr, qa, qb, qc, qd, Ow.enc, Sl.enc, *]
          · try simp only [kn, simprocAttr, qa, qb, qc, qd] at h6
            cases h
        · cases h; subst hR; simp (maxDischargeDepth := 12) only [A_frame_walk, kn, simprocAttr, qa, qb, qc, qd, Ow.enc, Sl.enc, *]
      · cases h
    · cases h
  · cases h; subst hR; simp (maxDischargeDepth := 12) only [A_frame_walk, kn, simprocAttr, qa, qb, qc, qd, Ow.enc, Sl.enc, *]
theorem all_frame_walk : ∀ q, St_frame_walk_l0 q
  | 0 => by intro M hM j hj; intros; rename_i h _ _ _ _ _; cases h
  | q + 1 => by have i0 := all_frame_walk q; exact step_frame_walk_l0 q i0
theorem run_frame_walk : ∀ (q N : Nat), 8 * q ≤ N → ∀ (a0 : (Sl Int)), ∀ (r : (Ow (Sl Int)) × Int × Int), frame_walk q a0 = some r → (orc T N).deep F.frame_walk [(Sl.enc (V.int .u8)) a0] = some [(Ow.enc 1 (Sl.enc (V.int .u8))) r.1, (V.int .i64) r.2.1, (V.int .i64) r.2.2] := by
  intro q N hM a0 r h
  rcases q with _ | q
  · cases h
  obtain ⟨M, rfl⟩ : ∃ M, N = M + 8 := ⟨N - 8, by omega⟩
  have ih_frame_walk_l0 := (all_frame_walk q)
  generalize hR : some [(Ow.enc 1 (Sl.enc (V.int .u8))) r.1, (V.int .i64) r.2.1, (V.int .i64) r.2.2] = R
  rw [orc_deep, T_frame_walk, Option.bind_some, runDeep_eq]
  rw [frame_walk] at h
  replace h := ih_frame_walk_l0 M (by omega) (M + 7) (by omega) _ _ _ _ _ _ h R hR
  simp (maxDischargeDepth := 12) only [A_frame_walk, kn, simprocAttr, qa, qb, qc, qd, Ow.enc, Sl.enc, *]
def A_frame_Whole := And.intro @kk <| And.intro @L_frame_Whole <| And.intro @v_frame_walk <| And.intro @rr_frame_Whole <| And.intro @ro_frame_Whole <| @b0_frame_Whole
theorem run_frame_Whole : ∀ (q N : Nat), 8 * q ≤ N → ∀ (a0 : (Sl Int)), ∀ (r : (Ow (Sl Int)) × Int), frame_Whole q a0 = some r → (orc T N).deep F.frame_Whole [(Sl.enc (V.int .u8)) a0] = some [(Ow.enc 1 (Sl.enc (V.int .u8))) r.1, (V.int .i64) r.2] := by
  intro q N hM a0 r h
  rcases q with _ | q
  · cases h
  obtain ⟨M, rfl⟩ : ∃ M, N = M + 8 := ⟨N - 8, by omega⟩
  generalize hR : some [(Ow.enc 1 (Sl.enc (V.int .u8))) r.1, (V.int .i64) r.2] = R
  rw [orc_deep, T_frame_Whole, Option.bind_some, runDeep_eq]
  rw [frame_Whole] at h
  replace h := ob h; obtain ⟨r1, h1, h⟩ := h
  replace h1 := run_frame_walk q (M + 7) (by omega) _ _ h1
  try simp only [Ow.enc, Sl.enc, kn, simprocAttr, qa, qb, qc, qd] at h1
  cases h; subst hR; simp (maxDischargeDepth := 12) only [A_frame_Whole, kn, simprocAttr, qa, qb, qc, qd, Ow.enc, Sl.enc, *]
def A_num_Zag := And.intro @kk <| And.intro @L_num_Zag <| And.intro @rr_num_Zag <| And.intro @ro_num_Zag <| @b0_num_Zag
theorem run_num_Zag : ∀ (q N : Nat), 8 * q ≤ N → ∀ (a0 : Int), ∀ (r : Int), num_Zag q a0 = some r → (orc T N).deep F.num_Zag [(V.int .u64) a0] = some [(V.int .i64) r] := by
  intro q N hM a0 r h
  rcases q with _ | q
  · cases h
  obtain ⟨M, rfl⟩ : ∃ M, N = M + 8 := ⟨N - 8, by omega⟩
  generalize hR : some [(V.int .i64) r] = R
  rw [orc_deep, T_num_Zag, Option.bind_some, runDeep_eq]
  rw [num_Zag] at h
  cases h; subst hR; simp (maxDischargeDepth := 12) only [A_num_Zag, kn, simprocAttr, qa, qb, qc, qd, Ow.enc, Sl.enc, *]
def A_num_GetSigned := And.intro @kk <| And.intro @L_num_GetSigned <| And.intro @v_num_read <| And.intro @v_num_Zag <| And.intro @rr_num_GetSigned <| And.intro @ro_num_GetSigned <| @b0_num_GetSigned
theorem run_num_GetSigned : ∀ (q N : Nat), 8 * q ≤ N → ∀ (a0 : (Sl Int)), ∀ (r : Int × Int), num_GetSigned q a0 = some r → (orc T N).deep F.num_GetSigned [(Sl.enc (V.int .u8)) a0] = some [(V.int .i64) r.1, (V.int .i64) r.2] := by
  intro q N hM a0 r h
  rcases q with _ | q
  · cases h
  obtain ⟨M, rfl⟩ : ∃ M, N = M + 8 := ⟨N - 8, by omega⟩
  generalize hR : some [(V.int .i64) r.1, (V.int .i64) r.2] = R
  rw [orc_deep, T_num_GetSigned, Option.bind_some, runDeep_eq]
  rw [num_GetSigned] at h
  replace h := ob h; obtain ⟨r1, h1, h⟩ := h
  replace h1 := run_num_read q (M + 7) (by omega) _ _ h1
  try simp only [Ow.enc, Sl.enc, kn, simprocAttr, qa, qb, qc, qd] at h1
  replace h := br h; rcases h with ⟨h2, h⟩ | ⟨h2, h⟩
  · cases h; subst hR; simp (maxDischargeDepth := 12) only [A_num_GetSigned, kn, simprocAttr, qa, qb, qc, qd, Ow.enc, Sl.enc, *]
  · replace h := ob h; obtain ⟨r2, h3, h⟩ := h
    replace h3 := run_num_Zag q (M + 7) (by omega) _ _ h3
    cases h; subst hR; simp (maxDischargeDepth := 12) only [A_num_GetSigned, kn, simprocAttr, qa, qb, qc, qd, Ow.enc, Sl.enc, *]
def A_codec_GetOp := And.intro @kk <| And.intro @L_codec_GetOp <| And.intro @L_codec_reader <| And.intro @L_codec_reader_1 <| And.intro @L_codec_reader_2 <| And.intro @L_codec_reader_3 <| And.intro @v_objs_Fits <| And.intro @v_num_Get <| And.intro @v_num_GetSigned <| And.intro @v_codec_reader <| And.intro @i_codec_reader <| And.intro @v_codec_reader_1 <| And.intro @i_codec_reader_1 <| And.intro @v_codec_reader_2 <| And.intro @i_codec_reader_2 <| And.intro @v_codec_reader_3 <| And.intro @i_codec_reader_3 <| And.intro @rr_codec_GetOp <| And.intro @ro_codec_GetOp <| @b0_codec_GetOp
theorem run_codec_GetOp : ∀ (q N : Nat), 8 * q ≤ N → ∀ (a0 : (Sl Int)), ∀ (r : S_api_Op × Int), codec_GetOp q a0 = some r → (orc T N).deep F.codec_GetOp [(Sl.enc (V.int .u8)) a0] = some [S_api_Op.enc r.1, (V.int .i64) r.2] := by
  intro q N hM a0 r h
  rcases q with _ | q
  · cases h
  obtain ⟨M, rfl⟩ : ∃ M, N = M + 8 := ⟨N - 8, by omega⟩
  generalize hR : some [S_api_Op.enc r.1, (V.int .i64) r.2] = R
  rw [orc_deep, T_codec_GetOp, Option.bind_some, runDeep_eq]
  rw [codec_GetOp] at h
  replace h := ob h; obtain ⟨r1, h1, h⟩ := h
  replace h1 := run_num_Get q (M + 6) (by omega) _ _ h1
  try simp only [Ow.enc, Sl.enc, kn, simprocAttr, qa, qb, qc, qd] at h1
  replace h := br h; rcases h with ⟨h2, h⟩ | ⟨h2, h⟩
  · replace h := br h; rcases h with ⟨h3, h⟩ | ⟨h3, h⟩
    · replace h := ob h; obtain ⟨r2, h4, h⟩ := h
      replace h4 := run_num_GetSigned q (M + 6) (by omega) _ _ h4
      try simp only [Ow.enc, Sl.enc, kn, simprocAttr, qa, qb, qc, qd] at h4
      replace h := br h; rcases h with ⟨h5, h⟩ | ⟨h5, h⟩
      · replace h := br h; rcases h with ⟨h6, h⟩ | ⟨h6, h⟩
        · replace h := br h; rcases h with ⟨h7, h⟩ | ⟨h7, h⟩
          · try simp only [kn, simprocAttr, qa, qb, qc, qd] at h7
            replace h := ob h; obtain ⟨r3, h8, h⟩ := h
            replace h8 := run_num_GetSigned q (M + 6) (by omega) _ _ h8
            try simp only [Ow.enc, Sl.enc, kn, simprocAttr, qa, qb, qc, qd] at h8
            replace h := br h; rcases h with ⟨h9, h⟩ | ⟨h9, h⟩
            · replace h := br h; rcases h with ⟨h10, h⟩ | ⟨h10, h⟩
              · replace h := br h; rcases h with ⟨h11, h⟩ | ⟨h11, h⟩
                · try simp only [kn, simprocAttr, qa, qb, qc, qd] at h11
                  replace h := br h; rcases h with ⟨h12, h⟩ | ⟨h12, h⟩
                  · replace h := ob h; obtain ⟨r4, h13, h⟩ := h
                    replace h13 := run_objs_Fits q (M + 7) (by omega) _ _ h13
                    try simp only [Ow.enc, S_api_Op.enc, kn, simprocAttr, qa, qb, qc, qd] at h13
                    replace h := bb h; rcases h with ⟨h14', h14, h⟩ | ⟨h14', h14, h⟩
                    · cases h; subst hR; simp (maxDischargeDepth := 12) only [A_codec_GetOp, kn, simprocAttr, qa, qb, qc, qd, Ow.enc, S_api_Op.enc, Sl.enc, *]
                    · cases h; subst hR; simp (maxDischargeDepth := 12) only [A_codec_GetOp, kn, simprocAttr, qa, qb, qc, qd, Ow.enc, S_api_Op.enc, Sl.enc, *]
                  · cases h; subst hR; simp (maxDischargeDepth := 12) only [A_codec_GetOp, kn, simprocAttr, qa, qb, qc, qd, Ow.enc, S_api_Op.enc, Sl.enc, *]
                · try simp only [kn, simprocAttr, qa, qb, qc, qd] at h11
                  cases h
              · cases h
            · replace h := br h; rcases h with ⟨h15, h⟩ | ⟨h15, h⟩
              · replace h := br h; rcases h with ⟨h16, h⟩ | ⟨h16, h⟩
                · try simp only [kn, simprocAttr, qa, qb, qc, qd] at h16
                  cases h; subst hR; simp (maxDischargeDepth := 12) only [A_codec_GetOp, kn, simprocAttr, qa, qb, qc, qd, Ow.enc, S_api_Op.enc, Sl.enc, *]
                · try simp only [kn, simprocAttr, qa, qb, qc, qd] at h16
                  cases h
              · cases h
          · try simp only [kn, simprocAttr, qa, qb, qc, qd] at h7
            cases h
        · cases h
      · replace h := br h; rcases h with ⟨h17, h⟩ | ⟨h17, h⟩
        · replace h := br h; rcases h with ⟨h18, h⟩ | ⟨h18, h⟩
          · try simp only [kn, simprocAttr, qa, qb, qc, qd] at h18
            replace h := ob h; obtain ⟨r5, h19, h⟩ := h
            replace h19 := run_num_GetSigned q (M + 6) (by omega) _ _ h19
            try simp only [Ow.enc, Sl.enc, kn, simprocAttr, qa, qb, qc, qd] at h19
            replace h := br h; rcases h with ⟨h20, h⟩ | ⟨h20, h⟩
            · replace h := br h; rcases h with ⟨h21, h⟩ | ⟨h21, h⟩
              · try simp only [kn, simprocAttr, qa, qb, qc, qd] at h21
                cases h; subst hR; simp (maxDischargeDepth := 12) only [A_codec_GetOp, kn, simprocAttr, qa, qb, qc, qd, Ow.enc, S_api_Op.enc, Sl.enc, *]
              · try simp only [kn, simprocAttr, qa, qb, qc, qd] at h21
                cases h
            · cases h
          · try simp only [kn, simprocAttr, qa, qb, qc, qd] at h18
            cases h
        · cases h
    · cases h
  · cases h
end Go.Dvm.C
