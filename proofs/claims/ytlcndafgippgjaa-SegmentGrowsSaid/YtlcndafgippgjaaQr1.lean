/- The machine comes to these answers: part 2. -/
import Derived.Test.YtlcndafgippgjaaQl0
import Derived.Test.YtlcndafgippgjaaQr0
set_option linter.all false
set_option maxRecDepth 100000
set_option maxHeartbeats 4000000
namespace Go.Dvm.C
open Go Go.Dvm Go.Dvm.I
def St_block_record_l0 (q : Nat) : Prop := ∀ (M : Nat) (hM : 8 * q ≤ M) (j : Nat) (hj : q ≤ j) (v3 : Int) (v47_0 : Int) (v47_1 : Int) (v47_2 : Int) (v47_3 : Int) (v48 : Int) (h0_1 : Int) (h0_2 : Int) (h0_3 : Int) (h0_4 : Int) (h0_5 : Int) (h0_6 : Int) (r : S_api_Record × Int) (_ : block_record_l0 q v3 v47_0 v47_1 v47_2 v47_3 v48 h0_1 h0_2 h0_3 h0_4 h0_5 h0_6 = some r) (R : Option (List V)) (_ : some [S_api_Record.enc r.1, (V.int .i64) r.2] = R) (fr : Fr) (H : Hp) (_ : canon 0 [2, 3, 47, 48] fr H = ([(2, (.ptr 0 0)), (3, (.int .i64 v3)), (47, (.agg [(.int .i64 v47_0), (.int .i64 v47_1), (.int .i64 v47_2), (.int .i64 v47_3)])), (48, (.int .i64 v48))], [(.box [(.int .i64 0), (.int .i64 h0_1), (.int .i64 h0_2), (.int .i64 h0_3), (.int .i64 h0_4), (.int .i64 h0_5), (.int .i64 h0_6)])])), fin m_block_record (unw T (orc T (M + 7)) (M + 7) 0 [.blk 0, .code c_88_26] (iter 0 [2, 3, 47, 48] (exec T (orc T (M + 7)) (M + 7) 0 c_88_23) j fr H)) = R
def A_block_record := And.intro @kk <| And.intro @L_block_record <| And.intro @v_num_Get <| And.intro @v_num_GetSigned <| And.intro @v_codec_GetOp <| And.intro @rr_block_record <| And.intro @ro_block_record <| @b0_block_record
theorem step_block_record_l0 (q : Nat) (ih_block_record_l0 : St_block_record_l0 q) : St_block_record_l0 (q + 1) := by
  intro M hM j hj v3 v47_0 v47_1 v47_2 v47_3 v48 h0_1 h0_2 h0_3 h0_4 h0_5 h0_6 r h R hR fr H hc
  obtain ⟨j, rfl⟩ : ∃ i, j = i + 1 := ⟨j - 1, by omega⟩
  rw [unw_iter, hc]; clear hc
  rw [block_record_l0] at h
  replace h := br h; rcases h with ⟨h1, h⟩ | ⟨h1, h⟩
  · replace h := br h; rcases h with ⟨h2, h⟩ | ⟨h2, h⟩
    · replace h := br h; rcases h with ⟨h3, h⟩ | ⟨h3, h⟩
      · replace h := bc h; rcases h with ⟨h4, h⟩ | ⟨h4, h⟩
        · replace h := br h; rcases h with ⟨h5, h⟩ | ⟨h5, h⟩
          · cases h; subst hR; simp (maxDischargeDepth := 12) only [A_block_record, kn, simprocAttr, qa, qb, qc, qd, Ow.enc, S_api_Op.enc, S_api_Record.enc, Sl.enc, *]
          · replace h := ih_block_record_l0 M (by omega) j (by omega) _ _ _ _ _ _ _ _ _ _ _ _ _ h R hR
            simp (maxDischargeDepth := 12) only [A_block_record, kn, simprocAttr, qa, qb, qc, qd, Ow.enc, S_api_Op.enc, S_api_Record.enc, Sl.enc, *]
        · replace h := bc h; rcases h with ⟨h6, h⟩ | ⟨h6, h⟩
          · replace h := br h; rcases h with ⟨h7, h⟩ | ⟨h7, h⟩
            · cases h; subst hR; simp (maxDischargeDepth := 12) only [A_block_record, kn, simprocAttr, qa, qb, qc, qd, Ow.enc, S_api_Op.enc, S_api_Record.enc, Sl.enc, *]
            · replace h := ih_block_record_l0 M (by omega) j (by omega) _ _ _ _ _ _ _ _ _ _ _ _ _ h R hR
              simp (maxDischargeDepth := 12) only [A_block_record, kn, simprocAttr, qa, qb, qc, qd, Ow.enc, S_api_Op.enc, S_api_Record.enc, Sl.enc, *]
          · replace h := bc h; rcases h with ⟨h8, h⟩ | ⟨h8, h⟩
            · replace h := br h; rcases h with ⟨h9, h⟩ | ⟨h9, h⟩
              · cases h; subst hR; simp (maxDischargeDepth := 12) only [A_block_record, kn, simprocAttr, qa, qb, qc, qd, Ow.enc, S_api_Op.enc, S_api_Record.enc, Sl.enc, *]
              · replace h := ih_block_record_l0 M (by omega) j (by omega) _ _ _ _ _ _ _ _ _ _ _ _ _ h R hR
                simp (maxDischargeDepth := 12) only [A_block_record, kn, simprocAttr, qa, qb, qc, qd, Ow.enc, S_api_Op.enc, S_api_Record.enc, Sl.enc, *]
            · replace h := bc h; rcases h with ⟨h10, h⟩ | ⟨h10, h⟩
              · replace h := br h; rcases h with ⟨h11, h⟩ | ⟨h11, h⟩
                · cases h; subst hR; simp (maxDischargeDepth := 12) only [A_block_record, kn, simprocAttr, qa, qb, qc, qd, Ow.enc, S_api_Op.enc, S_api_Record.enc, Sl.enc, *]
                · replace h := ih_block_record_l0 M (by omega) j (by omega) _ _ _ _ _ _ _ _ _ _ _ _ _ h R hR
                  simp (maxDischargeDepth := 12) only [A_block_record, kn, simprocAttr, qa, qb, qc, qd, Ow.enc, S_api_Op.enc, S_api_Record.enc, Sl.enc, *]
              · cases h
      · cases h
    · cases h
  · cases h; subst hR; simp (maxDischargeDepth := 12) only [A_block_record, kn, simprocAttr, qa, qb, qc, qd, Ow.enc, S_api_Op.enc, S_api_Record.enc, Sl.enc, *]
theorem all_block_record : ∀ q, St_block_record_l0 q
  | 0 => by intro M hM j hj; intros; rename_i h _ _ _ _ _; cases h
  | q + 1 => by have i0 := all_block_record q; exact step_block_record_l0 q i0
theorem run_block_record : ∀ (q N : Nat), 8 * q ≤ N → ∀ (a0 : (Sl Int)), ∀ (r : S_api_Record × Int), block_record q a0 = some r → (orc T N).deep F.block_record [(Sl.enc (V.int .u8)) a0] = some [S_api_Record.enc r.1, (V.int .i64) r.2] := by
  intro q N hM a0 r h
  rcases q with _ | q
  · cases h
  obtain ⟨M, rfl⟩ : ∃ M, N = M + 8 := ⟨N - 8, by omega⟩
  have ih_block_record_l0 := (all_block_record q)
  generalize hR : some [S_api_Record.enc r.1, (V.int .i64) r.2] = R
  rw [orc_deep, T_block_record, Option.bind_some, runDeep_eq]
  rw [block_record] at h
  replace h := ob h; obtain ⟨r1, h1, h⟩ := h
  replace h1 := run_num_Get q (M + 7) (by omega) _ _ h1
  try simp only [Ow.enc, Sl.enc, kn, simprocAttr, qa, qb, qc, qd] at h1
  replace h := br h; rcases h with ⟨h2, h⟩ | ⟨h2, h⟩
  · replace h := br h; rcases h with ⟨h3, h⟩ | ⟨h3, h⟩
    · replace h := ob h; obtain ⟨r2, h4, h⟩ := h
      replace h4 := run_num_GetSigned q (M + 7) (by omega) _ _ h4
      try simp only [Ow.enc, Sl.enc, kn, simprocAttr, qa, qb, qc, qd] at h4
      replace h := br h; rcases h with ⟨h5, h⟩ | ⟨h5, h⟩
      · replace h := br h; rcases h with ⟨h6, h⟩ | ⟨h6, h⟩
        · try simp only [kn, simprocAttr, qa, qb, qc, qd] at h6
          replace h := ob h; obtain ⟨r3, h7, h⟩ := h
          replace h7 := run_codec_GetOp q (M + 7) (by omega) _ _ h7
          try simp only [Ow.enc, S_api_Op.enc, Sl.enc, kn, simprocAttr, qa, qb, qc, qd] at h7
          replace h := br h; rcases h with ⟨h8, h⟩ | ⟨h8, h⟩
          · replace h := br h; rcases h with ⟨h9, h⟩ | ⟨h9, h⟩
            · try simp only [kn, simprocAttr, qa, qb, qc, qd] at h9
              replace h := ob h; obtain ⟨r4, h10, h⟩ := h
              replace h10 := run_num_GetSigned q (M + 7) (by omega) _ _ h10
              try simp only [Ow.enc, Sl.enc, kn, simprocAttr, qa, qb, qc, qd] at h10
              replace h := ih_block_record_l0 M (by omega) (M + 7) (by omega) _ _ _ _ _ _ _ _ _ _ _ _ _ h R hR
              simp (maxDischargeDepth := 12) only [A_block_record, kn, simprocAttr, qa, qb, qc, qd, Ow.enc, S_api_Op.enc, S_api_Record.enc, Sl.enc, *]
            · try simp only [kn, simprocAttr, qa, qb, qc, qd] at h9
              cases h
          · cases h
        · try simp only [kn, simprocAttr, qa, qb, qc, qd] at h6
          cases h
      · cases h
    · cases h
  · cases h
def A_bytes_Equal := And.intro @kk <| And.intro @L_bytes_Equal <| And.intro @rr_bytes_Equal <| And.intro @ro_bytes_Equal <| @b0_bytes_Equal
theorem run_bytes_Equal : ∀ (q N : Nat), 8 * q ≤ N → ∀ (a0 : (Sl Int)) (a1 : (Sl Int)), ∀ (r : Bool), bytes_Equal q a0 a1 = some r → (orc T N).deep F.bytes_Equal [(Sl.enc (V.int .u8)) a0, (Sl.enc (V.int .u8)) a1] = some [V.bool r] := by
  intro q N hM a0 a1 r h
  rcases q with _ | q
  · cases h
  obtain ⟨M, rfl⟩ : ∃ M, N = M + 8 := ⟨N - 8, by omega⟩
  generalize hR : some [V.bool r] = R
  rw [orc_deep, T_bytes_Equal, Option.bind_some, runDeep_eq]
  rw [bytes_Equal] at h
  cases h; subst hR; simp (maxDischargeDepth := 12) only [A_bytes_Equal, kn, simprocAttr, qa, qb, qc, qd, Ow.enc, Sl.enc, *]
def St_block_Decode_l0 (q : Nat) : Prop := ∀ (M : Nat) (hM : 8 * q ≤ M) (j : Nat) (hj : q ≤ j) (v0z : Bool) (v0l : List Int) (v4 : Int) (v10z : Bool) (v10l : List Int) (v44 : Int) (v45 : Int) (h0m : List (Int × Int)) (h1z : Bool) (h1l : List S_api_Record) (r : (Ow S_api_Record) × Int) (_ : block_Decode_l0 q v0z v0l v4 v10z v10l v44 v45 h0m h1z h1l = some r) (R : Option (List V)) (_ : some [(Ow.enc 7 S_api_Record.enc) r.1, (V.int .i64) r.2] = R) (fr : Fr) (H : Hp) (_ : canon 0 [0, 4, 8, 9, 10, 44, 45] fr H = ([(0, (.sl v0z (List.map (V.int .u8) v0l))), (4, (.int .i64 v4)), (8, (.mp 0)), (9, (.vw 1 0 0 h1l.length 1)), (10, (.sl v10z (List.map (V.int .u8) v10l))), (44, (.int .i64 v44)), (45, (.int .i64 v45))], [(.map h0m), (.row 0 h1z 7 (List.map S_api_Record.enc h1l) true)])), fin m_block_Decode (unw T (orc T (M + 7)) (M + 7) 0 [.blk 0, .code c_67_40] (iter 0 [0, 4, 8, 9, 10, 44, 45] (exec T (orc T (M + 7)) (M + 7) 0 c_67_31) j fr H)) = R
def A_block_Decode := And.intro @kk <| And.intro @L_block_Decode <| And.intro @v_bytes_Equal <| And.intro @v_block_Encode <| And.intro @v_num_Get <| And.intro @v_block_record <| And.intro @rr_block_Decode <| And.intro @ro_block_Decode <| @b0_block_Decode
theorem step_block_Decode_l0 (q : Nat) (ih_block_Decode_l0 : St_block_Decode_l0 q) : St_block_Decode_l0 (q + 1) := by
  intro M hM j hj v0z v0l v4 v10z v10l v44 v45 h0m h1z h1l r h R hR fr H hc
  obtain ⟨j, rfl⟩ : ∃ i, j = i + 1 := ⟨j - 1, by omega⟩
  rw [unw_iter, hc]; clear hc
  rw [block_Decode_l0] at h
  replace h := br h; rcases h with ⟨h1, h⟩ | ⟨h1, h⟩
  · replace h := ob h; obtain ⟨r3, h2, h⟩ := h
    replace h2 := run_block_record q (M + 7) (by omega) _ _ h2
    try simp only [Ow.enc, S_api_Op.enc, S_api_Record.enc, Sl.enc, kn, simprocAttr, qa, qb, qc, qd] at h2
    replace h := br h; rcases h with ⟨h3, h⟩ | ⟨h3, h⟩
    · cases h; subst hR; simp (maxDischargeDepth := 12) only [A_block_Decode, kn, simprocAttr, qa, qb, qc, qd, Ow.enc, S_api_Op.enc, S_api_Record.enc, Sl.enc, *]
    · replace h := br h; rcases h with ⟨h4, h⟩ | ⟨h4, h⟩
      · try simp only [kn, simprocAttr, qa, qb, qc, qd] at h4
        replace h := br h; rcases h with ⟨h5, h⟩ | ⟨h5, h⟩
        · replace h := br h; rcases h with ⟨h6, h⟩ | ⟨h6, h⟩
          · replace h := ih_block_Decode_l0 M (by omega) j (by omega) _ _ _ _ _ _ _ _ _ _ _ h R hR
            simp (maxDischargeDepth := 12) only [A_block_Decode, kn, simprocAttr, qa, qb, qc, qd, Ow.enc, S_api_Op.enc, S_api_Record.enc, Sl.enc, *]
          · cases h
        · cases h
      · try simp only [kn, simprocAttr, qa, qb, qc, qd] at h4
        cases h
  · replace h := ob h; obtain ⟨r4, h7, h⟩ := h
    replace h7 := run_block_Encode q (M + 7) (by omega) _ _ h7
    try simp only [Ow.enc, S_api_Op.enc, S_api_Record.enc, Sl.enc, kn, simprocAttr, qa, qb, qc, qd] at h7
    replace h := br h; rcases h with ⟨h8, h⟩ | ⟨h8, h⟩
    · replace h := ob h; obtain ⟨r5, h9, h⟩ := h
      replace h9 := run_bytes_Equal q (M + 7) (by omega) _ _ _ h9
      try simp only [Ow.enc, Sl.enc, kn, simprocAttr, qa, qb, qc, qd] at h9
      replace h := bb h; rcases h with ⟨h10', h10, h⟩ | ⟨h10', h10, h⟩
      · cases h; subst hR; simp (maxDischargeDepth := 12) only [A_block_Decode, kn, simprocAttr, qa, qb, qc, qd, Ow.enc, S_api_Op.enc, S_api_Record.enc, Sl.enc, *]
      · cases h; subst hR; simp (maxDischargeDepth := 12) only [A_block_Decode, kn, simprocAttr, qa, qb, qc, qd, Ow.enc, S_api_Op.enc, S_api_Record.enc, Sl.enc, *]
    · cases h; subst hR; simp (maxDischargeDepth := 12) only [A_block_Decode, kn, simprocAttr, qa, qb, qc, qd, Ow.enc, S_api_Op.enc, S_api_Record.enc, Sl.enc, *]
theorem all_block_Decode : ∀ q, St_block_Decode_l0 q
  | 0 => by intro M hM j hj; intros; rename_i h _ _ _ _ _; cases h
  | q + 1 => by have i0 := all_block_Decode q; exact step_block_Decode_l0 q i0
theorem run_block_Decode : ∀ (q N : Nat), 8 * q ≤ N → ∀ (a0 : (Sl Int)), ∀ (r : (Ow S_api_Record) × Int), block_Decode q a0 = some r → (orc T N).deep F.block_Decode [(Sl.enc (V.int .u8)) a0] = some [(Ow.enc 7 S_api_Record.enc) r.1, (V.int .i64) r.2] := by
  intro q N hM a0 r h
  rcases q with _ | q
  · cases h
  obtain ⟨M, rfl⟩ : ∃ M, N = M + 8 := ⟨N - 8, by omega⟩
  have ih_block_Decode_l0 := (all_block_Decode q)
  generalize hR : some [(Ow.enc 7 S_api_Record.enc) r.1, (V.int .i64) r.2] = R
  rw [orc_deep, T_block_Decode, Option.bind_some, runDeep_eq]
  rw [block_Decode] at h
  replace h := ob h; obtain ⟨r1, h1, h⟩ := h
  replace h1 := run_num_Get q (M + 7) (by omega) _ _ h1
  try simp only [Ow.enc, Sl.enc, kn, simprocAttr, qa, qb, qc, qd] at h1
  replace h := br h; rcases h with ⟨h2, h⟩ | ⟨h2, h⟩
  · replace h := br h; rcases h with ⟨h3, h⟩ | ⟨h3, h⟩
    · replace h := ob h; obtain ⟨r2, h4, h⟩ := h
      replace h4 := run_num_Get q (M + 7) (by omega) _ _ h4
      try simp only [Ow.enc, Sl.enc, kn, simprocAttr, qa, qb, qc, qd] at h4
      replace h := br h; rcases h with ⟨h5, h⟩ | ⟨h5, h⟩
      · cases h; subst hR; simp (maxDischargeDepth := 12) only [A_block_Decode, kn, simprocAttr, qa, qb, qc, qd, Ow.enc, S_api_Op.enc, S_api_Record.enc, Sl.enc, *]
      · replace h := br h; rcases h with ⟨h6, h⟩ | ⟨h6, h⟩
        · cases h; subst hR; simp (maxDischargeDepth := 12) only [A_block_Decode, kn, simprocAttr, qa, qb, qc, qd, Ow.enc, S_api_Op.enc, S_api_Record.enc, Sl.enc, *]
        · replace h := br h; rcases h with ⟨h7, h⟩ | ⟨h7, h⟩
          · cases h; subst hR; simp (maxDischargeDepth := 12) only [A_block_Decode, kn, simprocAttr, qa, qb, qc, qd, Ow.enc, S_api_Op.enc, S_api_Record.enc, Sl.enc, *]
          · replace h := br h; rcases h with ⟨h8, h⟩ | ⟨h8, h⟩
            · try simp only [kn, simprocAttr, qa, qb, qc, qd] at h8
              replace h := br h; rcases h with ⟨h9, h⟩ | ⟨h9, h⟩
              · try simp only [kn, simprocAttr, qa, qb, qc, qd] at h9
                replace h := ih_block_Decode_l0 M (by omega) (M + 7) (by omega) _ _ _ _ _ _ _ _ _ _ _ h R hR
                simp (maxDischargeDepth := 12) only [A_block_Decode, kn, simprocAttr, qa, qb, qc, qd, Ow.enc, S_api_Op.enc, S_api_Record.enc, Sl.enc, *]
              · try simp only [kn, simprocAttr, qa, qb, qc, qd] at h9
                cases h
            · try simp only [kn, simprocAttr, qa, qb, qc, qd] at h8
              cases h
    · cases h
  · cases h
def A_slices_Clone_int_int := And.intro @kk <| And.intro @L_slices_Clone_int_int <| And.intro @rr_slices_Clone_int_int <| And.intro @ro_slices_Clone_int_int <| @b0_slices_Clone_int_int
theorem run_slices_Clone_int_int : ∀ (q N : Nat), 8 * q ≤ N → ∀ (a0 : (Sl Int)), ∀ (r : (Ow Int)), slices_Clone_int_int q a0 = some r → (orc T N).deep F.slices_Clone_int_int [(Sl.enc (V.int .i64)) a0] = some [(Ow.enc 1 (V.int .i64)) r] := by
  intro q N hM a0 r h
  rcases q with _ | q
  · cases h
  obtain ⟨M, rfl⟩ : ∃ M, N = M + 8 := ⟨N - 8, by omega⟩
  generalize hR : some [(Ow.enc 1 (V.int .i64)) r] = R
  rw [orc_deep, T_slices_Clone_int_int, Option.bind_some, runDeep_eq]
  rw [slices_Clone_int_int] at h
  replace h := bb h; rcases h with ⟨h1', h1, h⟩ | ⟨h1', h1, h⟩
  · cases h; subst hR; simp (maxDischargeDepth := 12) only [A_slices_Clone_int_int, kn, simprocAttr, qa, qb, qc, qd, Ow.enc, Sl.enc, *]
  · replace h := br h; rcases h with ⟨h2, h⟩ | ⟨h2, h⟩
    · cases h; subst hR; simp (maxDischargeDepth := 12) only [A_slices_Clone_int_int, kn, simprocAttr, qa, qb, qc, qd, Ow.enc, Sl.enc, *]
    · cases h
def St_slices_Index_int_int_l0 (q : Nat) : Prop := ∀ (M : Nat) (hM : 8 * q ≤ M) (j : Nat) (hj : q ≤ j) (v0z : Bool) (v0l : List Int) (v1 : Int) (v7 : Int) (v8 : Int) (r : Int) (_ : slices_Index_int_int_l0 q v0z v0l v1 v7 v8 = some r) (R : Option (List V)) (_ : some [(V.int .i64) r] = R) (fr : Fr) (H : Hp) (_ : canon 0 [0, 1, 7, 8] fr H = ([(0, (.sl v0z (List.map (V.int .i64) v0l))), (1, (.int .i64 v1)), (7, (.int .i64 v7)), (8, (.int .i64 v8))], [])), fin m_slices_Index_int_int (unw T (orc T (M + 7)) (M + 7) 0 [.blk 0, .code c_103_16] (iter 0 [0, 1, 7, 8] (exec T (orc T (M + 7)) (M + 7) 0 c_103_13) j fr H)) = R
def A_slices_Index_int_int := And.intro @kk <| And.intro @L_slices_Index_int_int <| And.intro @rr_slices_Index_int_int <| And.intro @ro_slices_Index_int_int <| @b0_slices_Index_int_int
theorem step_slices_Index_int_int_l0 (q : Nat) (ih_slices_Index_int_int_l0 : St_slices_Index_int_int_l0 q) : St_slices_Index_int_int_l0 (q + 1) := by
  intro M hM j hj v0z v0l v1 v7 v8 r h R hR fr H hc
  obtain ⟨j, rfl⟩ : ∃ i, j = i + 1 := ⟨j - 1, by omega⟩
  rw [unw_iter, hc]; clear hc
  rw [slices_Index_int_int_l0] at h
  replace h := br h; rcases h with ⟨h1, h⟩ | ⟨h1, h⟩
  · replace h := br h; rcases h with ⟨h2, h⟩ | ⟨h2, h⟩
    · replace h := ob h; obtain ⟨e1, h3, h⟩ := h
      replace h := br h; rcases h with ⟨h4, h⟩ | ⟨h4, h⟩
      · cases h; subst hR; simp (maxDischargeDepth := 12) only [A_slices_Index_int_int, kn, simprocAttr, qa, qb, qc, qd, Ow.enc, Sl.enc, *]
      · replace h := ih_slices_Index_int_int_l0 M (by omega) j (by omega) _ _ _ _ _ _ h R hR
        simp (maxDischargeDepth := 12) only [A_slices_Index_int_int, kn, simprocAttr, qa, qb, qc, qd, Ow.enc, Sl.enc, *]
    · cases h
  · cases h; subst hR; simp (maxDischargeDepth := 12) only [A_slices_Index_int_int, kn, simprocAttr, qa, qb, qc, qd, Ow.enc, Sl.enc, *]
theorem all_slices_Index_int_int : ∀ q, St_slices_Index_int_int_l0 q
  | 0 => by intro M hM j hj; intros; rename_i h _ _ _ _ _; cases h
  | q + 1 => by have i0 := all_slices_Index_int_int q; exact step_slices_Index_int_int_l0 q i0
theorem run_slices_Index_int_int : ∀ (q N : Nat), 8 * q ≤ N → ∀ (a0 : (Sl Int)) (a1 : Int), ∀ (r : Int), slices_Index_int_int q a0 a1 = some r → (orc T N).deep F.slices_Index_int_int [(Sl.enc (V.int .i64)) a0, (V.int .i64) a1] = some [(V.int .i64) r] := by
  intro q N hM a0 a1 r h
  rcases q with _ | q
  · cases h
  obtain ⟨M, rfl⟩ : ∃ M, N = M + 8 := ⟨N - 8, by omega⟩
  have ih_slices_Index_int_int_l0 := (all_slices_Index_int_int q)
  generalize hR : some [(V.int .i64) r] = R
  rw [orc_deep, T_slices_Index_int_int, Option.bind_some, runDeep_eq]
  rw [slices_Index_int_int] at h
  replace h := ih_slices_Index_int_int_l0 M (by omega) (M + 7) (by omega) _ _ _ _ _ _ h R hR
  simp (maxDischargeDepth := 12) only [A_slices_Index_int_int, kn, simprocAttr, qa, qb, qc, qd, Ow.enc, Sl.enc, *]
def A_slices_Delete_int_int := And.intro @kk <| And.intro @L_slices_Delete_int_int <| And.intro @rr_slices_Delete_int_int <| And.intro @ro_slices_Delete_int_int <| @b0_slices_Delete_int_int
theorem run_slices_Delete_int_int : ∀ (q N : Nat), 8 * q ≤ N → ∀ (a0 : (Ow Int)) (a1 : Int) (a2 : Int), ∀ (r : (Ow Int)), slices_Delete_int_int q a0 a1 a2 = some r → (orc T N).deep F.slices_Delete_int_int [(Ow.enc 1 (V.int .i64)) a0, (V.int .i64) a1, (V.int .i64) a2] = some [(Ow.enc 1 (V.int .i64)) r] := by
  intro q N hM a0 a1 a2 r h
  rcases q with _ | q
  · cases h
  obtain ⟨M, rfl⟩ : ∃ M, N = M + 8 := ⟨N - 8, by omega⟩
  generalize hR : some [(Ow.enc 1 (V.int .i64)) r] = R
  rw [orc_deep, T_slices_Delete_int_int, Option.bind_some, runDeep_eq]
  rw [slices_Delete_int_int] at h
  replace h := br h; rcases h with ⟨h1, h⟩ | ⟨h1, h⟩
  · replace h := br h; rcases h with ⟨h2, h⟩ | ⟨h2, h⟩
    · replace h := br h; rcases h with ⟨h3, h⟩ | ⟨h3, h⟩
      · replace h := br h; rcases h with ⟨h4, h⟩ | ⟨h4, h⟩
        · cases h; subst hR; simp (maxDischargeDepth := 12) only [A_slices_Delete_int_int, kn, simprocAttr, qa, qb, qc, qd, Ow.enc, Sl.enc, *]
        · replace h := br h; rcases h with ⟨h5, h⟩ | ⟨h5, h⟩
          · replace h := bb h; rcases h with ⟨h6', h6, h⟩ | ⟨h6', h6, h⟩
            · replace h := br h; rcases h with ⟨h7, h⟩ | ⟨h7, h⟩
              · replace h := br h; rcases h with ⟨h8, h⟩ | ⟨h8, h⟩
                · replace h := br h; rcases h with ⟨h9, h⟩ | ⟨h9, h⟩
                  · try simp only [kn, simprocAttr, qa, qb, qc, qd] at h9
                    replace h := br h; rcases h with ⟨h10, h⟩ | ⟨h10, h⟩
                    · try simp only [kn, simprocAttr, qa, qb, qc, qd] at h10
                      replace h := br h; rcases h with ⟨h11, h⟩ | ⟨h11, h⟩
                      · try simp only [kn, simprocAttr, qa, qb, qc, qd] at h11
                        replace h := br h; rcases h with ⟨h12, h⟩ | ⟨h12, h⟩
                        · try simp only [kn, simprocAttr, qa, qb, qc, qd] at h12
                          cases h
                        · try simp only [kn, simprocAttr, qa, qb, qc, qd] at h12
                          replace h := bb h; rcases h with ⟨h13', h13, h⟩ | ⟨h13', h13, h⟩
                          · cases h; subst hR; simp (maxDischargeDepth := 12) only [A_slices_Delete_int_int, kn, simprocAttr, qa, qb, qc, qd, Ow.enc, Sl.enc, *]
                          · cases h
                      · try simp only [kn, simprocAttr, qa, qb, qc, qd] at h11
                        cases h
                    · try simp only [kn, simprocAttr, qa, qb, qc, qd] at h10
                      cases h
                  · try simp only [kn, simprocAttr, qa, qb, qc, qd] at h9
                    cases h
                · cases h
              · cases h
            · replace h := br h; rcases h with ⟨h14, h⟩ | ⟨h14, h⟩
              · replace h := br h; rcases h with ⟨h15, h⟩ | ⟨h15, h⟩
                · replace h := br h; rcases h with ⟨h16, h⟩ | ⟨h16, h⟩
                  · try simp only [kn, simprocAttr, qa, qb, qc, qd] at h16
                    replace h := bb h; rcases h with ⟨h17', h17, h⟩ | ⟨h17', h17, h⟩
                    · replace h := br h; rcases h with ⟨h18, h⟩ | ⟨h18, h⟩
                      · try simp only [kn, simprocAttr, qa, qb, qc, qd] at h18
                        replace h := br h; rcases h with ⟨h19, h⟩ | ⟨h19, h⟩
                        · try simp only [kn, simprocAttr, qa, qb, qc, qd] at h19
                          cases h; subst hR; simp (maxDischargeDepth := 12) only [A_slices_Delete_int_int, kn, simprocAttr, qa, qb, qc, qd, Ow.enc, Sl.enc, *]
                        · try simp only [kn, simprocAttr, qa, qb, qc, qd] at h19
                          cases h
                      · try simp only [kn, simprocAttr, qa, qb, qc, qd] at h18
                        cases h
                    · cases h
                  · try simp only [kn, simprocAttr, qa, qb, qc, qd] at h16
                    cases h
                · cases h
              · cases h
          · cases h
      · cases h
    · cases h
  · cases h
def A_schema_pass := And.intro @kk <| And.intro @L_schema_pass <| And.intro @v_num_Get <| And.intro @rr_schema_pass <| And.intro @ro_schema_pass <| @b0_schema_pass
theorem run_schema_pass : ∀ (q N : Nat), 8 * q ≤ N → ∀ (a0 : (Sl Int)), ∀ (r : Int), schema_pass q a0 = some r → (orc T N).deep F.schema_pass [(Sl.enc (V.int .u8)) a0] = some [(V.int .i64) r] := by
  intro q N hM a0 r h
  rcases q with _ | q
  · cases h
  obtain ⟨M, rfl⟩ : ∃ M, N = M + 8 := ⟨N - 8, by omega⟩
  generalize hR : some [(V.int .i64) r] = R
  rw [orc_deep, T_schema_pass, Option.bind_some, runDeep_eq]
  rw [schema_pass] at h
  replace h := ob h; obtain ⟨r1, h1, h⟩ := h
  replace h1 := run_num_Get q (M + 7) (by omega) _ _ h1
  try simp only [Ow.enc, Sl.enc, kn, simprocAttr, qa, qb, qc, qd] at h1
  replace h := br h; rcases h with ⟨h2, h⟩ | ⟨h2, h⟩
  · cases h; subst hR; simp (maxDischargeDepth := 12) only [A_schema_pass, kn, simprocAttr, qa, qb, qc, qd, Ow.enc, Sl.enc, *]
  · replace h := br h; rcases h with ⟨h3, h⟩ | ⟨h3, h⟩
    · try simp only [kn, simprocAttr, qa, qb, qc, qd] at h3
      cases h; subst hR; simp (maxDischargeDepth := 12) only [A_schema_pass, kn, simprocAttr, qa, qb, qc, qd, Ow.enc, Sl.enc, *]
    · try simp only [kn, simprocAttr, qa, qb, qc, qd] at h3
      cases h; subst hR; simp (maxDischargeDepth := 12) only [A_schema_pass, kn, simprocAttr, qa, qb, qc, qd, Ow.enc, Sl.enc, *]
def St_schema_read_l0 (q : Nat) : Prop := ∀ (M : Nat) (hM : 8 * q ≤ M) (j : Nat) (hj : q ≤ j) (v0 : Int) (v1z : Bool) (v1l : List Int) (v7 : Int) (h0_0 : Int) (h0_1 : Int) (h0_2 : Int) (h0_3 : Int) (h0_4 : Int) (h0_5 : Int) (h0_6 : Int) (h1z : Bool) (h1l : List Int) (h1x : Bool) (r : S_api_Record × Int) (_ : schema_read_l0 q v0 v1z v1l v7 h0_0 h0_1 h0_2 h0_3 h0_4 h0_5 h0_6 h1z h1l h1x = some r) (R : Option (List V)) (_ : some [S_api_Record.enc r.1, (V.int .i64) r.2] = R) (fr : Fr) (H : Hp) (_ : canon 0 [0, 1, 4, 6, 7] fr H = ([(0, (.int .i64 v0)), (1, (.sl v1z (List.map (V.int .u8) v1l))), (4, (.ptr 0 0)), (6, (.vw 1 0 0 h1l.length 1)), (7, (.int .i64 v7))], [(.box [(.int .i64 h0_0), (.int .i64 h0_1), (.int .i64 h0_2), (.int .i64 h0_3), (.int .i64 h0_4), (.int .i64 h0_5), (.int .i64 h0_6)]), (.row 0 h1z 1 (List.map (V.int .i64) h1l) h1x)])), fin m_schema_read (unw T (orc T (M + 7)) (M + 7) 0 [.blk 0, .code c_98_44] (iter 0 [0, 1, 4, 6, 7] (exec T (orc T (M + 7)) (M + 7) 0 c_98_34) j fr H)) = R
def A_schema_read := And.intro @kk <| And.intro @L_schema_read <| And.intro @L_schema_get <| And.intro @v_schema_Fits <| And.intro @v_num_Get <| And.intro @v_schema_fields <| And.intro @v_num_GetSigned <| And.intro @v_codec_GetOp <| And.intro @v_slices_Clone_int_int <| And.intro @v_slices_Index_int_int <| And.intro @v_slices_Delete_int_int <| And.intro @v_schema_pass <| And.intro @v_schema_get <| And.intro @i_schema_get <| And.intro @rr_schema_read <| And.intro @ro_schema_read <| @b0_schema_read
theorem step_schema_read_l0 (q : Nat) (ih_schema_read_l0 : St_schema_read_l0 q) : St_schema_read_l0 (q + 1) := by
  intro M hM j hj v0 v1z v1l v7 h0_0 h0_1 h0_2 h0_3 h0_4 h0_5 h0_6 h1z h1l h1x r h R hR fr H hc
  obtain ⟨j, rfl⟩ : ∃ i, j = i + 1 := ⟨j - 1, by omega⟩
  rw [unw_iter, hc]; clear hc
  rw [schema_read_l0] at h
  replace h := br h; rcases h with ⟨h1, h⟩ | ⟨h1, h⟩
  · replace h := ob h; obtain ⟨r3, h2, h⟩ := h
    replace h2 := run_num_Get q (M + 7) (by omega) _ _ h2
    try simp only [Ow.enc, Sl.enc, kn, simprocAttr, qa, qb, qc, qd] at h2
    replace h := br h; rcases h with ⟨h3, h⟩ | ⟨h3, h⟩
    · cases h; subst hR; simp (maxDischargeDepth := 12) only [A_schema_read, kn, simprocAttr, qa, qb, qc, qd, Ow.enc, S_api_Op.enc, S_api_Record.enc, Sl.enc, *]
    · replace h := br h; rcases h with ⟨h4, h⟩ | ⟨h4, h⟩
      · cases h; subst hR; simp (maxDischargeDepth := 12) only [A_schema_read, kn, simprocAttr, qa, qb, qc, qd, Ow.enc, S_api_Op.enc, S_api_Record.enc, Sl.enc, *]
      · replace h := br h; rcases h with ⟨h5, h⟩ | ⟨h5, h⟩
        · replace h := br h; rcases h with ⟨h6, h⟩ | ⟨h6, h⟩
          · replace h := ob h; obtain ⟨r4, h7, h⟩ := h
            replace h7 := run_slices_Index_int_int q (M + 7) (by omega) _ _ _ h7
            try simp only [Ow.enc, Sl.enc, kn, simprocAttr, qa, qb, qc, qd] at h7
            replace h := br h; rcases h with ⟨h8, h⟩ | ⟨h8, h⟩
            · replace h := ob h; obtain ⟨r5, h9, h⟩ := h
              replace h9 := run_slices_Delete_int_int q (M + 7) (by omega) _ _ _ _ h9
              try simp only [Ow.enc, Sl.enc, kn, simprocAttr, qa, qb, qc, qd] at h9
              replace h := br h; rcases h with ⟨h10, h⟩ | ⟨h10, h⟩
              · replace h := ob h; obtain ⟨r6, h11, h⟩ := h
                replace h11 := run_num_Get q (M + 6) (by omega) _ _ h11
                try simp only [Ow.enc, Sl.enc, kn, simprocAttr, qa, qb, qc, qd] at h11
                replace h := br h; rcases h with ⟨h12, h⟩ | ⟨h12, h⟩
                · cases h; subst hR; simp (maxDischargeDepth := 12) only [A_schema_read, kn, simprocAttr, qa, qb, qc, qd, Ow.enc, S_api_Op.enc, S_api_Record.enc, Sl.enc, *]
                · replace h := br h; rcases h with ⟨h13, h⟩ | ⟨h13, h⟩
                  · replace h := br h; rcases h with ⟨h14, h⟩ | ⟨h14, h⟩
                    · try simp only [kn, simprocAttr, qa, qb, qc, qd] at h14
                      replace h := ih_schema_read_l0 M (by omega) j (by omega) _ _ _ _ _ _ _ _ _ _ _ _ _ _ _ h R hR
                      simp (maxDischargeDepth := 12) only [A_schema_read, kn, simprocAttr, qa, qb, qc, qd, Ow.enc, S_api_Op.enc, S_api_Record.enc, Sl.enc, *]
                    · try simp only [kn, simprocAttr, qa, qb, qc, qd] at h14
                      cases h
                  · cases h
              · replace h := br h; rcases h with ⟨h15, h⟩ | ⟨h15, h⟩
                · replace h := ob h; obtain ⟨r7, h16, h⟩ := h
                  replace h16 := run_num_Get q (M + 6) (by omega) _ _ h16
                  try simp only [Ow.enc, Sl.enc, kn, simprocAttr, qa, qb, qc, qd] at h16
                  replace h := br h; rcases h with ⟨h17, h⟩ | ⟨h17, h⟩
                  · cases h; subst hR; simp (maxDischargeDepth := 12) only [A_schema_read, kn, simprocAttr, qa, qb, qc, qd, Ow.enc, S_api_Op.enc, S_api_Record.enc, Sl.enc, *]
                  · replace h := br h; rcases h with ⟨h18, h⟩ | ⟨h18, h⟩
                    · replace h := br h; rcases h with ⟨h19, h⟩ | ⟨h19, h⟩
                      · try simp only [kn, simprocAttr, qa, qb, qc, qd] at h19
                        replace h := ih_schema_read_l0 M (by omega) j (by omega) _ _ _ _ _ _ _ _ _ _ _ _ _ _ _ h R hR
                        simp (maxDischargeDepth := 12) only [A_schema_read, kn, simprocAttr, qa, qb, qc, qd, Ow.enc, S_api_Op.enc, S_api_Record.enc, Sl.enc, *]
                      · try simp only [kn, simprocAttr, qa, qb, qc, qd] at h19
                        cases h
                    · cases h
                · replace h := br h; rcases h with ⟨h20, h⟩ | ⟨h20, h⟩
                  · replace h := ob h; obtain ⟨r8, h21, h⟩ := h
                    replace h21 := run_num_Get q (M + 6) (by omega) _ _ h21
                    try simp only [Ow.enc, Sl.enc, kn, simprocAttr, qa, qb, qc, qd] at h21
                    replace h := br h; rcases h with ⟨h22, h⟩ | ⟨h22, h⟩
                    · cases h; subst hR; simp (maxDischargeDepth := 12) only [A_schema_read, kn, simprocAttr, qa, qb, qc, qd, Ow.enc, S_api_Op.enc, S_api_Record.enc, Sl.enc, *]
                    · replace h := br h; rcases h with ⟨h23, h⟩ | ⟨h23, h⟩
                      · replace h := br h; rcases h with ⟨h24, h⟩ | ⟨h24, h⟩
                        · try simp only [kn, simprocAttr, qa, qb, qc, qd] at h24
                          replace h := ih_schema_read_l0 M (by omega) j (by omega) _ _ _ _ _ _ _ _ _ _ _ _ _ _ _ h R hR
                          simp (maxDischargeDepth := 12) only [A_schema_read, kn, simprocAttr, qa, qb, qc, qd, Ow.enc, S_api_Op.enc, S_api_Record.enc, Sl.enc, *]
                        · try simp only [kn, simprocAttr, qa, qb, qc, qd] at h24
                          cases h
                      · cases h
                  · replace h := br h; rcases h with ⟨h25, h⟩ | ⟨h25, h⟩
                    · replace h := ob h; obtain ⟨r9, h26, h⟩ := h
                      replace h26 := run_codec_GetOp q (M + 6) (by omega) _ _ h26
                      try simp only [Ow.enc, S_api_Op.enc, Sl.enc, kn, simprocAttr, qa, qb, qc, qd] at h26
                      replace h := br h; rcases h with ⟨h27, h⟩ | ⟨h27, h⟩
                      · cases h; subst hR; simp (maxDischargeDepth := 12) only [A_schema_read, kn, simprocAttr, qa, qb, qc, qd, Ow.enc, S_api_Op.enc, S_api_Record.enc, Sl.enc, *]
                      · replace h := br h; rcases h with ⟨h28, h⟩ | ⟨h28, h⟩
                        · replace h := br h; rcases h with ⟨h29, h⟩ | ⟨h29, h⟩
                          · try simp only [kn, simprocAttr, qa, qb, qc, qd] at h29
                            replace h := ih_schema_read_l0 M (by omega) j (by omega) _ _ _ _ _ _ _ _ _ _ _ _ _ _ _ h R hR
                            simp (maxDischargeDepth := 12) only [A_schema_read, kn, simprocAttr, qa, qb, qc, qd, Ow.enc, S_api_Op.enc, S_api_Record.enc, Sl.enc, *]
                          · try simp only [kn, simprocAttr, qa, qb, qc, qd] at h29
                            cases h
                        · cases h
                    · replace h := br h; rcases h with ⟨h30, h⟩ | ⟨h30, h⟩
                      · replace h := ob h; obtain ⟨r10, h31, h⟩ := h
                        replace h31 := run_num_GetSigned q (M + 6) (by omega) _ _ h31
                        try simp only [Ow.enc, Sl.enc, kn, simprocAttr, qa, qb, qc, qd] at h31
                        replace h := br h; rcases h with ⟨h32, h⟩ | ⟨h32, h⟩
                        · cases h; subst hR; simp (maxDischargeDepth := 12) only [A_schema_read, kn, simprocAttr, qa, qb, qc, qd, Ow.enc, S_api_Op.enc, S_api_Record.enc, Sl.enc, *]
                        · replace h := br h; rcases h with ⟨h33, h⟩ | ⟨h33, h⟩
                          · replace h := br h; rcases h with ⟨h34, h⟩ | ⟨h34, h⟩
                            · try simp only [kn, simprocAttr, qa, qb, qc, qd] at h34
                              replace h := ih_schema_read_l0 M (by omega) j (by omega) _ _ _ _ _ _ _ _ _ _ _ _ _ _ _ h R hR
                              simp (maxDischargeDepth := 12) only [A_schema_read, kn, simprocAttr, qa, qb, qc, qd, Ow.enc, S_api_Op.enc, S_api_Record.enc, Sl.enc, *]
                            · try simp only [kn, simprocAttr, qa, qb, qc, qd] at h34
                              cases h
                          · cases h
                      · cases h; subst hR; simp (maxDischargeDepth := 12) only [A_schema_read, kn, simprocAttr, qa, qb, qc, qd, Ow.enc, S_api_Op.enc, S_api_Record.enc, Sl.enc, *]
            · replace h := br h; rcases h with ⟨h35, h⟩ | ⟨h35, h⟩
              · cases h; subst hR; simp (maxDischargeDepth := 12) only [A_schema_read, kn, simprocAttr, qa, qb, qc, qd, Ow.enc, S_api_Op.enc, S_api_Record.enc, Sl.enc, *]
              · replace h := br h; rcases h with ⟨h36, h⟩ | ⟨h36, h⟩
                · cases h; subst hR; simp (maxDischargeDepth := 12) only [A_schema_read, kn, simprocAttr, qa, qb, qc, qd, Ow.enc, S_api_Op.enc, S_api_Record.enc, Sl.enc, *]
                · replace h := ob h; obtain ⟨r11, h37, h⟩ := h
                  replace h37 := run_schema_pass q (M + 7) (by omega) _ _ h37
                  try simp only [Ow.enc, Sl.enc, kn, simprocAttr, qa, qb, qc, qd] at h37
                  replace h := br h; rcases h with ⟨h38, h⟩ | ⟨h38, h⟩
                  · cases h; subst hR; simp (maxDischargeDepth := 12) only [A_schema_read, kn, simprocAttr, qa, qb, qc, qd, Ow.enc, S_api_Op.enc, S_api_Record.enc, Sl.enc, *]
                  · replace h := br h; rcases h with ⟨h39, h⟩ | ⟨h39, h⟩
                    · replace h := br h; rcases h with ⟨h40, h⟩ | ⟨h40, h⟩
                      · try simp only [kn, simprocAttr, qa, qb, qc, qd] at h40
                        replace h := ih_schema_read_l0 M (by omega) j (by omega) _ _ _ _ _ _ _ _ _ _ _ _ _ _ _ h R hR
                        simp (maxDischargeDepth := 12) only [A_schema_read, kn, simprocAttr, qa, qb, qc, qd, Ow.enc, S_api_Op.enc, S_api_Record.enc, Sl.enc, *]
                      · try simp only [kn, simprocAttr, qa, qb, qc, qd] at h40
                        cases h
                    · cases h
          · cases h
        · cases h
  · replace h := br h; rcases h with ⟨h41, h⟩ | ⟨h41, h⟩
    · cases h; subst hR; simp (maxDischargeDepth := 12) only [A_schema_read, kn, simprocAttr, qa, qb, qc, qd, Ow.enc, S_api_Op.enc, S_api_Record.enc, Sl.enc, *]
    · replace h := ob h; obtain ⟨r12, h42, h⟩ := h
      replace h42 := run_schema_Fits q (M + 7) (by omega) _ _ h42
      try simp only [Ow.enc, S_api_Op.enc, S_api_Record.enc, kn, simprocAttr, qa, qb, qc, qd] at h42
      replace h := bb h; rcases h with ⟨h43', h43, h⟩ | ⟨h43', h43, h⟩
      · cases h; subst hR; simp (maxDischargeDepth := 12) only [A_schema_read, kn, simprocAttr, qa, qb, qc, qd, Ow.enc, S_api_Op.enc, S_api_Record.enc, Sl.enc, *]
      · cases h; subst hR; simp (maxDischargeDepth := 12) only [A_schema_read, kn, simprocAttr, qa, qb, qc, qd, Ow.enc, S_api_Op.enc, S_api_Record.enc, Sl.enc, *]
theorem all_schema_read : ∀ q, St_schema_read_l0 q
  | 0 => by intro M hM j hj; intros; rename_i h _ _ _ _ _; cases h
  | q + 1 => by have i0 := all_schema_read q; exact step_schema_read_l0 q i0
theorem run_schema_read : ∀ (q N : Nat), 8 * q ≤ N → ∀ (a0 : Int) (a1 : (Sl Int)), ∀ (r : S_api_Record × Int), schema_read q a0 a1 = some r → (orc T N).deep F.schema_read [(V.int .i64) a0, (Sl.enc (V.int .u8)) a1] = some [S_api_Record.enc r.1, (V.int .i64) r.2] := by
  intro q N hM a0 a1 r h
  rcases q with _ | q
  · cases h
  obtain ⟨M, rfl⟩ : ∃ M, N = M + 8 := ⟨N - 8, by omega⟩
  have ih_schema_read_l0 := (all_schema_read q)
  generalize hR : some [S_api_Record.enc r.1, (V.int .i64) r.2] = R
  rw [orc_deep, T_schema_read, Option.bind_some, runDeep_eq]
  rw [schema_read] at h
  replace h := ob h; obtain ⟨r1, h1, h⟩ := h
  replace h1 := run_schema_fields q (M + 7) (by omega) _ _ h1
  try simp only [Ow.enc, kn, simprocAttr, qa, qb, qc, qd] at h1
  replace h := ob h; obtain ⟨r2, h2, h⟩ := h
  replace h2 := run_slices_Clone_int_int q (M + 7) (by omega) _ _ h2
  try simp only [Ow.enc, Sl.enc, kn, simprocAttr, qa, qb, qc, qd] at h2
  replace h := ih_schema_read_l0 M (by omega) (M + 7) (by omega) _ _ _ _ _ _ _ _ _ _ _ _ _ _ _ h R hR
  simp (maxDischargeDepth := 12) only [A_schema_read, kn, simprocAttr, qa, qb, qc, qd, Ow.enc, S_api_Op.enc, S_api_Record.enc, Sl.enc, *]
def A_schema_Decode := And.intro @kk <| And.intro @L_schema_Decode <| And.intro @v_num_Get <| And.intro @v_schema_fields <| And.intro @v_schema_read <| And.intro @rr_schema_Decode <| And.intro @ro_schema_Decode <| @b0_schema_Decode
theorem run_schema_Decode : ∀ (q N : Nat), 8 * q ≤ N → ∀ (a0 : (Sl Int)), ∀ (r : S_api_Record × Int), schema_Decode q a0 = some r → (orc T N).deep F.schema_Decode [(Sl.enc (V.int .u8)) a0] = some [S_api_Record.enc r.1, (V.int .i64) r.2] := by
  intro q N hM a0 r h
  rcases q with _ | q
  · cases h
  obtain ⟨M, rfl⟩ : ∃ M, N = M + 8 := ⟨N - 8, by omega⟩
  generalize hR : some [S_api_Record.enc r.1, (V.int .i64) r.2] = R
  rw [orc_deep, T_schema_Decode, Option.bind_some, runDeep_eq]
  rw [schema_Decode] at h
  replace h := br h; rcases h with ⟨h1, h⟩ | ⟨h1, h⟩
  · cases h; subst hR; simp (maxDischargeDepth := 12) only [A_schema_Decode, kn, simprocAttr, qa, qb, qc, qd, Ow.enc, S_api_Op.enc, S_api_Record.enc, Sl.enc, *]
  · replace h := ob h; obtain ⟨r1, h2, h⟩ := h
    replace h2 := run_num_Get q (M + 7) (by omega) _ _ h2
    try simp only [Ow.enc, Sl.enc, kn, simprocAttr, qa, qb, qc, qd] at h2
    replace h := br h; rcases h with ⟨h3, h⟩ | ⟨h3, h⟩
    · cases h; subst hR; simp (maxDischargeDepth := 12) only [A_schema_Decode, kn, simprocAttr, qa, qb, qc, qd, Ow.enc, S_api_Op.enc, S_api_Record.enc, Sl.enc, *]
    · replace h := ob h; obtain ⟨r2, h4, h⟩ := h
      replace h4 := run_schema_fields q (M + 7) (by omega) _ _ h4
      try simp only [Ow.enc, kn, simprocAttr, qa, qb, qc, qd] at h4
      replace h := bb h; rcases h with ⟨h5', h5, h⟩ | ⟨h5', h5, h⟩
      · cases h; subst hR; simp (maxDischargeDepth := 12) only [A_schema_Decode, kn, simprocAttr, qa, qb, qc, qd, Ow.enc, S_api_Op.enc, S_api_Record.enc, Sl.enc, *]
      · replace h := br h; rcases h with ⟨h6, h⟩ | ⟨h6, h⟩
        · replace h := br h; rcases h with ⟨h7, h⟩ | ⟨h7, h⟩
          · replace h := ob h; obtain ⟨r3, h8, h⟩ := h
            replace h8 := run_schema_read q (M + 7) (by omega) _ _ _ h8
            try simp only [Ow.enc, S_api_Op.enc, S_api_Record.enc, Sl.enc, kn, simprocAttr, qa, qb, qc, qd] at h8
            replace h := br h; rcases h with ⟨h9, h⟩ | ⟨h9, h⟩
            · cases h; subst hR; simp (maxDischargeDepth := 12) only [A_schema_Decode, kn, simprocAttr, qa, qb, qc, qd, Ow.enc, S_api_Op.enc, S_api_Record.enc, Sl.enc, *]
            · cases h; subst hR; simp (maxDischargeDepth := 12) only [A_schema_Decode, kn, simprocAttr, qa, qb, qc, qd, Ow.enc, S_api_Op.enc, S_api_Record.enc, Sl.enc, *]
          · cases h
        · cases h
def St_segment_elder_l0 (q : Nat) : Prop := ∀ (M : Nat) (hM : 8 * q ≤ M) (j : Nat) (hj : q ≤ j) (v0 : Int) (v1z : Bool) (v1l : List Int) (h0z : Bool) (h0l : List S_api_Record) (r : (Ow S_api_Record) × Bool) (_ : segment_elder_l0 q v0 v1z v1l h0z h0l = some r) (R : Option (List V)) (_ : some [(Ow.enc 7 S_api_Record.enc) r.1, V.bool r.2] = R) (fr : Fr) (H : Hp) (_ : canon 0 [0, 1, 6] fr H = ([(0, (.int .i64 v0)), (1, (.sl v1z (List.map (V.int .u8) v1l))), (6, (.vw 0 0 0 h0l.length 1))], [(.row 0 h0z 7 (List.map S_api_Record.enc h0l) true)])), fin m_segment_elder (unw T (orc T (M + 7)) (M + 7) 0 [.blk 0, .code c_68_21] (iter 0 [0, 1, 6] (exec T (orc T (M + 7)) (M + 7) 0 c_68_19) j fr H)) = R
def A_segment_elder := And.intro @kk <| And.intro @L_segment_elder <| And.intro @v_num_Get <| And.intro @v_schema_Decode <| And.intro @rr_segment_elder <| And.intro @ro_segment_elder <| @b0_segment_elder
theorem step_segment_elder_l0 (q : Nat) (ih_segment_elder_l0 : St_segment_elder_l0 q) : St_segment_elder_l0 (q + 1) := by
  intro M hM j hj v0 v1z v1l h0z h0l r h R hR fr H hc
  obtain ⟨j, rfl⟩ : ∃ i, j = i + 1 := ⟨j - 1, by omega⟩
  rw [unw_iter, hc]; clear hc
  rw [segment_elder_l0] at h
  replace h := br h; rcases h with ⟨h1, h⟩ | ⟨h1, h⟩
  · replace h := ob h; obtain ⟨r1, h2, h⟩ := h
    replace h2 := run_num_Get q (M + 7) (by omega) _ _ h2
    try simp only [Ow.enc, Sl.enc, kn, simprocAttr, qa, qb, qc, qd] at h2
    replace h := br h; rcases h with ⟨h3, h⟩ | ⟨h3, h⟩
    · cases h; subst hR; simp (maxDischargeDepth := 12) only [A_segment_elder, kn, simprocAttr, qa, qb, qc, qd, Ow.enc, S_api_Op.enc, S_api_Record.enc, Sl.enc, *]
    · replace h := br h; rcases h with ⟨h4, h⟩ | ⟨h4, h⟩
      · cases h; subst hR; simp (maxDischargeDepth := 12) only [A_segment_elder, kn, simprocAttr, qa, qb, qc, qd, Ow.enc, S_api_Op.enc, S_api_Record.enc, Sl.enc, *]
      · replace h := br h; rcases h with ⟨h5, h⟩ | ⟨h5, h⟩
        · try simp only [kn, simprocAttr, qa, qb, qc, qd] at h5
          cases h; subst hR; simp (maxDischargeDepth := 12) only [A_segment_elder, kn, simprocAttr, qa, qb, qc, qd, Ow.enc, S_api_Op.enc, S_api_Record.enc, Sl.enc, *]
        · try simp only [kn, simprocAttr, qa, qb, qc, qd] at h5
          replace h := br h; rcases h with ⟨h6, h⟩ | ⟨h6, h⟩
          · replace h := ob h; obtain ⟨e2, h7, h⟩ := h
            replace h := br h; rcases h with ⟨h8, h⟩ | ⟨h8, h⟩
            · replace h := br h; rcases h with ⟨h9, h⟩ | ⟨h9, h⟩
              · try simp only [kn, simprocAttr, qa, qb, qc, qd] at h9
                replace h := br h; rcases h with ⟨h10, h⟩ | ⟨h10, h⟩
                · try simp only [kn, simprocAttr, qa, qb, qc, qd] at h10
                  replace h := ob h; obtain ⟨r3, h11, h⟩ := h
                  replace h11 := run_schema_Decode q (M + 7) (by omega) _ _ h11
                  try simp only [Ow.enc, S_api_Op.enc, S_api_Record.enc, Sl.enc, kn, simprocAttr, qa, qb, qc, qd] at h11
                  replace h := br h; rcases h with ⟨h12, h⟩ | ⟨h12, h⟩
                  · replace h := br h; rcases h with ⟨h13, h⟩ | ⟨h13, h⟩
                    · try simp only [kn, simprocAttr, qa, qb, qc, qd] at h13
                      replace h := br h; rcases h with ⟨h14, h⟩ | ⟨h14, h⟩
                      · try simp only [kn, simprocAttr, qa, qb, qc, qd] at h14
                        replace h := br h; rcases h with ⟨h15, h⟩ | ⟨h15, h⟩
                        · try simp only [kn, simprocAttr, qa, qb, qc, qd] at h15
                          replace h := ih_segment_elder_l0 M (by omega) j (by omega) _ _ _ _ _ _ h R hR
                          simp (maxDischargeDepth := 12) only [A_segment_elder, kn, simprocAttr, qa, qb, qc, qd, Ow.enc, S_api_Op.enc, S_api_Record.enc, Sl.enc, *]
                        · try simp only [kn, simprocAttr, qa, qb, qc, qd] at h15
                          cases h
                      · try simp only [kn, simprocAttr, qa, qb, qc, qd] at h14
                        cases h
                    · try simp only [kn, simprocAttr, qa, qb, qc, qd] at h13
                      cases h
                  · cases h; subst hR; simp (maxDischargeDepth := 12) only [A_segment_elder, kn, simprocAttr, qa, qb, qc, qd, Ow.enc, S_api_Op.enc, S_api_Record.enc, Sl.enc, *]
                · try simp only [kn, simprocAttr, qa, qb, qc, qd] at h10
                  cases h
              · try simp only [kn, simprocAttr, qa, qb, qc, qd] at h9
                cases h
            · cases h; subst hR; simp (maxDischargeDepth := 12) only [A_segment_elder, kn, simprocAttr, qa, qb, qc, qd, Ow.enc, S_api_Op.enc, S_api_Record.enc, Sl.enc, *]
          · cases h
  · cases h; subst hR; simp (maxDischargeDepth := 12) only [A_segment_elder, kn, simprocAttr, qa, qb, qc, qd, Ow.enc, S_api_Op.enc, S_api_Record.enc, Sl.enc, *]
theorem all_segment_elder : ∀ q, St_segment_elder_l0 q
  | 0 => by intro M hM j hj; intros; rename_i h _ _ _ _ _; cases h
  | q + 1 => by have i0 := all_segment_elder q; exact step_segment_elder_l0 q i0
theorem run_segment_elder : ∀ (q N : Nat), 8 * q ≤ N → ∀ (a0 : Int) (a1 : (Sl Int)), ∀ (r : (Ow S_api_Record) × Bool), segment_elder q a0 a1 = some r → (orc T N).deep F.segment_elder [(V.int .i64) a0, (Sl.enc (V.int .u8)) a1] = some [(Ow.enc 7 S_api_Record.enc) r.1, V.bool r.2] := by
  intro q N hM a0 a1 r h
  rcases q with _ | q
  · cases h
  obtain ⟨M, rfl⟩ : ∃ M, N = M + 8 := ⟨N - 8, by omega⟩
  have ih_segment_elder_l0 := (all_segment_elder q)
  generalize hR : some [(Ow.enc 7 S_api_Record.enc) r.1, V.bool r.2] = R
  rw [orc_deep, T_segment_elder, Option.bind_some, runDeep_eq]
  rw [segment_elder] at h
  replace h := ih_segment_elder_l0 M (by omega) (M + 7) (by omega) _ _ _ _ _ _ h R hR
  simp (maxDischargeDepth := 12) only [A_segment_elder, kn, simprocAttr, qa, qb, qc, qd, Ow.enc, S_api_Op.enc, S_api_Record.enc, Sl.enc, *]
def A_frame_Size := And.intro @kk <| And.intro @L_frame_Size <| And.intro @v_num_Put <| And.intro @rr_frame_Size <| And.intro @ro_frame_Size <| @b0_frame_Size
theorem run_frame_Size : ∀ (q N : Nat), 8 * q ≤ N → ∀ (a0 : Int), ∀ (r : Int), frame_Size q a0 = some r → (orc T N).deep F.frame_Size [(V.int .i64) a0] = some [(V.int .i64) r] := by
  intro q N hM a0 r h
  rcases q with _ | q
  · cases h
  obtain ⟨M, rfl⟩ : ∃ M, N = M + 8 := ⟨N - 8, by omega⟩
  generalize hR : some [(V.int .i64) r] = R
  rw [orc_deep, T_frame_Size, Option.bind_some, runDeep_eq]
  rw [frame_Size] at h
  replace h := br h; rcases h with ⟨h1, h⟩ | ⟨h1, h⟩
  · cases h; subst hR; simp (maxDischargeDepth := 12) only [A_frame_Size, kn, simprocAttr, qa, qb, qc, qd, Ow.enc, Sl.enc, *]
  · replace h := br h; rcases h with ⟨h2, h⟩ | ⟨h2, h⟩
    · cases h; subst hR; simp (maxDischargeDepth := 12) only [A_frame_Size, kn, simprocAttr, qa, qb, qc, qd, Ow.enc, Sl.enc, *]
    · replace h := ob h; obtain ⟨r1, h3, h⟩ := h
      replace h3 := run_num_Put q (M + 7) (by omega) _ _ _ h3
      try simp only [Ow.enc, Sl.enc, kn, simprocAttr, qa, qb, qc, qd] at h3
      cases h; subst hR; simp (maxDischargeDepth := 12) only [A_frame_Size, kn, simprocAttr, qa, qb, qc, qd, Ow.enc, Sl.enc, *]
def St_segment_Recover_s0_s0_l0 (q : Nat) : Prop := ∀ (M : Nat) (hM : 8 * q ≤ M) (j : Nat) (hj : q ≤ j) (w1 : Nat) (v1z : Bool) (v1l : List Int) (v19 : Int) (h1z : Bool) (h1l : List (Sl Int)) (h1x : Bool) (h3_0 : Int) (h3_1 : Int) (h3_2 : Int) (r : Int × Int × Int × Int × Bool) (_ : segment_Recover_s0_s0_l0 q v1z v1l v19 h1z h1l h1x h3_0 h3_1 h3_2 = some r) (R : Option (List V × Hp)) (_ : (some ([(.int .i64 r.1)], [(.box [(.int .i64 0), (.int .i64 0), (.sl true [])]), (.row w1 h1z 1 (List.map (Sl.enc (V.int .u8)) h1l) h1x), (.box [(.int .i64 r.2.1), (.int .i64 r.2.2.1), (.int .i64 r.2.2.2.1), (.sl true []), (.bool r.2.2.2.2)])]) : Option (List V × Hp)) = R) (fr : Fr) (H : Hp) (_ : canon 3 [0, 1, 5, 19] fr H = ([(0, (.ptr 2 0)), (1, (.sl v1z (List.map (V.int .u8) v1l))), (5, (.ptr 3 0)), (19, (.int .i64 v19))], [(.box [(.int .i64 0), (.int .i64 0), (.sl true [])]), (.row w1 h1z 1 (List.map (Sl.enc (V.int .u8)) h1l) h1x), (.box [(.int .i64 0), (.int .i64 0), (.int .i64 0), (.sl true []), (.bool false)]), (.box [(.int .i64 h3_0), (.int .i64 h3_1), (.int .i64 h3_2)])])), finI 3 false [.tmp 4] (unw T (orc T (M + 5)) (M + 5) 3 [.blk 0, .code c_52_39] (iter 3 [0, 1, 5, 19] (exec T (orc T (M + 5)) (M + 5) 3 c_52_24) j fr H)) = R
def A_segment_Recover_s0_s0 := And.intro @kk <| And.intro @L_segment_reader_head <| And.intro @v_segment_known <| @v_num_Get
theorem step_segment_Recover_s0_s0_l0 (q : Nat) (ih_segment_Recover_s0_s0_l0 : St_segment_Recover_s0_s0_l0 q) : St_segment_Recover_s0_s0_l0 (q + 1) := by
  intro M hM j hj w1 v1z v1l v19 h1z h1l h1x h3_0 h3_1 h3_2 r h R hR fr H hc
  obtain ⟨j, rfl⟩ : ∃ i, j = i + 1 := ⟨j - 1, by omega⟩
  rw [unw_iter, hc]; clear hc
  rw [segment_Recover_s0_s0_l0] at h
  replace h := br h; rcases h with ⟨h1, h⟩ | ⟨h1, h⟩
  · replace h := ob h; obtain ⟨r2, h2, h⟩ := h
    replace h2 := run_num_Get q (M + 5) (by omega) _ _ h2
    try simp only [Ow.enc, Sl.enc, kn, simprocAttr, qa, qb, qc, qd] at h2
    replace h := br h; rcases h with ⟨h3, h⟩ | ⟨h3, h⟩
    · replace h := br h; rcases h with ⟨h4, h⟩ | ⟨h4, h⟩
      · replace h := bc h; rcases h with ⟨h5, h⟩ | ⟨h5, h⟩
        · replace h := br h; rcases h with ⟨h6, h⟩ | ⟨h6, h⟩
          · cases h; subst hR; simp (maxDischargeDepth := 12) only [A_segment_Recover_s0_s0, kn, simprocAttr, qa, qb, qc, qd, Ow.enc, Sl.enc, *]
          · replace h := br h; rcases h with ⟨h7, h⟩ | ⟨h7, h⟩
            · replace h := br h; rcases h with ⟨h8, h⟩ | ⟨h8, h⟩
              · replace h := ih_segment_Recover_s0_s0_l0 M (by omega) j (by omega) w1 _ _ _ _ _ _ _ _ _ _ h R hR
                simp (maxDischargeDepth := 12) only [A_segment_Recover_s0_s0, kn, simprocAttr, qa, qb, qc, qd, Ow.enc, Sl.enc, *]
              · cases h
            · cases h
        · replace h := bc h; rcases h with ⟨h9, h⟩ | ⟨h9, h⟩
          · replace h := br h; rcases h with ⟨h10, h⟩ | ⟨h10, h⟩
            · cases h; subst hR; simp (maxDischargeDepth := 12) only [A_segment_Recover_s0_s0, kn, simprocAttr, qa, qb, qc, qd, Ow.enc, Sl.enc, *]
            · replace h := br h; rcases h with ⟨h11, h⟩ | ⟨h11, h⟩
              · replace h := br h; rcases h with ⟨h12, h⟩ | ⟨h12, h⟩
                · replace h := ih_segment_Recover_s0_s0_l0 M (by omega) j (by omega) w1 _ _ _ _ _ _ _ _ _ _ h R hR
                  simp (maxDischargeDepth := 12) only [A_segment_Recover_s0_s0, kn, simprocAttr, qa, qb, qc, qd, Ow.enc, Sl.enc, *]
                · cases h
              · cases h
          · replace h := bc h; rcases h with ⟨h13, h⟩ | ⟨h13, h⟩
            · replace h := br h; rcases h with ⟨h14, h⟩ | ⟨h14, h⟩
              · cases h; subst hR; simp (maxDischargeDepth := 12) only [A_segment_Recover_s0_s0, kn, simprocAttr, qa, qb, qc, qd, Ow.enc, Sl.enc, *]
              · replace h := br h; rcases h with ⟨h15, h⟩ | ⟨h15, h⟩
                · replace h := br h; rcases h with ⟨h16, h⟩ | ⟨h16, h⟩
                  · replace h := ih_segment_Recover_s0_s0_l0 M (by omega) j (by omega) w1 _ _ _ _ _ _ _ _ _ _ h R hR
                    simp (maxDischargeDepth := 12) only [A_segment_Recover_s0_s0, kn, simprocAttr, qa, qb, qc, qd, Ow.enc, Sl.enc, *]
                  · cases h
                · cases h
            · cases h
      · cases h
    · cases h
  · replace h := br h; rcases h with ⟨h17, h⟩ | ⟨h17, h⟩
    · cases h; subst hR; simp (maxDischargeDepth := 12) only [A_segment_Recover_s0_s0, kn, simprocAttr, qa, qb, qc, qd, Ow.enc, Sl.enc, *]
    · replace h := ob h; obtain ⟨r3, h18, h⟩ := h
      replace h18 := run_segment_known q (M + 5) (by omega) _ _ h18
      replace h := bb h; rcases h with ⟨h19', h19, h⟩ | ⟨h19', h19, h⟩
      · replace h := br h; rcases h with ⟨h20, h⟩ | ⟨h20, h⟩
        · cases h; subst hR; simp (maxDischargeDepth := 12) only [A_segment_Recover_s0_s0, kn, simprocAttr, qa, qb, qc, qd, Ow.enc, Sl.enc, *]
        · cases h; subst hR; simp (maxDischargeDepth := 12) only [A_segment_Recover_s0_s0, kn, simprocAttr, qa, qb, qc, qd, Ow.enc, Sl.enc, *]
      · cases h; subst hR; simp (maxDischargeDepth := 12) only [A_segment_Recover_s0_s0, kn, simprocAttr, qa, qb, qc, qd, Ow.enc, Sl.enc, *]
theorem all_segment_Recover_s0_s0 : ∀ q, St_segment_Recover_s0_s0_l0 q
  | 0 => by intro M hM j hj; intros; rename_i h _ _ _ _ _; cases h
  | q + 1 => by have i0 := all_segment_Recover_s0_s0 q; exact step_segment_Recover_s0_s0_l0 q i0
theorem run_segment_Recover_s0_s0 : ∀ (q M : Nat), 8 * q ≤ M → ∀ (w1 : Nat), ∀ (v1z : Bool), ∀ (v1l : List Int), ∀ (h1z : Bool), ∀ (h1l : List (Sl Int)), ∀ (h1x : Bool), ∀ (r : Int × Int × Int × Int × Bool), segment_Recover_s0_s0 q v1z v1l h1z h1l h1x = some r → (orc T (M + 6)).inl F.segment_reader_head [(.ptr 2 0), (.sl v1z (List.map (V.int .u8) v1l))] [(.box [(.int .i64 0), (.int .i64 0), (.sl true [])]), (.row w1 h1z 1 (List.map (Sl.enc (V.int .u8)) h1l) h1x), (.box [(.int .i64 0), (.int .i64 0), (.int .i64 0), (.sl true []), (.bool false)])] = (some ([(.int .i64 r.1)], [(.box [(.int .i64 0), (.int .i64 0), (.sl true [])]), (.row w1 h1z 1 (List.map (Sl.enc (V.int .u8)) h1l) h1x), (.box [(.int .i64 r.2.1), (.int .i64 r.2.2.1), (.int .i64 r.2.2.2.1), (.sl true []), (.bool r.2.2.2.2)])]) : Option (List V × Hp)) := by
  intro q M hM w1 v1z v1l h1z h1l h1x r h
  rcases q with _ | q
  · cases h
  have ih_segment_Recover_s0_s0_l0 := (all_segment_Recover_s0_s0 q)
  generalize hR : (some ([(.int .i64 r.1)], [(.box [(.int .i64 0), (.int .i64 0), (.sl true [])]), (.row w1 h1z 1 (List.map (Sl.enc (V.int .u8)) h1l) h1x), (.box [(.int .i64 r.2.1), (.int .i64 r.2.2.1), (.int .i64 r.2.2.2.1), (.sl true []), (.bool r.2.2.2.2)])]) : Option (List V × Hp)) = R
  rw [i_segment_reader_head (n := M + 5)]
  rw [segment_Recover_s0_s0] at h
  replace h := br h; rcases h with ⟨h1, h⟩ | ⟨h1, h⟩
  · cases h; subst hR; simp (maxDischargeDepth := 12) only [A_segment_Recover_s0_s0, kn, simprocAttr, qa, qb, qc, qd, Ow.enc, Sl.enc, *]
  · replace h := ob h; obtain ⟨e1, h2, h⟩ := h
    replace h := br h; rcases h with ⟨h3, h⟩ | ⟨h3, h⟩
    · replace h := br h; rcases h with ⟨h4, h⟩ | ⟨h4, h⟩
      · replace h := ih_segment_Recover_s0_s0_l0 M (by omega) (M + 5) (by omega) w1 _ _ _ _ _ _ _ _ _ _ h R hR
        simp (maxDischargeDepth := 12) only [A_segment_Recover_s0_s0, kn, simprocAttr, qa, qb, qc, qd, Ow.enc, Sl.enc, *]
      · cases h
    · cases h; subst hR; simp (maxDischargeDepth := 12) only [A_segment_Recover_s0_s0, kn, simprocAttr, qa, qb, qc, qd, Ow.enc, Sl.enc, *]
def St_segment_Recover_s0_l0 (q : Nat) : Prop := ∀ (M : Nat) (hM : 8 * q ≤ M) (j : Nat) (hj : q ≤ j) (w1 : Nat) (v19len : Nat) (v20 : Int) (h1z : Bool) (h1l : List (Sl Int)) (h1x : Bool) (h2_0 : Int) (h2_1 : Int) (h2_2 : Int) (h2_4 : Bool) (r : Nat × Int × Int × Int × Int × Int × Bool × Int × Int × Int × Int × Int × Nat × Bool × Bool × (List S_api_Record)) (_ : segment_Recover_s0_l0 q v19len v20 h1z h1l h1x h2_0 h2_1 h2_2 h2_4 = some r) (R : Option (List V × Hp)) (_ : (if r.1 = 0 then (some ([(.int .i64 r.2.1), (.int .i64 r.2.2.1)], [(.box [(.int .i64 0), (.int .i64 0), (.sl true [])]), (.row w1 h1z 1 (List.map (Sl.enc (V.int .u8)) h1l) h1x), (.box [(.int .i64 r.2.2.2.1), (.int .i64 r.2.2.2.2.1), (.int .i64 r.2.2.2.2.2.1), (.sl true []), (.bool r.2.2.2.2.2.2.1)])]) : Option (List V × Hp)) else (some ([(.int .i64 r.2.2.2.2.2.2.2.1), (.int .i64 r.2.2.2.2.2.2.2.2.1)], [(.box [(.int .i64 0), (.int .i64 0), (.sl true [])]), (.row w1 h1z 1 (List.map (Sl.enc (V.int .u8)) h1l) h1x), (.box [(.int .i64 r.2.2.2.2.2.2.2.2.2.1), (.int .i64 r.2.2.2.2.2.2.2.2.2.2.1), (.int .i64 r.2.2.2.2.2.2.2.2.2.2.2.1), (.vw 3 0 0 r.2.2.2.2.2.2.2.2.2.2.2.2.1 1), (.bool r.2.2.2.2.2.2.2.2.2.2.2.2.2.1)]), (.row 0 r.2.2.2.2.2.2.2.2.2.2.2.2.2.2.1 7 (List.map S_api_Record.enc r.2.2.2.2.2.2.2.2.2.2.2.2.2.2.2) true)]) : Option (List V × Hp))) = R) (fr : Fr) (H : Hp) (_ : canon 3 [0, 1, 19, 20, 21] fr H = ([(0, (.ptr 2 0)), (1, (.vw 1 w1 0 h1l.length 1)), (19, (.vw 1 w1 1 v19len 1)), (20, (.int .i64 v20)), (21, (.int .i64 0))], [(.box [(.int .i64 0), (.int .i64 0), (.sl true [])]), (.row w1 h1z 1 (List.map (Sl.enc (V.int .u8)) h1l) h1x), (.box [(.int .i64 h2_0), (.int .i64 h2_1), (.int .i64 h2_2), (.sl true []), (.bool h2_4)])])), finI 3 false [.tmp 4, .tmp 5] (unw T (orc T (M + 6)) (M + 6) 3 [.blk 0, .code c_35_23] (iter 3 [0, 1, 19, 20, 21] (exec T (orc T (M + 6)) (M + 6) 3 c_35_20) j fr H)) = R
def St_segment_Recover_s0_l1 (q : Nat) : Prop := ∀ (M : Nat) (hM : 8 * q ≤ M) (j : Nat) (hj : q ≤ j) (w1 : Nat) (v19len : Nat) (v20 : Int) (v21 : Int) (h1z : Bool) (h1l : List (Sl Int)) (h1x : Bool) (h2_0 : Int) (h2_1 : Int) (h2_2 : Int) (h2_4 : Bool) (h3z : Bool) (h3l : List S_api_Record) (r : Nat × Int × Int × Int × Int × Int × Bool × Int × Int × Int × Int × Int × Nat × Bool × Bool × (List S_api_Record)) (_ : segment_Recover_s0_l1 q v19len v20 v21 h1z h1l h1x h2_0 h2_1 h2_2 h2_4 h3z h3l = some r) (R : Option (List V × Hp)) (_ : (if r.1 = 0 then (some ([(.int .i64 r.2.1), (.int .i64 r.2.2.1)], [(.box [(.int .i64 0), (.int .i64 0), (.sl true [])]), (.row w1 h1z 1 (List.map (Sl.enc (V.int .u8)) h1l) h1x), (.box [(.int .i64 r.2.2.2.1), (.int .i64 r.2.2.2.2.1), (.int .i64 r.2.2.2.2.2.1), (.sl true []), (.bool r.2.2.2.2.2.2.1)])]) : Option (List V × Hp)) else (some ([(.int .i64 r.2.2.2.2.2.2.2.1), (.int .i64 r.2.2.2.2.2.2.2.2.1)], [(.box [(.int .i64 0), (.int .i64 0), (.sl true [])]), (.row w1 h1z 1 (List.map (Sl.enc (V.int .u8)) h1l) h1x), (.box [(.int .i64 r.2.2.2.2.2.2.2.2.2.1), (.int .i64 r.2.2.2.2.2.2.2.2.2.2.1), (.int .i64 r.2.2.2.2.2.2.2.2.2.2.2.1), (.vw 3 0 0 r.2.2.2.2.2.2.2.2.2.2.2.2.1 1), (.bool r.2.2.2.2.2.2.2.2.2.2.2.2.2.1)]), (.row 0 r.2.2.2.2.2.2.2.2.2.2.2.2.2.2.1 7 (List.map S_api_Record.enc r.2.2.2.2.2.2.2.2.2.2.2.2.2.2.2) true)]) : Option (List V × Hp))) = R) (fr : Fr) (H : Hp) (_ : canon 3 [0, 1, 19, 20, 21] fr H = ([(0, (.ptr 2 0)), (1, (.vw 1 w1 0 h1l.length 1)), (19, (.vw 1 w1 1 v19len 1)), (20, (.int .i64 v20)), (21, (.int .i64 v21))], [(.box [(.int .i64 0), (.int .i64 0), (.sl true [])]), (.row w1 h1z 1 (List.map (Sl.enc (V.int .u8)) h1l) h1x), (.box [(.int .i64 h2_0), (.int .i64 h2_1), (.int .i64 h2_2), (.vw 3 0 0 h3l.length 1), (.bool h2_4)]), (.row 0 h3z 7 (List.map S_api_Record.enc h3l) true)])), finI 3 false [.tmp 4, .tmp 5] (unw T (orc T (M + 6)) (M + 6) 3 [.blk 0, .code c_35_23] (iter 3 [0, 1, 19, 20, 21] (exec T (orc T (M + 6)) (M + 6) 3 c_35_20) j fr H)) = R
def A_segment_Recover_s0 := And.intro @kk <| And.intro @L_segment_reader_walk <| And.intro @L_segment_reader_block <| And.intro @v_segment_fit <| And.intro @v_segment_reader_head <| And.intro @v_block_Decode <| And.intro @v_segment_elder <| And.intro @v_segment_reader_block <| @i_segment_reader_block
theorem step_segment_Recover_s0_l0 (q : Nat) (ih_segment_Recover_s0_l1 : St_segment_Recover_s0_l1 q) : St_segment_Recover_s0_l0 (q + 1) := by
  intro M hM j hj w1 v19len v20 h1z h1l h1x h2_0 h2_1 h2_2 h2_4 r h R hR fr H hc
  obtain ⟨j, rfl⟩ : ∃ i, j = i + 1 := ⟨j - 1, by omega⟩
  rw [unw_iter, hc]; clear hc
  rw [segment_Recover_s0_l0] at h
  replace h := br h; rcases h with ⟨h1, h⟩ | ⟨h1, h⟩
  · replace h := br h; rcases h with ⟨h2, h⟩ | ⟨h2, h⟩
    · replace h := ob h; obtain ⟨e3, h3, h⟩ := h
      replace h := br h; rcases h with ⟨h4, h⟩ | ⟨h4, h⟩
      · replace h := ob h; obtain ⟨r4, h5, h⟩ := h
        replace h5 := run_block_Decode q (M + 5) (by omega) _ _ h5
        try simp only [Ow.enc, S_api_Op.enc, S_api_Record.enc, Sl.enc, kn, simprocAttr, qa, qb, qc, qd] at h5
        replace h := br h; rcases h with ⟨h6, h⟩ | ⟨h6, h⟩
        · replace h := bb h; rcases h with ⟨h7', h7, h⟩ | ⟨h7', h7, h⟩
          · replace h := br h; rcases h with ⟨h8, h⟩ | ⟨h8, h⟩
            · cases h; subst hR; simp (maxDischargeDepth := 12) only [A_segment_Recover_s0, kn, simprocAttr, qa, qb, qc, qd, Ow.enc, S_api_Op.enc, S_api_Record.enc, Sl.enc, *]
            · replace h := br h; rcases h with ⟨h9, h⟩ | ⟨h9, h⟩
              · cases h; subst hR; simp (maxDischargeDepth := 12) only [A_segment_Recover_s0, kn, simprocAttr, qa, qb, qc, qd, Ow.enc, S_api_Op.enc, S_api_Record.enc, Sl.enc, *]
              · replace h := ob h; obtain ⟨r5, h10, h⟩ := h
                replace h10 := run_segment_fit q (M + 5) (by omega) _ _ _ h10
                try simp only [Ow.enc, S_api_Op.enc, S_api_Record.enc, Sl.enc, kn, simprocAttr, qa, qb, qc, qd] at h10
                replace h := bb h; rcases h with ⟨h11', h11, h⟩ | ⟨h11', h11, h⟩
                · replace h := br h; rcases h with ⟨h12, h⟩ | ⟨h12, h⟩
                  · try simp only [kn, simprocAttr, qa, qb, qc, qd] at h12
                    cases h; subst hR; simp (maxDischargeDepth := 12) only [A_segment_Recover_s0, kn, simprocAttr, qa, qb, qc, qd, Ow.enc, S_api_Op.enc, S_api_Record.enc, Sl.enc, *]
                  · try simp only [kn, simprocAttr, qa, qb, qc, qd] at h12
                    replace h := br h; rcases h with ⟨h13, h⟩ | ⟨h13, h⟩
                    · replace h := ih_segment_Recover_s0_l1 M (by omega) j (by omega) w1 _ _ _ _ _ _ _ _ _ _ _ _ _ h R hR
                      simp (maxDischargeDepth := 12) only [A_segment_Recover_s0, kn, simprocAttr, qa, qb, qc, qd, Ow.enc, S_api_Op.enc, S_api_Record.enc, Sl.enc, *]
                    · cases h
                · cases h; subst hR; simp (maxDischargeDepth := 12) only [A_segment_Recover_s0, kn, simprocAttr, qa, qb, qc, qd, Ow.enc, S_api_Op.enc, S_api_Record.enc, Sl.enc, *]
          · cases h; subst hR; simp (maxDischargeDepth := 12) only [A_segment_Recover_s0, kn, simprocAttr, qa, qb, qc, qd, Ow.enc, S_api_Op.enc, S_api_Record.enc, Sl.enc, *]
        · cases h; subst hR; simp (maxDischargeDepth := 12) only [A_segment_Recover_s0, kn, simprocAttr, qa, qb, qc, qd, Ow.enc, S_api_Op.enc, S_api_Record.enc, Sl.enc, *]
      · replace h := ob h; obtain ⟨r6, h14, h⟩ := h
        replace h14 := run_segment_elder q (M + 5) (by omega) _ _ _ h14
        try simp only [Ow.enc, S_api_Op.enc, S_api_Record.enc, Sl.enc, kn, simprocAttr, qa, qb, qc, qd] at h14
        replace h := bb h; rcases h with ⟨h15', h15, h⟩ | ⟨h15', h15, h⟩
        · replace h := bb h; rcases h with ⟨h16', h16, h⟩ | ⟨h16', h16, h⟩
          · replace h := br h; rcases h with ⟨h17, h⟩ | ⟨h17, h⟩
            · cases h; subst hR; simp (maxDischargeDepth := 12) only [A_segment_Recover_s0, kn, simprocAttr, qa, qb, qc, qd, Ow.enc, S_api_Op.enc, S_api_Record.enc, Sl.enc, *]
            · replace h := br h; rcases h with ⟨h18, h⟩ | ⟨h18, h⟩
              · cases h; subst hR; simp (maxDischargeDepth := 12) only [A_segment_Recover_s0, kn, simprocAttr, qa, qb, qc, qd, Ow.enc, S_api_Op.enc, S_api_Record.enc, Sl.enc, *]
              · replace h := ob h; obtain ⟨r7, h19, h⟩ := h
                replace h19 := run_segment_fit q (M + 5) (by omega) _ _ _ h19
                try simp only [Ow.enc, S_api_Op.enc, S_api_Record.enc, Sl.enc, kn, simprocAttr, qa, qb, qc, qd] at h19
                replace h := bb h; rcases h with ⟨h20', h20, h⟩ | ⟨h20', h20, h⟩
                · replace h := br h; rcases h with ⟨h21, h⟩ | ⟨h21, h⟩
                  · try simp only [kn, simprocAttr, qa, qb, qc, qd] at h21
                    cases h; subst hR; simp (maxDischargeDepth := 12) only [A_segment_Recover_s0, kn, simprocAttr, qa, qb, qc, qd, Ow.enc, S_api_Op.enc, S_api_Record.enc, Sl.enc, *]
                  · try simp only [kn, simprocAttr, qa, qb, qc, qd] at h21
                    replace h := br h; rcases h with ⟨h22, h⟩ | ⟨h22, h⟩
                    · replace h := ih_segment_Recover_s0_l1 M (by omega) j (by omega) w1 _ _ _ _ _ _ _ _ _ _ _ _ _ h R hR
                      simp (maxDischargeDepth := 12) only [A_segment_Recover_s0, kn, simprocAttr, qa, qb, qc, qd, Ow.enc, S_api_Op.enc, S_api_Record.enc, Sl.enc, *]
                    · cases h
                · cases h; subst hR; simp (maxDischargeDepth := 12) only [A_segment_Recover_s0, kn, simprocAttr, qa, qb, qc, qd, Ow.enc, S_api_Op.enc, S_api_Record.enc, Sl.enc, *]
          · cases h; subst hR; simp (maxDischargeDepth := 12) only [A_segment_Recover_s0, kn, simprocAttr, qa, qb, qc, qd, Ow.enc, S_api_Op.enc, S_api_Record.enc, Sl.enc, *]
        · cases h; subst hR; simp (maxDischargeDepth := 12) only [A_segment_Recover_s0, kn, simprocAttr, qa, qb, qc, qd, Ow.enc, S_api_Op.enc, S_api_Record.enc, Sl.enc, *]
    · cases h
  · cases h; subst hR; simp (maxDischargeDepth := 12) only [A_segment_Recover_s0, kn, simprocAttr, qa, qb, qc, qd, Ow.enc, S_api_Op.enc, S_api_Record.enc, Sl.enc, *]
theorem step_segment_Recover_s0_l1 (q : Nat) (ih_segment_Recover_s0_l1 : St_segment_Recover_s0_l1 q) : St_segment_Recover_s0_l1 (q + 1) := by
  intro M hM j hj w1 v19len v20 v21 h1z h1l h1x h2_0 h2_1 h2_2 h2_4 h3z h3l r h R hR fr H hc
  obtain ⟨j, rfl⟩ : ∃ i, j = i + 1 := ⟨j - 1, by omega⟩
  rw [unw_iter, hc]; clear hc
  rw [segment_Recover_s0_l1] at h
  replace h := br h; rcases h with ⟨h1, h⟩ | ⟨h1, h⟩
  · replace h := br h; rcases h with ⟨h2, h⟩ | ⟨h2, h⟩
    · replace h := br h; rcases h with ⟨h3, h⟩ | ⟨h3, h⟩
      · replace h := ob h; obtain ⟨e8, h4, h⟩ := h
        replace h := br h; rcases h with ⟨h5, h⟩ | ⟨h5, h⟩
        · replace h := ob h; obtain ⟨r9, h6, h⟩ := h
          replace h6 := run_block_Decode q (M + 5) (by omega) _ _ h6
          try simp only [Ow.enc, S_api_Op.enc, S_api_Record.enc, Sl.enc, kn, simprocAttr, qa, qb, qc, qd] at h6
          replace h := br h; rcases h with ⟨h7, h⟩ | ⟨h7, h⟩
          · replace h := bb h; rcases h with ⟨h8', h8, h⟩ | ⟨h8', h8, h⟩
            · replace h := br h; rcases h with ⟨h9, h⟩ | ⟨h9, h⟩
              · cases h; subst hR; simp (maxDischargeDepth := 12) only [A_segment_Recover_s0, kn, simprocAttr, qa, qb, qc, qd, Ow.enc, S_api_Op.enc, S_api_Record.enc, Sl.enc, *]
              · replace h := br h; rcases h with ⟨h10, h⟩ | ⟨h10, h⟩
                · cases h; subst hR; simp (maxDischargeDepth := 12) only [A_segment_Recover_s0, kn, simprocAttr, qa, qb, qc, qd, Ow.enc, S_api_Op.enc, S_api_Record.enc, Sl.enc, *]
                · replace h := ob h; obtain ⟨r10, h11, h⟩ := h
                  replace h11 := run_segment_fit q (M + 5) (by omega) _ _ _ h11
                  try simp only [Ow.enc, S_api_Op.enc, S_api_Record.enc, Sl.enc, kn, simprocAttr, qa, qb, qc, qd] at h11
                  replace h := bb h; rcases h with ⟨h12', h12, h⟩ | ⟨h12', h12, h⟩
                  · replace h := br h; rcases h with ⟨h13, h⟩ | ⟨h13, h⟩
                    · try simp only [kn, simprocAttr, qa, qb, qc, qd] at h13
                      cases h; subst hR; simp (maxDischargeDepth := 12) only [A_segment_Recover_s0, kn, simprocAttr, qa, qb, qc, qd, Ow.enc, S_api_Op.enc, S_api_Record.enc, Sl.enc, *]
                    · try simp only [kn, simprocAttr, qa, qb, qc, qd] at h13
                      replace h := br h; rcases h with ⟨h14, h⟩ | ⟨h14, h⟩
                      · try simp only [kn, simprocAttr, qa, qb, qc, qd] at h14
                        replace h := ih_segment_Recover_s0_l1 M (by omega) j (by omega) w1 _ _ _ _ _ _ _ _ _ _ _ _ _ h R hR
                        simp (maxDischargeDepth := 12) only [A_segment_Recover_s0, kn, simprocAttr, qa, qb, qc, qd, Ow.enc, S_api_Op.enc, S_api_Record.enc, Sl.enc, *]
                      · try simp only [kn, simprocAttr, qa, qb, qc, qd] at h14
                        cases h
                  · cases h; subst hR; simp (maxDischargeDepth := 12) only [A_segment_Recover_s0, kn, simprocAttr, qa, qb, qc, qd, Ow.enc, S_api_Op.enc, S_api_Record.enc, Sl.enc, *]
            · cases h; subst hR; simp (maxDischargeDepth := 12) only [A_segment_Recover_s0, kn, simprocAttr, qa, qb, qc, qd, Ow.enc, S_api_Op.enc, S_api_Record.enc, Sl.enc, *]
          · cases h; subst hR; simp (maxDischargeDepth := 12) only [A_segment_Recover_s0, kn, simprocAttr, qa, qb, qc, qd, Ow.enc, S_api_Op.enc, S_api_Record.enc, Sl.enc, *]
        · replace h := ob h; obtain ⟨r11, h15, h⟩ := h
          replace h15 := run_segment_elder q (M + 5) (by omega) _ _ _ h15
          try simp only [Ow.enc, S_api_Op.enc, S_api_Record.enc, Sl.enc, kn, simprocAttr, qa, qb, qc, qd] at h15
          replace h := bb h; rcases h with ⟨h16', h16, h⟩ | ⟨h16', h16, h⟩
          · replace h := bb h; rcases h with ⟨h17', h17, h⟩ | ⟨h17', h17, h⟩
            · replace h := br h; rcases h with ⟨h18, h⟩ | ⟨h18, h⟩
              · cases h; subst hR; simp (maxDischargeDepth := 12) only [A_segment_Recover_s0, kn, simprocAttr, qa, qb, qc, qd, Ow.enc, S_api_Op.enc, S_api_Record.enc, Sl.enc, *]
              · replace h := br h; rcases h with ⟨h19, h⟩ | ⟨h19, h⟩
                · cases h; subst hR; simp (maxDischargeDepth := 12) only [A_segment_Recover_s0, kn, simprocAttr, qa, qb, qc, qd, Ow.enc, S_api_Op.enc, S_api_Record.enc, Sl.enc, *]
                · replace h := ob h; obtain ⟨r12, h20, h⟩ := h
                  replace h20 := run_segment_fit q (M + 5) (by omega) _ _ _ h20
                  try simp only [Ow.enc, S_api_Op.enc, S_api_Record.enc, Sl.enc, kn, simprocAttr, qa, qb, qc, qd] at h20
                  replace h := bb h; rcases h with ⟨h21', h21, h⟩ | ⟨h21', h21, h⟩
                  · replace h := br h; rcases h with ⟨h22, h⟩ | ⟨h22, h⟩
                    · try simp only [kn, simprocAttr, qa, qb, qc, qd] at h22
                      cases h; subst hR; simp (maxDischargeDepth := 12) only [A_segment_Recover_s0, kn, simprocAttr, qa, qb, qc, qd, Ow.enc, S_api_Op.enc, S_api_Record.enc, Sl.enc, *]
                    · try simp only [kn, simprocAttr, qa, qb, qc, qd] at h22
                      replace h := br h; rcases h with ⟨h23, h⟩ | ⟨h23, h⟩
                      · try simp only [kn, simprocAttr, qa, qb, qc, qd] at h23
                        replace h := ih_segment_Recover_s0_l1 M (by omega) j (by omega) w1 _ _ _ _ _ _ _ _ _ _ _ _ _ h R hR
                        simp (maxDischargeDepth := 12) only [A_segment_Recover_s0, kn, simprocAttr, qa, qb, qc, qd, Ow.enc, S_api_Op.enc, S_api_Record.enc, Sl.enc, *]
                      · try simp only [kn, simprocAttr, qa, qb, qc, qd] at h23
                        cases h
                  · cases h; subst hR; simp (maxDischargeDepth := 12) only [A_segment_Recover_s0, kn, simprocAttr, qa, qb, qc, qd, Ow.enc, S_api_Op.enc, S_api_Record.enc, Sl.enc, *]
            · cases h; subst hR; simp (maxDischargeDepth := 12) only [A_segment_Recover_s0, kn, simprocAttr, qa, qb, qc, qd, Ow.enc, S_api_Op.enc, S_api_Record.enc, Sl.enc, *]
          · cases h; subst hR; simp (maxDischargeDepth := 12) only [A_segment_Recover_s0, kn, simprocAttr, qa, qb, qc, qd, Ow.enc, S_api_Op.enc, S_api_Record.enc, Sl.enc, *]
      · cases h
    · cases h
  · cases h; subst hR; simp (maxDischargeDepth := 12) only [A_segment_Recover_s0, kn, simprocAttr, qa, qb, qc, qd, Ow.enc, S_api_Op.enc, S_api_Record.enc, Sl.enc, *]
theorem all_segment_Recover_s0 : ∀ q, St_segment_Recover_s0_l0 q ∧ St_segment_Recover_s0_l1 q
  | 0 => by refine ⟨?_, ?_⟩ <;> (intro M hM j hj; intros; rename_i h _ _ _ _ _; cases h)
  | q + 1 => by have ⟨i0, i1⟩ := all_segment_Recover_s0 q; exact ⟨step_segment_Recover_s0_l0 q i1, step_segment_Recover_s0_l1 q i1⟩
theorem run_segment_Recover_s0 : ∀ (q M : Nat), 8 * q ≤ M → ∀ (w1 : Nat), ∀ (h1z : Bool), ∀ (h1l : List (Sl Int)), ∀ (h1x : Bool), ∀ (r : Nat × Int × Int × Int × Int × Int × Bool × Int × Int × Int × Int × Int × Nat × Bool × Bool × (List S_api_Record)), segment_Recover_s0 q h1z h1l h1x = some r → (orc T (M + 7)).inl F.segment_reader_walk [(.ptr 2 0), (.vw 1 w1 0 h1l.length 1)] [(.box [(.int .i64 0), (.int .i64 0), (.sl true [])]), (.row w1 h1z 1 (List.map (Sl.enc (V.int .u8)) h1l) h1x), (.box [(.int .i64 0), (.int .i64 0), (.int .i64 0), (.sl true []), (.bool false)])] = (if r.1 = 0 then (some ([(.int .i64 r.2.1), (.int .i64 r.2.2.1)], [(.box [(.int .i64 0), (.int .i64 0), (.sl true [])]), (.row w1 h1z 1 (List.map (Sl.enc (V.int .u8)) h1l) h1x), (.box [(.int .i64 r.2.2.2.1), (.int .i64 r.2.2.2.2.1), (.int .i64 r.2.2.2.2.2.1), (.sl true []), (.bool r.2.2.2.2.2.2.1)])]) : Option (List V × Hp)) else (some ([(.int .i64 r.2.2.2.2.2.2.2.1), (.int .i64 r.2.2.2.2.2.2.2.2.1)], [(.box [(.int .i64 0), (.int .i64 0), (.sl true [])]), (.row w1 h1z 1 (List.map (Sl.enc (V.int .u8)) h1l) h1x), (.box [(.int .i64 r.2.2.2.2.2.2.2.2.2.1), (.int .i64 r.2.2.2.2.2.2.2.2.2.2.1), (.int .i64 r.2.2.2.2.2.2.2.2.2.2.2.1), (.vw 3 0 0 r.2.2.2.2.2.2.2.2.2.2.2.2.1 1), (.bool r.2.2.2.2.2.2.2.2.2.2.2.2.2.1)]), (.row 0 r.2.2.2.2.2.2.2.2.2.2.2.2.2.2.1 7 (List.map S_api_Record.enc r.2.2.2.2.2.2.2.2.2.2.2.2.2.2.2) true)]) : Option (List V × Hp))) := by
  intro q M hM w1 h1z h1l h1x r h
  rcases q with _ | q
  · cases h
  have ih_segment_Recover_s0_l0 := (all_segment_Recover_s0 q).1
  generalize hR : (if r.1 = 0 then (some ([(.int .i64 r.2.1), (.int .i64 r.2.2.1)], [(.box [(.int .i64 0), (.int .i64 0), (.sl true [])]), (.row w1 h1z 1 (List.map (Sl.enc (V.int .u8)) h1l) h1x), (.box [(.int .i64 r.2.2.2.1), (.int .i64 r.2.2.2.2.1), (.int .i64 r.2.2.2.2.2.1), (.sl true []), (.bool r.2.2.2.2.2.2.1)])]) : Option (List V × Hp)) else (some ([(.int .i64 r.2.2.2.2.2.2.2.1), (.int .i64 r.2.2.2.2.2.2.2.2.1)], [(.box [(.int .i64 0), (.int .i64 0), (.sl true [])]), (.row w1 h1z 1 (List.map (Sl.enc (V.int .u8)) h1l) h1x), (.box [(.int .i64 r.2.2.2.2.2.2.2.2.2.1), (.int .i64 r.2.2.2.2.2.2.2.2.2.2.1), (.int .i64 r.2.2.2.2.2.2.2.2.2.2.2.1), (.vw 3 0 0 r.2.2.2.2.2.2.2.2.2.2.2.2.1 1), (.bool r.2.2.2.2.2.2.2.2.2.2.2.2.2.1)]), (.row 0 r.2.2.2.2.2.2.2.2.2.2.2.2.2.2.1 7 (List.map S_api_Record.enc r.2.2.2.2.2.2.2.2.2.2.2.2.2.2.2) true)]) : Option (List V × Hp))) = R
  rw [i_segment_reader_walk (n := M + 6)]
  rw [segment_Recover_s0] at h
  replace h := br h; rcases h with ⟨h1, h⟩ | ⟨h1, h⟩
  · replace h := ob h; obtain ⟨e1, h2, h⟩ := h
    replace h := ob h; obtain ⟨r2, h3, h⟩ := h
    replace h3 := run_segment_Recover_s0_s0 q M (by omega) w1 _ _ _ _ _ _ h3
    try simp only [Ow.enc, S_api_Op.enc, S_api_Record.enc, Sl.enc, kn, simprocAttr, qa, qb, qc, qd] at h3
    replace h := br h; rcases h with ⟨h4, h⟩ | ⟨h4, h⟩
    · replace h := br h; rcases h with ⟨h5, h⟩ | ⟨h5, h⟩
      · replace h := ih_segment_Recover_s0_l0 M (by omega) (M + 6) (by omega) w1 _ _ _ _ _ _ _ _ _ _ h R hR
        simp (maxDischargeDepth := 12) only [A_segment_Recover_s0, kn, simprocAttr, qa, qb, qc, qd, Ow.enc, S_api_Op.enc, S_api_Record.enc, Sl.enc, *]
      · cases h
    · cases h; subst hR; simp (maxDischargeDepth := 12) only [A_segment_Recover_s0, kn, simprocAttr, qa, qb, qc, qd, Ow.enc, S_api_Op.enc, S_api_Record.enc, Sl.enc, *]
  · cases h
def St_segment_Recover_l0 (q : Nat) : Prop := ∀ (M : Nat) (hM : 8 * q ≤ M) (j : Nat) (hj : q ≤ j) (v10 : Int) (v32len : Nat) (v33 : Int) (v34 : Int) (h1_0 : Int) (h1_1 : Int) (h1_2 : Int) (h1_4 : Bool) (h2z : Bool) (h2l : List (Sl Int)) (h2x : Bool) (r : S_api_Segment × Int × Bool) (_ : segment_Recover_l0 q v10 v32len v33 v34 h1_0 h1_1 h1_2 h1_4 h2z h2l h2x = some r) (R : Option (List V)) (_ : some [S_api_Segment.enc r.1, (V.int .i64) r.2.1, V.bool r.2.2] = R) (fr : Fr) (H : Hp) (_ : canon 0 [2, 7, 10, 32, 33, 34] fr H = ([(2, (.ptr 0 0)), (7, (.ptr 1 0)), (10, (.int .i64 v10)), (32, (.vw 2 0 0 v32len 1)), (33, (.int .i64 v33)), (34, (.int .i64 v34))], [(.box [(.int .i64 0), (.int .i64 0), (.sl true [])]), (.box [(.int .i64 h1_0), (.int .i64 h1_1), (.int .i64 h1_2), (.sl true []), (.bool h1_4)]), (.row 0 h2z 1 (List.map (Sl.enc (V.int .u8)) h2l) h2x)])), fin m_segment_Recover (unw T (orc T (M + 7)) (M + 7) 0 [.blk 0, .code c_16_24] (iter 0 [2, 7, 10, 32, 33, 34] (exec T (orc T (M + 7)) (M + 7) 0 c_16_21) j fr H)) = R
def St_segment_Recover_l1 (q : Nat) : Prop := ∀ (M : Nat) (hM : 8 * q ≤ M) (j : Nat) (hj : q ≤ j) (v10 : Int) (v32len : Nat) (v33 : Int) (v34 : Int) (h1_0 : Int) (h1_1 : Int) (h1_2 : Int) (h1_4 : Bool) (h2z : Bool) (h2l : List (Sl Int)) (h2x : Bool) (r : S_api_Segment × Int × Bool) (_ : segment_Recover_l1 q v10 v32len v33 v34 h1_0 h1_1 h1_2 h1_4 h2z h2l h2x = some r) (R : Option (List V)) (_ : some [S_api_Segment.enc r.1, (V.int .i64) r.2.1, V.bool r.2.2] = R) (fr : Fr) (H : Hp) (_ : canon 0 [2, 7, 10, 32, 33, 34] fr H = ([(2, (.ptr 0 0)), (7, (.ptr 1 0)), (10, (.int .i64 v10)), (32, (.vw 2 0 0 v32len 0)), (33, (.int .i64 v33)), (34, (.int .i64 v34))], [(.box [(.int .i64 0), (.int .i64 0), (.sl true [])]), (.box [(.int .i64 h1_0), (.int .i64 h1_1), (.int .i64 h1_2), (.sl true []), (.bool h1_4)]), (.row 0 h2z 1 (List.map (Sl.enc (V.int .u8)) h2l) h2x)])), fin m_segment_Recover (unw T (orc T (M + 7)) (M + 7) 0 [.blk 0, .code c_16_24] (iter 0 [2, 7, 10, 32, 33, 34] (exec T (orc T (M + 7)) (M + 7) 0 c_16_21) j fr H)) = R
def St_segment_Recover_l2 (q : Nat) : Prop := ∀ (M : Nat) (hM : 8 * q ≤ M) (j : Nat) (hj : q ≤ j) (v10 : Int) (v32len : Nat) (v33 : Int) (v34 : Int) (h1_0 : Int) (h1_1 : Int) (h1_2 : Int) (h1_3len : Nat) (h1_4 : Bool) (h2z : Bool) (h2l : List (Sl Int)) (h2x : Bool) (h3z : Bool) (h3l : List S_api_Record) (r : S_api_Segment × Int × Bool) (_ : segment_Recover_l2 q v10 v32len v33 v34 h1_0 h1_1 h1_2 h1_3len h1_4 h2z h2l h2x h3z h3l = some r) (R : Option (List V)) (_ : some [S_api_Segment.enc r.1, (V.int .i64) r.2.1, V.bool r.2.2] = R) (fr : Fr) (H : Hp) (_ : canon 0 [2, 7, 10, 32, 33, 34] fr H = ([(2, (.ptr 0 0)), (7, (.ptr 1 0)), (10, (.int .i64 v10)), (32, (.vw 2 0 0 v32len 1)), (33, (.int .i64 v33)), (34, (.int .i64 v34))], [(.box [(.int .i64 0), (.int .i64 0), (.sl true [])]), (.box [(.int .i64 h1_0), (.int .i64 h1_1), (.int .i64 h1_2), (.vw 3 0 0 h1_3len 1), (.bool h1_4)]), (.row 0 h2z 1 (List.map (Sl.enc (V.int .u8)) h2l) h2x), (.row 0 h3z 7 (List.map S_api_Record.enc h3l) true)])), fin m_segment_Recover (unw T (orc T (M + 7)) (M + 7) 0 [.blk 0, .code c_16_24] (iter 0 [2, 7, 10, 32, 33, 34] (exec T (orc T (M + 7)) (M + 7) 0 c_16_21) j fr H)) = R
def St_segment_Recover_l3 (q : Nat) : Prop := ∀ (M : Nat) (hM : 8 * q ≤ M) (j : Nat) (hj : q ≤ j) (v10 : Int) (v32len : Nat) (v33 : Int) (v34 : Int) (h1_0 : Int) (h1_1 : Int) (h1_2 : Int) (h1_3len : Nat) (h1_4 : Bool) (h2z : Bool) (h2l : List (Sl Int)) (h2x : Bool) (h3z : Bool) (h3l : List S_api_Record) (r : S_api_Segment × Int × Bool) (_ : segment_Recover_l3 q v10 v32len v33 v34 h1_0 h1_1 h1_2 h1_3len h1_4 h2z h2l h2x h3z h3l = some r) (R : Option (List V)) (_ : some [S_api_Segment.enc r.1, (V.int .i64) r.2.1, V.bool r.2.2] = R) (fr : Fr) (H : Hp) (_ : canon 0 [2, 7, 10, 32, 33, 34] fr H = ([(2, (.ptr 0 0)), (7, (.ptr 1 0)), (10, (.int .i64 v10)), (32, (.vw 2 0 0 v32len 0)), (33, (.int .i64 v33)), (34, (.int .i64 v34))], [(.box [(.int .i64 0), (.int .i64 0), (.sl true [])]), (.box [(.int .i64 h1_0), (.int .i64 h1_1), (.int .i64 h1_2), (.vw 3 0 0 h1_3len 1), (.bool h1_4)]), (.row 0 h2z 1 (List.map (Sl.enc (V.int .u8)) h2l) h2x), (.row 0 h3z 7 (List.map S_api_Record.enc h3l) true)])), fin m_segment_Recover (unw T (orc T (M + 7)) (M + 7) 0 [.blk 0, .code c_16_24] (iter 0 [2, 7, 10, 32, 33, 34] (exec T (orc T (M + 7)) (M + 7) 0 c_16_21) j fr H)) = R
def A_segment_Recover := And.intro @kk <| And.intro @L_segment_Recover <| And.intro @v_frame_Whole <| And.intro @v_segment_reader_walk <| And.intro @v_frame_Size <| And.intro @rr_segment_Recover <| And.intro @ro_segment_Recover <| @b0_segment_Recover
theorem step_segment_Recover_l0 (q : Nat) (ih_segment_Recover_l0 : St_segment_Recover_l0 q) : St_segment_Recover_l0 (q + 1) := by
  intro M hM j hj v10 v32len v33 v34 h1_0 h1_1 h1_2 h1_4 h2z h2l h2x r h R hR fr H hc
  obtain ⟨j, rfl⟩ : ∃ i, j = i + 1 := ⟨j - 1, by omega⟩
  rw [unw_iter, hc]; clear hc
  rw [segment_Recover_l0] at h
  replace h := br h; rcases h with ⟨h1, h⟩ | ⟨h1, h⟩
  · replace h := br h; rcases h with ⟨h2, h⟩ | ⟨h2, h⟩
    · replace h := br h; rcases h with ⟨h3, h⟩ | ⟨h3, h⟩
      · replace h := ob h; obtain ⟨e3, h4, h⟩ := h
        replace h := ob h; obtain ⟨r4, h5, h⟩ := h
        replace h5 := run_frame_Size q (M + 7) (by omega) _ _ h5
        replace h := ih_segment_Recover_l0 M (by omega) j (by omega) _ _ _ _ _ _ _ _ _ _ _ _ h R hR
        simp (maxDischargeDepth := 12) only [A_segment_Recover, kn, simprocAttr, qa, qb, qc, qd, Ow.enc, S_api_Op.enc, S_api_Record.enc, S_api_Segment.enc, Sl.enc, *]
      · cases h
    · cases h
  · cases h; subst hR; simp (maxDischargeDepth := 12) only [A_segment_Recover, kn, simprocAttr, qa, qb, qc, qd, Ow.enc, S_api_Op.enc, S_api_Record.enc, S_api_Segment.enc, Sl.enc, *]
theorem step_segment_Recover_l1 (q : Nat) (ih_segment_Recover_l1 : St_segment_Recover_l1 q) : St_segment_Recover_l1 (q + 1) := by
  intro M hM j hj v10 v32len v33 v34 h1_0 h1_1 h1_2 h1_4 h2z h2l h2x r h R hR fr H hc
  obtain ⟨j, rfl⟩ : ∃ i, j = i + 1 := ⟨j - 1, by omega⟩
  rw [unw_iter, hc]; clear hc
  rw [segment_Recover_l1] at h
  replace h := br h; rcases h with ⟨h1, h⟩ | ⟨h1, h⟩
  · replace h := br h; rcases h with ⟨h2, h⟩ | ⟨h2, h⟩
    · replace h := br h; rcases h with ⟨h3, h⟩ | ⟨h3, h⟩
      · replace h := ob h; obtain ⟨e5, h4, h⟩ := h
        replace h := ob h; obtain ⟨r6, h5, h⟩ := h
        replace h5 := run_frame_Size q (M + 7) (by omega) _ _ h5
        replace h := ih_segment_Recover_l1 M (by omega) j (by omega) _ _ _ _ _ _ _ _ _ _ _ _ h R hR
        simp (maxDischargeDepth := 12) only [A_segment_Recover, kn, simprocAttr, qa, qb, qc, qd, Ow.enc, S_api_Op.enc, S_api_Record.enc, S_api_Segment.enc, Sl.enc, *]
      · cases h
    · cases h
  · cases h; subst hR; simp (maxDischargeDepth := 12) only [A_segment_Recover, kn, simprocAttr, qa, qb, qc, qd, Ow.enc, S_api_Op.enc, S_api_Record.enc, S_api_Segment.enc, Sl.enc, *]
theorem step_segment_Recover_l2 (q : Nat) (ih_segment_Recover_l2 : St_segment_Recover_l2 q) : St_segment_Recover_l2 (q + 1) := by
  intro M hM j hj v10 v32len v33 v34 h1_0 h1_1 h1_2 h1_3len h1_4 h2z h2l h2x h3z h3l r h R hR fr H hc
  obtain ⟨j, rfl⟩ : ∃ i, j = i + 1 := ⟨j - 1, by omega⟩
  rw [unw_iter, hc]; clear hc
  rw [segment_Recover_l2] at h
  replace h := br h; rcases h with ⟨h1, h⟩ | ⟨h1, h⟩
  · replace h := br h; rcases h with ⟨h2, h⟩ | ⟨h2, h⟩
    · replace h := br h; rcases h with ⟨h3, h⟩ | ⟨h3, h⟩
      · replace h := ob h; obtain ⟨e7, h4, h⟩ := h
        replace h := ob h; obtain ⟨r8, h5, h⟩ := h
        replace h5 := run_frame_Size q (M + 7) (by omega) _ _ h5
        replace h := ih_segment_Recover_l2 M (by omega) j (by omega) _ _ _ _ _ _ _ _ _ _ _ _ _ _ _ h R hR
        simp (maxDischargeDepth := 12) only [A_segment_Recover, kn, simprocAttr, qa, qb, qc, qd, Ow.enc, S_api_Op.enc, S_api_Record.enc, S_api_Segment.enc, Sl.enc, *]
      · cases h
    · cases h
  · cases h; subst hR; simp (maxDischargeDepth := 12) only [A_segment_Recover, kn, simprocAttr, qa, qb, qc, qd, Ow.enc, S_api_Op.enc, S_api_Record.enc, S_api_Segment.enc, Sl.enc, *]
theorem step_segment_Recover_l3 (q : Nat) (ih_segment_Recover_l3 : St_segment_Recover_l3 q) : St_segment_Recover_l3 (q + 1) := by
  intro M hM j hj v10 v32len v33 v34 h1_0 h1_1 h1_2 h1_3len h1_4 h2z h2l h2x h3z h3l r h R hR fr H hc
  obtain ⟨j, rfl⟩ : ∃ i, j = i + 1 := ⟨j - 1, by omega⟩
  rw [unw_iter, hc]; clear hc
  rw [segment_Recover_l3] at h
  replace h := br h; rcases h with ⟨h1, h⟩ | ⟨h1, h⟩
  · replace h := br h; rcases h with ⟨h2, h⟩ | ⟨h2, h⟩
    · replace h := br h; rcases h with ⟨h3, h⟩ | ⟨h3, h⟩
      · replace h := ob h; obtain ⟨e9, h4, h⟩ := h
        replace h := ob h; obtain ⟨r10, h5, h⟩ := h
        replace h5 := run_frame_Size q (M + 7) (by omega) _ _ h5
        replace h := ih_segment_Recover_l3 M (by omega) j (by omega) _ _ _ _ _ _ _ _ _ _ _ _ _ _ _ h R hR
        simp (maxDischargeDepth := 12) only [A_segment_Recover, kn, simprocAttr, qa, qb, qc, qd, Ow.enc, S_api_Op.enc, S_api_Record.enc, S_api_Segment.enc, Sl.enc, *]
      · cases h
    · cases h
  · cases h; subst hR; simp (maxDischargeDepth := 12) only [A_segment_Recover, kn, simprocAttr, qa, qb, qc, qd, Ow.enc, S_api_Op.enc, S_api_Record.enc, S_api_Segment.enc, Sl.enc, *]
theorem all_segment_Recover : ∀ q, St_segment_Recover_l0 q ∧ St_segment_Recover_l1 q ∧ St_segment_Recover_l2 q ∧ St_segment_Recover_l3 q
  | 0 => by refine ⟨?_, ?_, ?_, ?_⟩ <;> (intro M hM j hj; intros; rename_i h _ _ _ _ _; cases h)
  | q + 1 => by have ⟨i0, i1, i2, i3⟩ := all_segment_Recover q; exact ⟨step_segment_Recover_l0 q i0, step_segment_Recover_l1 q i1, step_segment_Recover_l2 q i2, step_segment_Recover_l3 q i3⟩
theorem run_segment_Recover : ∀ (q N : Nat), 8 * q ≤ N → ∀ (a0 : (Sl Int)), ∀ (r : S_api_Segment × Int × Bool), segment_Recover q a0 = some r → (orc T N).deep F.segment_Recover [(Sl.enc (V.int .u8)) a0] = some [S_api_Segment.enc r.1, (V.int .i64) r.2.1, V.bool r.2.2] := by
  intro q N hM a0 r h
  rcases q with _ | q
  · cases h
  obtain ⟨M, rfl⟩ : ∃ M, N = M + 8 := ⟨N - 8, by omega⟩
  have ih_segment_Recover_l0 := (all_segment_Recover q).1
  have ih_segment_Recover_l1 := (all_segment_Recover q).2.1
  have ih_segment_Recover_l2 := (all_segment_Recover q).2.2.1
  have ih_segment_Recover_l3 := (all_segment_Recover q).2.2.2
  generalize hR : some [S_api_Segment.enc r.1, (V.int .i64) r.2.1, V.bool r.2.2] = R
  rw [orc_deep, T_segment_Recover, Option.bind_some, runDeep_eq]
  rw [segment_Recover] at h
  replace h := ob h; obtain ⟨r1, h1, h⟩ := h
  replace h1 := run_frame_Whole q (M + 7) (by omega) _ _ h1
  try simp only [Ow.enc, Sl.enc, kn, simprocAttr, qa, qb, qc, qd] at h1
  replace h := br h; rcases h with ⟨h2, h⟩ | ⟨h2, h⟩
  · cases h; subst hR; simp (maxDischargeDepth := 12) only [A_segment_Recover, kn, simprocAttr, qa, qb, qc, qd, Ow.enc, S_api_Op.enc, S_api_Record.enc, S_api_Segment.enc, Sl.enc, *]
  · replace h := ob h; obtain ⟨r2, h3, h⟩ := h
    replace h3 := run_segment_Recover_s0 q M (by omega) 0 _ _ _ _ h3
    try simp only [Ow.enc, S_api_Op.enc, S_api_Record.enc, Sl.enc, kn, simprocAttr, qa, qb, qc, qd] at h3
    replace h := br h; rcases h with ⟨h4, h⟩ | ⟨h4, h⟩
    · replace h := br h; rcases h with ⟨h5, h⟩ | ⟨h5, h⟩
      · cases h; subst hR; simp (maxDischargeDepth := 12) only [A_segment_Recover, kn, simprocAttr, qa, qb, qc, qd, Ow.enc, S_api_Op.enc, S_api_Record.enc, S_api_Segment.enc, Sl.enc, *]
      · replace h := br h; rcases h with ⟨h6, h⟩ | ⟨h6, h⟩
        · replace h := br h; rcases h with ⟨h7, h⟩ | ⟨h7, h⟩
          · replace h := bb h; rcases h with ⟨h8', h8, h⟩ | ⟨h8', h8, h⟩
            · replace h := ih_segment_Recover_l0 M (by omega) (M + 7) (by omega) _ _ _ _ _ _ _ _ _ _ _ _ h R hR
              simp (maxDischargeDepth := 12) only [A_segment_Recover, kn, simprocAttr, qa, qb, qc, qd, Ow.enc, S_api_Op.enc, S_api_Record.enc, S_api_Segment.enc, Sl.enc, *]
            · replace h := ih_segment_Recover_l1 M (by omega) (M + 7) (by omega) _ _ _ _ _ _ _ _ _ _ _ _ h R hR
              simp (maxDischargeDepth := 12) only [A_segment_Recover, kn, simprocAttr, qa, qb, qc, qd, Ow.enc, S_api_Op.enc, S_api_Record.enc, S_api_Segment.enc, Sl.enc, *]
          · cases h
        · cases h
    · replace h := br h; rcases h with ⟨h9, h⟩ | ⟨h9, h⟩
      · cases h; subst hR; simp (maxDischargeDepth := 12) only [A_segment_Recover, kn, simprocAttr, qa, qb, qc, qd, Ow.enc, S_api_Op.enc, S_api_Record.enc, S_api_Segment.enc, Sl.enc, *]
      · replace h := br h; rcases h with ⟨h10, h⟩ | ⟨h10, h⟩
        · replace h := br h; rcases h with ⟨h11, h⟩ | ⟨h11, h⟩
          · replace h := bb h; rcases h with ⟨h12', h12, h⟩ | ⟨h12', h12, h⟩
            · replace h := ih_segment_Recover_l2 M (by omega) (M + 7) (by omega) _ _ _ _ _ _ _ _ _ _ _ _ _ _ _ h R hR
              simp (maxDischargeDepth := 12) only [A_segment_Recover, kn, simprocAttr, qa, qb, qc, qd, Ow.enc, S_api_Op.enc, S_api_Record.enc, S_api_Segment.enc, Sl.enc, *]
            · replace h := ih_segment_Recover_l3 M (by omega) (M + 7) (by omega) _ _ _ _ _ _ _ _ _ _ _ _ _ _ _ h R hR
              simp (maxDischargeDepth := 12) only [A_segment_Recover, kn, simprocAttr, qa, qb, qc, qd, Ow.enc, S_api_Op.enc, S_api_Record.enc, S_api_Segment.enc, Sl.enc, *]
          · cases h
        · cases h
def A_ferrymanref06_Upgrade := And.intro @kk <| And.intro @L_ferrymanref06_Upgrade <| And.intro @rr_ferrymanref06_Upgrade <| And.intro @ro_ferrymanref06_Upgrade <| @b0_ferrymanref06_Upgrade
theorem run_ferrymanref06_Upgrade : ∀ (q N : Nat), 8 * q ≤ N → ∀ (a0 : Int) (a1 : S_api_Record), ∀ (r : S_api_Record × Int), ferrymanref06_Upgrade q a0 a1 = some r → (orc T N).deep F.ferrymanref06_Upgrade [(V.int .i64) a0, S_api_Record.enc a1] = some [S_api_Record.enc r.1, (V.int .i64) r.2] := by
  intro q N hM a0 a1 r h
  rcases q with _ | q
  · cases h
  obtain ⟨M, rfl⟩ : ∃ M, N = M + 8 := ⟨N - 8, by omega⟩
  generalize hR : some [S_api_Record.enc r.1, (V.int .i64) r.2] = R
  rw [orc_deep, T_ferrymanref06_Upgrade, Option.bind_some, runDeep_eq]
  rw [ferrymanref06_Upgrade] at h
  replace h := br h; rcases h with ⟨h1, h⟩ | ⟨h1, h⟩
  · cases h; subst hR; simp (maxDischargeDepth := 12) only [A_ferrymanref06_Upgrade, kn, simprocAttr, qa, qb, qc, qd, Ow.enc, S_api_Op.enc, S_api_Record.enc, Sl.enc, *]
  · replace h := br h; rcases h with ⟨h2, h⟩ | ⟨h2, h⟩
    · cases h; subst hR; simp (maxDischargeDepth := 12) only [A_ferrymanref06_Upgrade, kn, simprocAttr, qa, qb, qc, qd, Ow.enc, S_api_Op.enc, S_api_Record.enc, Sl.enc, *]
    · replace h := br h; rcases h with ⟨h3, h⟩ | ⟨h3, h⟩
      · replace h := br h; rcases h with ⟨h4, h⟩ | ⟨h4, h⟩
        · cases h; subst hR; simp (maxDischargeDepth := 12) only [A_ferrymanref06_Upgrade, kn, simprocAttr, qa, qb, qc, qd, Ow.enc, S_api_Op.enc, S_api_Record.enc, Sl.enc, *]
        · cases h; subst hR; simp (maxDischargeDepth := 12) only [A_ferrymanref06_Upgrade, kn, simprocAttr, qa, qb, qc, qd, Ow.enc, S_api_Op.enc, S_api_Record.enc, Sl.enc, *]
      · replace h := br h; rcases h with ⟨h5, h⟩ | ⟨h5, h⟩
        · cases h; subst hR; simp (maxDischargeDepth := 12) only [A_ferrymanref06_Upgrade, kn, simprocAttr, qa, qb, qc, qd, Ow.enc, S_api_Op.enc, S_api_Record.enc, Sl.enc, *]
        · cases h; subst hR; simp (maxDischargeDepth := 12) only [A_ferrymanref06_Upgrade, kn, simprocAttr, qa, qb, qc, qd, Ow.enc, S_api_Op.enc, S_api_Record.enc, Sl.enc, *]
def St_ferrymanref08_Upgraded_l0 (q : Nat) : Prop := ∀ (M : Nat) (hM : 8 * q ≤ M) (j : Nat) (hj : q ≤ j) (v0 : Int) (h0_0 : Int) (h0_1 : Int) (h0_2z : Bool) (h0_2l : List S_api_Record) (h2_0 : Int) (h2_1 : Int) (r : S_api_Segment) (_ : ferrymanref08_Upgraded_l0 q v0 h0_0 h0_1 h0_2z h0_2l h2_0 h2_1 = some r) (R : Option (List V)) (_ : some [S_api_Segment.enc r] = R) (fr : Fr) (H : Hp) (_ : canon 0 [0, 3, 4, 5, 6] fr H = ([(0, (.int .i64 v0)), (3, (.ptr 0 0)), (4, (.ptr 1 0)), (5, (.ptr 2 0)), (6, (.int .i64 0))], [(.box [(.int .i64 h0_0), (.int .i64 h0_1), (.sl h0_2z (List.map S_api_Record.enc h0_2l))]), (.box [(.int .i64 0), (.int .i64 0), (.sl true [])]), (.box [(.int .i64 h2_0), (.int .i64 h2_1), (.sl true [])])])), fin m_ferrymanref08_Upgraded (unw T (orc T (M + 7)) (M + 7) 0 [.blk 0, .code c_18_15] (iter 0 [0, 3, 4, 5, 6] (exec T (orc T (M + 7)) (M + 7) 0 c_18_12) j fr H)) = R
def St_ferrymanref08_Upgraded_l1 (q : Nat) : Prop := ∀ (M : Nat) (hM : 8 * q ≤ M) (j : Nat) (hj : q ≤ j) (v0 : Int) (v6 : Int) (h0_0 : Int) (h0_1 : Int) (h0_2z : Bool) (h0_2l : List S_api_Record) (h2_0 : Int) (h2_1 : Int) (h3l : List S_api_Record) (r : S_api_Segment) (_ : ferrymanref08_Upgraded_l1 q v0 v6 h0_0 h0_1 h0_2z h0_2l h2_0 h2_1 h3l = some r) (R : Option (List V)) (_ : some [S_api_Segment.enc r] = R) (fr : Fr) (H : Hp) (_ : canon 0 [0, 3, 4, 5, 6] fr H = ([(0, (.int .i64 v0)), (3, (.ptr 0 0)), (4, (.ptr 1 0)), (5, (.ptr 2 0)), (6, (.int .i64 v6))], [(.box [(.int .i64 h0_0), (.int .i64 h0_1), (.sl h0_2z (List.map S_api_Record.enc h0_2l))]), (.box [(.int .i64 0), (.int .i64 0), (.sl true [])]), (.box [(.int .i64 h2_0), (.int .i64 h2_1), (.vw 3 0 0 h3l.length 1)]), (.row 0 false 7 (List.map S_api_Record.enc h3l) true)])), fin m_ferrymanref08_Upgraded (unw T (orc T (M + 7)) (M + 7) 0 [.blk 0, .code c_18_15] (iter 0 [0, 3, 4, 5, 6] (exec T (orc T (M + 7)) (M + 7) 0 c_18_12) j fr H)) = R
def A_ferrymanref08_Upgraded := And.intro @kk <| And.intro @L_ferrymanref08_Upgraded <| And.intro @v_ferrymanref06_Upgrade <| And.intro @rr_ferrymanref08_Upgraded <| And.intro @ro_ferrymanref08_Upgraded <| @b0_ferrymanref08_Upgraded
theorem step_ferrymanref08_Upgraded_l0 (q : Nat) (ih_ferrymanref08_Upgraded_l1 : St_ferrymanref08_Upgraded_l1 q) : St_ferrymanref08_Upgraded_l0 (q + 1) := by
  intro M hM j hj v0 h0_0 h0_1 h0_2z h0_2l h2_0 h2_1 r h R hR fr H hc
  obtain ⟨j, rfl⟩ : ∃ i, j = i + 1 := ⟨j - 1, by omega⟩
  rw [unw_iter, hc]; clear hc
  rw [ferrymanref08_Upgraded_l0] at h
  replace h := br h; rcases h with ⟨h1, h⟩ | ⟨h1, h⟩
  · replace h := ob h; obtain ⟨e1, h2, h⟩ := h
    replace h := ob h; obtain ⟨r2, h3, h⟩ := h
    replace h3 := run_ferrymanref06_Upgrade q (M + 7) (by omega) _ _ _ h3
    try simp only [Ow.enc, S_api_Op.enc, S_api_Record.enc, kn, simprocAttr, qa, qb, qc, qd] at h3
    replace h := ih_ferrymanref08_Upgraded_l1 M (by omega) j (by omega) _ _ _ _ _ _ _ _ _ _ h R hR
    simp (maxDischargeDepth := 12) only [A_ferrymanref08_Upgraded, kn, simprocAttr, qa, qb, qc, qd, Ow.enc, S_api_Op.enc, S_api_Record.enc, S_api_Segment.enc, Sl.enc, *]
  · cases h; subst hR; simp (maxDischargeDepth := 12) only [A_ferrymanref08_Upgraded, kn, simprocAttr, qa, qb, qc, qd, Ow.enc, S_api_Op.enc, S_api_Record.enc, S_api_Segment.enc, Sl.enc, *]
theorem step_ferrymanref08_Upgraded_l1 (q : Nat) (ih_ferrymanref08_Upgraded_l1 : St_ferrymanref08_Upgraded_l1 q) : St_ferrymanref08_Upgraded_l1 (q + 1) := by
  intro M hM j hj v0 v6 h0_0 h0_1 h0_2z h0_2l h2_0 h2_1 h3l r h R hR fr H hc
  obtain ⟨j, rfl⟩ : ∃ i, j = i + 1 := ⟨j - 1, by omega⟩
  rw [unw_iter, hc]; clear hc
  rw [ferrymanref08_Upgraded_l1] at h
  replace h := br h; rcases h with ⟨h1, h⟩ | ⟨h1, h⟩
  · replace h := br h; rcases h with ⟨h2, h⟩ | ⟨h2, h⟩
    · replace h := ob h; obtain ⟨e3, h3, h⟩ := h
      replace h := ob h; obtain ⟨r4, h4, h⟩ := h
      replace h4 := run_ferrymanref06_Upgrade q (M + 7) (by omega) _ _ _ h4
      try simp only [Ow.enc, S_api_Op.enc, S_api_Record.enc, kn, simprocAttr, qa, qb, qc, qd] at h4
      replace h := br h; rcases h with ⟨h5, h⟩ | ⟨h5, h⟩
      · try simp only [kn, simprocAttr, qa, qb, qc, qd] at h5
        replace h := ih_ferrymanref08_Upgraded_l1 M (by omega) j (by omega) _ _ _ _ _ _ _ _ _ _ h R hR
        simp (maxDischargeDepth := 12) only [A_ferrymanref08_Upgraded, kn, simprocAttr, qa, qb, qc, qd, Ow.enc, S_api_Op.enc, S_api_Record.enc, S_api_Segment.enc, Sl.enc, *]
      · try simp only [kn, simprocAttr, qa, qb, qc, qd] at h5
        cases h
    · cases h
  · cases h; subst hR; simp (maxDischargeDepth := 12) only [A_ferrymanref08_Upgraded, kn, simprocAttr, qa, qb, qc, qd, Ow.enc, S_api_Op.enc, S_api_Record.enc, S_api_Segment.enc, Sl.enc, *]
theorem all_ferrymanref08_Upgraded : ∀ q, St_ferrymanref08_Upgraded_l0 q ∧ St_ferrymanref08_Upgraded_l1 q
  | 0 => by refine ⟨?_, ?_⟩ <;> (intro M hM j hj; intros; rename_i h _ _ _ _ _; cases h)
  | q + 1 => by have ⟨i0, i1⟩ := all_ferrymanref08_Upgraded q; exact ⟨step_ferrymanref08_Upgraded_l0 q i1, step_ferrymanref08_Upgraded_l1 q i1⟩
theorem run_ferrymanref08_Upgraded : ∀ (q N : Nat), 8 * q ≤ N → ∀ (a0 : Int) (a1 : S_api_Segment), ∀ (r : S_api_Segment), ferrymanref08_Upgraded q a0 a1 = some r → (orc T N).deep F.ferrymanref08_Upgraded [(V.int .i64) a0, S_api_Segment.enc a1] = some [S_api_Segment.enc r] := by
  intro q N hM a0 a1 r h
  rcases q with _ | q
  · cases h
  obtain ⟨M, rfl⟩ : ∃ M, N = M + 8 := ⟨N - 8, by omega⟩
  have ih_ferrymanref08_Upgraded_l0 := (all_ferrymanref08_Upgraded q).1
  generalize hR : some [S_api_Segment.enc r] = R
  rw [orc_deep, T_ferrymanref08_Upgraded, Option.bind_some, runDeep_eq]
  rw [ferrymanref08_Upgraded] at h
  replace h := ih_ferrymanref08_Upgraded_l0 M (by omega) (M + 7) (by omega) _ _ _ _ _ _ _ _ h R hR
  simp (maxDischargeDepth := 12) only [A_ferrymanref08_Upgraded, kn, simprocAttr, qa, qb, qc, qd, Ow.enc, S_api_Op.enc, S_api_Record.enc, S_api_Segment.enc, Sl.enc, *]
def St_ferrymanref07_Same_l0 (q : Nat) : Prop := ∀ (M : Nat) (hM : 8 * q ≤ M) (j : Nat) (hj : q ≤ j) (v0z : Bool) (v0l : List S_api_Record) (v1z : Bool) (v1l : List S_api_Record) (v5 : Int) (r : Bool) (_ : ferrymanref07_Same_l0 q v0z v0l v1z v1l v5 = some r) (R : Option (List V)) (_ : some [V.bool r] = R) (fr : Fr) (H : Hp) (_ : canon 0 [0, 1, 5] fr H = ([(0, (.sl v0z (List.map S_api_Record.enc v0l))), (1, (.sl v1z (List.map S_api_Record.enc v1l))), (5, (.int .i64 v5))], [])), fin m_ferrymanref07_Same (unw T (orc T (M + 7)) (M + 7) 0 [.blk 0, .code c_37_17] (iter 0 [0, 1, 5] (exec T (orc T (M + 7)) (M + 7) 0 c_37_14) j fr H)) = R
def A_ferrymanref07_Same := And.intro @kk <| And.intro @L_ferrymanref07_Same <| And.intro @rr_ferrymanref07_Same <| And.intro @ro_ferrymanref07_Same <| @b0_ferrymanref07_Same
theorem step_ferrymanref07_Same_l0 (q : Nat) (ih_ferrymanref07_Same_l0 : St_ferrymanref07_Same_l0 q) : St_ferrymanref07_Same_l0 (q + 1) := by
  intro M hM j hj v0z v0l v1z v1l v5 r h R hR fr H hc
  obtain ⟨j, rfl⟩ : ∃ i, j = i + 1 := ⟨j - 1, by omega⟩
  rw [unw_iter, hc]; clear hc
  rw [ferrymanref07_Same_l0] at h
  replace h := br h; rcases h with ⟨h1, h⟩ | ⟨h1, h⟩
  · replace h := br h; rcases h with ⟨h2, h⟩ | ⟨h2, h⟩
    · replace h := ob h; obtain ⟨e1, h3, h⟩ := h
      replace h := ob h; obtain ⟨e2, h4, h⟩ := h
      replace h := br h; rcases h with ⟨h5, h⟩ | ⟨h5, h⟩
      · replace h := br h; rcases h with ⟨h6, h⟩ | ⟨h6, h⟩
        · replace h := br h; rcases h with ⟨h7, h⟩ | ⟨h7, h⟩
          · replace h := br h; rcases h with ⟨h8, h⟩ | ⟨h8, h⟩
            · replace h := br h; rcases h with ⟨h9, h⟩ | ⟨h9, h⟩
              · replace h := br h; rcases h with ⟨h10, h⟩ | ⟨h10, h⟩
                · replace h := br h; rcases h with ⟨h11, h⟩ | ⟨h11, h⟩
                  · replace h := ih_ferrymanref07_Same_l0 M (by omega) j (by omega) _ _ _ _ _ _ h R hR
                    simp (maxDischargeDepth := 12) only [A_ferrymanref07_Same, kn, simprocAttr, qa, qb, qc, qd, Ow.enc, S_api_Op.enc, S_api_Record.enc, Sl.enc, *]
                  · cases h; subst hR; simp (maxDischargeDepth := 12) only [A_ferrymanref07_Same, kn, simprocAttr, qa, qb, qc, qd, Ow.enc, S_api_Op.enc, S_api_Record.enc, Sl.enc, *]
                · cases h; subst hR; simp (maxDischargeDepth := 12) only [A_ferrymanref07_Same, kn, simprocAttr, qa, qb, qc, qd, Ow.enc, S_api_Op.enc, S_api_Record.enc, Sl.enc, *]
              · cases h; subst hR; simp (maxDischargeDepth := 12) only [A_ferrymanref07_Same, kn, simprocAttr, qa, qb, qc, qd, Ow.enc, S_api_Op.enc, S_api_Record.enc, Sl.enc, *]
            · cases h; subst hR; simp (maxDischargeDepth := 12) only [A_ferrymanref07_Same, kn, simprocAttr, qa, qb, qc, qd, Ow.enc, S_api_Op.enc, S_api_Record.enc, Sl.enc, *]
          · cases h; subst hR; simp (maxDischargeDepth := 12) only [A_ferrymanref07_Same, kn, simprocAttr, qa, qb, qc, qd, Ow.enc, S_api_Op.enc, S_api_Record.enc, Sl.enc, *]
        · cases h; subst hR; simp (maxDischargeDepth := 12) only [A_ferrymanref07_Same, kn, simprocAttr, qa, qb, qc, qd, Ow.enc, S_api_Op.enc, S_api_Record.enc, Sl.enc, *]
      · cases h; subst hR; simp (maxDischargeDepth := 12) only [A_ferrymanref07_Same, kn, simprocAttr, qa, qb, qc, qd, Ow.enc, S_api_Op.enc, S_api_Record.enc, Sl.enc, *]
    · cases h
  · cases h; subst hR; simp (maxDischargeDepth := 12) only [A_ferrymanref07_Same, kn, simprocAttr, qa, qb, qc, qd, Ow.enc, S_api_Op.enc, S_api_Record.enc, Sl.enc, *]
theorem all_ferrymanref07_Same : ∀ q, St_ferrymanref07_Same_l0 q
  | 0 => by intro M hM j hj; intros; rename_i h _ _ _ _ _; cases h
  | q + 1 => by have i0 := all_ferrymanref07_Same q; exact step_ferrymanref07_Same_l0 q i0
theorem run_ferrymanref07_Same : ∀ (q N : Nat), 8 * q ≤ N → ∀ (a0 : (Sl S_api_Record)) (a1 : (Sl S_api_Record)), ∀ (r : Bool), ferrymanref07_Same q a0 a1 = some r → (orc T N).deep F.ferrymanref07_Same [(Sl.enc S_api_Record.enc) a0, (Sl.enc S_api_Record.enc) a1] = some [V.bool r] := by
  intro q N hM a0 a1 r h
  rcases q with _ | q
  · cases h
  obtain ⟨M, rfl⟩ : ∃ M, N = M + 8 := ⟨N - 8, by omega⟩
  have ih_ferrymanref07_Same_l0 := (all_ferrymanref07_Same q)
  generalize hR : some [V.bool r] = R
  rw [orc_deep, T_ferrymanref07_Same, Option.bind_some, runDeep_eq]
  rw [ferrymanref07_Same] at h
  replace h := br h; rcases h with ⟨h1, h⟩ | ⟨h1, h⟩
  · replace h := ih_ferrymanref07_Same_l0 M (by omega) (M + 7) (by omega) _ _ _ _ _ _ h R hR
    simp (maxDischargeDepth := 12) only [A_ferrymanref07_Same, kn, simprocAttr, qa, qb, qc, qd, Ow.enc, S_api_Op.enc, S_api_Record.enc, Sl.enc, *]
  · cases h; subst hR; simp (maxDischargeDepth := 12) only [A_ferrymanref07_Same, kn, simprocAttr, qa, qb, qc, qd, Ow.enc, S_api_Op.enc, S_api_Record.enc, Sl.enc, *]
def A_ferrymanref08_Same := And.intro @kk <| And.intro @L_ferrymanref08_Same <| And.intro @v_ferrymanref07_Same <| And.intro @rr_ferrymanref08_Same <| And.intro @ro_ferrymanref08_Same <| @b0_ferrymanref08_Same
theorem run_ferrymanref08_Same : ∀ (q N : Nat), 8 * q ≤ N → ∀ (a0 : S_api_Segment) (a1 : S_api_Segment), ∀ (r : Bool), ferrymanref08_Same q a0 a1 = some r → (orc T N).deep F.ferrymanref08_Same [S_api_Segment.enc a0, S_api_Segment.enc a1] = some [V.bool r] := by
  intro q N hM a0 a1 r h
  rcases q with _ | q
  · cases h
  obtain ⟨M, rfl⟩ : ∃ M, N = M + 8 := ⟨N - 8, by omega⟩
  generalize hR : some [V.bool r] = R
  rw [orc_deep, T_ferrymanref08_Same, Option.bind_some, runDeep_eq]
  rw [ferrymanref08_Same] at h
  replace h := ob h; obtain ⟨r1, h1, h⟩ := h
  replace h1 := run_ferrymanref07_Same q (M + 7) (by omega) _ _ _ h1
  try simp only [Ow.enc, S_api_Op.enc, S_api_Record.enc, Sl.enc, kn, simprocAttr, qa, qb, qc, qd] at h1
  replace h := bb h; rcases h with ⟨h2', h2, h⟩ | ⟨h2', h2, h⟩
  · replace h := br h; rcases h with ⟨h3, h⟩ | ⟨h3, h⟩
    · cases h; subst hR; simp (maxDischargeDepth := 12) only [A_ferrymanref08_Same, kn, simprocAttr, qa, qb, qc, qd, Ow.enc, S_api_Op.enc, S_api_Record.enc, S_api_Segment.enc, Sl.enc, *]
    · cases h; subst hR; simp (maxDischargeDepth := 12) only [A_ferrymanref08_Same, kn, simprocAttr, qa, qb, qc, qd, Ow.enc, S_api_Op.enc, S_api_Record.enc, S_api_Segment.enc, Sl.enc, *]
  · cases h; subst hR; simp (maxDischargeDepth := 12) only [A_ferrymanref08_Same, kn, simprocAttr, qa, qb, qc, qd, Ow.enc, S_api_Op.enc, S_api_Record.enc, S_api_Segment.enc, Sl.enc, *]
def A_ferrymanlaw08_SegmentGrows := And.intro @kk <| And.intro @L_ferrymanlaw08_SegmentGrows <| And.intro @v_ferrymanlaw08_awake <| And.intro @v_segment_Encode <| And.intro @v_segment_Head <| And.intro @v_segment_Body <| And.intro @v_segment_Recover <| And.intro @v_ferrymanref08_Same <| And.intro @v_ferrymanref08_Upgraded <| And.intro @rr_ferrymanlaw08_SegmentGrows <| And.intro @ro_ferrymanlaw08_SegmentGrows <| @b0_ferrymanlaw08_SegmentGrows
theorem run_ferrymanlaw08_SegmentGrows : ∀ (q N : Nat), 8 * q ≤ N → ∀ (a0 : Int) (a1 : S_api_Segment) (a2 : Int), ∀ (r : Bool), ferrymanlaw08_SegmentGrows q a0 a1 a2 = some r → (orc T N).deep F.ferrymanlaw08_SegmentGrows [(V.int .i64) a0, S_api_Segment.enc a1, (V.int .i64) a2] = some [V.bool r] := by
  intro q N hM a0 a1 a2 r h
  rcases q with _ | q
  · cases h
  obtain ⟨M, rfl⟩ : ∃ M, N = M + 8 := ⟨N - 8, by omega⟩
  generalize hR : some [V.bool r] = R
  rw [orc_deep, T_ferrymanlaw08_SegmentGrows, Option.bind_some, runDeep_eq]
  rw [ferrymanlaw08_SegmentGrows] at h
  replace h := ob h; obtain ⟨r1, h1, h⟩ := h
  replace h1 := run_ferrymanlaw08_awake q (M + 7) (by omega)  _ h1
  replace h := bb h; rcases h with ⟨h2', h2, h⟩ | ⟨h2', h2, h⟩
  · replace h := br h; rcases h with ⟨h3, h⟩ | ⟨h3, h⟩
    · cases h; subst hR; simp (maxDischargeDepth := 12) only [A_ferrymanlaw08_SegmentGrows, kn, simprocAttr, qa, qb, qc, qd, Ow.enc, S_api_Op.enc, S_api_Record.enc, S_api_Segment.enc, Sl.enc, *]
    · replace h := br h; rcases h with ⟨h4, h⟩ | ⟨h4, h⟩
      · cases h; subst hR; simp (maxDischargeDepth := 12) only [A_ferrymanlaw08_SegmentGrows, kn, simprocAttr, qa, qb, qc, qd, Ow.enc, S_api_Op.enc, S_api_Record.enc, S_api_Segment.enc, Sl.enc, *]
      · replace h := br h; rcases h with ⟨h5, h⟩ | ⟨h5, h⟩
        · cases h; subst hR; simp (maxDischargeDepth := 12) only [A_ferrymanlaw08_SegmentGrows, kn, simprocAttr, qa, qb, qc, qd, Ow.enc, S_api_Op.enc, S_api_Record.enc, S_api_Segment.enc, Sl.enc, *]
        · replace h := br h; rcases h with ⟨h6, h⟩ | ⟨h6, h⟩
          · cases h; subst hR; simp (maxDischargeDepth := 12) only [A_ferrymanlaw08_SegmentGrows, kn, simprocAttr, qa, qb, qc, qd, Ow.enc, S_api_Op.enc, S_api_Record.enc, S_api_Segment.enc, Sl.enc, *]
          · replace h := ob h; obtain ⟨r2, h7, h⟩ := h
            replace h7 := run_segment_Encode q (M + 7) (by omega) _ _ _ h7
            try simp only [Ow.enc, S_api_Op.enc, S_api_Record.enc, S_api_Segment.enc, Sl.enc, kn, simprocAttr, qa, qb, qc, qd] at h7
            replace h := br h; rcases h with ⟨h8, h⟩ | ⟨h8, h⟩
            · replace h := ob h; obtain ⟨r3, h9, h⟩ := h
              replace h9 := run_segment_Head q (M + 7) (by omega) _ _ _ _ h9
              try simp only [Ow.enc, kn, simprocAttr, qa, qb, qc, qd] at h9
              replace h := br h; rcases h with ⟨h10, h⟩ | ⟨h10, h⟩
              · replace h := br h; rcases h with ⟨h11, h⟩ | ⟨h11, h⟩
                · replace h := ob h; obtain ⟨r4, h12, h⟩ := h
                  replace h12 := run_segment_Body q (M + 7) (by omega) _ _ _ h12
                  try simp only [Ow.enc, S_api_Op.enc, S_api_Record.enc, Sl.enc, kn, simprocAttr, qa, qb, qc, qd] at h12
                  replace h := br h; rcases h with ⟨h13, h⟩ | ⟨h13, h⟩
                  · replace h := ob h; obtain ⟨r5, h14, h⟩ := h
                    replace h14 := run_segment_Body q (M + 7) (by omega) _ _ _ h14
                    try simp only [Ow.enc, S_api_Op.enc, S_api_Record.enc, Sl.enc, kn, simprocAttr, qa, qb, qc, qd] at h14
                    replace h := br h; rcases h with ⟨h15, h⟩ | ⟨h15, h⟩
                    · replace h := br h; rcases h with ⟨h16, h⟩ | ⟨h16, h⟩
                      · replace h := br h; rcases h with ⟨h17, h⟩ | ⟨h17, h⟩
                        · replace h := br h; rcases h with ⟨h18, h⟩ | ⟨h18, h⟩
                          · replace h := br h; rcases h with ⟨h19, h⟩ | ⟨h19, h⟩
                            · try simp only [kn, simprocAttr, qa, qb, qc, qd] at h19
                              replace h := ob h; obtain ⟨r6, h20, h⟩ := h
                              replace h20 := run_segment_Recover q (M + 7) (by omega) _ _ h20
                              try simp only [Ow.enc, S_api_Op.enc, S_api_Record.enc, S_api_Segment.enc, Sl.enc, kn, simprocAttr, qa, qb, qc, qd] at h20
                              replace h := br h; rcases h with ⟨h21, h⟩ | ⟨h21, h⟩
                              · try simp only [kn, simprocAttr, qa, qb, qc, qd] at h21
                                replace h := ob h; obtain ⟨r7, h22, h⟩ := h
                                replace h22 := run_segment_Recover q (M + 7) (by omega) _ _ h22
                                try simp only [Ow.enc, S_api_Op.enc, S_api_Record.enc, S_api_Segment.enc, Sl.enc, kn, simprocAttr, qa, qb, qc, qd] at h22
                                replace h := ob h; obtain ⟨r8, h23, h⟩ := h
                                replace h23 := run_ferrymanref08_Upgraded q (M + 7) (by omega) _ _ _ h23
                                try simp only [Ow.enc, S_api_Op.enc, S_api_Record.enc, S_api_Segment.enc, Sl.enc, kn, simprocAttr, qa, qb, qc, qd] at h23
                                replace h := ob h; obtain ⟨r9, h24, h⟩ := h
                                replace h24 := run_ferrymanref08_Same q (M + 7) (by omega) _ _ _ h24
                                try simp only [Ow.enc, S_api_Op.enc, S_api_Record.enc, S_api_Segment.enc, Sl.enc, kn, simprocAttr, qa, qb, qc, qd] at h24
                                replace h := ob h; obtain ⟨r10, h25, h⟩ := h
                                replace h25 := run_ferrymanref08_Upgraded q (M + 7) (by omega) _ _ _ h25
                                try simp only [Ow.enc, S_api_Op.enc, S_api_Record.enc, S_api_Segment.enc, Sl.enc, kn, simprocAttr, qa, qb, qc, qd] at h25
                                replace h := ob h; obtain ⟨r11, h26, h⟩ := h
                                replace h26 := run_ferrymanref08_Same q (M + 7) (by omega) _ _ _ h26
                                try simp only [Ow.enc, S_api_Op.enc, S_api_Record.enc, S_api_Segment.enc, Sl.enc, kn, simprocAttr, qa, qb, qc, qd] at h26
                                replace h := bb h; rcases h with ⟨h27', h27, h⟩ | ⟨h27', h27, h⟩
                                · replace h := bb h; rcases h with ⟨h28', h28, h⟩ | ⟨h28', h28, h⟩
                                  · replace h := bb h; rcases h with ⟨h29', h29, h⟩ | ⟨h29', h29, h⟩
                                    · replace h := bb h; rcases h with ⟨h30', h30, h⟩ | ⟨h30', h30, h⟩
                                      · replace h := br h; rcases h with ⟨h31, h⟩ | ⟨h31, h⟩
                                        · try simp only [kn, simprocAttr, qa, qb, qc, qd] at h31
                                          cases h; subst hR; simp (maxDischargeDepth := 12) only [A_ferrymanlaw08_SegmentGrows, kn, simprocAttr, qa, qb, qc, qd, Ow.enc, S_api_Op.enc, S_api_Record.enc, S_api_Segment.enc, Sl.enc, *]
                                        · try simp only [kn, simprocAttr, qa, qb, qc, qd] at h31
                                          cases h; subst hR; simp (maxDischargeDepth := 12) only [A_ferrymanlaw08_SegmentGrows, kn, simprocAttr, qa, qb, qc, qd, Ow.enc, S_api_Op.enc, S_api_Record.enc, S_api_Segment.enc, Sl.enc, *]
                                      · cases h; subst hR; simp (maxDischargeDepth := 12) only [A_ferrymanlaw08_SegmentGrows, kn, simprocAttr, qa, qb, qc, qd, Ow.enc, S_api_Op.enc, S_api_Record.enc, S_api_Segment.enc, Sl.enc, *]
                                    · cases h; subst hR; simp (maxDischargeDepth := 12) only [A_ferrymanlaw08_SegmentGrows, kn, simprocAttr, qa, qb, qc, qd, Ow.enc, S_api_Op.enc, S_api_Record.enc, S_api_Segment.enc, Sl.enc, *]
                                  · cases h; subst hR; simp (maxDischargeDepth := 12) only [A_ferrymanlaw08_SegmentGrows, kn, simprocAttr, qa, qb, qc, qd, Ow.enc, S_api_Op.enc, S_api_Record.enc, S_api_Segment.enc, Sl.enc, *]
                                · cases h; subst hR; simp (maxDischargeDepth := 12) only [A_ferrymanlaw08_SegmentGrows, kn, simprocAttr, qa, qb, qc, qd, Ow.enc, S_api_Op.enc, S_api_Record.enc, S_api_Segment.enc, Sl.enc, *]
                              · try simp only [kn, simprocAttr, qa, qb, qc, qd] at h21
                                cases h
                            · try simp only [kn, simprocAttr, qa, qb, qc, qd] at h19
                              cases h
                          · cases h
                        · cases h; subst hR; simp (maxDischargeDepth := 12) only [A_ferrymanlaw08_SegmentGrows, kn, simprocAttr, qa, qb, qc, qd, Ow.enc, S_api_Op.enc, S_api_Record.enc, S_api_Segment.enc, Sl.enc, *]
                      · cases h; subst hR; simp (maxDischargeDepth := 12) only [A_ferrymanlaw08_SegmentGrows, kn, simprocAttr, qa, qb, qc, qd, Ow.enc, S_api_Op.enc, S_api_Record.enc, S_api_Segment.enc, Sl.enc, *]
                    · cases h; subst hR; simp (maxDischargeDepth := 12) only [A_ferrymanlaw08_SegmentGrows, kn, simprocAttr, qa, qb, qc, qd, Ow.enc, S_api_Op.enc, S_api_Record.enc, S_api_Segment.enc, Sl.enc, *]
                  · cases h
                · cases h
              · cases h
            · cases h; subst hR; simp (maxDischargeDepth := 12) only [A_ferrymanlaw08_SegmentGrows, kn, simprocAttr, qa, qb, qc, qd, Ow.enc, S_api_Op.enc, S_api_Record.enc, S_api_Segment.enc, Sl.enc, *]
  · cases h; subst hR; simp (maxDischargeDepth := 12) only [A_ferrymanlaw08_SegmentGrows, kn, simprocAttr, qa, qb, qc, qd, Ow.enc, S_api_Op.enc, S_api_Record.enc, S_api_Segment.enc, Sl.enc, *]
end Go.Dvm.C
