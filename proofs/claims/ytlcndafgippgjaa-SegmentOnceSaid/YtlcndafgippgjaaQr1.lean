/- The machine comes to these answers: part 2. -/
import Derived.Test.YtlcndafgippgjaaQl0
import Derived.Test.YtlcndafgippgjaaQr0
set_option linter.all false
set_option maxRecDepth 100000
set_option maxHeartbeats 4000000
namespace Go.Dvm.C
open Go Go.Dvm Go.Dvm.I
def A_slices_Clone_byte_byte := And.intro @kk <| And.intro @L_slices_Clone_byte_byte <| And.intro @rr_slices_Clone_byte_byte <| And.intro @ro_slices_Clone_byte_byte <| @b0_slices_Clone_byte_byte
theorem run_slices_Clone_byte_byte : ∀ (q N : Nat), 8 * q ≤ N → ∀ (a0 : (Sl Int)), ∀ (r : (Ow Int)), slices_Clone_byte_byte q a0 = some r → (orc T N).deep F.slices_Clone_byte_byte [(Sl.enc (V.int .u8)) a0] = some [(Ow.enc 1 (V.int .u8)) r] := by
  intro q N hM a0 r h
  rcases q with _ | q
  · cases h
  obtain ⟨M, rfl⟩ : ∃ M, N = M + 8 := ⟨N - 8, by omega⟩
  generalize hR : some [(Ow.enc 1 (V.int .u8)) r] = R
  rw [orc_deep, T_slices_Clone_byte_byte, Option.bind_some, runDeep_eq]
  rw [slices_Clone_byte_byte] at h
  rcases Classical.em (a0.z = true) with h1 | h1
  · rw [if_pos h1] at h; have h1' := bt1 h1; replace h1 := eq_true h1
    cases h; subst hR; simp (maxDischargeDepth := 12) only [A_slices_Clone_byte_byte, kn, simprocAttr, qa, qb, qc, qd, Ow.enc, Sl.enc, *]
  · rw [if_neg h1] at h; have h1' := bt0 h1; replace h1 := eq_false h1
    rcases Classical.em (a0.l.length ≤ 4294967296) with h2 | h2
    · rw [if_pos h2] at h; replace h2 := eq_true h2
      cases h; subst hR; simp (maxDischargeDepth := 12) only [A_slices_Clone_byte_byte, kn, simprocAttr, qa, qb, qc, qd, Ow.enc, Sl.enc, *]
    · rw [if_neg h2] at h; replace h2 := eq_false h2
      cases h
def A_frame_Decode := And.intro @kk <| And.intro @L_frame_Decode <| And.intro @v_frame_sum <| And.intro @v_num_Get <| And.intro @v_frame_open <| And.intro @v_slices_Equal_byte_byte <| And.intro @v_slices_Clone_byte_byte <| And.intro @rr_frame_Decode <| And.intro @ro_frame_Decode <| @b0_frame_Decode
theorem run_frame_Decode : ∀ (q N : Nat), 8 * q ≤ N → ∀ (a0 : (Sl Int)), ∀ (r : (Ow Int) × Int × Int), frame_Decode q a0 = some r → (orc T N).deep F.frame_Decode [(Sl.enc (V.int .u8)) a0] = some [(Ow.enc 1 (V.int .u8)) r.1, (V.int .i64) r.2.1, (V.int .i64) r.2.2] := by
  intro q N hM a0 r h
  rcases q with _ | q
  · cases h
  obtain ⟨M, rfl⟩ : ∃ M, N = M + 8 := ⟨N - 8, by omega⟩
  generalize hR : some [(Ow.enc 1 (V.int .u8)) r.1, (V.int .i64) r.2.1, (V.int .i64) r.2.2] = R
  rw [orc_deep, T_frame_Decode, Option.bind_some, runDeep_eq]
  rw [frame_Decode] at h
  rcases h1 : frame_open q a0 with _ | r1
  · rw [h1] at h; cases h
  · rw [h1, Option.bind_some] at h
    replace h1 := run_frame_open q (M + 7) (by omega) _ _ h1
    try simp only [Ow.enc, Sl.enc, kn, simprocAttr, qa, qb, qc, qd] at h1
    rcases Classical.em (r1 = true) with h2 | h2
    · rw [if_pos h2] at h; have h2' := bt1 h2; replace h2 := eq_true h2
      cases h; subst hR; simp (maxDischargeDepth := 12) only [A_frame_Decode, kn, simprocAttr, qa, qb, qc, qd, Ow.enc, Sl.enc, *]
    · rw [if_neg h2] at h; have h2' := bt0 h2; replace h2 := eq_false h2
      rcases h3 : num_Get q a0 with _ | r2
      · rw [h3] at h; cases h
      · rw [h3, Option.bind_some] at h
        replace h3 := run_num_Get q (M + 7) (by omega) _ _ h3
        try simp only [Ow.enc, Sl.enc, kn, simprocAttr, qa, qb, qc, qd] at h3
        rcases Classical.em (r2.2 = 0) with h4 | h4
        · rw [if_pos h4] at h; replace h4 := eq_true h4
          cases h; subst hR; simp (maxDischargeDepth := 12) only [A_frame_Decode, kn, simprocAttr, qa, qb, qc, qd, Ow.enc, Sl.enc, *]
        · rw [if_neg h4] at h; replace h4 := eq_false h4
          rcases Classical.em (1048576 < r2.1) with h5 | h5
          · rw [if_pos h5] at h; replace h5 := eq_true h5
            cases h; subst hR; simp (maxDischargeDepth := 12) only [A_frame_Decode, kn, simprocAttr, qa, qb, qc, qd, Ow.enc, Sl.enc, *]
          · rw [if_neg h5] at h; replace h5 := eq_false h5
            rcases Classical.em ((a0.l.length : Int) < (wrp .i64 ((wrp .i64 (r2.2 + 4)) + r2.1))) with h6 | h6
            · rw [if_pos h6] at h; replace h6 := eq_true h6
              try simp only [kn, simprocAttr, qa, qb, qc, qd] at h6
              cases h; subst hR; simp (maxDischargeDepth := 12) only [A_frame_Decode, kn, simprocAttr, qa, qb, qc, qd, Ow.enc, Sl.enc, *]
            · rw [if_neg h6] at h; replace h6 := eq_false h6
              try simp only [kn, simprocAttr, qa, qb, qc, qd] at h6
              rcases Classical.em (0 ≤ r2.2) with h7 | h7
              · rw [if_pos h7] at h; replace h7 := eq_true h7
                rcases Classical.em (r2.2 ≤ r2.2) with h8 | h8
                · rw [if_pos h8] at h; replace h8 := eq_true h8
                  rcases Classical.em (r2.2.toNat ≤ a0.l.length) with h9 | h9
                  · rw [if_pos h9] at h; replace h9 := eq_true h9
                    rcases Classical.em (0 ≤ (wrp .i64 (r2.2 + r2.1))) with h10 | h10
                    · rw [if_pos h10] at h; replace h10 := eq_true h10
                      try simp only [kn, simprocAttr, qa, qb, qc, qd] at h10
                      rcases Classical.em ((wrp .i64 (r2.2 + r2.1)) ≤ (wrp .i64 (r2.2 + r2.1))) with h11 | h11
                      · rw [if_pos h11] at h; replace h11 := eq_true h11
                        try simp only [kn, simprocAttr, qa, qb, qc, qd] at h11
                        rcases Classical.em ((wrp .i64 (r2.2 + r2.1)).toNat ≤ a0.l.length) with h12 | h12
                        · rw [if_pos h12] at h; replace h12 := eq_true h12
                          try simp only [kn, simprocAttr, qa, qb, qc, qd] at h12
                          rcases Classical.em (r2.2 ≤ (wrp .i64 (r2.2 + r2.1))) with h13 | h13
                          · rw [if_pos h13] at h; replace h13 := eq_true h13
                            try simp only [kn, simprocAttr, qa, qb, qc, qd] at h13
                            rcases Classical.em ((wrp .i64 (r2.2 + r2.1)) ≤ (wrp .i64 ((wrp .i64 (r2.2 + r2.1)) + 4))) with h14 | h14
                            · rw [if_pos h14] at h; replace h14 := eq_true h14
                              try simp only [kn, simprocAttr, qa, qb, qc, qd] at h14
                              rcases Classical.em ((wrp .i64 ((wrp .i64 (r2.2 + r2.1)) + 4)).toNat ≤ a0.l.length) with h15 | h15
                              · rw [if_pos h15] at h; replace h15 := eq_true h15
                                try simp only [kn, simprocAttr, qa, qb, qc, qd] at h15
                                rcases h16 : frame_sum q ⟨a0.z, (List.take r2.2.toNat a0.l)⟩ ⟨a0.z, (List.drop r2.2.toNat (List.take ((wrp .i64 (r2.2 + r2.1)).toNat) a0.l))⟩ with _ | r3
                                · rw [h16] at h; cases h
                                · rw [h16, Option.bind_some] at h
                                  replace h16 := run_frame_sum q (M + 7) (by omega) _ _ _ h16
                                  try simp only [Ow.enc, Sl.enc, kn, simprocAttr, qa, qb, qc, qd] at h16
                                  rcases h17 : slices_Equal_byte_byte q ⟨a0.z, (List.drop ((wrp .i64 (r2.2 + r2.1)).toNat) (List.take ((wrp .i64 ((wrp .i64 (r2.2 + r2.1)) + 4)).toNat) a0.l))⟩ ⟨r3.n, r3.xs⟩ with _ | r4
                                  · rw [h17] at h; cases h
                                  · rw [h17, Option.bind_some] at h
                                    replace h17 := run_slices_Equal_byte_byte q (M + 7) (by omega) _ _ _ h17
                                    try simp only [Ow.enc, Sl.enc, kn, simprocAttr, qa, qb, qc, qd] at h17
                                    rcases Classical.em (r4 = true) with h18 | h18
                                    · rw [if_pos h18] at h; have h18' := bt1 h18; replace h18 := eq_true h18
                                      rcases h19 : slices_Clone_byte_byte q ⟨a0.z, (List.drop r2.2.toNat (List.take ((wrp .i64 (r2.2 + r2.1)).toNat) a0.l))⟩ with _ | r5
                                      · rw [h19] at h; cases h
                                      · rw [h19, Option.bind_some] at h
                                        replace h19 := run_slices_Clone_byte_byte q (M + 7) (by omega) _ _ h19
                                        try simp only [Ow.enc, Sl.enc, kn, simprocAttr, qa, qb, qc, qd] at h19
                                        cases h; subst hR; simp (maxDischargeDepth := 12) only [A_frame_Decode, kn, simprocAttr, qa, qb, qc, qd, Ow.enc, Sl.enc, *]
                                    · rw [if_neg h18] at h; have h18' := bt0 h18; replace h18 := eq_false h18
                                      cases h; subst hR; simp (maxDischargeDepth := 12) only [A_frame_Decode, kn, simprocAttr, qa, qb, qc, qd, Ow.enc, Sl.enc, *]
                              · rw [if_neg h15] at h; replace h15 := eq_false h15
                                try simp only [kn, simprocAttr, qa, qb, qc, qd] at h15
                                cases h
                            · rw [if_neg h14] at h; replace h14 := eq_false h14
                              try simp only [kn, simprocAttr, qa, qb, qc, qd] at h14
                              cases h
                          · rw [if_neg h13] at h; replace h13 := eq_false h13
                            try simp only [kn, simprocAttr, qa, qb, qc, qd] at h13
                            cases h
                        · rw [if_neg h12] at h; replace h12 := eq_false h12
                          try simp only [kn, simprocAttr, qa, qb, qc, qd] at h12
                          cases h
                      · rw [if_neg h11] at h; replace h11 := eq_false h11
                        try simp only [kn, simprocAttr, qa, qb, qc, qd] at h11
                        cases h
                    · rw [if_neg h10] at h; replace h10 := eq_false h10
                      try simp only [kn, simprocAttr, qa, qb, qc, qd] at h10
                      cases h
                  · rw [if_neg h9] at h; replace h9 := eq_false h9
                    cases h
                · rw [if_neg h8] at h; replace h8 := eq_false h8
                  cases h
              · rw [if_neg h7] at h; replace h7 := eq_false h7
                cases h
def St_frame_walk_l0 (q : Nat) : Prop := ∀ (M : Nat) (hM : 8 * q ≤ M) (j : Nat) (hj : q ≤ j) (v0z : Bool) (v0l : List Int) (v3 : Int) (h0z : Bool) (h0l : List (Sl Int)) (r : (Ow (Sl Int)) × Int × Int) (_ : frame_walk_l0 q v0z v0l v3 h0z h0l = some r) (R : Option (List V)) (_ : some [(Ow.enc 1 (Sl.enc (V.int .u8))) r.1, (V.int .i64) r.2.1, (V.int .i64) r.2.2] = R) (fr : Fr) (H : Hp) (_ : canon 0 [0, 2, 3] fr H = ([(0, (.sl v0z (List.map (V.int .u8) v0l))), (2, (.vw 0 0 0 h0l.length 1)), (3, (.int .i64 v3))], [(.row 0 h0z 1 (List.map (Sl.enc (V.int .u8)) h0l) true)])), fin m_frame_walk (unw T (orc T (M + 7)) (M + 7) 0 [.blk 0, .code c_frame_walk_16] (iter 0 [0, 2, 3] (exec T (orc T (M + 7)) (M + 7) 0 c_frame_walk_14) j fr H)) = R
def A_frame_walk := And.intro @kk <| And.intro @L_frame_walk <| And.intro @v_frame_Decode <| And.intro @rr_frame_walk <| And.intro @ro_frame_walk <| @b0_frame_walk
theorem step_frame_walk_l0 (q : Nat) (ih_frame_walk_l0 : St_frame_walk_l0 q) : St_frame_walk_l0 (q + 1) := by
  intro M hM j hj v0z v0l v3 h0z h0l r h R hR fr H hc
  obtain ⟨j, rfl⟩ : ∃ i, j = i + 1 := ⟨j - 1, by omega⟩
  rw [unw_iter, hc]; clear hc
  rw [frame_walk_l0] at h
  rcases Classical.em (v3 < (v0l.length : Int)) with h1 | h1
  · rw [if_pos h1] at h; replace h1 := eq_true h1
    rcases Classical.em (0 ≤ v3) with h2 | h2
    · rw [if_pos h2] at h; replace h2 := eq_true h2
      rcases Classical.em (v3 ≤ (v0l.length : Int)) with h3 | h3
      · rw [if_pos h3] at h; replace h3 := eq_true h3
        rcases h4 : frame_Decode q ⟨v0z, (List.drop v3.toNat v0l)⟩ with _ | r1
        · rw [h4] at h; cases h
        · rw [h4, Option.bind_some] at h
          replace h4 := run_frame_Decode q (M + 7) (by omega) _ _ h4
          try simp only [Ow.enc, Sl.enc, kn, simprocAttr, qa, qb, qc, qd] at h4
          rcases Classical.em (r1.2.2 = 0) with h5 | h5
          · rw [if_pos h5] at h; replace h5 := eq_true h5
            rcases Classical.em ((h0l.length + 1) ≤ 4294967296) with h6 | h6
            · rw [if_pos h6] at h; replace h6 := eq_true h6
              try simp only [kn, simprocAttr, qa, qb, qc, qd] at h6
              replace h := ih_frame_walk_l0 M (by omega) j (by omega) _ _ _ _ _ _ h R hR
              simp (maxDischargeDepth := 12) only [A_frame_walk, kn, simprocAttr, qa, qb, qc, qd, Ow.enc, Sl.enc, *]
            · rw [if_neg h6] at h; replace h6 := eq_false h6
              try simp only [kn, simprocAttr, qa, qb, qc, qd] at h6
              cases h
          · rw [if_neg h5] at h; replace h5 := eq_false h5
            cases h; subst hR; simp (maxDischargeDepth := 12) only [A_frame_walk, kn, simprocAttr, qa, qb, qc, qd, Ow.enc, Sl.enc, *]
      · rw [if_neg h3] at h; replace h3 := eq_false h3
        cases h
    · rw [if_neg h2] at h; replace h2 := eq_false h2
      cases h
  · rw [if_neg h1] at h; replace h1 := eq_false h1
    cases h; subst hR; simp (maxDischargeDepth := 12) only [A_frame_walk, kn, simprocAttr, qa, qb, qc, qd, Ow.enc, Sl.enc, *]
theorem all_frame_walk : ∀ q, St_frame_walk_l0 q
  | 0 => by intro M hM j hj; intros; rename_i h _ _ _ _ _; cases h
  | q + 1 => by have i0 := all_frame_walk q; exact step_frame_walk_l0 q i0
theorem run_frame_walk : ∀ (q N : Nat), 8 * q ≤ N → ∀ (a0 : (Sl Int)), ∀ (r : (Ow (Sl Int)) × Int × Int), frame_walk q a0 = some r → (orc T N).deep F.frame_walk [(Sl.enc (V.int .u8)) a0] = some [(Ow.enc 1 (Sl.enc (V.int .u8))) r.1, (V.int .i64) r.2.1, (V.int .i64) r.2.2] := by
  intro q N hM a0 r h
  rcases q with _ | q
  · cases h
  obtain ⟨M, rfl⟩ : ∃ M, N = M + 8 := ⟨N - 8, by omega⟩
  have ih_frame_walk_l0 := (all_frame_walk q)
  generalize hR : some [(Ow.enc 1 (Sl.enc (V.int .u8))) r.1, (V.int .i64) r.2.1, (V.int .i64) r.2.2] = R
  rw [orc_deep, T_frame_walk, Option.bind_some, runDeep_eq]
  rw [frame_walk] at h
  replace h := ih_frame_walk_l0 M (by omega) (M + 7) (by omega) _ _ _ _ _ _ h R hR
  simp (maxDischargeDepth := 12) only [A_frame_walk, kn, simprocAttr, qa, qb, qc, qd, Ow.enc, Sl.enc, *]
def A_num_Zag := And.intro @kk <| And.intro @L_num_Zag <| And.intro @rr_num_Zag <| And.intro @ro_num_Zag <| @b0_num_Zag
theorem run_num_Zag : ∀ (q N : Nat), 8 * q ≤ N → ∀ (a0 : Int), ∀ (r : Int), num_Zag q a0 = some r → (orc T N).deep F.num_Zag [(V.int .u64) a0] = some [(V.int .i64) r] := by
  intro q N hM a0 r h
  rcases q with _ | q
  · cases h
  obtain ⟨M, rfl⟩ : ∃ M, N = M + 8 := ⟨N - 8, by omega⟩
  generalize hR : some [(V.int .i64) r] = R
  rw [orc_deep, T_num_Zag, Option.bind_some, runDeep_eq]
  rw [num_Zag] at h
  cases h; subst hR; simp (maxDischargeDepth := 12) only [A_num_Zag, kn, simprocAttr, qa, qb, qc, qd, Ow.enc, Sl.enc, *]
def A_num_GetSigned := And.intro @kk <| And.intro @L_num_GetSigned <| And.intro @v_num_read <| And.intro @v_num_Zag <| And.intro @rr_num_GetSigned <| And.intro @ro_num_GetSigned <| @b0_num_GetSigned
theorem run_num_GetSigned : ∀ (q N : Nat), 8 * q ≤ N → ∀ (a0 : (Sl Int)), ∀ (r : Int × Int), num_GetSigned q a0 = some r → (orc T N).deep F.num_GetSigned [(Sl.enc (V.int .u8)) a0] = some [(V.int .i64) r.1, (V.int .i64) r.2] := by
  intro q N hM a0 r h
  rcases q with _ | q
  · cases h
  obtain ⟨M, rfl⟩ : ∃ M, N = M + 8 := ⟨N - 8, by omega⟩
  generalize hR : some [(V.int .i64) r.1, (V.int .i64) r.2] = R
  rw [orc_deep, T_num_GetSigned, Option.bind_some, runDeep_eq]
  rw [num_GetSigned] at h
  rcases h1 : num_read q a0 with _ | r1
  · rw [h1] at h; cases h
  · rw [h1, Option.bind_some] at h
    replace h1 := run_num_read q (M + 7) (by omega) _ _ h1
    try simp only [Ow.enc, Sl.enc, kn, simprocAttr, qa, qb, qc, qd] at h1
    rcases Classical.em (r1.2 = 0) with h2 | h2
    · rw [if_pos h2] at h; replace h2 := eq_true h2
      cases h; subst hR; simp (maxDischargeDepth := 12) only [A_num_GetSigned, kn, simprocAttr, qa, qb, qc, qd, Ow.enc, Sl.enc, *]
    · rw [if_neg h2] at h; replace h2 := eq_false h2
      rcases h3 : num_Zag q r1.1 with _ | r2
      · rw [h3] at h; cases h
      · rw [h3, Option.bind_some] at h
        replace h3 := run_num_Zag q (M + 7) (by omega) _ _ h3
        skip
        cases h; subst hR; simp (maxDischargeDepth := 12) only [A_num_GetSigned, kn, simprocAttr, qa, qb, qc, qd, Ow.enc, Sl.enc, *]
def A_codec_GetOp := And.intro @kk <| And.intro @L_codec_GetOp <| And.intro @L_codec_reader <| And.intro @L_codec_reader_1 <| And.intro @L_codec_reader_2 <| And.intro @L_codec_reader_3 <| And.intro @v_objs_Fits <| And.intro @v_num_Get <| And.intro @v_num_GetSigned <| And.intro @v_codec_reader <| And.intro @i_codec_reader <| And.intro @v_codec_reader_1 <| And.intro @i_codec_reader_1 <| And.intro @v_codec_reader_2 <| And.intro @i_codec_reader_2 <| And.intro @v_codec_reader_3 <| And.intro @i_codec_reader_3 <| And.intro @rr_codec_GetOp <| And.intro @ro_codec_GetOp <| @b0_codec_GetOp
theorem run_codec_GetOp : ∀ (q N : Nat), 8 * q ≤ N → ∀ (a0 : (Sl Int)), ∀ (r : S_api_Op × Int), codec_GetOp q a0 = some r → (orc T N).deep F.codec_GetOp [(Sl.enc (V.int .u8)) a0] = some [S_api_Op.enc r.1, (V.int .i64) r.2] := by
  intro q N hM a0 r h
  rcases q with _ | q
  · cases h
  obtain ⟨M, rfl⟩ : ∃ M, N = M + 8 := ⟨N - 8, by omega⟩
  generalize hR : some [S_api_Op.enc r.1, (V.int .i64) r.2] = R
  rw [orc_deep, T_codec_GetOp, Option.bind_some, runDeep_eq]
  rw [codec_GetOp] at h
  rcases h1 : num_Get q a0 with _ | r1
  · rw [h1] at h; cases h
  · rw [h1, Option.bind_some] at h
    replace h1 := run_num_Get q (M + 6) (by omega) _ _ h1
    try simp only [Ow.enc, Sl.enc, kn, simprocAttr, qa, qb, qc, qd] at h1
    rcases Classical.em (0 ≤ r1.2) with h2 | h2
    · rw [if_pos h2] at h; replace h2 := eq_true h2
      rcases Classical.em (r1.2 ≤ (a0.l.length : Int)) with h3 | h3
      · rw [if_pos h3] at h; replace h3 := eq_true h3
        rcases h4 : num_GetSigned q ⟨a0.z, (List.drop r1.2.toNat a0.l)⟩ with _ | r2
        · rw [h4] at h; cases h
        · rw [h4, Option.bind_some] at h
          replace h4 := run_num_GetSigned q (M + 6) (by omega) _ _ h4
          try simp only [Ow.enc, Sl.enc, kn, simprocAttr, qa, qb, qc, qd] at h4
          rcases Classical.em (0 < r1.2) with h5 | h5
          · rw [if_pos h5] at h; replace h5 := eq_true h5
            rcases Classical.em (0 ≤ r2.2) with h6 | h6
            · rw [if_pos h6] at h; replace h6 := eq_true h6
              rcases Classical.em (r2.2 ≤ (((a0.l.length - r1.2.toNat) : Nat) : Int)) with h7 | h7
              · rw [if_pos h7] at h; replace h7 := eq_true h7
                try simp only [kn, simprocAttr, qa, qb, qc, qd] at h7
                rcases h8 : num_GetSigned q ⟨a0.z, (List.drop r2.2.toNat (List.drop r1.2.toNat a0.l))⟩ with _ | r3
                · rw [h8] at h; cases h
                · rw [h8, Option.bind_some] at h
                  replace h8 := run_num_GetSigned q (M + 6) (by omega) _ _ h8
                  try simp only [Ow.enc, Sl.enc, kn, simprocAttr, qa, qb, qc, qd] at h8
                  rcases Classical.em (0 < r2.2) with h9 | h9
                  · rw [if_pos h9] at h; replace h9 := eq_true h9
                    rcases Classical.em (0 ≤ r3.2) with h10 | h10
                    · rw [if_pos h10] at h; replace h10 := eq_true h10
                      rcases Classical.em (r3.2 ≤ ((((a0.l.length - r1.2.toNat) - r2.2.toNat) : Nat) : Int)) with h11 | h11
                      · rw [if_pos h11] at h; replace h11 := eq_true h11
                        try simp only [kn, simprocAttr, qa, qb, qc, qd] at h11
                        rcases Classical.em (0 < r3.2) with h12 | h12
                        · rw [if_pos h12] at h; replace h12 := eq_true h12
                          rcases h13 : objs_Fits q (⟨r1.1, r2.1, r3.1⟩ : S_api_Op) with _ | r4
                          · rw [h13] at h; cases h
                          · rw [h13, Option.bind_some] at h
                            replace h13 := run_objs_Fits q (M + 7) (by omega) _ _ h13
                            try simp only [Ow.enc, S_api_Op.enc, kn, simprocAttr, qa, qb, qc, qd] at h13
                            rcases Classical.em (r4 = true) with h14 | h14
                            · rw [if_pos h14] at h; have h14' := bt1 h14; replace h14 := eq_true h14
                              cases h; subst hR; simp (maxDischargeDepth := 12) only [A_codec_GetOp, kn, simprocAttr, qa, qb, qc, qd, Ow.enc, S_api_Op.enc, Sl.enc, *]
                            · rw [if_neg h14] at h; have h14' := bt0 h14; replace h14 := eq_false h14
                              cases h; subst hR; simp (maxDischargeDepth := 12) only [A_codec_GetOp, kn, simprocAttr, qa, qb, qc, qd, Ow.enc, S_api_Op.enc, Sl.enc, *]
                        · rw [if_neg h12] at h; replace h12 := eq_false h12
                          cases h; subst hR; simp (maxDischargeDepth := 12) only [A_codec_GetOp, kn, simprocAttr, qa, qb, qc, qd, Ow.enc, S_api_Op.enc, Sl.enc, *]
                      · rw [if_neg h11] at h; replace h11 := eq_false h11
                        try simp only [kn, simprocAttr, qa, qb, qc, qd] at h11
                        cases h
                    · rw [if_neg h10] at h; replace h10 := eq_false h10
                      cases h
                  · rw [if_neg h9] at h; replace h9 := eq_false h9
                    rcases Classical.em (0 ≤ r3.2) with h15 | h15
                    · rw [if_pos h15] at h; replace h15 := eq_true h15
                      rcases Classical.em (r3.2 ≤ ((((a0.l.length - r1.2.toNat) - r2.2.toNat) : Nat) : Int)) with h16 | h16
                      · rw [if_pos h16] at h; replace h16 := eq_true h16
                        try simp only [kn, simprocAttr, qa, qb, qc, qd] at h16
                        cases h; subst hR; simp (maxDischargeDepth := 12) only [A_codec_GetOp, kn, simprocAttr, qa, qb, qc, qd, Ow.enc, S_api_Op.enc, Sl.enc, *]
                      · rw [if_neg h16] at h; replace h16 := eq_false h16
                        try simp only [kn, simprocAttr, qa, qb, qc, qd] at h16
                        cases h
                    · rw [if_neg h15] at h; replace h15 := eq_false h15
                      cases h
              · rw [if_neg h7] at h; replace h7 := eq_false h7
                try simp only [kn, simprocAttr, qa, qb, qc, qd] at h7
                cases h
            · rw [if_neg h6] at h; replace h6 := eq_false h6
              cases h
          · rw [if_neg h5] at h; replace h5 := eq_false h5
            rcases Classical.em (0 ≤ r2.2) with h17 | h17
            · rw [if_pos h17] at h; replace h17 := eq_true h17
              rcases Classical.em (r2.2 ≤ (((a0.l.length - r1.2.toNat) : Nat) : Int)) with h18 | h18
              · rw [if_pos h18] at h; replace h18 := eq_true h18
                try simp only [kn, simprocAttr, qa, qb, qc, qd] at h18
                rcases h19 : num_GetSigned q ⟨a0.z, (List.drop r2.2.toNat (List.drop r1.2.toNat a0.l))⟩ with _ | r5
                · rw [h19] at h; cases h
                · rw [h19, Option.bind_some] at h
                  replace h19 := run_num_GetSigned q (M + 6) (by omega) _ _ h19
                  try simp only [Ow.enc, Sl.enc, kn, simprocAttr, qa, qb, qc, qd] at h19
                  rcases Classical.em (0 ≤ r5.2) with h20 | h20
                  · rw [if_pos h20] at h; replace h20 := eq_true h20
                    rcases Classical.em (r5.2 ≤ ((((a0.l.length - r1.2.toNat) - r2.2.toNat) : Nat) : Int)) with h21 | h21
                    · rw [if_pos h21] at h; replace h21 := eq_true h21
                      try simp only [kn, simprocAttr, qa, qb, qc, qd] at h21
                      cases h; subst hR; simp (maxDischargeDepth := 12) only [A_codec_GetOp, kn, simprocAttr, qa, qb, qc, qd, Ow.enc, S_api_Op.enc, Sl.enc, *]
                    · rw [if_neg h21] at h; replace h21 := eq_false h21
                      try simp only [kn, simprocAttr, qa, qb, qc, qd] at h21
                      cases h
                  · rw [if_neg h20] at h; replace h20 := eq_false h20
                    cases h
              · rw [if_neg h18] at h; replace h18 := eq_false h18
                try simp only [kn, simprocAttr, qa, qb, qc, qd] at h18
                cases h
            · rw [if_neg h17] at h; replace h17 := eq_false h17
              cases h
      · rw [if_neg h3] at h; replace h3 := eq_false h3
        cases h
    · rw [if_neg h2] at h; replace h2 := eq_false h2
      cases h
def St_block_record_l0 (q : Nat) : Prop := ∀ (M : Nat) (hM : 8 * q ≤ M) (j : Nat) (hj : q ≤ j) (v3 : Int) (v47_0 : Int) (v47_1 : Int) (v47_2 : Int) (v47_3 : Int) (v48 : Int) (h0_1 : Int) (h0_2 : Int) (h0_3 : Int) (h0_4 : Int) (h0_5 : Int) (h0_6 : Int) (r : S_api_Record × Int) (_ : block_record_l0 q v3 v47_0 v47_1 v47_2 v47_3 v48 h0_1 h0_2 h0_3 h0_4 h0_5 h0_6 = some r) (R : Option (List V)) (_ : some [S_api_Record.enc r.1, (V.int .i64) r.2] = R) (fr : Fr) (H : Hp) (_ : canon 0 [2, 3, 47, 48] fr H = ([(2, (.ptr 0 0)), (3, (.int .i64 v3)), (47, (.agg [(.int .i64 v47_0), (.int .i64 v47_1), (.int .i64 v47_2), (.int .i64 v47_3)])), (48, (.int .i64 v48))], [(.box [(.int .i64 0), (.int .i64 h0_1), (.int .i64 h0_2), (.int .i64 h0_3), (.int .i64 h0_4), (.int .i64 h0_5), (.int .i64 h0_6)])])), fin m_block_record (unw T (orc T (M + 7)) (M + 7) 0 [.blk 0, .code c_block_record_26] (iter 0 [2, 3, 47, 48] (exec T (orc T (M + 7)) (M + 7) 0 c_block_record_23) j fr H)) = R
def A_block_record := And.intro @kk <| And.intro @L_block_record <| And.intro @v_num_Get <| And.intro @v_num_GetSigned <| And.intro @v_codec_GetOp <| And.intro @rr_block_record <| And.intro @ro_block_record <| @b0_block_record
theorem step_block_record_l0 (q : Nat) (ih_block_record_l0 : St_block_record_l0 q) : St_block_record_l0 (q + 1) := by
  intro M hM j hj v3 v47_0 v47_1 v47_2 v47_3 v48 h0_1 h0_2 h0_3 h0_4 h0_5 h0_6 r h R hR fr H hc
  obtain ⟨j, rfl⟩ : ∃ i, j = i + 1 := ⟨j - 1, by omega⟩
  rw [unw_iter, hc]; clear hc
  rw [block_record_l0] at h
  rcases Classical.em (v48 < 4) with h1 | h1
  · rw [if_pos h1] at h; replace h1 := eq_true h1
    rcases Classical.em (0 ≤ v48) with h2 | h2
    · rw [if_pos h2] at h; replace h2 := eq_true h2
      rcases Classical.em (v48.toNat < 4) with h3 | h3
      · rw [if_pos h3] at h; replace h3 := eq_true h3
        rcases Classical.em (v48.toNat = 0) with h4 | h4
        · rw [if_pos h4] at h
          rcases Classical.em (v47_0 = 0) with h5 | h5
          · rw [if_pos h5] at h; replace h5 := eq_true h5
            cases h; subst hR; simp (maxDischargeDepth := 12) only [A_block_record, kn, simprocAttr, qa, qb, qc, qd, Ow.enc, S_api_Op.enc, S_api_Record.enc, Sl.enc, *]
          · rw [if_neg h5] at h; replace h5 := eq_false h5
            replace h := ih_block_record_l0 M (by omega) j (by omega) _ _ _ _ _ _ _ _ _ _ _ _ _ h R hR
            simp (maxDischargeDepth := 12) only [A_block_record, kn, simprocAttr, qa, qb, qc, qd, Ow.enc, S_api_Op.enc, S_api_Record.enc, Sl.enc, *]
        · rw [if_neg h4] at h; replace h4 := eq_false h4
          rcases Classical.em (v48.toNat = 1) with h6 | h6
          · rw [if_pos h6] at h
            rcases Classical.em (v47_1 = 0) with h7 | h7
            · rw [if_pos h7] at h; replace h7 := eq_true h7
              cases h; subst hR; simp (maxDischargeDepth := 12) only [A_block_record, kn, simprocAttr, qa, qb, qc, qd, Ow.enc, S_api_Op.enc, S_api_Record.enc, Sl.enc, *]
            · rw [if_neg h7] at h; replace h7 := eq_false h7
              replace h := ih_block_record_l0 M (by omega) j (by omega) _ _ _ _ _ _ _ _ _ _ _ _ _ h R hR
              simp (maxDischargeDepth := 12) only [A_block_record, kn, simprocAttr, qa, qb, qc, qd, Ow.enc, S_api_Op.enc, S_api_Record.enc, Sl.enc, *]
          · rw [if_neg h6] at h; replace h6 := eq_false h6
            rcases Classical.em (v48.toNat = 2) with h8 | h8
            · rw [if_pos h8] at h
              rcases Classical.em (v47_2 = 0) with h9 | h9
              · rw [if_pos h9] at h; replace h9 := eq_true h9
                cases h; subst hR; simp (maxDischargeDepth := 12) only [A_block_record, kn, simprocAttr, qa, qb, qc, qd, Ow.enc, S_api_Op.enc, S_api_Record.enc, Sl.enc, *]
              · rw [if_neg h9] at h; replace h9 := eq_false h9
                replace h := ih_block_record_l0 M (by omega) j (by omega) _ _ _ _ _ _ _ _ _ _ _ _ _ h R hR
                simp (maxDischargeDepth := 12) only [A_block_record, kn, simprocAttr, qa, qb, qc, qd, Ow.enc, S_api_Op.enc, S_api_Record.enc, Sl.enc, *]
            · rw [if_neg h8] at h; replace h8 := eq_false h8
              rcases Classical.em (v48.toNat = 3) with h10 | h10
              · rw [if_pos h10] at h
                rcases Classical.em (v47_3 = 0) with h11 | h11
                · rw [if_pos h11] at h; replace h11 := eq_true h11
                  cases h; subst hR; simp (maxDischargeDepth := 12) only [A_block_record, kn, simprocAttr, qa, qb, qc, qd, Ow.enc, S_api_Op.enc, S_api_Record.enc, Sl.enc, *]
                · rw [if_neg h11] at h; replace h11 := eq_false h11
                  replace h := ih_block_record_l0 M (by omega) j (by omega) _ _ _ _ _ _ _ _ _ _ _ _ _ h R hR
                  simp (maxDischargeDepth := 12) only [A_block_record, kn, simprocAttr, qa, qb, qc, qd, Ow.enc, S_api_Op.enc, S_api_Record.enc, Sl.enc, *]
              · rw [if_neg h10] at h; replace h10 := eq_false h10
                cases h
      · rw [if_neg h3] at h; replace h3 := eq_false h3
        cases h
    · rw [if_neg h2] at h; replace h2 := eq_false h2
      cases h
  · rw [if_neg h1] at h; replace h1 := eq_false h1
    cases h; subst hR; simp (maxDischargeDepth := 12) only [A_block_record, kn, simprocAttr, qa, qb, qc, qd, Ow.enc, S_api_Op.enc, S_api_Record.enc, Sl.enc, *]
theorem all_block_record : ∀ q, St_block_record_l0 q
  | 0 => by intro M hM j hj; intros; rename_i h _ _ _ _ _; cases h
  | q + 1 => by have i0 := all_block_record q; exact step_block_record_l0 q i0
theorem run_block_record : ∀ (q N : Nat), 8 * q ≤ N → ∀ (a0 : (Sl Int)), ∀ (r : S_api_Record × Int), block_record q a0 = some r → (orc T N).deep F.block_record [(Sl.enc (V.int .u8)) a0] = some [S_api_Record.enc r.1, (V.int .i64) r.2] := by
  intro q N hM a0 r h
  rcases q with _ | q
  · cases h
  obtain ⟨M, rfl⟩ : ∃ M, N = M + 8 := ⟨N - 8, by omega⟩
  have ih_block_record_l0 := (all_block_record q)
  generalize hR : some [S_api_Record.enc r.1, (V.int .i64) r.2] = R
  rw [orc_deep, T_block_record, Option.bind_some, runDeep_eq]
  rw [block_record] at h
  rcases h1 : num_Get q a0 with _ | r1
  · rw [h1] at h; cases h
  · rw [h1, Option.bind_some] at h
    replace h1 := run_num_Get q (M + 7) (by omega) _ _ h1
    try simp only [Ow.enc, Sl.enc, kn, simprocAttr, qa, qb, qc, qd] at h1
    rcases Classical.em (0 ≤ r1.2) with h2 | h2
    · rw [if_pos h2] at h; replace h2 := eq_true h2
      rcases Classical.em (r1.2 ≤ (a0.l.length : Int)) with h3 | h3
      · rw [if_pos h3] at h; replace h3 := eq_true h3
        rcases h4 : num_GetSigned q ⟨a0.z, (List.drop r1.2.toNat a0.l)⟩ with _ | r2
        · rw [h4] at h; cases h
        · rw [h4, Option.bind_some] at h
          replace h4 := run_num_GetSigned q (M + 7) (by omega) _ _ h4
          try simp only [Ow.enc, Sl.enc, kn, simprocAttr, qa, qb, qc, qd] at h4
          rcases Classical.em (0 ≤ r2.2) with h5 | h5
          · rw [if_pos h5] at h; replace h5 := eq_true h5
            rcases Classical.em (r2.2 ≤ (((a0.l.length - r1.2.toNat) : Nat) : Int)) with h6 | h6
            · rw [if_pos h6] at h; replace h6 := eq_true h6
              try simp only [kn, simprocAttr, qa, qb, qc, qd] at h6
              rcases h7 : codec_GetOp q ⟨a0.z, (List.drop r2.2.toNat (List.drop r1.2.toNat a0.l))⟩ with _ | r3
              · rw [h7] at h; cases h
              · rw [h7, Option.bind_some] at h
                replace h7 := run_codec_GetOp q (M + 7) (by omega) _ _ h7
                try simp only [Ow.enc, S_api_Op.enc, Sl.enc, kn, simprocAttr, qa, qb, qc, qd] at h7
                rcases Classical.em (0 ≤ r3.2) with h8 | h8
                · rw [if_pos h8] at h; replace h8 := eq_true h8
                  rcases Classical.em (r3.2 ≤ ((((a0.l.length - r1.2.toNat) - r2.2.toNat) : Nat) : Int)) with h9 | h9
                  · rw [if_pos h9] at h; replace h9 := eq_true h9
                    try simp only [kn, simprocAttr, qa, qb, qc, qd] at h9
                    rcases h10 : num_GetSigned q ⟨a0.z, (List.drop r3.2.toNat (List.drop r2.2.toNat (List.drop r1.2.toNat a0.l)))⟩ with _ | r4
                    · rw [h10] at h; cases h
                    · rw [h10, Option.bind_some] at h
                      replace h10 := run_num_GetSigned q (M + 7) (by omega) _ _ h10
                      try simp only [Ow.enc, Sl.enc, kn, simprocAttr, qa, qb, qc, qd] at h10
                      replace h := ih_block_record_l0 M (by omega) (M + 7) (by omega) _ _ _ _ _ _ _ _ _ _ _ _ _ h R hR
                      simp (maxDischargeDepth := 12) only [A_block_record, kn, simprocAttr, qa, qb, qc, qd, Ow.enc, S_api_Op.enc, S_api_Record.enc, Sl.enc, *]
                  · rw [if_neg h9] at h; replace h9 := eq_false h9
                    try simp only [kn, simprocAttr, qa, qb, qc, qd] at h9
                    cases h
                · rw [if_neg h8] at h; replace h8 := eq_false h8
                  cases h
            · rw [if_neg h6] at h; replace h6 := eq_false h6
              try simp only [kn, simprocAttr, qa, qb, qc, qd] at h6
              cases h
          · rw [if_neg h5] at h; replace h5 := eq_false h5
            cases h
      · rw [if_neg h3] at h; replace h3 := eq_false h3
        cases h
    · rw [if_neg h2] at h; replace h2 := eq_false h2
      cases h
def A_bytes_Equal := And.intro @kk <| And.intro @L_bytes_Equal <| And.intro @rr_bytes_Equal <| And.intro @ro_bytes_Equal <| @b0_bytes_Equal
theorem run_bytes_Equal : ∀ (q N : Nat), 8 * q ≤ N → ∀ (a0 : (Sl Int)) (a1 : (Sl Int)), ∀ (r : Bool), bytes_Equal q a0 a1 = some r → (orc T N).deep F.bytes_Equal [(Sl.enc (V.int .u8)) a0, (Sl.enc (V.int .u8)) a1] = some [V.bool r] := by
  intro q N hM a0 a1 r h
  rcases q with _ | q
  · cases h
  obtain ⟨M, rfl⟩ : ∃ M, N = M + 8 := ⟨N - 8, by omega⟩
  generalize hR : some [V.bool r] = R
  rw [orc_deep, T_bytes_Equal, Option.bind_some, runDeep_eq]
  rw [bytes_Equal] at h
  cases h; subst hR; simp (maxDischargeDepth := 12) only [A_bytes_Equal, kn, simprocAttr, qa, qb, qc, qd, Ow.enc, Sl.enc, *]
def St_block_Decode_l0 (q : Nat) : Prop := ∀ (M : Nat) (hM : 8 * q ≤ M) (j : Nat) (hj : q ≤ j) (v0z : Bool) (v0l : List Int) (v4 : Int) (v10z : Bool) (v10l : List Int) (v44 : Int) (v45 : Int) (h0m : List (Int × Int)) (h1z : Bool) (h1l : List S_api_Record) (r : (Ow S_api_Record) × Int) (_ : block_Decode_l0 q v0z v0l v4 v10z v10l v44 v45 h0m h1z h1l = some r) (R : Option (List V)) (_ : some [(Ow.enc 7 S_api_Record.enc) r.1, (V.int .i64) r.2] = R) (fr : Fr) (H : Hp) (_ : canon 0 [0, 4, 8, 9, 10, 44, 45] fr H = ([(0, (.sl v0z (List.map (V.int .u8) v0l))), (4, (.int .i64 v4)), (8, (.mp 0)), (9, (.vw 1 0 0 h1l.length 1)), (10, (.sl v10z (List.map (V.int .u8) v10l))), (44, (.int .i64 v44)), (45, (.int .i64 v45))], [(.map h0m), (.row 0 h1z 7 (List.map S_api_Record.enc h1l) true)])), fin m_block_Decode (unw T (orc T (M + 7)) (M + 7) 0 [.blk 0, .code c_block_Decode_40] (iter 0 [0, 4, 8, 9, 10, 44, 45] (exec T (orc T (M + 7)) (M + 7) 0 c_block_Decode_31) j fr H)) = R
def A_block_Decode := And.intro @kk <| And.intro @L_block_Decode <| And.intro @v_bytes_Equal <| And.intro @v_block_Encode <| And.intro @v_num_Get <| And.intro @v_block_record <| And.intro @rr_block_Decode <| And.intro @ro_block_Decode <| @b0_block_Decode
theorem step_block_Decode_l0 (q : Nat) (ih_block_Decode_l0 : St_block_Decode_l0 q) : St_block_Decode_l0 (q + 1) := by
  intro M hM j hj v0z v0l v4 v10z v10l v44 v45 h0m h1z h1l r h R hR fr H hc
  obtain ⟨j, rfl⟩ : ∃ i, j = i + 1 := ⟨j - 1, by omega⟩
  rw [unw_iter, hc]; clear hc
  rw [block_Decode_l0] at h
  rcases Classical.em (v45 < v44) with h1 | h1
  · rw [if_pos h1] at h; replace h1 := eq_true h1
    rcases h2 : block_record q ⟨v10z, v10l⟩ with _ | r3
    · rw [h2] at h; cases h
    · rw [h2, Option.bind_some] at h
      replace h2 := run_block_record q (M + 7) (by omega) _ _ h2
      try simp only [Ow.enc, S_api_Op.enc, S_api_Record.enc, Sl.enc, kn, simprocAttr, qa, qb, qc, qd] at h2
      rcases Classical.em (r3.2 = 0) with h3 | h3
      · rw [if_pos h3] at h; replace h3 := eq_true h3
        cases h; subst hR; simp (maxDischargeDepth := 12) only [A_block_Decode, kn, simprocAttr, qa, qb, qc, qd, Ow.enc, S_api_Op.enc, S_api_Record.enc, Sl.enc, *]
      · rw [if_neg h3] at h; replace h3 := eq_false h3
        rcases Classical.em ((h1l.length + 1) ≤ 4294967296) with h4 | h4
        · rw [if_pos h4] at h; replace h4 := eq_true h4
          try simp only [kn, simprocAttr, qa, qb, qc, qd] at h4
          rcases Classical.em (0 ≤ r3.2) with h5 | h5
          · rw [if_pos h5] at h; replace h5 := eq_true h5
            rcases Classical.em (r3.2 ≤ (v10l.length : Int)) with h6 | h6
            · rw [if_pos h6] at h; replace h6 := eq_true h6
              replace h := ih_block_Decode_l0 M (by omega) j (by omega) _ _ _ _ _ _ _ _ _ _ _ h R hR
              simp (maxDischargeDepth := 12) only [A_block_Decode, kn, simprocAttr, qa, qb, qc, qd, Ow.enc, S_api_Op.enc, S_api_Record.enc, Sl.enc, *]
            · rw [if_neg h6] at h; replace h6 := eq_false h6
              cases h
          · rw [if_neg h5] at h; replace h5 := eq_false h5
            cases h
        · rw [if_neg h4] at h; replace h4 := eq_false h4
          try simp only [kn, simprocAttr, qa, qb, qc, qd] at h4
          cases h
  · rw [if_neg h1] at h; replace h1 := eq_false h1
    rcases h7 : block_Encode q ⟨h1z, h1l⟩ with _ | r4
    · rw [h7] at h; cases h
    · rw [h7, Option.bind_some] at h
      replace h7 := run_block_Encode q (M + 7) (by omega) _ _ h7
      try simp only [Ow.enc, S_api_Op.enc, S_api_Record.enc, Sl.enc, kn, simprocAttr, qa, qb, qc, qd] at h7
      rcases Classical.em (r4.2 = 0) with h8 | h8
      · rw [if_pos h8] at h; replace h8 := eq_true h8
        rcases h9 : bytes_Equal q ⟨r4.1.n, r4.1.xs⟩ ⟨v0z, v0l⟩ with _ | r5
        · rw [h9] at h; cases h
        · rw [h9, Option.bind_some] at h
          replace h9 := run_bytes_Equal q (M + 7) (by omega) _ _ _ h9
          try simp only [Ow.enc, Sl.enc, kn, simprocAttr, qa, qb, qc, qd] at h9
          rcases Classical.em (r5 = true) with h10 | h10
          · rw [if_pos h10] at h; have h10' := bt1 h10; replace h10 := eq_true h10
            cases h; subst hR; simp (maxDischargeDepth := 12) only [A_block_Decode, kn, simprocAttr, qa, qb, qc, qd, Ow.enc, S_api_Op.enc, S_api_Record.enc, Sl.enc, *]
          · rw [if_neg h10] at h; have h10' := bt0 h10; replace h10 := eq_false h10
            cases h; subst hR; simp (maxDischargeDepth := 12) only [A_block_Decode, kn, simprocAttr, qa, qb, qc, qd, Ow.enc, S_api_Op.enc, S_api_Record.enc, Sl.enc, *]
      · rw [if_neg h8] at h; replace h8 := eq_false h8
        cases h; subst hR; simp (maxDischargeDepth := 12) only [A_block_Decode, kn, simprocAttr, qa, qb, qc, qd, Ow.enc, S_api_Op.enc, S_api_Record.enc, Sl.enc, *]
theorem all_block_Decode : ∀ q, St_block_Decode_l0 q
  | 0 => by intro M hM j hj; intros; rename_i h _ _ _ _ _; cases h
  | q + 1 => by have i0 := all_block_Decode q; exact step_block_Decode_l0 q i0
theorem run_block_Decode : ∀ (q N : Nat), 8 * q ≤ N → ∀ (a0 : (Sl Int)), ∀ (r : (Ow S_api_Record) × Int), block_Decode q a0 = some r → (orc T N).deep F.block_Decode [(Sl.enc (V.int .u8)) a0] = some [(Ow.enc 7 S_api_Record.enc) r.1, (V.int .i64) r.2] := by
  intro q N hM a0 r h
  rcases q with _ | q
  · cases h
  obtain ⟨M, rfl⟩ : ∃ M, N = M + 8 := ⟨N - 8, by omega⟩
  have ih_block_Decode_l0 := (all_block_Decode q)
  generalize hR : some [(Ow.enc 7 S_api_Record.enc) r.1, (V.int .i64) r.2] = R
  rw [orc_deep, T_block_Decode, Option.bind_some, runDeep_eq]
  rw [block_Decode] at h
  rcases h1 : num_Get q a0 with _ | r1
  · rw [h1] at h; cases h
  · rw [h1, Option.bind_some] at h
    replace h1 := run_num_Get q (M + 7) (by omega) _ _ h1
    try simp only [Ow.enc, Sl.enc, kn, simprocAttr, qa, qb, qc, qd] at h1
    rcases Classical.em (0 ≤ r1.2) with h2 | h2
    · rw [if_pos h2] at h; replace h2 := eq_true h2
      rcases Classical.em (r1.2 ≤ (a0.l.length : Int)) with h3 | h3
      · rw [if_pos h3] at h; replace h3 := eq_true h3
        rcases h4 : num_Get q ⟨a0.z, (List.drop r1.2.toNat a0.l)⟩ with _ | r2
        · rw [h4] at h; cases h
        · rw [h4, Option.bind_some] at h
          replace h4 := run_num_Get q (M + 7) (by omega) _ _ h4
          try simp only [Ow.enc, Sl.enc, kn, simprocAttr, qa, qb, qc, qd] at h4
          rcases Classical.em (r1.2 = 0) with h5 | h5
          · rw [if_pos h5] at h; replace h5 := eq_true h5
            cases h; subst hR; simp (maxDischargeDepth := 12) only [A_block_Decode, kn, simprocAttr, qa, qb, qc, qd, Ow.enc, S_api_Op.enc, S_api_Record.enc, Sl.enc, *]
          · rw [if_neg h5] at h; replace h5 := eq_false h5
            rcases Classical.em (r2.2 = 0) with h6 | h6
            · rw [if_pos h6] at h; replace h6 := eq_true h6
              cases h; subst hR; simp (maxDischargeDepth := 12) only [A_block_Decode, kn, simprocAttr, qa, qb, qc, qd, Ow.enc, S_api_Op.enc, S_api_Record.enc, Sl.enc, *]
            · rw [if_neg h6] at h; replace h6 := eq_false h6
              rcases Classical.em (256 < r2.1) with h7 | h7
              · rw [if_pos h7] at h; replace h7 := eq_true h7
                cases h; subst hR; simp (maxDischargeDepth := 12) only [A_block_Decode, kn, simprocAttr, qa, qb, qc, qd, Ow.enc, S_api_Op.enc, S_api_Record.enc, Sl.enc, *]
              · rw [if_neg h7] at h; replace h7 := eq_false h7
                rcases Classical.em (0 ≤ (wrp .i64 (r1.2 + r2.2))) with h8 | h8
                · rw [if_pos h8] at h; replace h8 := eq_true h8
                  try simp only [kn, simprocAttr, qa, qb, qc, qd] at h8
                  rcases Classical.em ((wrp .i64 (r1.2 + r2.2)) ≤ (a0.l.length : Int)) with h9 | h9
                  · rw [if_pos h9] at h; replace h9 := eq_true h9
                    try simp only [kn, simprocAttr, qa, qb, qc, qd] at h9
                    replace h := ih_block_Decode_l0 M (by omega) (M + 7) (by omega) _ _ _ _ _ _ _ _ _ _ _ h R hR
                    simp (maxDischargeDepth := 12) only [A_block_Decode, kn, simprocAttr, qa, qb, qc, qd, Ow.enc, S_api_Op.enc, S_api_Record.enc, Sl.enc, *]
                  · rw [if_neg h9] at h; replace h9 := eq_false h9
                    try simp only [kn, simprocAttr, qa, qb, qc, qd] at h9
                    cases h
                · rw [if_neg h8] at h; replace h8 := eq_false h8
                  try simp only [kn, simprocAttr, qa, qb, qc, qd] at h8
                  cases h
      · rw [if_neg h3] at h; replace h3 := eq_false h3
        cases h
    · rw [if_neg h2] at h; replace h2 := eq_false h2
      cases h
def A_slices_Clone_int_int := And.intro @kk <| And.intro @L_slices_Clone_int_int <| And.intro @rr_slices_Clone_int_int <| And.intro @ro_slices_Clone_int_int <| @b0_slices_Clone_int_int
theorem run_slices_Clone_int_int : ∀ (q N : Nat), 8 * q ≤ N → ∀ (a0 : (Sl Int)), ∀ (r : (Ow Int)), slices_Clone_int_int q a0 = some r → (orc T N).deep F.slices_Clone_int_int [(Sl.enc (V.int .i64)) a0] = some [(Ow.enc 1 (V.int .i64)) r] := by
  intro q N hM a0 r h
  rcases q with _ | q
  · cases h
  obtain ⟨M, rfl⟩ : ∃ M, N = M + 8 := ⟨N - 8, by omega⟩
  generalize hR : some [(Ow.enc 1 (V.int .i64)) r] = R
  rw [orc_deep, T_slices_Clone_int_int, Option.bind_some, runDeep_eq]
  rw [slices_Clone_int_int] at h
  rcases Classical.em (a0.z = true) with h1 | h1
  · rw [if_pos h1] at h; have h1' := bt1 h1; replace h1 := eq_true h1
    cases h; subst hR; simp (maxDischargeDepth := 12) only [A_slices_Clone_int_int, kn, simprocAttr, qa, qb, qc, qd, Ow.enc, Sl.enc, *]
  · rw [if_neg h1] at h; have h1' := bt0 h1; replace h1 := eq_false h1
    rcases Classical.em (a0.l.length ≤ 4294967296) with h2 | h2
    · rw [if_pos h2] at h; replace h2 := eq_true h2
      cases h; subst hR; simp (maxDischargeDepth := 12) only [A_slices_Clone_int_int, kn, simprocAttr, qa, qb, qc, qd, Ow.enc, Sl.enc, *]
    · rw [if_neg h2] at h; replace h2 := eq_false h2
      cases h
def St_slices_Index_int_int_l0 (q : Nat) : Prop := ∀ (M : Nat) (hM : 8 * q ≤ M) (j : Nat) (hj : q ≤ j) (v0z : Bool) (v0l : List Int) (v1 : Int) (v7 : Int) (v8 : Int) (r : Int) (_ : slices_Index_int_int_l0 q v0z v0l v1 v7 v8 = some r) (R : Option (List V)) (_ : some [(V.int .i64) r] = R) (fr : Fr) (H : Hp) (_ : canon 0 [0, 1, 7, 8] fr H = ([(0, (.sl v0z (List.map (V.int .i64) v0l))), (1, (.int .i64 v1)), (7, (.int .i64 v7)), (8, (.int .i64 v8))], [])), fin m_slices_Index_int_int (unw T (orc T (M + 7)) (M + 7) 0 [.blk 0, .code c_slices_Index_int_int_16] (iter 0 [0, 1, 7, 8] (exec T (orc T (M + 7)) (M + 7) 0 c_slices_Index_int_int_13) j fr H)) = R
def A_slices_Index_int_int := And.intro @kk <| And.intro @L_slices_Index_int_int <| And.intro @rr_slices_Index_int_int <| And.intro @ro_slices_Index_int_int <| @b0_slices_Index_int_int
theorem step_slices_Index_int_int_l0 (q : Nat) (ih_slices_Index_int_int_l0 : St_slices_Index_int_int_l0 q) : St_slices_Index_int_int_l0 (q + 1) := by
  intro M hM j hj v0z v0l v1 v7 v8 r h R hR fr H hc
  obtain ⟨j, rfl⟩ : ∃ i, j = i + 1 := ⟨j - 1, by omega⟩
  rw [unw_iter, hc]; clear hc
  rw [slices_Index_int_int_l0] at h
  rcases Classical.em (v8 < v7) with h1 | h1
  · rw [if_pos h1] at h; replace h1 := eq_true h1
    rcases Classical.em (0 ≤ v8) with h2 | h2
    · rw [if_pos h2] at h; replace h2 := eq_true h2
      rcases h3 : v0l[v8.toNat]? with _ | e1
      · rw [h3] at h; cases h
      · rw [h3, Option.bind_some] at h
        rcases Classical.em (v1 = e1) with h4 | h4
        · rw [if_pos h4] at h; replace h4 := eq_true h4
          cases h; subst hR; simp (maxDischargeDepth := 12) only [A_slices_Index_int_int, kn, simprocAttr, qa, qb, qc, qd, Ow.enc, Sl.enc, *]
        · rw [if_neg h4] at h; replace h4 := eq_false h4
          replace h := ih_slices_Index_int_int_l0 M (by omega) j (by omega) _ _ _ _ _ _ h R hR
          simp (maxDischargeDepth := 12) only [A_slices_Index_int_int, kn, simprocAttr, qa, qb, qc, qd, Ow.enc, Sl.enc, *]
    · rw [if_neg h2] at h; replace h2 := eq_false h2
      cases h
  · rw [if_neg h1] at h; replace h1 := eq_false h1
    cases h; subst hR; simp (maxDischargeDepth := 12) only [A_slices_Index_int_int, kn, simprocAttr, qa, qb, qc, qd, Ow.enc, Sl.enc, *]
theorem all_slices_Index_int_int : ∀ q, St_slices_Index_int_int_l0 q
  | 0 => by intro M hM j hj; intros; rename_i h _ _ _ _ _; cases h
  | q + 1 => by have i0 := all_slices_Index_int_int q; exact step_slices_Index_int_int_l0 q i0
theorem run_slices_Index_int_int : ∀ (q N : Nat), 8 * q ≤ N → ∀ (a0 : (Sl Int)) (a1 : Int), ∀ (r : Int), slices_Index_int_int q a0 a1 = some r → (orc T N).deep F.slices_Index_int_int [(Sl.enc (V.int .i64)) a0, (V.int .i64) a1] = some [(V.int .i64) r] := by
  intro q N hM a0 a1 r h
  rcases q with _ | q
  · cases h
  obtain ⟨M, rfl⟩ : ∃ M, N = M + 8 := ⟨N - 8, by omega⟩
  have ih_slices_Index_int_int_l0 := (all_slices_Index_int_int q)
  generalize hR : some [(V.int .i64) r] = R
  rw [orc_deep, T_slices_Index_int_int, Option.bind_some, runDeep_eq]
  rw [slices_Index_int_int] at h
  replace h := ih_slices_Index_int_int_l0 M (by omega) (M + 7) (by omega) _ _ _ _ _ _ h R hR
  simp (maxDischargeDepth := 12) only [A_slices_Index_int_int, kn, simprocAttr, qa, qb, qc, qd, Ow.enc, Sl.enc, *]
def A_slices_Delete_int_int := And.intro @kk <| And.intro @L_slices_Delete_int_int <| And.intro @rr_slices_Delete_int_int <| And.intro @ro_slices_Delete_int_int <| @b0_slices_Delete_int_int
theorem run_slices_Delete_int_int : ∀ (q N : Nat), 8 * q ≤ N → ∀ (a0 : (Ow Int)) (a1 : Int) (a2 : Int), ∀ (r : (Ow Int)), slices_Delete_int_int q a0 a1 a2 = some r → (orc T N).deep F.slices_Delete_int_int [(Ow.enc 1 (V.int .i64)) a0, (V.int .i64) a1, (V.int .i64) a2] = some [(Ow.enc 1 (V.int .i64)) r] := by
  intro q N hM a0 a1 a2 r h
  rcases q with _ | q
  · cases h
  obtain ⟨M, rfl⟩ : ∃ M, N = M + 8 := ⟨N - 8, by omega⟩
  generalize hR : some [(Ow.enc 1 (V.int .i64)) r] = R
  rw [orc_deep, T_slices_Delete_int_int, Option.bind_some, runDeep_eq]
  rw [slices_Delete_int_int] at h
  rcases Classical.em (0 ≤ a1) with h1 | h1
  · rw [if_pos h1] at h; replace h1 := eq_true h1
    rcases Classical.em (a1 ≤ a2) with h2 | h2
    · rw [if_pos h2] at h; replace h2 := eq_true h2
      rcases Classical.em (a2 ≤ (a0.xs.length : Int)) with h3 | h3
      · rw [if_pos h3] at h; replace h3 := eq_true h3
        rcases Classical.em (a1 = a2) with h4 | h4
        · rw [if_pos h4] at h; replace h4 := eq_true h4
          cases h; subst hR; simp (maxDischargeDepth := 12) only [A_slices_Delete_int_int, kn, simprocAttr, qa, qb, qc, qd, Ow.enc, Sl.enc, *]
        · rw [if_neg h4] at h; replace h4 := eq_false h4
          rcases Classical.em (a1.toNat ≤ a0.xs.length) with h5 | h5
          · rw [if_pos h5] at h; replace h5 := eq_true h5
            rcases Classical.em (a0.n = true) with h6 | h6
            · rw [if_pos h6] at h; have h6' := bt1 h6; replace h6 := eq_true h6
              rcases Classical.em (0 ≤ a2) with h7 | h7
              · rw [if_pos h7] at h; replace h7 := eq_true h7
                rcases Classical.em (a2.toNat ≤ a0.xs.length) with h8 | h8
                · rw [if_pos h8] at h; replace h8 := eq_true h8
                  rcases Classical.em ((a0.xs.length + (a0.xs.length - a2.toNat)) ≤ 4294967296) with h9 | h9
                  · rw [if_pos h9] at h; replace h9 := eq_true h9
                    try simp only [kn, simprocAttr, qa, qb, qc, qd] at h9
                    rcases Classical.em ((((a0.xs.length + (a0.xs.length - a2.toNat)) : Nat) : Int) ≤ (a0.xs.length : Int)) with h10 | h10
                    · rw [if_pos h10] at h; replace h10 := eq_true h10
                      try simp only [kn, simprocAttr, qa, qb, qc, qd] at h10
                      rcases Classical.em (a0.xs.length ≤ (a0.xs.length + (a0.xs.length - a2.toNat))) with h11 | h11
                      · rw [if_pos h11] at h; replace h11 := eq_true h11
                        try simp only [kn, simprocAttr, qa, qb, qc, qd] at h11
                        rcases Classical.em ((a0.xs.length - a2.toNat) = 0) with h12 | h12
                        · rw [if_pos h12] at h; replace h12 := eq_true h12
                          try simp only [kn, simprocAttr, qa, qb, qc, qd] at h12
                          cases h
                        · rw [if_neg h12] at h; replace h12 := eq_false h12
                          try simp only [kn, simprocAttr, qa, qb, qc, qd] at h12
                          rcases Classical.em (a0.x = true) with h13 | h13
                          · rw [if_pos h13] at h; have h13' := bt1 h13; replace h13 := eq_true h13
                            cases h; subst hR; simp (maxDischargeDepth := 12) only [A_slices_Delete_int_int, kn, simprocAttr, qa, qb, qc, qd, Ow.enc, Sl.enc, *]
                          · rw [if_neg h13] at h; have h13' := bt0 h13; replace h13 := eq_false h13
                            cases h
                      · rw [if_neg h11] at h; replace h11 := eq_false h11
                        try simp only [kn, simprocAttr, qa, qb, qc, qd] at h11
                        cases h
                    · rw [if_neg h10] at h; replace h10 := eq_false h10
                      try simp only [kn, simprocAttr, qa, qb, qc, qd] at h10
                      cases h
                  · rw [if_neg h9] at h; replace h9 := eq_false h9
                    try simp only [kn, simprocAttr, qa, qb, qc, qd] at h9
                    cases h
                · rw [if_neg h8] at h; replace h8 := eq_false h8
                  cases h
              · rw [if_neg h7] at h; replace h7 := eq_false h7
                cases h
            · rw [if_neg h6] at h; have h6' := bt0 h6; replace h6 := eq_false h6
              rcases Classical.em (0 ≤ a2) with h14 | h14
              · rw [if_pos h14] at h; replace h14 := eq_true h14
                rcases Classical.em (a2.toNat ≤ a0.xs.length) with h15 | h15
                · rw [if_pos h15] at h; replace h15 := eq_true h15
                  rcases Classical.em ((a1.toNat + (a0.xs.length - a2.toNat)) ≤ a0.xs.length) with h16 | h16
                  · rw [if_pos h16] at h; replace h16 := eq_true h16
                    try simp only [kn, simprocAttr, qa, qb, qc, qd] at h16
                    rcases Classical.em (a0.x = true) with h17 | h17
                    · rw [if_pos h17] at h; have h17' := bt1 h17; replace h17 := eq_true h17
                      rcases Classical.em ((((a1.toNat + (a0.xs.length - a2.toNat)) : Nat) : Int) ≤ (a0.xs.length : Int)) with h18 | h18
                      · rw [if_pos h18] at h; replace h18 := eq_true h18
                        try simp only [kn, simprocAttr, qa, qb, qc, qd] at h18
                        rcases Classical.em (a0.xs.length ≤ (((min a1.toNat a0.xs.length) + (a0.xs.length - a2.toNat)) + (a0.xs.length - (a1.toNat + (a0.xs.length - a2.toNat))))) with h19 | h19
                        · rw [if_pos h19] at h; replace h19 := eq_true h19
                          try simp only [kn, simprocAttr, qa, qb, qc, qd] at h19
                          cases h; subst hR; simp (maxDischargeDepth := 12) only [A_slices_Delete_int_int, kn, simprocAttr, qa, qb, qc, qd, Ow.enc, Sl.enc, *]
                        · rw [if_neg h19] at h; replace h19 := eq_false h19
                          try simp only [kn, simprocAttr, qa, qb, qc, qd] at h19
                          cases h
                      · rw [if_neg h18] at h; replace h18 := eq_false h18
                        try simp only [kn, simprocAttr, qa, qb, qc, qd] at h18
                        cases h
                    · rw [if_neg h17] at h; have h17' := bt0 h17; replace h17 := eq_false h17
                      cases h
                  · rw [if_neg h16] at h; replace h16 := eq_false h16
                    try simp only [kn, simprocAttr, qa, qb, qc, qd] at h16
                    cases h
                · rw [if_neg h15] at h; replace h15 := eq_false h15
                  cases h
              · rw [if_neg h14] at h; replace h14 := eq_false h14
                cases h
          · rw [if_neg h5] at h; replace h5 := eq_false h5
            cases h
      · rw [if_neg h3] at h; replace h3 := eq_false h3
        cases h
    · rw [if_neg h2] at h; replace h2 := eq_false h2
      cases h
  · rw [if_neg h1] at h; replace h1 := eq_false h1
    cases h
def A_schema_pass := And.intro @kk <| And.intro @L_schema_pass <| And.intro @v_num_Get <| And.intro @rr_schema_pass <| And.intro @ro_schema_pass <| @b0_schema_pass
theorem run_schema_pass : ∀ (q N : Nat), 8 * q ≤ N → ∀ (a0 : (Sl Int)), ∀ (r : Int), schema_pass q a0 = some r → (orc T N).deep F.schema_pass [(Sl.enc (V.int .u8)) a0] = some [(V.int .i64) r] := by
  intro q N hM a0 r h
  rcases q with _ | q
  · cases h
  obtain ⟨M, rfl⟩ : ∃ M, N = M + 8 := ⟨N - 8, by omega⟩
  generalize hR : some [(V.int .i64) r] = R
  rw [orc_deep, T_schema_pass, Option.bind_some, runDeep_eq]
  rw [schema_pass] at h
  rcases h1 : num_Get q a0 with _ | r1
  · rw [h1] at h; cases h
  · rw [h1, Option.bind_some] at h
    replace h1 := run_num_Get q (M + 7) (by omega) _ _ h1
    try simp only [Ow.enc, Sl.enc, kn, simprocAttr, qa, qb, qc, qd] at h1
    rcases Classical.em (r1.2 = 0) with h2 | h2
    · rw [if_pos h2] at h; replace h2 := eq_true h2
      cases h; subst hR; simp (maxDischargeDepth := 12) only [A_schema_pass, kn, simprocAttr, qa, qb, qc, qd, Ow.enc, Sl.enc, *]
    · rw [if_neg h2] at h; replace h2 := eq_false h2
      rcases Classical.em ((wrp .i64 ((a0.l.length : Int) - r1.2)) < r1.1) with h3 | h3
      · rw [if_pos h3] at h; replace h3 := eq_true h3
        try simp only [kn, simprocAttr, qa, qb, qc, qd] at h3
        cases h; subst hR; simp (maxDischargeDepth := 12) only [A_schema_pass, kn, simprocAttr, qa, qb, qc, qd, Ow.enc, Sl.enc, *]
      · rw [if_neg h3] at h; replace h3 := eq_false h3
        try simp only [kn, simprocAttr, qa, qb, qc, qd] at h3
        cases h; subst hR; simp (maxDischargeDepth := 12) only [A_schema_pass, kn, simprocAttr, qa, qb, qc, qd, Ow.enc, Sl.enc, *]
def St_schema_read_l0 (q : Nat) : Prop := ∀ (M : Nat) (hM : 8 * q ≤ M) (j : Nat) (hj : q ≤ j) (v0 : Int) (v1z : Bool) (v1l : List Int) (v7 : Int) (h0_0 : Int) (h0_1 : Int) (h0_2 : Int) (h0_3 : Int) (h0_4 : Int) (h0_5 : Int) (h0_6 : Int) (h1z : Bool) (h1l : List Int) (h1x : Bool) (r : S_api_Record × Int) (_ : schema_read_l0 q v0 v1z v1l v7 h0_0 h0_1 h0_2 h0_3 h0_4 h0_5 h0_6 h1z h1l h1x = some r) (R : Option (List V)) (_ : some [S_api_Record.enc r.1, (V.int .i64) r.2] = R) (fr : Fr) (H : Hp) (_ : canon 0 [0, 1, 4, 6, 7] fr H = ([(0, (.int .i64 v0)), (1, (.sl v1z (List.map (V.int .u8) v1l))), (4, (.ptr 0 0)), (6, (.vw 1 0 0 h1l.length 1)), (7, (.int .i64 v7))], [(.box [(.int .i64 h0_0), (.int .i64 h0_1), (.int .i64 h0_2), (.int .i64 h0_3), (.int .i64 h0_4), (.int .i64 h0_5), (.int .i64 h0_6)]), (.row 0 h1z 1 (List.map (V.int .i64) h1l) h1x)])), fin m_schema_read (unw T (orc T (M + 7)) (M + 7) 0 [.blk 0, .code c_schema_read_44] (iter 0 [0, 1, 4, 6, 7] (exec T (orc T (M + 7)) (M + 7) 0 c_schema_read_34) j fr H)) = R
def A_schema_read := And.intro @kk <| And.intro @L_schema_read <| And.intro @L_schema_get <| And.intro @v_schema_Fits <| And.intro @v_num_Get <| And.intro @v_schema_fields <| And.intro @v_num_GetSigned <| And.intro @v_codec_GetOp <| And.intro @v_slices_Clone_int_int <| And.intro @v_slices_Index_int_int <| And.intro @v_slices_Delete_int_int <| And.intro @v_schema_pass <| And.intro @v_schema_get <| And.intro @i_schema_get <| And.intro @rr_schema_read <| And.intro @ro_schema_read <| @b0_schema_read
theorem step_schema_read_l0 (q : Nat) (ih_schema_read_l0 : St_schema_read_l0 q) : St_schema_read_l0 (q + 1) := by
  intro M hM j hj v0 v1z v1l v7 h0_0 h0_1 h0_2 h0_3 h0_4 h0_5 h0_6 h1z h1l h1x r h R hR fr H hc
  obtain ⟨j, rfl⟩ : ∃ i, j = i + 1 := ⟨j - 1, by omega⟩
  rw [unw_iter, hc]; clear hc
  rw [schema_read_l0] at h
  rcases Classical.em (0 < (v1l.length : Int)) with h1 | h1
  · rw [if_pos h1] at h; replace h1 := eq_true h1
    rcases h2 : num_Get q ⟨v1z, v1l⟩ with _ | r3
    · rw [h2] at h; cases h
    · rw [h2, Option.bind_some] at h
      replace h2 := run_num_Get q (M + 7) (by omega) _ _ h2
      try simp only [Ow.enc, Sl.enc, kn, simprocAttr, qa, qb, qc, qd] at h2
      rcases Classical.em (r3.2 = 0) with h3 | h3
      · rw [if_pos h3] at h; replace h3 := eq_true h3
        cases h; subst hR; simp (maxDischargeDepth := 12) only [A_schema_read, kn, simprocAttr, qa, qb, qc, qd, Ow.enc, S_api_Op.enc, S_api_Record.enc, Sl.enc, *]
      · rw [if_neg h3] at h; replace h3 := eq_false h3
        rcases Classical.em (r3.1 ≤ v7) with h4 | h4
        · rw [if_pos h4] at h; replace h4 := eq_true h4
          cases h; subst hR; simp (maxDischargeDepth := 12) only [A_schema_read, kn, simprocAttr, qa, qb, qc, qd, Ow.enc, S_api_Op.enc, S_api_Record.enc, Sl.enc, *]
        · rw [if_neg h4] at h; replace h4 := eq_false h4
          rcases Classical.em (0 ≤ r3.2) with h5 | h5
          · rw [if_pos h5] at h; replace h5 := eq_true h5
            rcases Classical.em (r3.2 ≤ (v1l.length : Int)) with h6 | h6
            · rw [if_pos h6] at h; replace h6 := eq_true h6
              rcases h7 : slices_Index_int_int q ⟨h1z, h1l⟩ r3.1 with _ | r4
              · rw [h7] at h; cases h
              · rw [h7, Option.bind_some] at h
                replace h7 := run_slices_Index_int_int q (M + 7) (by omega) _ _ _ h7
                try simp only [Ow.enc, Sl.enc, kn, simprocAttr, qa, qb, qc, qd] at h7
                rcases Classical.em (0 ≤ r4) with h8 | h8
                · rw [if_pos h8] at h; replace h8 := eq_true h8
                  rcases h9 : slices_Delete_int_int q ⟨h1z, h1x, h1l⟩ r4 (wrp .i64 (r4 + 1)) with _ | r5
                  · rw [h9] at h; cases h
                  · rw [h9, Option.bind_some] at h
                    replace h9 := run_slices_Delete_int_int q (M + 7) (by omega) _ _ _ _ h9
                    try simp only [Ow.enc, Sl.enc, kn, simprocAttr, qa, qb, qc, qd] at h9
                    rcases Classical.em (r3.1 = 1) with h10 | h10
                    · rw [if_pos h10] at h; replace h10 := eq_true h10
                      rcases h11 : num_Get q ⟨v1z, (List.drop r3.2.toNat v1l)⟩ with _ | r6
                      · rw [h11] at h; cases h
                      · rw [h11, Option.bind_some] at h
                        replace h11 := run_num_Get q (M + 6) (by omega) _ _ h11
                        try simp only [Ow.enc, Sl.enc, kn, simprocAttr, qa, qb, qc, qd] at h11
                        rcases Classical.em (r6.2 = 0) with h12 | h12
                        · rw [if_pos h12] at h; replace h12 := eq_true h12
                          cases h; subst hR; simp (maxDischargeDepth := 12) only [A_schema_read, kn, simprocAttr, qa, qb, qc, qd, Ow.enc, S_api_Op.enc, S_api_Record.enc, Sl.enc, *]
                        · rw [if_neg h12] at h; replace h12 := eq_false h12
                          rcases Classical.em (0 ≤ r6.2) with h13 | h13
                          · rw [if_pos h13] at h; replace h13 := eq_true h13
                            rcases Classical.em (r6.2 ≤ (((v1l.length - r3.2.toNat) : Nat) : Int)) with h14 | h14
                            · rw [if_pos h14] at h; replace h14 := eq_true h14
                              try simp only [kn, simprocAttr, qa, qb, qc, qd] at h14
                              replace h := ih_schema_read_l0 M (by omega) j (by omega) _ _ _ _ _ _ _ _ _ _ _ _ _ _ _ h R hR
                              simp (maxDischargeDepth := 12) only [A_schema_read, kn, simprocAttr, qa, qb, qc, qd, Ow.enc, S_api_Op.enc, S_api_Record.enc, Sl.enc, *]
                            · rw [if_neg h14] at h; replace h14 := eq_false h14
                              try simp only [kn, simprocAttr, qa, qb, qc, qd] at h14
                              cases h
                          · rw [if_neg h13] at h; replace h13 := eq_false h13
                            cases h
                    · rw [if_neg h10] at h; replace h10 := eq_false h10
                      rcases Classical.em (r3.1 = 2) with h15 | h15
                      · rw [if_pos h15] at h; replace h15 := eq_true h15
                        rcases h16 : num_Get q ⟨v1z, (List.drop r3.2.toNat v1l)⟩ with _ | r7
                        · rw [h16] at h; cases h
                        · rw [h16, Option.bind_some] at h
                          replace h16 := run_num_Get q (M + 6) (by omega) _ _ h16
                          try simp only [Ow.enc, Sl.enc, kn, simprocAttr, qa, qb, qc, qd] at h16
                          rcases Classical.em (r7.2 = 0) with h17 | h17
                          · rw [if_pos h17] at h; replace h17 := eq_true h17
                            cases h; subst hR; simp (maxDischargeDepth := 12) only [A_schema_read, kn, simprocAttr, qa, qb, qc, qd, Ow.enc, S_api_Op.enc, S_api_Record.enc, Sl.enc, *]
                          · rw [if_neg h17] at h; replace h17 := eq_false h17
                            rcases Classical.em (0 ≤ r7.2) with h18 | h18
                            · rw [if_pos h18] at h; replace h18 := eq_true h18
                              rcases Classical.em (r7.2 ≤ (((v1l.length - r3.2.toNat) : Nat) : Int)) with h19 | h19
                              · rw [if_pos h19] at h; replace h19 := eq_true h19
                                try simp only [kn, simprocAttr, qa, qb, qc, qd] at h19
                                replace h := ih_schema_read_l0 M (by omega) j (by omega) _ _ _ _ _ _ _ _ _ _ _ _ _ _ _ h R hR
                                simp (maxDischargeDepth := 12) only [A_schema_read, kn, simprocAttr, qa, qb, qc, qd, Ow.enc, S_api_Op.enc, S_api_Record.enc, Sl.enc, *]
                              · rw [if_neg h19] at h; replace h19 := eq_false h19
                                try simp only [kn, simprocAttr, qa, qb, qc, qd] at h19
                                cases h
                            · rw [if_neg h18] at h; replace h18 := eq_false h18
                              cases h
                      · rw [if_neg h15] at h; replace h15 := eq_false h15
                        rcases Classical.em (r3.1 = 3) with h20 | h20
                        · rw [if_pos h20] at h; replace h20 := eq_true h20
                          rcases h21 : num_Get q ⟨v1z, (List.drop r3.2.toNat v1l)⟩ with _ | r8
                          · rw [h21] at h; cases h
                          · rw [h21, Option.bind_some] at h
                            replace h21 := run_num_Get q (M + 6) (by omega) _ _ h21
                            try simp only [Ow.enc, Sl.enc, kn, simprocAttr, qa, qb, qc, qd] at h21
                            rcases Classical.em (r8.2 = 0) with h22 | h22
                            · rw [if_pos h22] at h; replace h22 := eq_true h22
                              cases h; subst hR; simp (maxDischargeDepth := 12) only [A_schema_read, kn, simprocAttr, qa, qb, qc, qd, Ow.enc, S_api_Op.enc, S_api_Record.enc, Sl.enc, *]
                            · rw [if_neg h22] at h; replace h22 := eq_false h22
                              rcases Classical.em (0 ≤ r8.2) with h23 | h23
                              · rw [if_pos h23] at h; replace h23 := eq_true h23
                                rcases Classical.em (r8.2 ≤ (((v1l.length - r3.2.toNat) : Nat) : Int)) with h24 | h24
                                · rw [if_pos h24] at h; replace h24 := eq_true h24
                                  try simp only [kn, simprocAttr, qa, qb, qc, qd] at h24
                                  replace h := ih_schema_read_l0 M (by omega) j (by omega) _ _ _ _ _ _ _ _ _ _ _ _ _ _ _ h R hR
                                  simp (maxDischargeDepth := 12) only [A_schema_read, kn, simprocAttr, qa, qb, qc, qd, Ow.enc, S_api_Op.enc, S_api_Record.enc, Sl.enc, *]
                                · rw [if_neg h24] at h; replace h24 := eq_false h24
                                  try simp only [kn, simprocAttr, qa, qb, qc, qd] at h24
                                  cases h
                              · rw [if_neg h23] at h; replace h23 := eq_false h23
                                cases h
                        · rw [if_neg h20] at h; replace h20 := eq_false h20
                          rcases Classical.em (r3.1 = 4) with h25 | h25
                          · rw [if_pos h25] at h; replace h25 := eq_true h25
                            rcases h26 : codec_GetOp q ⟨v1z, (List.drop r3.2.toNat v1l)⟩ with _ | r9
                            · rw [h26] at h; cases h
                            · rw [h26, Option.bind_some] at h
                              replace h26 := run_codec_GetOp q (M + 6) (by omega) _ _ h26
                              try simp only [Ow.enc, S_api_Op.enc, Sl.enc, kn, simprocAttr, qa, qb, qc, qd] at h26
                              rcases Classical.em (r9.2 = 0) with h27 | h27
                              · rw [if_pos h27] at h; replace h27 := eq_true h27
                                cases h; subst hR; simp (maxDischargeDepth := 12) only [A_schema_read, kn, simprocAttr, qa, qb, qc, qd, Ow.enc, S_api_Op.enc, S_api_Record.enc, Sl.enc, *]
                              · rw [if_neg h27] at h; replace h27 := eq_false h27
                                rcases Classical.em (0 ≤ r9.2) with h28 | h28
                                · rw [if_pos h28] at h; replace h28 := eq_true h28
                                  rcases Classical.em (r9.2 ≤ (((v1l.length - r3.2.toNat) : Nat) : Int)) with h29 | h29
                                  · rw [if_pos h29] at h; replace h29 := eq_true h29
                                    try simp only [kn, simprocAttr, qa, qb, qc, qd] at h29
                                    replace h := ih_schema_read_l0 M (by omega) j (by omega) _ _ _ _ _ _ _ _ _ _ _ _ _ _ _ h R hR
                                    simp (maxDischargeDepth := 12) only [A_schema_read, kn, simprocAttr, qa, qb, qc, qd, Ow.enc, S_api_Op.enc, S_api_Record.enc, Sl.enc, *]
                                  · rw [if_neg h29] at h; replace h29 := eq_false h29
                                    try simp only [kn, simprocAttr, qa, qb, qc, qd] at h29
                                    cases h
                                · rw [if_neg h28] at h; replace h28 := eq_false h28
                                  cases h
                          · rw [if_neg h25] at h; replace h25 := eq_false h25
                            rcases Classical.em (r3.1 = 5) with h30 | h30
                            · rw [if_pos h30] at h; replace h30 := eq_true h30
                              rcases h31 : num_GetSigned q ⟨v1z, (List.drop r3.2.toNat v1l)⟩ with _ | r10
                              · rw [h31] at h; cases h
                              · rw [h31, Option.bind_some] at h
                                replace h31 := run_num_GetSigned q (M + 6) (by omega) _ _ h31
                                try simp only [Ow.enc, Sl.enc, kn, simprocAttr, qa, qb, qc, qd] at h31
                                rcases Classical.em (r10.2 = 0) with h32 | h32
                                · rw [if_pos h32] at h; replace h32 := eq_true h32
                                  cases h; subst hR; simp (maxDischargeDepth := 12) only [A_schema_read, kn, simprocAttr, qa, qb, qc, qd, Ow.enc, S_api_Op.enc, S_api_Record.enc, Sl.enc, *]
                                · rw [if_neg h32] at h; replace h32 := eq_false h32
                                  rcases Classical.em (0 ≤ r10.2) with h33 | h33
                                  · rw [if_pos h33] at h; replace h33 := eq_true h33
                                    rcases Classical.em (r10.2 ≤ (((v1l.length - r3.2.toNat) : Nat) : Int)) with h34 | h34
                                    · rw [if_pos h34] at h; replace h34 := eq_true h34
                                      try simp only [kn, simprocAttr, qa, qb, qc, qd] at h34
                                      replace h := ih_schema_read_l0 M (by omega) j (by omega) _ _ _ _ _ _ _ _ _ _ _ _ _ _ _ h R hR
                                      simp (maxDischargeDepth := 12) only [A_schema_read, kn, simprocAttr, qa, qb, qc, qd, Ow.enc, S_api_Op.enc, S_api_Record.enc, Sl.enc, *]
                                    · rw [if_neg h34] at h; replace h34 := eq_false h34
                                      try simp only [kn, simprocAttr, qa, qb, qc, qd] at h34
                                      cases h
                                  · rw [if_neg h33] at h; replace h33 := eq_false h33
                                    cases h
                            · rw [if_neg h30] at h; replace h30 := eq_false h30
                              cases h; subst hR; simp (maxDischargeDepth := 12) only [A_schema_read, kn, simprocAttr, qa, qb, qc, qd, Ow.enc, S_api_Op.enc, S_api_Record.enc, Sl.enc, *]
                · rw [if_neg h8] at h; replace h8 := eq_false h8
                  rcases Classical.em (r3.1 < 16) with h35 | h35
                  · rw [if_pos h35] at h; replace h35 := eq_true h35
                    cases h; subst hR; simp (maxDischargeDepth := 12) only [A_schema_read, kn, simprocAttr, qa, qb, qc, qd, Ow.enc, S_api_Op.enc, S_api_Record.enc, Sl.enc, *]
                  · rw [if_neg h35] at h; replace h35 := eq_false h35
                    rcases Classical.em (v0 = 3) with h36 | h36
                    · rw [if_pos h36] at h; replace h36 := eq_true h36
                      cases h; subst hR; simp (maxDischargeDepth := 12) only [A_schema_read, kn, simprocAttr, qa, qb, qc, qd, Ow.enc, S_api_Op.enc, S_api_Record.enc, Sl.enc, *]
                    · rw [if_neg h36] at h; replace h36 := eq_false h36
                      rcases h37 : schema_pass q ⟨v1z, (List.drop r3.2.toNat v1l)⟩ with _ | r11
                      · rw [h37] at h; cases h
                      · rw [h37, Option.bind_some] at h
                        replace h37 := run_schema_pass q (M + 7) (by omega) _ _ h37
                        try simp only [Ow.enc, Sl.enc, kn, simprocAttr, qa, qb, qc, qd] at h37
                        rcases Classical.em (r11 = 0) with h38 | h38
                        · rw [if_pos h38] at h; replace h38 := eq_true h38
                          cases h; subst hR; simp (maxDischargeDepth := 12) only [A_schema_read, kn, simprocAttr, qa, qb, qc, qd, Ow.enc, S_api_Op.enc, S_api_Record.enc, Sl.enc, *]
                        · rw [if_neg h38] at h; replace h38 := eq_false h38
                          rcases Classical.em (0 ≤ r11) with h39 | h39
                          · rw [if_pos h39] at h; replace h39 := eq_true h39
                            rcases Classical.em (r11 ≤ (((v1l.length - r3.2.toNat) : Nat) : Int)) with h40 | h40
                            · rw [if_pos h40] at h; replace h40 := eq_true h40
                              try simp only [kn, simprocAttr, qa, qb, qc, qd] at h40
                              replace h := ih_schema_read_l0 M (by omega) j (by omega) _ _ _ _ _ _ _ _ _ _ _ _ _ _ _ h R hR
                              simp (maxDischargeDepth := 12) only [A_schema_read, kn, simprocAttr, qa, qb, qc, qd, Ow.enc, S_api_Op.enc, S_api_Record.enc, Sl.enc, *]
                            · rw [if_neg h40] at h; replace h40 := eq_false h40
                              try simp only [kn, simprocAttr, qa, qb, qc, qd] at h40
                              cases h
                          · rw [if_neg h39] at h; replace h39 := eq_false h39
                            cases h
            · rw [if_neg h6] at h; replace h6 := eq_false h6
              cases h
          · rw [if_neg h5] at h; replace h5 := eq_false h5
            cases h
  · rw [if_neg h1] at h; replace h1 := eq_false h1
    rcases Classical.em (0 < (h1l.length : Int)) with h41 | h41
    · rw [if_pos h41] at h; replace h41 := eq_true h41
      cases h; subst hR; simp (maxDischargeDepth := 12) only [A_schema_read, kn, simprocAttr, qa, qb, qc, qd, Ow.enc, S_api_Op.enc, S_api_Record.enc, Sl.enc, *]
    · rw [if_neg h41] at h; replace h41 := eq_false h41
      rcases h42 : schema_Fits q (⟨h0_0, h0_1, h0_2, (⟨h0_3, h0_4, h0_5⟩ : S_api_Op), h0_6⟩ : S_api_Record) with _ | r12
      · rw [h42] at h; cases h
      · rw [h42, Option.bind_some] at h
        replace h42 := run_schema_Fits q (M + 7) (by omega) _ _ h42
        try simp only [Ow.enc, S_api_Op.enc, S_api_Record.enc, kn, simprocAttr, qa, qb, qc, qd] at h42
        rcases Classical.em (r12 = true) with h43 | h43
        · rw [if_pos h43] at h; have h43' := bt1 h43; replace h43 := eq_true h43
          cases h; subst hR; simp (maxDischargeDepth := 12) only [A_schema_read, kn, simprocAttr, qa, qb, qc, qd, Ow.enc, S_api_Op.enc, S_api_Record.enc, Sl.enc, *]
        · rw [if_neg h43] at h; have h43' := bt0 h43; replace h43 := eq_false h43
          cases h; subst hR; simp (maxDischargeDepth := 12) only [A_schema_read, kn, simprocAttr, qa, qb, qc, qd, Ow.enc, S_api_Op.enc, S_api_Record.enc, Sl.enc, *]
theorem all_schema_read : ∀ q, St_schema_read_l0 q
  | 0 => by intro M hM j hj; intros; rename_i h _ _ _ _ _; cases h
  | q + 1 => by have i0 := all_schema_read q; exact step_schema_read_l0 q i0
theorem run_schema_read : ∀ (q N : Nat), 8 * q ≤ N → ∀ (a0 : Int) (a1 : (Sl Int)), ∀ (r : S_api_Record × Int), schema_read q a0 a1 = some r → (orc T N).deep F.schema_read [(V.int .i64) a0, (Sl.enc (V.int .u8)) a1] = some [S_api_Record.enc r.1, (V.int .i64) r.2] := by
  intro q N hM a0 a1 r h
  rcases q with _ | q
  · cases h
  obtain ⟨M, rfl⟩ : ∃ M, N = M + 8 := ⟨N - 8, by omega⟩
  have ih_schema_read_l0 := (all_schema_read q)
  generalize hR : some [S_api_Record.enc r.1, (V.int .i64) r.2] = R
  rw [orc_deep, T_schema_read, Option.bind_some, runDeep_eq]
  rw [schema_read] at h
  rcases h1 : schema_fields q a0 with _ | r1
  · rw [h1] at h; cases h
  · rw [h1, Option.bind_some] at h
    replace h1 := run_schema_fields q (M + 7) (by omega) _ _ h1
    try simp only [Ow.enc, kn, simprocAttr, qa, qb, qc, qd] at h1
    rcases h2 : slices_Clone_int_int q ⟨r1.n, r1.xs⟩ with _ | r2
    · rw [h2] at h; cases h
    · rw [h2, Option.bind_some] at h
      replace h2 := run_slices_Clone_int_int q (M + 7) (by omega) _ _ h2
      try simp only [Ow.enc, Sl.enc, kn, simprocAttr, qa, qb, qc, qd] at h2
      replace h := ih_schema_read_l0 M (by omega) (M + 7) (by omega) _ _ _ _ _ _ _ _ _ _ _ _ _ _ _ h R hR
      simp (maxDischargeDepth := 12) only [A_schema_read, kn, simprocAttr, qa, qb, qc, qd, Ow.enc, S_api_Op.enc, S_api_Record.enc, Sl.enc, *]
def A_schema_Decode := And.intro @kk <| And.intro @L_schema_Decode <| And.intro @v_num_Get <| And.intro @v_schema_fields <| And.intro @v_schema_read <| And.intro @rr_schema_Decode <| And.intro @ro_schema_Decode <| @b0_schema_Decode
theorem run_schema_Decode : ∀ (q N : Nat), 8 * q ≤ N → ∀ (a0 : (Sl Int)), ∀ (r : S_api_Record × Int), schema_Decode q a0 = some r → (orc T N).deep F.schema_Decode [(Sl.enc (V.int .u8)) a0] = some [S_api_Record.enc r.1, (V.int .i64) r.2] := by
  intro q N hM a0 r h
  rcases q with _ | q
  · cases h
  obtain ⟨M, rfl⟩ : ∃ M, N = M + 8 := ⟨N - 8, by omega⟩
  generalize hR : some [S_api_Record.enc r.1, (V.int .i64) r.2] = R
  rw [orc_deep, T_schema_Decode, Option.bind_some, runDeep_eq]
  rw [schema_Decode] at h
  rcases Classical.em ((a0.l.length : Int) = 0) with h1 | h1
  · rw [if_pos h1] at h; replace h1 := eq_true h1
    cases h; subst hR; simp (maxDischargeDepth := 12) only [A_schema_Decode, kn, simprocAttr, qa, qb, qc, qd, Ow.enc, S_api_Op.enc, S_api_Record.enc, Sl.enc, *]
  · rw [if_neg h1] at h; replace h1 := eq_false h1
    rcases h2 : num_Get q a0 with _ | r1
    · rw [h2] at h; cases h
    · rw [h2, Option.bind_some] at h
      replace h2 := run_num_Get q (M + 7) (by omega) _ _ h2
      try simp only [Ow.enc, Sl.enc, kn, simprocAttr, qa, qb, qc, qd] at h2
      rcases Classical.em (r1.2 = 0) with h3 | h3
      · rw [if_pos h3] at h; replace h3 := eq_true h3
        cases h; subst hR; simp (maxDischargeDepth := 12) only [A_schema_Decode, kn, simprocAttr, qa, qb, qc, qd, Ow.enc, S_api_Op.enc, S_api_Record.enc, Sl.enc, *]
      · rw [if_neg h3] at h; replace h3 := eq_false h3
        rcases h4 : schema_fields q r1.1 with _ | r2
        · rw [h4] at h; cases h
        · rw [h4, Option.bind_some] at h
          replace h4 := run_schema_fields q (M + 7) (by omega) _ _ h4
          try simp only [Ow.enc, kn, simprocAttr, qa, qb, qc, qd] at h4
          rcases Classical.em (r2.n = true) with h5 | h5
          · rw [if_pos h5] at h; have h5' := bt1 h5; replace h5 := eq_true h5
            cases h; subst hR; simp (maxDischargeDepth := 12) only [A_schema_Decode, kn, simprocAttr, qa, qb, qc, qd, Ow.enc, S_api_Op.enc, S_api_Record.enc, Sl.enc, *]
          · rw [if_neg h5] at h; have h5' := bt0 h5; replace h5 := eq_false h5
            rcases Classical.em (0 ≤ r1.2) with h6 | h6
            · rw [if_pos h6] at h; replace h6 := eq_true h6
              rcases Classical.em (r1.2 ≤ (a0.l.length : Int)) with h7 | h7
              · rw [if_pos h7] at h; replace h7 := eq_true h7
                rcases h8 : schema_read q r1.1 ⟨a0.z, (List.drop r1.2.toNat a0.l)⟩ with _ | r3
                · rw [h8] at h; cases h
                · rw [h8, Option.bind_some] at h
                  replace h8 := run_schema_read q (M + 7) (by omega) _ _ _ h8
                  try simp only [Ow.enc, S_api_Op.enc, S_api_Record.enc, Sl.enc, kn, simprocAttr, qa, qb, qc, qd] at h8
                  rcases Classical.em (r3.2 = 0) with h9 | h9
                  · rw [if_pos h9] at h; replace h9 := eq_true h9
                    cases h; subst hR; simp (maxDischargeDepth := 12) only [A_schema_Decode, kn, simprocAttr, qa, qb, qc, qd, Ow.enc, S_api_Op.enc, S_api_Record.enc, Sl.enc, *]
                  · rw [if_neg h9] at h; replace h9 := eq_false h9
                    cases h; subst hR; simp (maxDischargeDepth := 12) only [A_schema_Decode, kn, simprocAttr, qa, qb, qc, qd, Ow.enc, S_api_Op.enc, S_api_Record.enc, Sl.enc, *]
              · rw [if_neg h7] at h; replace h7 := eq_false h7
                cases h
            · rw [if_neg h6] at h; replace h6 := eq_false h6
              cases h
def St_segment_elder_l0 (q : Nat) : Prop := ∀ (M : Nat) (hM : 8 * q ≤ M) (j : Nat) (hj : q ≤ j) (v0 : Int) (v1z : Bool) (v1l : List Int) (h0z : Bool) (h0l : List S_api_Record) (r : (Ow S_api_Record) × Bool) (_ : segment_elder_l0 q v0 v1z v1l h0z h0l = some r) (R : Option (List V)) (_ : some [(Ow.enc 7 S_api_Record.enc) r.1, V.bool r.2] = R) (fr : Fr) (H : Hp) (_ : canon 0 [0, 1, 6] fr H = ([(0, (.int .i64 v0)), (1, (.sl v1z (List.map (V.int .u8) v1l))), (6, (.vw 0 0 0 h0l.length 1))], [(.row 0 h0z 7 (List.map S_api_Record.enc h0l) true)])), fin m_segment_elder (unw T (orc T (M + 7)) (M + 7) 0 [.blk 0, .code c_segment_elder_21] (iter 0 [0, 1, 6] (exec T (orc T (M + 7)) (M + 7) 0 c_segment_elder_19) j fr H)) = R
def A_segment_elder := And.intro @kk <| And.intro @L_segment_elder <| And.intro @v_num_Get <| And.intro @v_schema_Decode <| And.intro @rr_segment_elder <| And.intro @ro_segment_elder <| @b0_segment_elder
theorem step_segment_elder_l0 (q : Nat) (ih_segment_elder_l0 : St_segment_elder_l0 q) : St_segment_elder_l0 (q + 1) := by
  intro M hM j hj v0 v1z v1l h0z h0l r h R hR fr H hc
  obtain ⟨j, rfl⟩ : ∃ i, j = i + 1 := ⟨j - 1, by omega⟩
  rw [unw_iter, hc]; clear hc
  rw [segment_elder_l0] at h
  rcases Classical.em (0 < (v1l.length : Int)) with h1 | h1
  · rw [if_pos h1] at h; replace h1 := eq_true h1
    rcases h2 : num_Get q ⟨v1z, v1l⟩ with _ | r1
    · rw [h2] at h; cases h
    · rw [h2, Option.bind_some] at h
      replace h2 := run_num_Get q (M + 7) (by omega) _ _ h2
      try simp only [Ow.enc, Sl.enc, kn, simprocAttr, qa, qb, qc, qd] at h2
      rcases Classical.em (r1.2 = 0) with h3 | h3
      · rw [if_pos h3] at h; replace h3 := eq_true h3
        cases h; subst hR; simp (maxDischargeDepth := 12) only [A_segment_elder, kn, simprocAttr, qa, qb, qc, qd, Ow.enc, S_api_Op.enc, S_api_Record.enc, Sl.enc, *]
      · rw [if_neg h3] at h; replace h3 := eq_false h3
        rcases Classical.em (r1.1 = 0) with h4 | h4
        · rw [if_pos h4] at h; replace h4 := eq_true h4
          cases h; subst hR; simp (maxDischargeDepth := 12) only [A_segment_elder, kn, simprocAttr, qa, qb, qc, qd, Ow.enc, S_api_Op.enc, S_api_Record.enc, Sl.enc, *]
        · rw [if_neg h4] at h; replace h4 := eq_false h4
          rcases Classical.em ((wrp .i64 ((v1l.length : Int) - r1.2)) < r1.1) with h5 | h5
          · rw [if_pos h5] at h; replace h5 := eq_true h5
            try simp only [kn, simprocAttr, qa, qb, qc, qd] at h5
            cases h; subst hR; simp (maxDischargeDepth := 12) only [A_segment_elder, kn, simprocAttr, qa, qb, qc, qd, Ow.enc, S_api_Op.enc, S_api_Record.enc, Sl.enc, *]
          · rw [if_neg h5] at h; replace h5 := eq_false h5
            try simp only [kn, simprocAttr, qa, qb, qc, qd] at h5
            rcases Classical.em (0 ≤ r1.2) with h6 | h6
            · rw [if_pos h6] at h; replace h6 := eq_true h6
              rcases h7 : v1l[r1.2.toNat]? with _ | e2
              · rw [h7] at h; cases h
              · rw [h7, Option.bind_some] at h
                rcases Classical.em (e2 = (wrp .u8 v0)) with h8 | h8
                · rw [if_pos h8] at h; replace h8 := eq_true h8
                  rcases Classical.em (r1.2 ≤ (wrp .i64 (r1.2 + r1.1))) with h9 | h9
                  · rw [if_pos h9] at h; replace h9 := eq_true h9
                    try simp only [kn, simprocAttr, qa, qb, qc, qd] at h9
                    rcases Classical.em ((wrp .i64 (r1.2 + r1.1)).toNat ≤ v1l.length) with h10 | h10
                    · rw [if_pos h10] at h; replace h10 := eq_true h10
                      try simp only [kn, simprocAttr, qa, qb, qc, qd] at h10
                      rcases h11 : schema_Decode q ⟨v1z, (List.drop r1.2.toNat (List.take ((wrp .i64 (r1.2 + r1.1)).toNat) v1l))⟩ with _ | r3
                      · rw [h11] at h; cases h
                      · rw [h11, Option.bind_some] at h
                        replace h11 := run_schema_Decode q (M + 7) (by omega) _ _ h11
                        try simp only [Ow.enc, S_api_Op.enc, S_api_Record.enc, Sl.enc, kn, simprocAttr, qa, qb, qc, qd] at h11
                        rcases Classical.em (r3.2 = 0) with h12 | h12
                        · rw [if_pos h12] at h; replace h12 := eq_true h12
                          rcases Classical.em ((h0l.length + 1) ≤ 4294967296) with h13 | h13
                          · rw [if_pos h13] at h; replace h13 := eq_true h13
                            try simp only [kn, simprocAttr, qa, qb, qc, qd] at h13
                            rcases Classical.em (0 ≤ (wrp .i64 (r1.2 + r1.1))) with h14 | h14
                            · rw [if_pos h14] at h; replace h14 := eq_true h14
                              try simp only [kn, simprocAttr, qa, qb, qc, qd] at h14
                              rcases Classical.em ((wrp .i64 (r1.2 + r1.1)) ≤ (v1l.length : Int)) with h15 | h15
                              · rw [if_pos h15] at h; replace h15 := eq_true h15
                                try simp only [kn, simprocAttr, qa, qb, qc, qd] at h15
                                replace h := ih_segment_elder_l0 M (by omega) j (by omega) _ _ _ _ _ _ h R hR
                                simp (maxDischargeDepth := 12) only [A_segment_elder, kn, simprocAttr, qa, qb, qc, qd, Ow.enc, S_api_Op.enc, S_api_Record.enc, Sl.enc, *]
                              · rw [if_neg h15] at h; replace h15 := eq_false h15
                                try simp only [kn, simprocAttr, qa, qb, qc, qd] at h15
                                cases h
                            · rw [if_neg h14] at h; replace h14 := eq_false h14
                              try simp only [kn, simprocAttr, qa, qb, qc, qd] at h14
                              cases h
                          · rw [if_neg h13] at h; replace h13 := eq_false h13
                            try simp only [kn, simprocAttr, qa, qb, qc, qd] at h13
                            cases h
                        · rw [if_neg h12] at h; replace h12 := eq_false h12
                          cases h; subst hR; simp (maxDischargeDepth := 12) only [A_segment_elder, kn, simprocAttr, qa, qb, qc, qd, Ow.enc, S_api_Op.enc, S_api_Record.enc, Sl.enc, *]
                    · rw [if_neg h10] at h; replace h10 := eq_false h10
                      try simp only [kn, simprocAttr, qa, qb, qc, qd] at h10
                      cases h
                  · rw [if_neg h9] at h; replace h9 := eq_false h9
                    try simp only [kn, simprocAttr, qa, qb, qc, qd] at h9
                    cases h
                · rw [if_neg h8] at h; replace h8 := eq_false h8
                  cases h; subst hR; simp (maxDischargeDepth := 12) only [A_segment_elder, kn, simprocAttr, qa, qb, qc, qd, Ow.enc, S_api_Op.enc, S_api_Record.enc, Sl.enc, *]
            · rw [if_neg h6] at h; replace h6 := eq_false h6
              cases h
  · rw [if_neg h1] at h; replace h1 := eq_false h1
    cases h; subst hR; simp (maxDischargeDepth := 12) only [A_segment_elder, kn, simprocAttr, qa, qb, qc, qd, Ow.enc, S_api_Op.enc, S_api_Record.enc, Sl.enc, *]
theorem all_segment_elder : ∀ q, St_segment_elder_l0 q
  | 0 => by intro M hM j hj; intros; rename_i h _ _ _ _ _; cases h
  | q + 1 => by have i0 := all_segment_elder q; exact step_segment_elder_l0 q i0
theorem run_segment_elder : ∀ (q N : Nat), 8 * q ≤ N → ∀ (a0 : Int) (a1 : (Sl Int)), ∀ (r : (Ow S_api_Record) × Bool), segment_elder q a0 a1 = some r → (orc T N).deep F.segment_elder [(V.int .i64) a0, (Sl.enc (V.int .u8)) a1] = some [(Ow.enc 7 S_api_Record.enc) r.1, V.bool r.2] := by
  intro q N hM a0 a1 r h
  rcases q with _ | q
  · cases h
  obtain ⟨M, rfl⟩ : ∃ M, N = M + 8 := ⟨N - 8, by omega⟩
  have ih_segment_elder_l0 := (all_segment_elder q)
  generalize hR : some [(Ow.enc 7 S_api_Record.enc) r.1, V.bool r.2] = R
  rw [orc_deep, T_segment_elder, Option.bind_some, runDeep_eq]
  rw [segment_elder] at h
  replace h := ih_segment_elder_l0 M (by omega) (M + 7) (by omega) _ _ _ _ _ _ h R hR
  simp (maxDischargeDepth := 12) only [A_segment_elder, kn, simprocAttr, qa, qb, qc, qd, Ow.enc, S_api_Op.enc, S_api_Record.enc, Sl.enc, *]
def A_frame_All := And.intro @kk <| And.intro @L_frame_All <| And.intro @v_frame_walk <| And.intro @rr_frame_All <| And.intro @ro_frame_All <| @b0_frame_All
theorem run_frame_All : ∀ (q N : Nat), 8 * q ≤ N → ∀ (a0 : (Sl Int)), ∀ (r : (Ow (Sl Int)) × Int), frame_All q a0 = some r → (orc T N).deep F.frame_All [(Sl.enc (V.int .u8)) a0] = some [(Ow.enc 1 (Sl.enc (V.int .u8))) r.1, (V.int .i64) r.2] := by
  intro q N hM a0 r h
  rcases q with _ | q
  · cases h
  obtain ⟨M, rfl⟩ : ∃ M, N = M + 8 := ⟨N - 8, by omega⟩
  generalize hR : some [(Ow.enc 1 (Sl.enc (V.int .u8))) r.1, (V.int .i64) r.2] = R
  rw [orc_deep, T_frame_All, Option.bind_some, runDeep_eq]
  rw [frame_All] at h
  rcases h1 : frame_walk q a0 with _ | r1
  · rw [h1] at h; cases h
  · rw [h1, Option.bind_some] at h
    replace h1 := run_frame_walk q (M + 7) (by omega) _ _ h1
    try simp only [Ow.enc, Sl.enc, kn, simprocAttr, qa, qb, qc, qd] at h1
    rcases Classical.em (r1.2.2 = 0) with h2 | h2
    · rw [if_pos h2] at h; replace h2 := eq_true h2
      cases h; subst hR; simp (maxDischargeDepth := 12) only [A_frame_All, kn, simprocAttr, qa, qb, qc, qd, Ow.enc, Sl.enc, *]
    · rw [if_neg h2] at h; replace h2 := eq_false h2
      cases h; subst hR; simp (maxDischargeDepth := 12) only [A_frame_All, kn, simprocAttr, qa, qb, qc, qd, Ow.enc, Sl.enc, *]
def St_segment_frames_l0 (q : Nat) : Prop := ∀ (M : Nat) (hM : 8 * q ≤ M) (j : Nat) (hj : q ≤ j) (v6z : Bool) (v6l : List (Sl Int)) (v7 : Int) (v8 : Int) (h0z : Bool) (h0l : List (Sl Int)) (r : (Ow (Sl Int))) (_ : segment_frames_l0 q v6z v6l v7 v8 h0z h0l = some r) (R : Option (List V)) (_ : some [(Ow.enc 1 (Sl.enc (V.int .u8))) r] = R) (fr : Fr) (H : Hp) (_ : canon 0 [3, 6, 7, 8] fr H = ([(3, (.vw 0 0 0 h0l.length 1)), (6, (.sl v6z (List.map (Sl.enc (V.int .u8)) v6l))), (7, (.int .i64 v7)), (8, (.int .i64 v8))], [(.row 0 h0z 1 (List.map (Sl.enc (V.int .u8)) h0l) true)])), fin m_segment_frames (unw T (orc T (M + 7)) (M + 7) 0 [.blk 0, .code c_segment_frames_15] (iter 0 [3, 6, 7, 8] (exec T (orc T (M + 7)) (M + 7) 0 c_segment_frames_12) j fr H)) = R
def A_segment_frames := And.intro @kk <| And.intro @L_segment_frames <| And.intro @v_segment_framed <| And.intro @rr_segment_frames <| And.intro @ro_segment_frames <| @b0_segment_frames
theorem step_segment_frames_l0 (q : Nat) (ih_segment_frames_l0 : St_segment_frames_l0 q) : St_segment_frames_l0 (q + 1) := by
  intro M hM j hj v6z v6l v7 v8 h0z h0l r h R hR fr H hc
  obtain ⟨j, rfl⟩ : ∃ i, j = i + 1 := ⟨j - 1, by omega⟩
  rw [unw_iter, hc]; clear hc
  rw [segment_frames_l0] at h
  rcases Classical.em (v8 < v7) with h1 | h1
  · rw [if_pos h1] at h; replace h1 := eq_true h1
    rcases Classical.em (0 ≤ v8) with h2 | h2
    · rw [if_pos h2] at h; replace h2 := eq_true h2
      rcases h3 : v6l[v8.toNat]? with _ | e1
      · rw [h3] at h; cases h
      · rw [h3, Option.bind_some] at h
        rcases h4 : segment_framed q e1 with _ | r2
        · rw [h4] at h; cases h
        · rw [h4, Option.bind_some] at h
          replace h4 := run_segment_framed q (M + 7) (by omega) _ _ h4
          try simp only [Ow.enc, Sl.enc, kn, simprocAttr, qa, qb, qc, qd] at h4
          rcases Classical.em ((h0l.length + 1) ≤ 4294967296) with h5 | h5
          · rw [if_pos h5] at h; replace h5 := eq_true h5
            try simp only [kn, simprocAttr, qa, qb, qc, qd] at h5
            replace h := ih_segment_frames_l0 M (by omega) j (by omega) _ _ _ _ _ _ _ h R hR
            simp (maxDischargeDepth := 12) only [A_segment_frames, kn, simprocAttr, qa, qb, qc, qd, Ow.enc, Sl.enc, *]
          · rw [if_neg h5] at h; replace h5 := eq_false h5
            try simp only [kn, simprocAttr, qa, qb, qc, qd] at h5
            cases h
    · rw [if_neg h2] at h; replace h2 := eq_false h2
      cases h
  · rw [if_neg h1] at h; replace h1 := eq_false h1
    cases h; subst hR; simp (maxDischargeDepth := 12) only [A_segment_frames, kn, simprocAttr, qa, qb, qc, qd, Ow.enc, Sl.enc, *]
theorem all_segment_frames : ∀ q, St_segment_frames_l0 q
  | 0 => by intro M hM j hj; intros; rename_i h _ _ _ _ _; cases h
  | q + 1 => by have i0 := all_segment_frames q; exact step_segment_frames_l0 q i0
theorem run_segment_frames : ∀ (q N : Nat), 8 * q ≤ N → ∀ (a0 : (Sl (Sl Int))), ∀ (r : (Ow (Sl Int))), segment_frames q a0 = some r → (orc T N).deep F.segment_frames [(Sl.enc (Sl.enc (V.int .u8))) a0] = some [(Ow.enc 1 (Sl.enc (V.int .u8))) r] := by
  intro q N hM a0 r h
  rcases q with _ | q
  · cases h
  obtain ⟨M, rfl⟩ : ∃ M, N = M + 8 := ⟨N - 8, by omega⟩
  have ih_segment_frames_l0 := (all_segment_frames q)
  generalize hR : some [(Ow.enc 1 (Sl.enc (V.int .u8))) r] = R
  rw [orc_deep, T_segment_frames, Option.bind_some, runDeep_eq]
  rw [segment_frames] at h
  replace h := ih_segment_frames_l0 M (by omega) (M + 7) (by omega) _ _ _ _ _ _ _ h R hR
  simp (maxDischargeDepth := 12) only [A_segment_frames, kn, simprocAttr, qa, qb, qc, qd, Ow.enc, Sl.enc, *]
end Go.Dvm.C
