/- The machine comes to these answers: part 2. -/
import Derived.Test.YtlcndafgippgjaaQl0
import Derived.Test.YtlcndafgippgjaaQr0
set_option linter.all false
set_option maxRecDepth 100000
set_option maxHeartbeats 4000000
namespace Go.Dvm.C
open Go Go.Dvm Go.Dvm.I
theorem run_segment_Body : ∀ (q N : Nat), 8 * q ≤ N → ∀ (a0 : Int) (a1 : (Sl S_api_Record)), ∀ (r : (Ow Int) × Int), segment_Body q a0 a1 = some r → (orc T N).deep F.segment_Body [(V.int .i64) a0, (Sl.enc S_api_Record.enc) a1] = some [(Ow.enc 1 (V.int .u8)) r.1, (V.int .i64) r.2] := by
  intro q N hM a0 a1 r h
  rcases q with _ | q
  · cases h
  obtain ⟨M, rfl⟩ : ∃ M, N = M + 8 := ⟨N - 8, by omega⟩
  generalize hR : some [(Ow.enc 1 (V.int .u8)) r.1, (V.int .i64) r.2] = R
  rw [orc_deep, T_segment_Body, Option.bind_some, runDeep_eq]
  rw [segment_Body] at h
  rcases h1 : segment_known q a0 with _ | r1
  · rw [h1] at h; cases h
  · rw [h1, Option.bind_some] at h
    replace h1 := run_segment_known q (M + 7) (by omega) _ _ h1
    skip
    rcases Classical.em (r1 = true) with h2 | h2
    · rw [if_pos h2] at h; have h2' := bt1 h2; replace h2 := eq_true h2
      rcases Classical.em (0 < (a1.l.length : Int)) with h3 | h3
      · rw [if_pos h3] at h; replace h3 := eq_true h3
        rcases h4 : a1.l[0]? with _ | e2
        · rw [h4] at h; cases h
        · rw [h4, Option.bind_some] at h
          rcases h5 : segment_fit q a1 e2.Index with _ | r3
          · rw [h5] at h; cases h
          · rw [h5, Option.bind_some] at h
            replace h5 := run_segment_fit q (M + 7) (by omega) _ _ _ h5
            try simp only [Ow.enc, S_api_Op.enc, S_api_Record.enc, Sl.enc, kn, simprocAttr, eq_self_iff_true, implies_true, forall_const, Int.cast_ofNat_Int] at h5
            rcases Classical.em (r3 = true) with h6 | h6
            · rw [if_pos h6] at h; have h6' := bt1 h6; replace h6 := eq_true h6
              rcases h7 : segment_blocks q a0 a1 with _ | r4
              · rw [h7] at h; cases h
              · rw [h7, Option.bind_some] at h
                replace h7 := run_segment_blocks q (M + 7) (by omega) _ _ _ h7
                try simp only [Ow.enc, S_api_Op.enc, S_api_Record.enc, Sl.enc, kn, simprocAttr, eq_self_iff_true, implies_true, forall_const, Int.cast_ofNat_Int] at h7
                rcases h8 : slices_Concat_byte_byte q ⟨r4.n, r4.xs⟩ with _ | r5
                · rw [h8] at h; cases h
                · rw [h8, Option.bind_some] at h
                  replace h8 := run_slices_Concat_byte_byte q (M + 7) (by omega) _ _ h8
                  try simp only [Ow.enc, Sl.enc, kn, simprocAttr, eq_self_iff_true, implies_true, forall_const, Int.cast_ofNat_Int] at h8
                  cases h; subst hR; simp (maxDischargeDepth := 12) only [kk, kn, simprocAttr, eq_self_iff_true, implies_true, forall_const, Int.cast_ofNat_Int, L_segment_Body, v_segment_fit, v_segment_blocks, v_slices_Concat_byte_byte, v_segment_known, Ow.enc, S_api_Op.enc, S_api_Record.enc, Sl.enc, rr_segment_Body, ro_segment_Body, b0_segment_Body, *]
            · rw [if_neg h6] at h; have h6' := bt0 h6; replace h6 := eq_false h6
              cases h; subst hR; simp (maxDischargeDepth := 12) only [kk, kn, simprocAttr, eq_self_iff_true, implies_true, forall_const, Int.cast_ofNat_Int, L_segment_Body, v_segment_fit, v_segment_blocks, v_slices_Concat_byte_byte, v_segment_known, Ow.enc, S_api_Op.enc, S_api_Record.enc, Sl.enc, rr_segment_Body, ro_segment_Body, b0_segment_Body, *]
      · rw [if_neg h3] at h; replace h3 := eq_false h3
        rcases h9 : segment_blocks q a0 a1 with _ | r6
        · rw [h9] at h; cases h
        · rw [h9, Option.bind_some] at h
          replace h9 := run_segment_blocks q (M + 7) (by omega) _ _ _ h9
          try simp only [Ow.enc, S_api_Op.enc, S_api_Record.enc, Sl.enc, kn, simprocAttr, eq_self_iff_true, implies_true, forall_const, Int.cast_ofNat_Int] at h9
          rcases h10 : slices_Concat_byte_byte q ⟨r6.n, r6.xs⟩ with _ | r7
          · rw [h10] at h; cases h
          · rw [h10, Option.bind_some] at h
            replace h10 := run_slices_Concat_byte_byte q (M + 7) (by omega) _ _ h10
            try simp only [Ow.enc, Sl.enc, kn, simprocAttr, eq_self_iff_true, implies_true, forall_const, Int.cast_ofNat_Int] at h10
            cases h; subst hR; simp (maxDischargeDepth := 12) only [kk, kn, simprocAttr, eq_self_iff_true, implies_true, forall_const, Int.cast_ofNat_Int, L_segment_Body, v_segment_fit, v_segment_blocks, v_slices_Concat_byte_byte, v_segment_known, Ow.enc, S_api_Op.enc, S_api_Record.enc, Sl.enc, rr_segment_Body, ro_segment_Body, b0_segment_Body, *]
    · rw [if_neg h2] at h; have h2' := bt0 h2; replace h2 := eq_false h2
      cases h; subst hR; simp (maxDischargeDepth := 12) only [kk, kn, simprocAttr, eq_self_iff_true, implies_true, forall_const, Int.cast_ofNat_Int, L_segment_Body, v_segment_fit, v_segment_blocks, v_slices_Concat_byte_byte, v_segment_known, Ow.enc, S_api_Op.enc, S_api_Record.enc, Sl.enc, rr_segment_Body, ro_segment_Body, b0_segment_Body, *]
theorem run_ferrymanlaw08_SegmentParts : ∀ (q N : Nat), 8 * q ≤ N → ∀ (a0 : Int) (a1 : S_api_Segment) (a2 : Int), ∀ (r : Bool), ferrymanlaw08_SegmentParts q a0 a1 a2 = some r → (orc T N).deep F.ferrymanlaw08_SegmentParts [(V.int .i64) a0, S_api_Segment.enc a1, (V.int .i64) a2] = some [V.bool r] := by
  intro q N hM a0 a1 a2 r h
  rcases q with _ | q
  · cases h
  obtain ⟨M, rfl⟩ : ∃ M, N = M + 8 := ⟨N - 8, by omega⟩
  generalize hR : some [V.bool r] = R
  rw [orc_deep, T_ferrymanlaw08_SegmentParts, Option.bind_some, runDeep_eq]
  rw [ferrymanlaw08_SegmentParts] at h
  rcases h1 : ferrymanlaw08_awake q with _ | r1
  · rw [h1] at h; cases h
  · rw [h1, Option.bind_some] at h
    replace h1 := run_ferrymanlaw08_awake q (M + 7) (by omega)  _ h1
    skip
    rcases Classical.em (r1 = true) with h2 | h2
    · rw [if_pos h2] at h; have h2' := bt1 h2; replace h2 := eq_true h2
      rcases Classical.em (100 < (a1.Records.l.length : Int)) with h3 | h3
      · rw [if_pos h3] at h; replace h3 := eq_true h3
        cases h; subst hR; simp (maxDischargeDepth := 12) only [kk, kn, simprocAttr, eq_self_iff_true, implies_true, forall_const, Int.cast_ofNat_Int, L_ferrymanlaw08_SegmentParts, v_ferrymanlaw08_awake, v_segment_Body, Ow.enc, S_api_Op.enc, S_api_Record.enc, S_api_Segment.enc, Sl.enc, rr_ferrymanlaw08_SegmentParts, ro_ferrymanlaw08_SegmentParts, b0_ferrymanlaw08_SegmentParts, *]
      · rw [if_neg h3] at h; replace h3 := eq_false h3
        rcases Classical.em (a2 < 0) with h4 | h4
        · rw [if_pos h4] at h; replace h4 := eq_true h4
          cases h; subst hR; simp (maxDischargeDepth := 12) only [kk, kn, simprocAttr, eq_self_iff_true, implies_true, forall_const, Int.cast_ofNat_Int, L_ferrymanlaw08_SegmentParts, v_ferrymanlaw08_awake, v_segment_Body, Ow.enc, S_api_Op.enc, S_api_Record.enc, S_api_Segment.enc, Sl.enc, rr_ferrymanlaw08_SegmentParts, ro_ferrymanlaw08_SegmentParts, b0_ferrymanlaw08_SegmentParts, *]
        · rw [if_neg h4] at h; replace h4 := eq_false h4
          rcases Classical.em (10 < a2) with h5 | h5
          · rw [if_pos h5] at h; replace h5 := eq_true h5
            cases h; subst hR; simp (maxDischargeDepth := 12) only [kk, kn, simprocAttr, eq_self_iff_true, implies_true, forall_const, Int.cast_ofNat_Int, L_ferrymanlaw08_SegmentParts, v_ferrymanlaw08_awake, v_segment_Body, Ow.enc, S_api_Op.enc, S_api_Record.enc, S_api_Segment.enc, Sl.enc, rr_ferrymanlaw08_SegmentParts, ro_ferrymanlaw08_SegmentParts, b0_ferrymanlaw08_SegmentParts, *]
          · rw [if_neg h5] at h; replace h5 := eq_false h5
            rcases Classical.em ((a1.Records.l.length : Int) < (wrp .i64 (a2 * 16))) with h6 | h6
            · rw [if_pos h6] at h; replace h6 := eq_true h6
              cases h; subst hR; simp (maxDischargeDepth := 12) only [kk, kn, simprocAttr, eq_self_iff_true, implies_true, forall_const, Int.cast_ofNat_Int, L_ferrymanlaw08_SegmentParts, v_ferrymanlaw08_awake, v_segment_Body, Ow.enc, S_api_Op.enc, S_api_Record.enc, S_api_Segment.enc, Sl.enc, rr_ferrymanlaw08_SegmentParts, ro_ferrymanlaw08_SegmentParts, b0_ferrymanlaw08_SegmentParts, *]
            · rw [if_neg h6] at h; replace h6 := eq_false h6
              rcases Classical.em (0 ≤ (wrp .i64 (a2 * 16))) with h7 | h7
              · rw [if_pos h7] at h; replace h7 := eq_true h7
                rcases Classical.em ((wrp .i64 (a2 * 16)).toNat ≤ a1.Records.l.length) with h8 | h8
                · rw [if_pos h8] at h; replace h8 := eq_true h8
                  rcases h9 : segment_Body q a0 ⟨a1.Records.z, (List.take ((wrp .i64 (a2 * 16)).toNat) a1.Records.l)⟩ with _ | r2
                  · rw [h9] at h; cases h
                  · rw [h9, Option.bind_some] at h
                    replace h9 := run_segment_Body q (M + 7) (by omega) _ _ _ h9
                    try simp only [Ow.enc, S_api_Op.enc, S_api_Record.enc, Sl.enc, kn, simprocAttr, eq_self_iff_true, implies_true, forall_const, Int.cast_ofNat_Int] at h9
                    rcases Classical.em ((wrp .i64 (a2 * 16)) ≤ (a1.Records.l.length : Int)) with h10 | h10
                    · rw [if_pos h10] at h; replace h10 := eq_true h10
                      rcases h11 : segment_Body q a0 ⟨a1.Records.z, (List.drop ((wrp .i64 (a2 * 16)).toNat) a1.Records.l)⟩ with _ | r3
                      · rw [h11] at h; cases h
                      · rw [h11, Option.bind_some] at h
                        replace h11 := run_segment_Body q (M + 7) (by omega) _ _ _ h11
                        try simp only [Ow.enc, S_api_Op.enc, S_api_Record.enc, Sl.enc, kn, simprocAttr, eq_self_iff_true, implies_true, forall_const, Int.cast_ofNat_Int] at h11
                        rcases h12 : segment_Body q a0 a1.Records with _ | r4
                        · rw [h12] at h; cases h
                        · rw [h12, Option.bind_some] at h
                          replace h12 := run_segment_Body q (M + 7) (by omega) _ _ _ h12
                          try simp only [Ow.enc, S_api_Op.enc, S_api_Record.enc, Sl.enc, kn, simprocAttr, eq_self_iff_true, implies_true, forall_const, Int.cast_ofNat_Int] at h12
                          rcases Classical.em (r4.2 = 0) with h13 | h13
                          · rw [if_pos h13] at h; replace h13 := eq_true h13
                            rcases Classical.em (r2.2 = 0) with h14 | h14
                            · rw [if_pos h14] at h; replace h14 := eq_true h14
                              rcases Classical.em (r3.2 = 0) with h15 | h15
                              · rw [if_pos h15] at h; replace h15 := eq_true h15
                                rcases Classical.em ((r2.1.xs.length + r3.1.xs.length) ≤ 1099511627776) with h16 | h16
                                · rw [if_pos h16] at h; replace h16 := eq_true h16
                                  try simp only [kn, simprocAttr, eq_self_iff_true, implies_true, forall_const, Int.cast_ofNat_Int] at h16
                                  cases h; subst hR; simp (maxDischargeDepth := 12) only [kk, kn, simprocAttr, eq_self_iff_true, implies_true, forall_const, Int.cast_ofNat_Int, L_ferrymanlaw08_SegmentParts, v_ferrymanlaw08_awake, v_segment_Body, Ow.enc, S_api_Op.enc, S_api_Record.enc, S_api_Segment.enc, Sl.enc, rr_ferrymanlaw08_SegmentParts, ro_ferrymanlaw08_SegmentParts, b0_ferrymanlaw08_SegmentParts, *]
                                · rw [if_neg h16] at h; replace h16 := eq_false h16
                                  try simp only [kn, simprocAttr, eq_self_iff_true, implies_true, forall_const, Int.cast_ofNat_Int] at h16
                                  cases h
                              · rw [if_neg h15] at h; replace h15 := eq_false h15
                                cases h; subst hR; simp (maxDischargeDepth := 12) only [kk, kn, simprocAttr, eq_self_iff_true, implies_true, forall_const, Int.cast_ofNat_Int, L_ferrymanlaw08_SegmentParts, v_ferrymanlaw08_awake, v_segment_Body, Ow.enc, S_api_Op.enc, S_api_Record.enc, S_api_Segment.enc, Sl.enc, rr_ferrymanlaw08_SegmentParts, ro_ferrymanlaw08_SegmentParts, b0_ferrymanlaw08_SegmentParts, *]
                            · rw [if_neg h14] at h; replace h14 := eq_false h14
                              cases h; subst hR; simp (maxDischargeDepth := 12) only [kk, kn, simprocAttr, eq_self_iff_true, implies_true, forall_const, Int.cast_ofNat_Int, L_ferrymanlaw08_SegmentParts, v_ferrymanlaw08_awake, v_segment_Body, Ow.enc, S_api_Op.enc, S_api_Record.enc, S_api_Segment.enc, Sl.enc, rr_ferrymanlaw08_SegmentParts, ro_ferrymanlaw08_SegmentParts, b0_ferrymanlaw08_SegmentParts, *]
                          · rw [if_neg h13] at h; replace h13 := eq_false h13
                            cases h; subst hR; simp (maxDischargeDepth := 12) only [kk, kn, simprocAttr, eq_self_iff_true, implies_true, forall_const, Int.cast_ofNat_Int, L_ferrymanlaw08_SegmentParts, v_ferrymanlaw08_awake, v_segment_Body, Ow.enc, S_api_Op.enc, S_api_Record.enc, S_api_Segment.enc, Sl.enc, rr_ferrymanlaw08_SegmentParts, ro_ferrymanlaw08_SegmentParts, b0_ferrymanlaw08_SegmentParts, *]
                    · rw [if_neg h10] at h; replace h10 := eq_false h10
                      cases h
                · rw [if_neg h8] at h; replace h8 := eq_false h8
                  cases h
              · rw [if_neg h7] at h; replace h7 := eq_false h7
                cases h
    · rw [if_neg h2] at h; have h2' := bt0 h2; replace h2 := eq_false h2
      cases h; subst hR; simp (maxDischargeDepth := 12) only [kk, kn, simprocAttr, eq_self_iff_true, implies_true, forall_const, Int.cast_ofNat_Int, L_ferrymanlaw08_SegmentParts, v_ferrymanlaw08_awake, v_segment_Body, Ow.enc, S_api_Op.enc, S_api_Record.enc, S_api_Segment.enc, Sl.enc, rr_ferrymanlaw08_SegmentParts, ro_ferrymanlaw08_SegmentParts, b0_ferrymanlaw08_SegmentParts, *]
end Go.Dvm.C
