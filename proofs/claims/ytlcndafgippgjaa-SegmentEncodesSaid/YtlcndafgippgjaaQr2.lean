/- The machine comes to these answers: part 3. -/
import Derived.Test.YtlcndafgippgjaaQl0
import Derived.Test.YtlcndafgippgjaaQr0
import Derived.Test.YtlcndafgippgjaaQr1
set_option linter.all false
set_option maxRecDepth 100000
set_option maxHeartbeats 4000000
namespace Go.Dvm.C
open Go Go.Dvm Go.Dvm.I
theorem run_ferrymanref08_Body : ∀ (q N : Nat), 8 * q ≤ N → ∀ (a0 : Int) (a1 : (Sl S_api_Record)), ∀ (r : (Ow Int) × Int), ferrymanref08_Body q a0 a1 = some r → (orc T N).deep F.ferrymanref08_Body [(V.int .i64) a0, (Sl.enc S_api_Record.enc) a1] = some [(Ow.enc 1 (V.int .u8)) r.1, (V.int .i64) r.2] := by
  intro q N hM a0 a1 r h
  rcases q with _ | q
  · cases h
  obtain ⟨M, rfl⟩ : ∃ M, N = M + 8 := ⟨N - 8, by omega⟩
  generalize hR : some [(Ow.enc 1 (V.int .u8)) r.1, (V.int .i64) r.2] = R
  rw [orc_deep, T_ferrymanref08_Body, Option.bind_some, runDeep_eq]
  rw [ferrymanref08_Body] at h
  rcases Classical.em (a0 < 1) with h1 | h1
  · rw [if_pos h1] at h; replace h1 := eq_true h1
    cases h; subst hR; simp (maxDischargeDepth := 12) only [kk, kn, simprocAttr, eq_self_iff_true, implies_true, forall_const, Int.cast_ofNat_Int, L_ferrymanref08_Body, v_ferrymanref08_frames, v_ferrymanref08_joined, v_ferrymanref08_records, Ow.enc, S_api_Op.enc, S_api_Record.enc, Sl.enc, rr_ferrymanref08_Body, ro_ferrymanref08_Body, b0_ferrymanref08_Body, *]
  · rw [if_neg h1] at h; replace h1 := eq_false h1
    rcases Classical.em (3 < a0) with h2 | h2
    · rw [if_pos h2] at h; replace h2 := eq_true h2
      cases h; subst hR; simp (maxDischargeDepth := 12) only [kk, kn, simprocAttr, eq_self_iff_true, implies_true, forall_const, Int.cast_ofNat_Int, L_ferrymanref08_Body, v_ferrymanref08_frames, v_ferrymanref08_joined, v_ferrymanref08_records, Ow.enc, S_api_Op.enc, S_api_Record.enc, Sl.enc, rr_ferrymanref08_Body, ro_ferrymanref08_Body, b0_ferrymanref08_Body, *]
    · rw [if_neg h2] at h; replace h2 := eq_false h2
      rcases Classical.em (0 < (a1.l.length : Int)) with h3 | h3
      · rw [if_pos h3] at h; replace h3 := eq_true h3
        rcases h4 : a1.l[0]? with _ | e1
        · rw [h4] at h; cases h
        · rw [h4, Option.bind_some] at h
          rcases h5 : ferrymanref08_records q a1 e1.Index with _ | r2
          · rw [h5] at h; cases h
          · rw [h5, Option.bind_some] at h
            replace h5 := run_ferrymanref08_records q (M + 7) (by omega) _ _ _ h5
            try simp only [Ow.enc, S_api_Op.enc, S_api_Record.enc, Sl.enc, kn, simprocAttr, eq_self_iff_true, implies_true, forall_const, Int.cast_ofNat_Int] at h5
            rcases Classical.em (r2 = true) with h6 | h6
            · rw [if_pos h6] at h; have h6' := bt1 h6; replace h6 := eq_true h6
              rcases h7 : ferrymanref08_frames q a0 a1 with _ | r3
              · rw [h7] at h; cases h
              · rw [h7, Option.bind_some] at h
                replace h7 := run_ferrymanref08_frames q (M + 7) (by omega) _ _ _ h7
                try simp only [Ow.enc, S_api_Op.enc, S_api_Record.enc, Sl.enc, kn, simprocAttr, eq_self_iff_true, implies_true, forall_const, Int.cast_ofNat_Int] at h7
                rcases h8 : ferrymanref08_joined q ⟨r3.n, r3.xs⟩ with _ | r4
                · rw [h8] at h; cases h
                · rw [h8, Option.bind_some] at h
                  replace h8 := run_ferrymanref08_joined q (M + 7) (by omega) _ _ h8
                  try simp only [Ow.enc, Sl.enc, kn, simprocAttr, eq_self_iff_true, implies_true, forall_const, Int.cast_ofNat_Int] at h8
                  cases h; subst hR; simp (maxDischargeDepth := 12) only [kk, kn, simprocAttr, eq_self_iff_true, implies_true, forall_const, Int.cast_ofNat_Int, L_ferrymanref08_Body, v_ferrymanref08_frames, v_ferrymanref08_joined, v_ferrymanref08_records, Ow.enc, S_api_Op.enc, S_api_Record.enc, Sl.enc, rr_ferrymanref08_Body, ro_ferrymanref08_Body, b0_ferrymanref08_Body, *]
            · rw [if_neg h6] at h; have h6' := bt0 h6; replace h6 := eq_false h6
              cases h; subst hR; simp (maxDischargeDepth := 12) only [kk, kn, simprocAttr, eq_self_iff_true, implies_true, forall_const, Int.cast_ofNat_Int, L_ferrymanref08_Body, v_ferrymanref08_frames, v_ferrymanref08_joined, v_ferrymanref08_records, Ow.enc, S_api_Op.enc, S_api_Record.enc, Sl.enc, rr_ferrymanref08_Body, ro_ferrymanref08_Body, b0_ferrymanref08_Body, *]
      · rw [if_neg h3] at h; replace h3 := eq_false h3
        rcases h9 : ferrymanref08_records q a1 0 with _ | r5
        · rw [h9] at h; cases h
        · rw [h9, Option.bind_some] at h
          replace h9 := run_ferrymanref08_records q (M + 7) (by omega) _ _ _ h9
          try simp only [Ow.enc, S_api_Op.enc, S_api_Record.enc, Sl.enc, kn, simprocAttr, eq_self_iff_true, implies_true, forall_const, Int.cast_ofNat_Int] at h9
          rcases Classical.em (r5 = true) with h10 | h10
          · rw [if_pos h10] at h; have h10' := bt1 h10; replace h10 := eq_true h10
            rcases h11 : ferrymanref08_frames q a0 a1 with _ | r6
            · rw [h11] at h; cases h
            · rw [h11, Option.bind_some] at h
              replace h11 := run_ferrymanref08_frames q (M + 7) (by omega) _ _ _ h11
              try simp only [Ow.enc, S_api_Op.enc, S_api_Record.enc, Sl.enc, kn, simprocAttr, eq_self_iff_true, implies_true, forall_const, Int.cast_ofNat_Int] at h11
              rcases h12 : ferrymanref08_joined q ⟨r6.n, r6.xs⟩ with _ | r7
              · rw [h12] at h; cases h
              · rw [h12, Option.bind_some] at h
                replace h12 := run_ferrymanref08_joined q (M + 7) (by omega) _ _ h12
                try simp only [Ow.enc, Sl.enc, kn, simprocAttr, eq_self_iff_true, implies_true, forall_const, Int.cast_ofNat_Int] at h12
                cases h; subst hR; simp (maxDischargeDepth := 12) only [kk, kn, simprocAttr, eq_self_iff_true, implies_true, forall_const, Int.cast_ofNat_Int, L_ferrymanref08_Body, v_ferrymanref08_frames, v_ferrymanref08_joined, v_ferrymanref08_records, Ow.enc, S_api_Op.enc, S_api_Record.enc, Sl.enc, rr_ferrymanref08_Body, ro_ferrymanref08_Body, b0_ferrymanref08_Body, *]
          · rw [if_neg h10] at h; have h10' := bt0 h10; replace h10 := eq_false h10
            cases h; subst hR; simp (maxDischargeDepth := 12) only [kk, kn, simprocAttr, eq_self_iff_true, implies_true, forall_const, Int.cast_ofNat_Int, L_ferrymanref08_Body, v_ferrymanref08_frames, v_ferrymanref08_joined, v_ferrymanref08_records, Ow.enc, S_api_Op.enc, S_api_Record.enc, Sl.enc, rr_ferrymanref08_Body, ro_ferrymanref08_Body, b0_ferrymanref08_Body, *]
theorem run_ferrymanlaw08_SegmentEncodes : ∀ (q N : Nat), 8 * q ≤ N → ∀ (a0 : Int) (a1 : S_api_Segment), ∀ (r : Bool), ferrymanlaw08_SegmentEncodes q a0 a1 = some r → (orc T N).deep F.ferrymanlaw08_SegmentEncodes [(V.int .i64) a0, S_api_Segment.enc a1] = some [V.bool r] := by
  intro q N hM a0 a1 r h
  rcases q with _ | q
  · cases h
  obtain ⟨M, rfl⟩ : ∃ M, N = M + 8 := ⟨N - 8, by omega⟩
  generalize hR : some [V.bool r] = R
  rw [orc_deep, T_ferrymanlaw08_SegmentEncodes, Option.bind_some, runDeep_eq]
  rw [ferrymanlaw08_SegmentEncodes] at h
  rcases h1 : ferrymanlaw08_awake q with _ | r1
  · rw [h1] at h; cases h
  · rw [h1, Option.bind_some] at h
    replace h1 := run_ferrymanlaw08_awake q (M + 7) (by omega)  _ h1
    skip
    rcases Classical.em (100 < (a1.Records.l.length : Int)) with h2 | h2
    · rw [if_pos h2] at h; replace h2 := eq_true h2
      cases h; subst hR; simp (maxDischargeDepth := 12) only [kk, kn, simprocAttr, eq_self_iff_true, implies_true, forall_const, Int.cast_ofNat_Int, L_ferrymanlaw08_SegmentEncodes, v_ferrymanlaw08_awake, v_segment_Encode, v_ferrymanref08_Encode, v_segment_Head, v_ferrymanref08_Head, v_segment_Body, v_ferrymanref08_Body, Ow.enc, S_api_Op.enc, S_api_Record.enc, S_api_Segment.enc, Sl.enc, rr_ferrymanlaw08_SegmentEncodes, ro_ferrymanlaw08_SegmentEncodes, b0_ferrymanlaw08_SegmentEncodes, *]
    · rw [if_neg h2] at h; replace h2 := eq_false h2
      rcases h3 : segment_Encode q a0 a1 with _ | r2
      · rw [h3] at h; cases h
      · rw [h3, Option.bind_some] at h
        replace h3 := run_segment_Encode q (M + 7) (by omega) _ _ _ h3
        try simp only [Ow.enc, S_api_Op.enc, S_api_Record.enc, S_api_Segment.enc, Sl.enc, kn, simprocAttr, eq_self_iff_true, implies_true, forall_const, Int.cast_ofNat_Int] at h3
        rcases h4 : ferrymanref08_Encode q a0 a1 with _ | r3
        · rw [h4] at h; cases h
        · rw [h4, Option.bind_some] at h
          replace h4 := run_ferrymanref08_Encode q (M + 7) (by omega) _ _ _ h4
          try simp only [Ow.enc, S_api_Op.enc, S_api_Record.enc, S_api_Segment.enc, Sl.enc, kn, simprocAttr, eq_self_iff_true, implies_true, forall_const, Int.cast_ofNat_Int] at h4
          rcases h5 : segment_Head q a0 a1.Kind a1.First with _ | r4
          · rw [h5] at h; cases h
          · rw [h5, Option.bind_some] at h
            replace h5 := run_segment_Head q (M + 7) (by omega) _ _ _ _ h5
            try simp only [Ow.enc, kn, simprocAttr, eq_self_iff_true, implies_true, forall_const, Int.cast_ofNat_Int] at h5
            rcases h6 : ferrymanref08_Head q a0 a1.Kind a1.First with _ | r5
            · rw [h6] at h; cases h
            · rw [h6, Option.bind_some] at h
              replace h6 := run_ferrymanref08_Head q (M + 7) (by omega) _ _ _ _ h6
              try simp only [Ow.enc, kn, simprocAttr, eq_self_iff_true, implies_true, forall_const, Int.cast_ofNat_Int] at h6
              rcases h7 : segment_Body q a0 a1.Records with _ | r6
              · rw [h7] at h; cases h
              · rw [h7, Option.bind_some] at h
                replace h7 := run_segment_Body q (M + 7) (by omega) _ _ _ h7
                try simp only [Ow.enc, S_api_Op.enc, S_api_Record.enc, Sl.enc, kn, simprocAttr, eq_self_iff_true, implies_true, forall_const, Int.cast_ofNat_Int] at h7
                rcases h8 : ferrymanref08_Body q a0 a1.Records with _ | r7
                · rw [h8] at h; cases h
                · rw [h8, Option.bind_some] at h
                  replace h8 := run_ferrymanref08_Body q (M + 7) (by omega) _ _ _ h8
                  try simp only [Ow.enc, S_api_Op.enc, S_api_Record.enc, Sl.enc, kn, simprocAttr, eq_self_iff_true, implies_true, forall_const, Int.cast_ofNat_Int] at h8
                  rcases Classical.em (r1 = true) with h9 | h9
                  · rw [if_pos h9] at h; have h9' := bt1 h9; replace h9 := eq_true h9
                    rcases Classical.em (r2.1.xs = r3.1.xs) with h10 | h10
                    · rw [if_pos h10] at h; replace h10 := eq_true h10
                      rcases Classical.em (r2.2 = r3.2) with h11 | h11
                      · rw [if_pos h11] at h; replace h11 := eq_true h11
                        rcases Classical.em (r4.1.xs = r5.1.xs) with h12 | h12
                        · rw [if_pos h12] at h; replace h12 := eq_true h12
                          rcases Classical.em (r4.2 = r5.2) with h13 | h13
                          · rw [if_pos h13] at h; replace h13 := eq_true h13
                            rcases Classical.em (r6.1.xs = r7.1.xs) with h14 | h14
                            · rw [if_pos h14] at h; replace h14 := eq_true h14
                              cases h; subst hR; simp (maxDischargeDepth := 12) only [kk, kn, simprocAttr, eq_self_iff_true, implies_true, forall_const, Int.cast_ofNat_Int, L_ferrymanlaw08_SegmentEncodes, v_ferrymanlaw08_awake, v_segment_Encode, v_ferrymanref08_Encode, v_segment_Head, v_ferrymanref08_Head, v_segment_Body, v_ferrymanref08_Body, Ow.enc, S_api_Op.enc, S_api_Record.enc, S_api_Segment.enc, Sl.enc, rr_ferrymanlaw08_SegmentEncodes, ro_ferrymanlaw08_SegmentEncodes, b0_ferrymanlaw08_SegmentEncodes, *]
                            · rw [if_neg h14] at h; replace h14 := eq_false h14
                              cases h; subst hR; simp (maxDischargeDepth := 12) only [kk, kn, simprocAttr, eq_self_iff_true, implies_true, forall_const, Int.cast_ofNat_Int, L_ferrymanlaw08_SegmentEncodes, v_ferrymanlaw08_awake, v_segment_Encode, v_ferrymanref08_Encode, v_segment_Head, v_ferrymanref08_Head, v_segment_Body, v_ferrymanref08_Body, Ow.enc, S_api_Op.enc, S_api_Record.enc, S_api_Segment.enc, Sl.enc, rr_ferrymanlaw08_SegmentEncodes, ro_ferrymanlaw08_SegmentEncodes, b0_ferrymanlaw08_SegmentEncodes, *]
                          · rw [if_neg h13] at h; replace h13 := eq_false h13
                            cases h; subst hR; simp (maxDischargeDepth := 12) only [kk, kn, simprocAttr, eq_self_iff_true, implies_true, forall_const, Int.cast_ofNat_Int, L_ferrymanlaw08_SegmentEncodes, v_ferrymanlaw08_awake, v_segment_Encode, v_ferrymanref08_Encode, v_segment_Head, v_ferrymanref08_Head, v_segment_Body, v_ferrymanref08_Body, Ow.enc, S_api_Op.enc, S_api_Record.enc, S_api_Segment.enc, Sl.enc, rr_ferrymanlaw08_SegmentEncodes, ro_ferrymanlaw08_SegmentEncodes, b0_ferrymanlaw08_SegmentEncodes, *]
                        · rw [if_neg h12] at h; replace h12 := eq_false h12
                          cases h; subst hR; simp (maxDischargeDepth := 12) only [kk, kn, simprocAttr, eq_self_iff_true, implies_true, forall_const, Int.cast_ofNat_Int, L_ferrymanlaw08_SegmentEncodes, v_ferrymanlaw08_awake, v_segment_Encode, v_ferrymanref08_Encode, v_segment_Head, v_ferrymanref08_Head, v_segment_Body, v_ferrymanref08_Body, Ow.enc, S_api_Op.enc, S_api_Record.enc, S_api_Segment.enc, Sl.enc, rr_ferrymanlaw08_SegmentEncodes, ro_ferrymanlaw08_SegmentEncodes, b0_ferrymanlaw08_SegmentEncodes, *]
                      · rw [if_neg h11] at h; replace h11 := eq_false h11
                        cases h; subst hR; simp (maxDischargeDepth := 12) only [kk, kn, simprocAttr, eq_self_iff_true, implies_true, forall_const, Int.cast_ofNat_Int, L_ferrymanlaw08_SegmentEncodes, v_ferrymanlaw08_awake, v_segment_Encode, v_ferrymanref08_Encode, v_segment_Head, v_ferrymanref08_Head, v_segment_Body, v_ferrymanref08_Body, Ow.enc, S_api_Op.enc, S_api_Record.enc, S_api_Segment.enc, Sl.enc, rr_ferrymanlaw08_SegmentEncodes, ro_ferrymanlaw08_SegmentEncodes, b0_ferrymanlaw08_SegmentEncodes, *]
                    · rw [if_neg h10] at h; replace h10 := eq_false h10
                      cases h; subst hR; simp (maxDischargeDepth := 12) only [kk, kn, simprocAttr, eq_self_iff_true, implies_true, forall_const, Int.cast_ofNat_Int, L_ferrymanlaw08_SegmentEncodes, v_ferrymanlaw08_awake, v_segment_Encode, v_ferrymanref08_Encode, v_segment_Head, v_ferrymanref08_Head, v_segment_Body, v_ferrymanref08_Body, Ow.enc, S_api_Op.enc, S_api_Record.enc, S_api_Segment.enc, Sl.enc, rr_ferrymanlaw08_SegmentEncodes, ro_ferrymanlaw08_SegmentEncodes, b0_ferrymanlaw08_SegmentEncodes, *]
                  · rw [if_neg h9] at h; have h9' := bt0 h9; replace h9 := eq_false h9
                    cases h; subst hR; simp (maxDischargeDepth := 12) only [kk, kn, simprocAttr, eq_self_iff_true, implies_true, forall_const, Int.cast_ofNat_Int, L_ferrymanlaw08_SegmentEncodes, v_ferrymanlaw08_awake, v_segment_Encode, v_ferrymanref08_Encode, v_segment_Head, v_ferrymanref08_Head, v_segment_Body, v_ferrymanref08_Body, Ow.enc, S_api_Op.enc, S_api_Record.enc, S_api_Segment.enc, Sl.enc, rr_ferrymanlaw08_SegmentEncodes, ro_ferrymanlaw08_SegmentEncodes, b0_ferrymanlaw08_SegmentEncodes, *]
end Go.Dvm.C
