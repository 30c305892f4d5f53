/- The machine comes to these answers: part 2. -/
import Derived.Test.YtlcndafgippgjaaQl0
import Derived.Test.YtlcndafgippgjaaQr0
set_option linter.all false
set_option maxRecDepth 100000
set_option maxHeartbeats 4000000
namespace Go.Dvm.C
open Go Go.Dvm Go.Dvm.I
theorem run_ferrymanref04_Fits : ∀ (q N : Nat), 8 * q ≤ N → ∀ (a0 : S_api_Op), ∀ (r : Bool), ferrymanref04_Fits q a0 = some r → (orc T N).deep F.ferrymanref04_Fits [S_api_Op.enc a0] = some [V.bool r] := by
  intro q N hM a0 r h
  rcases q with _ | q
  · cases h
  obtain ⟨M, rfl⟩ : ∃ M, N = M + 8 := ⟨N - 8, by omega⟩
  generalize hR : some [V.bool r] = R
  rw [orc_deep, T_ferrymanref04_Fits, Option.bind_some, runDeep_eq]
  rw [ferrymanref04_Fits] at h
  rcases Classical.em (0 ≤ a0.Code) with h1 | h1
  · rw [if_pos h1] at h; replace h1 := eq_true h1
    rcases Classical.em (a0.Code ≤ 10) with h2 | h2
    · rw [if_pos h2] at h; replace h2 := eq_true h2
      rcases h3 : ferrymanref04_cut q a0.A with _ | r1
      · rw [h3] at h; cases h
      · rw [h3, Option.bind_some] at h
        replace h3 := run_ferrymanref04_cut q (M + 7) (by omega) _ _ h3
        skip
        rcases Classical.em (a0.A = r1) with h4 | h4
        · rw [if_pos h4] at h; replace h4 := eq_true h4
          rcases h5 : ferrymanref04_cut q a0.B with _ | r2
          · rw [h5] at h; cases h
          · rw [h5, Option.bind_some] at h
            replace h5 := run_ferrymanref04_cut q (M + 7) (by omega) _ _ h5
            skip
            cases h; subst hR; simp (maxDischargeDepth := 12) only [kk, kn, simprocAttr, eq_self_iff_true, implies_true, forall_const, Int.cast_ofNat_Int, L_ferrymanref04_Fits, v_ferrymanref04_cut, Ow.enc, S_api_Op.enc, Sl.enc, rr_ferrymanref04_Fits, ro_ferrymanref04_Fits, b0_ferrymanref04_Fits, *]
        · rw [if_neg h4] at h; replace h4 := eq_false h4
          cases h; subst hR; simp (maxDischargeDepth := 12) only [kk, kn, simprocAttr, eq_self_iff_true, implies_true, forall_const, Int.cast_ofNat_Int, L_ferrymanref04_Fits, v_ferrymanref04_cut, Ow.enc, S_api_Op.enc, Sl.enc, rr_ferrymanref04_Fits, ro_ferrymanref04_Fits, b0_ferrymanref04_Fits, *]
    · rw [if_neg h2] at h; replace h2 := eq_false h2
      cases h; subst hR; simp (maxDischargeDepth := 12) only [kk, kn, simprocAttr, eq_self_iff_true, implies_true, forall_const, Int.cast_ofNat_Int, L_ferrymanref04_Fits, v_ferrymanref04_cut, Ow.enc, S_api_Op.enc, Sl.enc, rr_ferrymanref04_Fits, ro_ferrymanref04_Fits, b0_ferrymanref04_Fits, *]
  · rw [if_neg h1] at h; replace h1 := eq_false h1
    cases h; subst hR; simp (maxDischargeDepth := 12) only [kk, kn, simprocAttr, eq_self_iff_true, implies_true, forall_const, Int.cast_ofNat_Int, L_ferrymanref04_Fits, v_ferrymanref04_cut, Ow.enc, S_api_Op.enc, Sl.enc, rr_ferrymanref04_Fits, ro_ferrymanref04_Fits, b0_ferrymanref04_Fits, *]
theorem run_ferrymanref06_Fits : ∀ (q N : Nat), 8 * q ≤ N → ∀ (a0 : S_api_Record), ∀ (r : Bool), ferrymanref06_Fits q a0 = some r → (orc T N).deep F.ferrymanref06_Fits [S_api_Record.enc a0] = some [V.bool r] := by
  intro q N hM a0 r h
  rcases q with _ | q
  · cases h
  obtain ⟨M, rfl⟩ : ∃ M, N = M + 8 := ⟨N - 8, by omega⟩
  generalize hR : some [V.bool r] = R
  rw [orc_deep, T_ferrymanref06_Fits, Option.bind_some, runDeep_eq]
  rw [ferrymanref06_Fits] at h
  rcases h1 : ferrymanref04_Fits q a0.Op with _ | r1
  · rw [h1] at h; cases h
  · rw [h1, Option.bind_some] at h
    replace h1 := run_ferrymanref04_Fits q (M + 7) (by omega) _ _ h1
    try simp only [Ow.enc, S_api_Op.enc, kn, simprocAttr, eq_self_iff_true, implies_true, forall_const, Int.cast_ofNat_Int] at h1
    rcases Classical.em (r1 = true) with h2 | h2
    · rw [if_pos h2] at h; have h2' := bt1 h2; replace h2 := eq_true h2
      rcases Classical.em (0 ≤ a0.Index) with h3 | h3
      · rw [if_pos h3] at h; replace h3 := eq_true h3
        rcases Classical.em (a0.Index < 4611686018427387904) with h4 | h4
        · rw [if_pos h4] at h; replace h4 := eq_true h4
          rcases Classical.em (0 ≤ a0.Seq) with h5 | h5
          · rw [if_pos h5] at h; replace h5 := eq_true h5
            rcases Classical.em (a0.Seq < 4611686018427387904) with h6 | h6
            · rw [if_pos h6] at h; replace h6 := eq_true h6
              rcases Classical.em (0 ≤ a0.Proc) with h7 | h7
              · rw [if_pos h7] at h; replace h7 := eq_true h7
                rcases Classical.em (a0.Proc ≤ 64) with h8 | h8
                · rw [if_pos h8] at h; replace h8 := eq_true h8
                  rcases Classical.em ((-1125899906842624) ≤ a0.Resp) with h9 | h9
                  · rw [if_pos h9] at h; replace h9 := eq_true h9
                    cases h; subst hR; simp (maxDischargeDepth := 12) only [kk, kn, simprocAttr, eq_self_iff_true, implies_true, forall_const, Int.cast_ofNat_Int, L_ferrymanref06_Fits, v_ferrymanref04_Fits, Ow.enc, S_api_Op.enc, S_api_Record.enc, Sl.enc, rr_ferrymanref06_Fits, ro_ferrymanref06_Fits, b0_ferrymanref06_Fits, *]
                  · rw [if_neg h9] at h; replace h9 := eq_false h9
                    cases h; subst hR; simp (maxDischargeDepth := 12) only [kk, kn, simprocAttr, eq_self_iff_true, implies_true, forall_const, Int.cast_ofNat_Int, L_ferrymanref06_Fits, v_ferrymanref04_Fits, Ow.enc, S_api_Op.enc, S_api_Record.enc, Sl.enc, rr_ferrymanref06_Fits, ro_ferrymanref06_Fits, b0_ferrymanref06_Fits, *]
                · rw [if_neg h8] at h; replace h8 := eq_false h8
                  cases h; subst hR; simp (maxDischargeDepth := 12) only [kk, kn, simprocAttr, eq_self_iff_true, implies_true, forall_const, Int.cast_ofNat_Int, L_ferrymanref06_Fits, v_ferrymanref04_Fits, Ow.enc, S_api_Op.enc, S_api_Record.enc, Sl.enc, rr_ferrymanref06_Fits, ro_ferrymanref06_Fits, b0_ferrymanref06_Fits, *]
              · rw [if_neg h7] at h; replace h7 := eq_false h7
                cases h; subst hR; simp (maxDischargeDepth := 12) only [kk, kn, simprocAttr, eq_self_iff_true, implies_true, forall_const, Int.cast_ofNat_Int, L_ferrymanref06_Fits, v_ferrymanref04_Fits, Ow.enc, S_api_Op.enc, S_api_Record.enc, Sl.enc, rr_ferrymanref06_Fits, ro_ferrymanref06_Fits, b0_ferrymanref06_Fits, *]
            · rw [if_neg h6] at h; replace h6 := eq_false h6
              cases h; subst hR; simp (maxDischargeDepth := 12) only [kk, kn, simprocAttr, eq_self_iff_true, implies_true, forall_const, Int.cast_ofNat_Int, L_ferrymanref06_Fits, v_ferrymanref04_Fits, Ow.enc, S_api_Op.enc, S_api_Record.enc, Sl.enc, rr_ferrymanref06_Fits, ro_ferrymanref06_Fits, b0_ferrymanref06_Fits, *]
          · rw [if_neg h5] at h; replace h5 := eq_false h5
            cases h; subst hR; simp (maxDischargeDepth := 12) only [kk, kn, simprocAttr, eq_self_iff_true, implies_true, forall_const, Int.cast_ofNat_Int, L_ferrymanref06_Fits, v_ferrymanref04_Fits, Ow.enc, S_api_Op.enc, S_api_Record.enc, Sl.enc, rr_ferrymanref06_Fits, ro_ferrymanref06_Fits, b0_ferrymanref06_Fits, *]
        · rw [if_neg h4] at h; replace h4 := eq_false h4
          cases h; subst hR; simp (maxDischargeDepth := 12) only [kk, kn, simprocAttr, eq_self_iff_true, implies_true, forall_const, Int.cast_ofNat_Int, L_ferrymanref06_Fits, v_ferrymanref04_Fits, Ow.enc, S_api_Op.enc, S_api_Record.enc, Sl.enc, rr_ferrymanref06_Fits, ro_ferrymanref06_Fits, b0_ferrymanref06_Fits, *]
      · rw [if_neg h3] at h; replace h3 := eq_false h3
        cases h; subst hR; simp (maxDischargeDepth := 12) only [kk, kn, simprocAttr, eq_self_iff_true, implies_true, forall_const, Int.cast_ofNat_Int, L_ferrymanref06_Fits, v_ferrymanref04_Fits, Ow.enc, S_api_Op.enc, S_api_Record.enc, Sl.enc, rr_ferrymanref06_Fits, ro_ferrymanref06_Fits, b0_ferrymanref06_Fits, *]
    · rw [if_neg h2] at h; have h2' := bt0 h2; replace h2 := eq_false h2
      cases h; subst hR; simp (maxDischargeDepth := 12) only [kk, kn, simprocAttr, eq_self_iff_true, implies_true, forall_const, Int.cast_ofNat_Int, L_ferrymanref06_Fits, v_ferrymanref04_Fits, Ow.enc, S_api_Op.enc, S_api_Record.enc, Sl.enc, rr_ferrymanref06_Fits, ro_ferrymanref06_Fits, b0_ferrymanref06_Fits, *]
def St_ferrymanref08_records_l0 (q : Nat) : Prop := ∀ (M : Nat) (hM : 8 * q ≤ M) (j : Nat) (hj : q ≤ j) (v0z : Bool) (v0l : List S_api_Record) (v1 : Int) (v5 : Int) (r : Bool) (_ : ferrymanref08_records_l0 q v0z v0l v1 v5 = some r) (R : Option (List V)) (_ : some [V.bool r] = R) (fr : Fr) (H : Hp) (_ : canon 0 [0, 1, 5] fr H = ([(0, (.sl v0z (List.map S_api_Record.enc v0l))), (1, (.int .i64 v1)), (5, (.int .i64 v5))], [])), fin m_ferrymanref08_records (unw T (orc T (M + 7)) (M + 7) 0 [.blk 0, .code c_ferrymanref08_records_19] (iter 0 [0, 1, 5] (exec T (orc T (M + 7)) (M + 7) 0 c_ferrymanref08_records_16) j fr H)) = R
theorem step_ferrymanref08_records_l0 (q : Nat) (ih_ferrymanref08_records_l0 : St_ferrymanref08_records_l0 q) : St_ferrymanref08_records_l0 (q + 1) := by
  intro M hM j hj v0z v0l v1 v5 r h R hR fr H hc
  obtain ⟨j, rfl⟩ : ∃ i, j = i + 1 := ⟨j - 1, by omega⟩
  rw [unw_iter, hc]; clear hc
  rw [ferrymanref08_records_l0] at h
  rcases Classical.em (v5 < (v0l.length : Int)) with h1 | h1
  · rw [if_pos h1] at h; replace h1 := eq_true h1
    rcases Classical.em (0 ≤ v5) with h2 | h2
    · rw [if_pos h2] at h; replace h2 := eq_true h2
      rcases h3 : v0l[v5.toNat]? with _ | e1
      · rw [h3] at h; cases h
      · rw [h3, Option.bind_some] at h
        rcases h4 : ferrymanref06_Fits q e1 with _ | r2
        · rw [h4] at h; cases h
        · rw [h4, Option.bind_some] at h
          replace h4 := run_ferrymanref06_Fits q (M + 7) (by omega) _ _ h4
          try simp only [Ow.enc, S_api_Op.enc, S_api_Record.enc, kn, simprocAttr, eq_self_iff_true, implies_true, forall_const, Int.cast_ofNat_Int] at h4
          rcases Classical.em (r2 = true) with h5 | h5
          · rw [if_pos h5] at h; have h5' := bt1 h5; replace h5 := eq_true h5
            rcases Classical.em (e1.Index = (wrp .i64 (v1 + v5))) with h6 | h6
            · rw [if_pos h6] at h; replace h6 := eq_true h6
              try simp only [kn, simprocAttr, eq_self_iff_true, implies_true, forall_const, Int.cast_ofNat_Int] at h6
              replace h := ih_ferrymanref08_records_l0 M (by omega) j (by omega) _ _ _ _ _ h R hR
              simp (maxDischargeDepth := 12) only [kk, kn, simprocAttr, eq_self_iff_true, implies_true, forall_const, Int.cast_ofNat_Int, L_ferrymanref08_records, v_ferrymanref06_Fits, Ow.enc, S_api_Op.enc, S_api_Record.enc, Sl.enc, rr_ferrymanref08_records, ro_ferrymanref08_records, b0_ferrymanref08_records, *]
            · rw [if_neg h6] at h; replace h6 := eq_false h6
              try simp only [kn, simprocAttr, eq_self_iff_true, implies_true, forall_const, Int.cast_ofNat_Int] at h6
              cases h; subst hR; simp (maxDischargeDepth := 12) only [kk, kn, simprocAttr, eq_self_iff_true, implies_true, forall_const, Int.cast_ofNat_Int, L_ferrymanref08_records, v_ferrymanref06_Fits, Ow.enc, S_api_Op.enc, S_api_Record.enc, Sl.enc, rr_ferrymanref08_records, ro_ferrymanref08_records, b0_ferrymanref08_records, *]
          · rw [if_neg h5] at h; have h5' := bt0 h5; replace h5 := eq_false h5
            cases h; subst hR; simp (maxDischargeDepth := 12) only [kk, kn, simprocAttr, eq_self_iff_true, implies_true, forall_const, Int.cast_ofNat_Int, L_ferrymanref08_records, v_ferrymanref06_Fits, Ow.enc, S_api_Op.enc, S_api_Record.enc, Sl.enc, rr_ferrymanref08_records, ro_ferrymanref08_records, b0_ferrymanref08_records, *]
    · rw [if_neg h2] at h; replace h2 := eq_false h2
      cases h
  · rw [if_neg h1] at h; replace h1 := eq_false h1
    cases h; subst hR; simp (maxDischargeDepth := 12) only [kk, kn, simprocAttr, eq_self_iff_true, implies_true, forall_const, Int.cast_ofNat_Int, L_ferrymanref08_records, v_ferrymanref06_Fits, Ow.enc, S_api_Op.enc, S_api_Record.enc, Sl.enc, rr_ferrymanref08_records, ro_ferrymanref08_records, b0_ferrymanref08_records, *]
theorem all_ferrymanref08_records : ∀ q, St_ferrymanref08_records_l0 q
  | 0 => by intro M hM j hj; intros; rename_i h _ _ _ _ _; cases h
  | q + 1 => by have i0 := all_ferrymanref08_records q; exact step_ferrymanref08_records_l0 q i0
theorem run_ferrymanref08_records : ∀ (q N : Nat), 8 * q ≤ N → ∀ (a0 : (Sl S_api_Record)) (a1 : Int), ∀ (r : Bool), ferrymanref08_records q a0 a1 = some r → (orc T N).deep F.ferrymanref08_records [(Sl.enc S_api_Record.enc) a0, (V.int .i64) a1] = some [V.bool r] := by
  intro q N hM a0 a1 r h
  rcases q with _ | q
  · cases h
  obtain ⟨M, rfl⟩ : ∃ M, N = M + 8 := ⟨N - 8, by omega⟩
  have ih_ferrymanref08_records_l0 := (all_ferrymanref08_records q)
  generalize hR : some [V.bool r] = R
  rw [orc_deep, T_ferrymanref08_records, Option.bind_some, runDeep_eq]
  rw [ferrymanref08_records] at h
  rcases Classical.em (4096 < (a0.l.length : Int)) with h1 | h1
  · rw [if_pos h1] at h; replace h1 := eq_true h1
    cases h; subst hR; simp (maxDischargeDepth := 12) only [kk, kn, simprocAttr, eq_self_iff_true, implies_true, forall_const, Int.cast_ofNat_Int, L_ferrymanref08_records, v_ferrymanref06_Fits, Ow.enc, S_api_Op.enc, S_api_Record.enc, Sl.enc, rr_ferrymanref08_records, ro_ferrymanref08_records, b0_ferrymanref08_records, *]
  · rw [if_neg h1] at h; replace h1 := eq_false h1
    replace h := ih_ferrymanref08_records_l0 M (by omega) (M + 7) (by omega) _ _ _ _ _ h R hR
    simp (maxDischargeDepth := 12) only [kk, kn, simprocAttr, eq_self_iff_true, implies_true, forall_const, Int.cast_ofNat_Int, L_ferrymanref08_records, v_ferrymanref06_Fits, Ow.enc, S_api_Op.enc, S_api_Record.enc, Sl.enc, rr_ferrymanref08_records, ro_ferrymanref08_records, b0_ferrymanref08_records, *]
theorem run_ferrymanref08_May : ∀ (q N : Nat), 8 * q ≤ N → ∀ (a0 : S_api_Segment), ∀ (r : Bool), ferrymanref08_May q a0 = some r → (orc T N).deep F.ferrymanref08_May [S_api_Segment.enc a0] = some [V.bool r] := by
  intro q N hM a0 r h
  rcases q with _ | q
  · cases h
  obtain ⟨M, rfl⟩ : ∃ M, N = M + 8 := ⟨N - 8, by omega⟩
  generalize hR : some [V.bool r] = R
  rw [orc_deep, T_ferrymanref08_May, Option.bind_some, runDeep_eq]
  rw [ferrymanref08_May] at h
  rcases Classical.em (0 ≤ a0.Kind) with h1 | h1
  · rw [if_pos h1] at h; replace h1 := eq_true h1
    rcases Classical.em (a0.Kind < 6) with h2 | h2
    · rw [if_pos h2] at h; replace h2 := eq_true h2
      rcases Classical.em (0 ≤ a0.First) with h3 | h3
      · rw [if_pos h3] at h; replace h3 := eq_true h3
        rcases Classical.em (a0.First < 4611686018427387904) with h4 | h4
        · rw [if_pos h4] at h; replace h4 := eq_true h4
          rcases h5 : ferrymanref08_records q a0.Records a0.First with _ | r1
          · rw [h5] at h; cases h
          · rw [h5, Option.bind_some] at h
            replace h5 := run_ferrymanref08_records q (M + 7) (by omega) _ _ _ h5
            try simp only [Ow.enc, S_api_Op.enc, S_api_Record.enc, Sl.enc, kn, simprocAttr, eq_self_iff_true, implies_true, forall_const, Int.cast_ofNat_Int] at h5
            cases h; subst hR; simp (maxDischargeDepth := 12) only [kk, kn, simprocAttr, eq_self_iff_true, implies_true, forall_const, Int.cast_ofNat_Int, L_ferrymanref08_May, v_ferrymanref08_records, Ow.enc, S_api_Op.enc, S_api_Record.enc, S_api_Segment.enc, Sl.enc, rr_ferrymanref08_May, ro_ferrymanref08_May, b0_ferrymanref08_May, *]
        · rw [if_neg h4] at h; replace h4 := eq_false h4
          cases h; subst hR; simp (maxDischargeDepth := 12) only [kk, kn, simprocAttr, eq_self_iff_true, implies_true, forall_const, Int.cast_ofNat_Int, L_ferrymanref08_May, v_ferrymanref08_records, Ow.enc, S_api_Op.enc, S_api_Record.enc, S_api_Segment.enc, Sl.enc, rr_ferrymanref08_May, ro_ferrymanref08_May, b0_ferrymanref08_May, *]
      · rw [if_neg h3] at h; replace h3 := eq_false h3
        cases h; subst hR; simp (maxDischargeDepth := 12) only [kk, kn, simprocAttr, eq_self_iff_true, implies_true, forall_const, Int.cast_ofNat_Int, L_ferrymanref08_May, v_ferrymanref08_records, Ow.enc, S_api_Op.enc, S_api_Record.enc, S_api_Segment.enc, Sl.enc, rr_ferrymanref08_May, ro_ferrymanref08_May, b0_ferrymanref08_May, *]
    · rw [if_neg h2] at h; replace h2 := eq_false h2
      cases h; subst hR; simp (maxDischargeDepth := 12) only [kk, kn, simprocAttr, eq_self_iff_true, implies_true, forall_const, Int.cast_ofNat_Int, L_ferrymanref08_May, v_ferrymanref08_records, Ow.enc, S_api_Op.enc, S_api_Record.enc, S_api_Segment.enc, Sl.enc, rr_ferrymanref08_May, ro_ferrymanref08_May, b0_ferrymanref08_May, *]
  · rw [if_neg h1] at h; replace h1 := eq_false h1
    cases h; subst hR; simp (maxDischargeDepth := 12) only [kk, kn, simprocAttr, eq_self_iff_true, implies_true, forall_const, Int.cast_ofNat_Int, L_ferrymanref08_May, v_ferrymanref08_records, Ow.enc, S_api_Op.enc, S_api_Record.enc, S_api_Segment.enc, Sl.enc, rr_ferrymanref08_May, ro_ferrymanref08_May, b0_ferrymanref08_May, *]
def St_ferrymanref01_groups_l0 (q : Nat) : Prop := ∀ (M : Nat) (hM : 8 * q ≤ M) (j : Nat) (hj : q ≤ j) (v0 : Int) (h0z : Bool) (h0l : List Int) (r : (Ow Int)) (_ : ferrymanref01_groups_l0 q v0 h0z h0l = some r) (R : Option (List V)) (_ : some [(Ow.enc 1 (V.int .u8)) r] = R) (fr : Fr) (H : Hp) (_ : canon 0 [0, 3] fr H = ([(0, (.int .u64 v0)), (3, (.vw 0 0 0 h0l.length 1))], [(.row 0 h0z 1 (List.map (V.int .u8) h0l) true)])), fin m_ferrymanref01_groups (unw T (orc T (M + 7)) (M + 7) 0 [.blk 0, .code c_ferrymanref01_groups_11] (iter 0 [0, 3] (exec T (orc T (M + 7)) (M + 7) 0 c_ferrymanref01_groups_9) j fr H)) = R
theorem step_ferrymanref01_groups_l0 (q : Nat) (ih_ferrymanref01_groups_l0 : St_ferrymanref01_groups_l0 q) : St_ferrymanref01_groups_l0 (q + 1) := by
  intro M hM j hj v0 h0z h0l r h R hR fr H hc
  obtain ⟨j, rfl⟩ : ∃ i, j = i + 1 := ⟨j - 1, by omega⟩
  rw [unw_iter, hc]; clear hc
  rw [ferrymanref01_groups_l0] at h
  rcases Classical.em (127 < v0) with h1 | h1
  · rw [if_pos h1] at h; replace h1 := eq_true h1
    rcases Classical.em ((h0l.length + 1) ≤ 4294967296) with h2 | h2
    · rw [if_pos h2] at h; replace h2 := eq_true h2
      try simp only [kn, simprocAttr, eq_self_iff_true, implies_true, forall_const, Int.cast_ofNat_Int] at h2
      replace h := ih_ferrymanref01_groups_l0 M (by omega) j (by omega) _ _ _ _ h R hR
      simp (maxDischargeDepth := 12) only [kk, kn, simprocAttr, eq_self_iff_true, implies_true, forall_const, Int.cast_ofNat_Int, L_ferrymanref01_groups, Ow.enc, Sl.enc, rr_ferrymanref01_groups, ro_ferrymanref01_groups, b0_ferrymanref01_groups, *]
    · rw [if_neg h2] at h; replace h2 := eq_false h2
      try simp only [kn, simprocAttr, eq_self_iff_true, implies_true, forall_const, Int.cast_ofNat_Int] at h2
      cases h
  · rw [if_neg h1] at h; replace h1 := eq_false h1
    rcases Classical.em ((h0l.length + 1) ≤ 4294967296) with h3 | h3
    · rw [if_pos h3] at h; replace h3 := eq_true h3
      try simp only [kn, simprocAttr, eq_self_iff_true, implies_true, forall_const, Int.cast_ofNat_Int] at h3
      cases h; subst hR; simp (maxDischargeDepth := 12) only [kk, kn, simprocAttr, eq_self_iff_true, implies_true, forall_const, Int.cast_ofNat_Int, L_ferrymanref01_groups, Ow.enc, Sl.enc, rr_ferrymanref01_groups, ro_ferrymanref01_groups, b0_ferrymanref01_groups, *]
    · rw [if_neg h3] at h; replace h3 := eq_false h3
      try simp only [kn, simprocAttr, eq_self_iff_true, implies_true, forall_const, Int.cast_ofNat_Int] at h3
      cases h
theorem all_ferrymanref01_groups : ∀ q, St_ferrymanref01_groups_l0 q
  | 0 => by intro M hM j hj; intros; rename_i h _ _ _ _ _; cases h
  | q + 1 => by have i0 := all_ferrymanref01_groups q; exact step_ferrymanref01_groups_l0 q i0
theorem run_ferrymanref01_groups : ∀ (q N : Nat), 8 * q ≤ N → ∀ (a0 : Int), ∀ (r : (Ow Int)), ferrymanref01_groups q a0 = some r → (orc T N).deep F.ferrymanref01_groups [(V.int .u64) a0] = some [(Ow.enc 1 (V.int .u8)) r] := by
  intro q N hM a0 r h
  rcases q with _ | q
  · cases h
  obtain ⟨M, rfl⟩ : ∃ M, N = M + 8 := ⟨N - 8, by omega⟩
  have ih_ferrymanref01_groups_l0 := (all_ferrymanref01_groups q)
  generalize hR : some [(Ow.enc 1 (V.int .u8)) r] = R
  rw [orc_deep, T_ferrymanref01_groups, Option.bind_some, runDeep_eq]
  rw [ferrymanref01_groups] at h
  replace h := ih_ferrymanref01_groups_l0 M (by omega) (M + 7) (by omega) _ _ _ _ h R hR
  simp (maxDischargeDepth := 12) only [kk, kn, simprocAttr, eq_self_iff_true, implies_true, forall_const, Int.cast_ofNat_Int, L_ferrymanref01_groups, Ow.enc, Sl.enc, rr_ferrymanref01_groups, ro_ferrymanref01_groups, b0_ferrymanref01_groups, *]
theorem run_ferrymanref01_Put : ∀ (q N : Nat), 8 * q ≤ N → ∀ (a0 : (Sl Int)) (a1 : Int), ∀ (r : (Ow Int)), ferrymanref01_Put q a0 a1 = some r → (orc T N).deep F.ferrymanref01_Put [(Sl.enc (V.int .u8)) a0, (V.int .i64) a1] = some [(Ow.enc 1 (V.int .u8)) r] := by
  intro q N hM a0 a1 r h
  rcases q with _ | q
  · cases h
  obtain ⟨M, rfl⟩ : ∃ M, N = M + 8 := ⟨N - 8, by omega⟩
  generalize hR : some [(Ow.enc 1 (V.int .u8)) r] = R
  rw [orc_deep, T_ferrymanref01_Put, Option.bind_some, runDeep_eq]
  rw [ferrymanref01_Put] at h
  rcases Classical.em (a0.l.length ≤ 4294967296) with h1 | h1
  · rw [if_pos h1] at h; replace h1 := eq_true h1
    rcases Classical.em (a1 < 0) with h2 | h2
    · rw [if_pos h2] at h; replace h2 := eq_true h2
      cases h; subst hR; simp (maxDischargeDepth := 12) only [kk, kn, simprocAttr, eq_self_iff_true, implies_true, forall_const, Int.cast_ofNat_Int, L_ferrymanref01_Put, v_ferrymanref01_groups, Ow.enc, Sl.enc, rr_ferrymanref01_Put, ro_ferrymanref01_Put, b0_ferrymanref01_Put, *]
    · rw [if_neg h2] at h; replace h2 := eq_false h2
      rcases Classical.em (4611686018427387904 ≤ a1) with h3 | h3
      · rw [if_pos h3] at h; replace h3 := eq_true h3
        cases h; subst hR; simp (maxDischargeDepth := 12) only [kk, kn, simprocAttr, eq_self_iff_true, implies_true, forall_const, Int.cast_ofNat_Int, L_ferrymanref01_Put, v_ferrymanref01_groups, Ow.enc, Sl.enc, rr_ferrymanref01_Put, ro_ferrymanref01_Put, b0_ferrymanref01_Put, *]
      · rw [if_neg h3] at h; replace h3 := eq_false h3
        rcases h4 : ferrymanref01_groups q (wrp .u64 a1) with _ | r1
        · rw [h4] at h; cases h
        · rw [h4, Option.bind_some] at h
          replace h4 := run_ferrymanref01_groups q (M + 7) (by omega) _ _ h4
          try simp only [Ow.enc, kn, simprocAttr, eq_self_iff_true, implies_true, forall_const, Int.cast_ofNat_Int] at h4
          rcases Classical.em ((a0.l.length + r1.xs.length) ≤ 4294967296) with h5 | h5
          · rw [if_pos h5] at h; replace h5 := eq_true h5
            try simp only [kn, simprocAttr, eq_self_iff_true, implies_true, forall_const, Int.cast_ofNat_Int] at h5
            cases h; subst hR; simp (maxDischargeDepth := 12) only [kk, kn, simprocAttr, eq_self_iff_true, implies_true, forall_const, Int.cast_ofNat_Int, L_ferrymanref01_Put, v_ferrymanref01_groups, Ow.enc, Sl.enc, rr_ferrymanref01_Put, ro_ferrymanref01_Put, b0_ferrymanref01_Put, *]
          · rw [if_neg h5] at h; replace h5 := eq_false h5
            try simp only [kn, simprocAttr, eq_self_iff_true, implies_true, forall_const, Int.cast_ofNat_Int] at h5
            cases h
  · rw [if_neg h1] at h; replace h1 := eq_false h1
    cases h
def St_ferrymanref02_Entry_l0 (q : Nat) : Prop := ∀ (M : Nat) (hM : 8 * q ≤ M) (j : Nat) (hj : q ≤ j) (v3 : Int) (v4 : Int) (r : Int) (_ : ferrymanref02_Entry_l0 q v3 v4 = some r) (R : Option (List V)) (_ : some [(V.int .u32) r] = R) (fr : Fr) (H : Hp) (_ : canon 0 [3, 4] fr H = ([(3, (.int .u32 v3)), (4, (.int .i64 v4))], [])), fin m_ferrymanref02_Entry (unw T (orc T (M + 7)) (M + 7) 0 [.blk 0, .code c_ferrymanref02_Entry_19] (iter 0 [3, 4] (exec T (orc T (M + 7)) (M + 7) 0 c_ferrymanref02_Entry_16) j fr H)) = R
theorem step_ferrymanref02_Entry_l0 (q : Nat) (ih_ferrymanref02_Entry_l0 : St_ferrymanref02_Entry_l0 q) : St_ferrymanref02_Entry_l0 (q + 1) := by
  intro M hM j hj v3 v4 r h R hR fr H hc
  obtain ⟨j, rfl⟩ : ∃ i, j = i + 1 := ⟨j - 1, by omega⟩
  rw [unw_iter, hc]; clear hc
  rw [ferrymanref02_Entry_l0] at h
  rcases Classical.em (v4 < 8) with h1 | h1
  · rw [if_pos h1] at h; replace h1 := eq_true h1
    rcases Classical.em ((Int.tmod v3 2) = 1) with h2 | h2
    · rw [if_pos h2] at h; replace h2 := eq_true h2
      replace h := ih_ferrymanref02_Entry_l0 M (by omega) j (by omega) _ _ _ h R hR
      simp (maxDischargeDepth := 12) only [kk, kn, simprocAttr, eq_self_iff_true, implies_true, forall_const, Int.cast_ofNat_Int, L_ferrymanref02_Entry, Ow.enc, Sl.enc, rr_ferrymanref02_Entry, ro_ferrymanref02_Entry, b0_ferrymanref02_Entry, *]
    · rw [if_neg h2] at h; replace h2 := eq_false h2
      replace h := ih_ferrymanref02_Entry_l0 M (by omega) j (by omega) _ _ _ h R hR
      simp (maxDischargeDepth := 12) only [kk, kn, simprocAttr, eq_self_iff_true, implies_true, forall_const, Int.cast_ofNat_Int, L_ferrymanref02_Entry, Ow.enc, Sl.enc, rr_ferrymanref02_Entry, ro_ferrymanref02_Entry, b0_ferrymanref02_Entry, *]
  · rw [if_neg h1] at h; replace h1 := eq_false h1
    cases h; subst hR; simp (maxDischargeDepth := 12) only [kk, kn, simprocAttr, eq_self_iff_true, implies_true, forall_const, Int.cast_ofNat_Int, L_ferrymanref02_Entry, Ow.enc, Sl.enc, rr_ferrymanref02_Entry, ro_ferrymanref02_Entry, b0_ferrymanref02_Entry, *]
theorem all_ferrymanref02_Entry : ∀ q, St_ferrymanref02_Entry_l0 q
  | 0 => by intro M hM j hj; intros; rename_i h _ _ _ _ _; cases h
  | q + 1 => by have i0 := all_ferrymanref02_Entry q; exact step_ferrymanref02_Entry_l0 q i0
theorem run_ferrymanref02_Entry : ∀ (q N : Nat), 8 * q ≤ N → ∀ (a0 : Int), ∀ (r : Int), ferrymanref02_Entry q a0 = some r → (orc T N).deep F.ferrymanref02_Entry [(V.int .u8) a0] = some [(V.int .u32) r] := by
  intro q N hM a0 r h
  rcases q with _ | q
  · cases h
  obtain ⟨M, rfl⟩ : ∃ M, N = M + 8 := ⟨N - 8, by omega⟩
  have ih_ferrymanref02_Entry_l0 := (all_ferrymanref02_Entry q)
  generalize hR : some [(V.int .u32) r] = R
  rw [orc_deep, T_ferrymanref02_Entry, Option.bind_some, runDeep_eq]
  rw [ferrymanref02_Entry] at h
  replace h := ih_ferrymanref02_Entry_l0 M (by omega) (M + 7) (by omega) _ _ _ h R hR
  simp (maxDischargeDepth := 12) only [kk, kn, simprocAttr, eq_self_iff_true, implies_true, forall_const, Int.cast_ofNat_Int, L_ferrymanref02_Entry, Ow.enc, Sl.enc, rr_ferrymanref02_Entry, ro_ferrymanref02_Entry, b0_ferrymanref02_Entry, *]
def St_ferrymanref02_More_l0 (q : Nat) : Prop := ∀ (M : Nat) (hM : 8 * q ≤ M) (j : Nat) (hj : q ≤ j) (v1z : Bool) (v1l : List Int) (v5 : Int) (v6 : Int) (r : Int) (_ : ferrymanref02_More_l0 q v1z v1l v5 v6 = some r) (R : Option (List V)) (_ : some [(V.int .u32) r] = R) (fr : Fr) (H : Hp) (_ : canon 0 [1, 5, 6] fr H = ([(1, (.sl v1z (List.map (V.int .u8) v1l))), (5, (.int .u32 v5)), (6, (.int .i64 v6))], [])), fin m_ferrymanref02_More (unw T (orc T (M + 7)) (M + 7) 0 [.blk 0, .code c_ferrymanref02_More_13] (iter 0 [1, 5, 6] (exec T (orc T (M + 7)) (M + 7) 0 c_ferrymanref02_More_10) j fr H)) = R
theorem step_ferrymanref02_More_l0 (q : Nat) (ih_ferrymanref02_More_l0 : St_ferrymanref02_More_l0 q) : St_ferrymanref02_More_l0 (q + 1) := by
  intro M hM j hj v1z v1l v5 v6 r h R hR fr H hc
  obtain ⟨j, rfl⟩ : ∃ i, j = i + 1 := ⟨j - 1, by omega⟩
  rw [unw_iter, hc]; clear hc
  rw [ferrymanref02_More_l0] at h
  rcases Classical.em (v6 < (v1l.length : Int)) with h1 | h1
  · rw [if_pos h1] at h; replace h1 := eq_true h1
    rcases Classical.em (0 ≤ v6) with h2 | h2
    · rw [if_pos h2] at h; replace h2 := eq_true h2
      rcases h3 : v1l[v6.toNat]? with _ | e1
      · rw [h3] at h; cases h
      · rw [h3, Option.bind_some] at h
        rcases h4 : ferrymanref02_Entry q (ibits .xor .u8 (wrp .u8 v5) e1) with _ | r2
        · rw [h4] at h; cases h
        · rw [h4, Option.bind_some] at h
          replace h4 := run_ferrymanref02_Entry q (M + 7) (by omega) _ _ h4
          skip
          replace h := ih_ferrymanref02_More_l0 M (by omega) j (by omega) _ _ _ _ _ h R hR
          simp (maxDischargeDepth := 12) only [kk, kn, simprocAttr, eq_self_iff_true, implies_true, forall_const, Int.cast_ofNat_Int, L_ferrymanref02_More, v_ferrymanref02_Entry, Ow.enc, Sl.enc, rr_ferrymanref02_More, ro_ferrymanref02_More, b0_ferrymanref02_More, *]
    · rw [if_neg h2] at h; replace h2 := eq_false h2
      cases h
  · rw [if_neg h1] at h; replace h1 := eq_false h1
    cases h; subst hR; simp (maxDischargeDepth := 12) only [kk, kn, simprocAttr, eq_self_iff_true, implies_true, forall_const, Int.cast_ofNat_Int, L_ferrymanref02_More, v_ferrymanref02_Entry, Ow.enc, Sl.enc, rr_ferrymanref02_More, ro_ferrymanref02_More, b0_ferrymanref02_More, *]
theorem all_ferrymanref02_More : ∀ q, St_ferrymanref02_More_l0 q
  | 0 => by intro M hM j hj; intros; rename_i h _ _ _ _ _; cases h
  | q + 1 => by have i0 := all_ferrymanref02_More q; exact step_ferrymanref02_More_l0 q i0
theorem run_ferrymanref02_More : ∀ (q N : Nat), 8 * q ≤ N → ∀ (a0 : Int) (a1 : (Sl Int)), ∀ (r : Int), ferrymanref02_More q a0 a1 = some r → (orc T N).deep F.ferrymanref02_More [(V.int .u32) a0, (Sl.enc (V.int .u8)) a1] = some [(V.int .u32) r] := by
  intro q N hM a0 a1 r h
  rcases q with _ | q
  · cases h
  obtain ⟨M, rfl⟩ : ∃ M, N = M + 8 := ⟨N - 8, by omega⟩
  have ih_ferrymanref02_More_l0 := (all_ferrymanref02_More q)
  generalize hR : some [(V.int .u32) r] = R
  rw [orc_deep, T_ferrymanref02_More, Option.bind_some, runDeep_eq]
  rw [ferrymanref02_More] at h
  replace h := ih_ferrymanref02_More_l0 M (by omega) (M + 7) (by omega) _ _ _ _ _ h R hR
  simp (maxDischargeDepth := 12) only [kk, kn, simprocAttr, eq_self_iff_true, implies_true, forall_const, Int.cast_ofNat_Int, L_ferrymanref02_More, v_ferrymanref02_Entry, Ow.enc, Sl.enc, rr_ferrymanref02_More, ro_ferrymanref02_More, b0_ferrymanref02_More, *]
theorem run_ferrymanref02_Sum : ∀ (q N : Nat), 8 * q ≤ N → ∀ (a0 : (Sl Int)), ∀ (r : Int), ferrymanref02_Sum q a0 = some r → (orc T N).deep F.ferrymanref02_Sum [(Sl.enc (V.int .u8)) a0] = some [(V.int .u32) r] := by
  intro q N hM a0 r h
  rcases q with _ | q
  · cases h
  obtain ⟨M, rfl⟩ : ∃ M, N = M + 8 := ⟨N - 8, by omega⟩
  generalize hR : some [(V.int .u32) r] = R
  rw [orc_deep, T_ferrymanref02_Sum, Option.bind_some, runDeep_eq]
  rw [ferrymanref02_Sum] at h
  rcases h1 : ferrymanref02_More q 0 a0 with _ | r1
  · rw [h1] at h; cases h
  · rw [h1, Option.bind_some] at h
    replace h1 := run_ferrymanref02_More q (M + 7) (by omega) _ _ _ h1
    try simp only [Ow.enc, Sl.enc, kn, simprocAttr, eq_self_iff_true, implies_true, forall_const, Int.cast_ofNat_Int] at h1
    cases h; subst hR; simp (maxDischargeDepth := 12) only [kk, kn, simprocAttr, eq_self_iff_true, implies_true, forall_const, Int.cast_ofNat_Int, L_ferrymanref02_Sum, v_ferrymanref02_More, Ow.enc, Sl.enc, rr_ferrymanref02_Sum, ro_ferrymanref02_Sum, b0_ferrymanref02_Sum, *]
def St_ferrymanref01_Fix_l0 (q : Nat) : Prop := ∀ (M : Nat) (hM : 8 * q ≤ M) (j : Nat) (hj : q ≤ j) (v0 : Int) (v1 : Int) (v6 : Int) (h0z : Bool) (h0l : List Int) (r : (Ow Int)) (_ : ferrymanref01_Fix_l0 q v0 v1 v6 h0z h0l = some r) (R : Option (List V)) (_ : some [(Ow.enc 1 (V.int .u8)) r] = R) (fr : Fr) (H : Hp) (_ : canon 0 [0, 1, 5, 6] fr H = ([(0, (.int .u64 v0)), (1, (.int .i64 v1)), (5, (.vw 0 0 0 h0l.length 1)), (6, (.int .i64 v6))], [(.row 0 h0z 1 (List.map (V.int .u8) h0l) true)])), fin m_ferrymanref01_Fix (unw T (orc T (M + 7)) (M + 7) 0 [.blk 0, .code c_ferrymanref01_Fix_15] (iter 0 [0, 1, 5, 6] (exec T (orc T (M + 7)) (M + 7) 0 c_ferrymanref01_Fix_12) j fr H)) = R
theorem step_ferrymanref01_Fix_l0 (q : Nat) (ih_ferrymanref01_Fix_l0 : St_ferrymanref01_Fix_l0 q) : St_ferrymanref01_Fix_l0 (q + 1) := by
  intro M hM j hj v0 v1 v6 h0z h0l r h R hR fr H hc
  obtain ⟨j, rfl⟩ : ∃ i, j = i + 1 := ⟨j - 1, by omega⟩
  rw [unw_iter, hc]; clear hc
  rw [ferrymanref01_Fix_l0] at h
  rcases Classical.em (v6 < v1) with h1 | h1
  · rw [if_pos h1] at h; replace h1 := eq_true h1
    rcases Classical.em ((h0l.length + 1) ≤ 4294967296) with h2 | h2
    · rw [if_pos h2] at h; replace h2 := eq_true h2
      try simp only [kn, simprocAttr, eq_self_iff_true, implies_true, forall_const, Int.cast_ofNat_Int] at h2
      replace h := ih_ferrymanref01_Fix_l0 M (by omega) j (by omega) _ _ _ _ _ _ h R hR
      simp (maxDischargeDepth := 12) only [kk, kn, simprocAttr, eq_self_iff_true, implies_true, forall_const, Int.cast_ofNat_Int, L_ferrymanref01_Fix, Ow.enc, Sl.enc, rr_ferrymanref01_Fix, ro_ferrymanref01_Fix, b0_ferrymanref01_Fix, *]
    · rw [if_neg h2] at h; replace h2 := eq_false h2
      try simp only [kn, simprocAttr, eq_self_iff_true, implies_true, forall_const, Int.cast_ofNat_Int] at h2
      cases h
  · rw [if_neg h1] at h; replace h1 := eq_false h1
    cases h; subst hR; simp (maxDischargeDepth := 12) only [kk, kn, simprocAttr, eq_self_iff_true, implies_true, forall_const, Int.cast_ofNat_Int, L_ferrymanref01_Fix, Ow.enc, Sl.enc, rr_ferrymanref01_Fix, ro_ferrymanref01_Fix, b0_ferrymanref01_Fix, *]
theorem all_ferrymanref01_Fix : ∀ q, St_ferrymanref01_Fix_l0 q
  | 0 => by intro M hM j hj; intros; rename_i h _ _ _ _ _; cases h
  | q + 1 => by have i0 := all_ferrymanref01_Fix q; exact step_ferrymanref01_Fix_l0 q i0
theorem run_ferrymanref01_Fix : ∀ (q N : Nat), 8 * q ≤ N → ∀ (a0 : Int) (a1 : Int), ∀ (r : (Ow Int)), ferrymanref01_Fix q a0 a1 = some r → (orc T N).deep F.ferrymanref01_Fix [(V.int .u64) a0, (V.int .i64) a1] = some [(Ow.enc 1 (V.int .u8)) r] := by
  intro q N hM a0 a1 r h
  rcases q with _ | q
  · cases h
  obtain ⟨M, rfl⟩ : ∃ M, N = M + 8 := ⟨N - 8, by omega⟩
  have ih_ferrymanref01_Fix_l0 := (all_ferrymanref01_Fix q)
  generalize hR : some [(Ow.enc 1 (V.int .u8)) r] = R
  rw [orc_deep, T_ferrymanref01_Fix, Option.bind_some, runDeep_eq]
  rw [ferrymanref01_Fix] at h
  replace h := ih_ferrymanref01_Fix_l0 M (by omega) (M + 7) (by omega) _ _ _ _ _ _ h R hR
  simp (maxDischargeDepth := 12) only [kk, kn, simprocAttr, eq_self_iff_true, implies_true, forall_const, Int.cast_ofNat_Int, L_ferrymanref01_Fix, Ow.enc, Sl.enc, rr_ferrymanref01_Fix, ro_ferrymanref01_Fix, b0_ferrymanref01_Fix, *]
theorem run_ferrymanref03_Encode : ∀ (q N : Nat), 8 * q ≤ N → ∀ (a0 : (Sl Int)), ∀ (r : (Ow Int) × Int), ferrymanref03_Encode q a0 = some r → (orc T N).deep F.ferrymanref03_Encode [(Sl.enc (V.int .u8)) a0] = some [(Ow.enc 1 (V.int .u8)) r.1, (V.int .i64) r.2] := by
  intro q N hM a0 r h
  rcases q with _ | q
  · cases h
  obtain ⟨M, rfl⟩ : ∃ M, N = M + 8 := ⟨N - 8, by omega⟩
  generalize hR : some [(Ow.enc 1 (V.int .u8)) r.1, (V.int .i64) r.2] = R
  rw [orc_deep, T_ferrymanref03_Encode, Option.bind_some, runDeep_eq]
  rw [ferrymanref03_Encode] at h
  rcases Classical.em (1048576 < (a0.l.length : Int)) with h1 | h1
  · rw [if_pos h1] at h; replace h1 := eq_true h1
    cases h; subst hR; simp (maxDischargeDepth := 12) only [kk, kn, simprocAttr, eq_self_iff_true, implies_true, forall_const, Int.cast_ofNat_Int, L_ferrymanref03_Encode, v_ferrymanref01_Put, v_ferrymanref02_More, v_ferrymanref02_Sum, v_ferrymanref01_Fix, Ow.enc, Sl.enc, rr_ferrymanref03_Encode, ro_ferrymanref03_Encode, b0_ferrymanref03_Encode, *]
  · rw [if_neg h1] at h; replace h1 := eq_false h1
    rcases h2 : ferrymanref01_Put q ⟨true, []⟩ (a0.l.length : Int) with _ | r1
    · rw [h2] at h; cases h
    · rw [h2, Option.bind_some] at h
      replace h2 := run_ferrymanref01_Put q (M + 7) (by omega) _ _ _ h2
      try simp only [Ow.enc, Sl.enc, kn, simprocAttr, eq_self_iff_true, implies_true, forall_const, Int.cast_ofNat_Int] at h2
      rcases h3 : ferrymanref02_Sum q ⟨r1.n, r1.xs⟩ with _ | r2
      · rw [h3] at h; cases h
      · rw [h3, Option.bind_some] at h
        replace h3 := run_ferrymanref02_Sum q (M + 7) (by omega) _ _ h3
        try simp only [Ow.enc, Sl.enc, kn, simprocAttr, eq_self_iff_true, implies_true, forall_const, Int.cast_ofNat_Int] at h3
        rcases h4 : ferrymanref02_More q r2 a0 with _ | r3
        · rw [h4] at h; cases h
        · rw [h4, Option.bind_some] at h
          replace h4 := run_ferrymanref02_More q (M + 7) (by omega) _ _ _ h4
          try simp only [Ow.enc, Sl.enc, kn, simprocAttr, eq_self_iff_true, implies_true, forall_const, Int.cast_ofNat_Int] at h4
          rcases Classical.em (r1.xs.length ≤ 4294967296) with h5 | h5
          · rw [if_pos h5] at h; replace h5 := eq_true h5
            rcases Classical.em ((r1.xs.length + a0.l.length) ≤ 4294967296) with h6 | h6
            · rw [if_pos h6] at h; replace h6 := eq_true h6
              try simp only [kn, simprocAttr, eq_self_iff_true, implies_true, forall_const, Int.cast_ofNat_Int] at h6
              rcases h7 : ferrymanref01_Fix q (wrp .u64 r3) 4 with _ | r4
              · rw [h7] at h; cases h
              · rw [h7, Option.bind_some] at h
                replace h7 := run_ferrymanref01_Fix q (M + 7) (by omega) _ _ _ h7
                try simp only [Ow.enc, kn, simprocAttr, eq_self_iff_true, implies_true, forall_const, Int.cast_ofNat_Int] at h7
                rcases Classical.em (((r1.xs.length + a0.l.length) + r4.xs.length) ≤ 4294967296) with h8 | h8
                · rw [if_pos h8] at h; replace h8 := eq_true h8
                  try simp only [kn, simprocAttr, eq_self_iff_true, implies_true, forall_const, Int.cast_ofNat_Int] at h8
                  cases h; subst hR; simp (maxDischargeDepth := 12) only [kk, kn, simprocAttr, eq_self_iff_true, implies_true, forall_const, Int.cast_ofNat_Int, L_ferrymanref03_Encode, v_ferrymanref01_Put, v_ferrymanref02_More, v_ferrymanref02_Sum, v_ferrymanref01_Fix, Ow.enc, Sl.enc, rr_ferrymanref03_Encode, ro_ferrymanref03_Encode, b0_ferrymanref03_Encode, *]
                · rw [if_neg h8] at h; replace h8 := eq_false h8
                  try simp only [kn, simprocAttr, eq_self_iff_true, implies_true, forall_const, Int.cast_ofNat_Int] at h8
                  cases h
            · rw [if_neg h6] at h; replace h6 := eq_false h6
              try simp only [kn, simprocAttr, eq_self_iff_true, implies_true, forall_const, Int.cast_ofNat_Int] at h6
              cases h
          · rw [if_neg h5] at h; replace h5 := eq_false h5
            cases h
theorem run_ferrymanref08_Head : ∀ (q N : Nat), 8 * q ≤ N → ∀ (a0 : Int) (a1 : Int) (a2 : Int), ∀ (r : (Ow Int) × Int), ferrymanref08_Head q a0 a1 a2 = some r → (orc T N).deep F.ferrymanref08_Head [(V.int .i64) a0, (V.int .i64) a1, (V.int .i64) a2] = some [(Ow.enc 1 (V.int .u8)) r.1, (V.int .i64) r.2] := by
  intro q N hM a0 a1 a2 r h
  rcases q with _ | q
  · cases h
  obtain ⟨M, rfl⟩ : ∃ M, N = M + 8 := ⟨N - 8, by omega⟩
  generalize hR : some [(Ow.enc 1 (V.int .u8)) r.1, (V.int .i64) r.2] = R
  rw [orc_deep, T_ferrymanref08_Head, Option.bind_some, runDeep_eq]
  rw [ferrymanref08_Head] at h
  rcases Classical.em (a0 < 1) with h1 | h1
  · rw [if_pos h1] at h; replace h1 := eq_true h1
    cases h; subst hR; simp (maxDischargeDepth := 12) only [kk, kn, simprocAttr, eq_self_iff_true, implies_true, forall_const, Int.cast_ofNat_Int, L_ferrymanref08_Head, v_ferrymanref03_Encode, v_ferrymanref01_Put, Ow.enc, Sl.enc, rr_ferrymanref08_Head, ro_ferrymanref08_Head, b0_ferrymanref08_Head, *]
  · rw [if_neg h1] at h; replace h1 := eq_false h1
    rcases Classical.em (3 < a0) with h2 | h2
    · rw [if_pos h2] at h; replace h2 := eq_true h2
      cases h; subst hR; simp (maxDischargeDepth := 12) only [kk, kn, simprocAttr, eq_self_iff_true, implies_true, forall_const, Int.cast_ofNat_Int, L_ferrymanref08_Head, v_ferrymanref03_Encode, v_ferrymanref01_Put, Ow.enc, Sl.enc, rr_ferrymanref08_Head, ro_ferrymanref08_Head, b0_ferrymanref08_Head, *]
    · rw [if_neg h2] at h; replace h2 := eq_false h2
      rcases Classical.em (a1 < 0) with h3 | h3
      · rw [if_pos h3] at h; replace h3 := eq_true h3
        cases h; subst hR; simp (maxDischargeDepth := 12) only [kk, kn, simprocAttr, eq_self_iff_true, implies_true, forall_const, Int.cast_ofNat_Int, L_ferrymanref08_Head, v_ferrymanref03_Encode, v_ferrymanref01_Put, Ow.enc, Sl.enc, rr_ferrymanref08_Head, ro_ferrymanref08_Head, b0_ferrymanref08_Head, *]
      · rw [if_neg h3] at h; replace h3 := eq_false h3
        rcases Classical.em (6 ≤ a1) with h4 | h4
        · rw [if_pos h4] at h; replace h4 := eq_true h4
          cases h; subst hR; simp (maxDischargeDepth := 12) only [kk, kn, simprocAttr, eq_self_iff_true, implies_true, forall_const, Int.cast_ofNat_Int, L_ferrymanref08_Head, v_ferrymanref03_Encode, v_ferrymanref01_Put, Ow.enc, Sl.enc, rr_ferrymanref08_Head, ro_ferrymanref08_Head, b0_ferrymanref08_Head, *]
        · rw [if_neg h4] at h; replace h4 := eq_false h4
          rcases Classical.em (a2 < 0) with h5 | h5
          · rw [if_pos h5] at h; replace h5 := eq_true h5
            cases h; subst hR; simp (maxDischargeDepth := 12) only [kk, kn, simprocAttr, eq_self_iff_true, implies_true, forall_const, Int.cast_ofNat_Int, L_ferrymanref08_Head, v_ferrymanref03_Encode, v_ferrymanref01_Put, Ow.enc, Sl.enc, rr_ferrymanref08_Head, ro_ferrymanref08_Head, b0_ferrymanref08_Head, *]
          · rw [if_neg h5] at h; replace h5 := eq_false h5
            rcases Classical.em (4611686018427387904 ≤ a2) with h6 | h6
            · rw [if_pos h6] at h; replace h6 := eq_true h6
              cases h; subst hR; simp (maxDischargeDepth := 12) only [kk, kn, simprocAttr, eq_self_iff_true, implies_true, forall_const, Int.cast_ofNat_Int, L_ferrymanref08_Head, v_ferrymanref03_Encode, v_ferrymanref01_Put, Ow.enc, Sl.enc, rr_ferrymanref08_Head, ro_ferrymanref08_Head, b0_ferrymanref08_Head, *]
            · rw [if_neg h6] at h; replace h6 := eq_false h6
              rcases h7 : ferrymanref01_Put q ⟨false, [108]⟩ a0 with _ | r1
              · rw [h7] at h; cases h
              · rw [h7, Option.bind_some] at h
                replace h7 := run_ferrymanref01_Put q (M + 7) (by omega) _ _ _ h7
                try simp only [Ow.enc, Sl.enc, kn, simprocAttr, eq_self_iff_true, implies_true, forall_const, Int.cast_ofNat_Int] at h7
                rcases h8 : ferrymanref01_Put q ⟨r1.n, r1.xs⟩ a1 with _ | r2
                · rw [h8] at h; cases h
                · rw [h8, Option.bind_some] at h
                  replace h8 := run_ferrymanref01_Put q (M + 7) (by omega) _ _ _ h8
                  try simp only [Ow.enc, Sl.enc, kn, simprocAttr, eq_self_iff_true, implies_true, forall_const, Int.cast_ofNat_Int] at h8
                  rcases h9 : ferrymanref01_Put q ⟨r2.n, r2.xs⟩ a2 with _ | r3
                  · rw [h9] at h; cases h
                  · rw [h9, Option.bind_some] at h
                    replace h9 := run_ferrymanref01_Put q (M + 7) (by omega) _ _ _ h9
                    try simp only [Ow.enc, Sl.enc, kn, simprocAttr, eq_self_iff_true, implies_true, forall_const, Int.cast_ofNat_Int] at h9
                    rcases h10 : ferrymanref03_Encode q ⟨r3.n, r3.xs⟩ with _ | r4
                    · rw [h10] at h; cases h
                    · rw [h10, Option.bind_some] at h
                      replace h10 := run_ferrymanref03_Encode q (M + 7) (by omega) _ _ h10
                      try simp only [Ow.enc, Sl.enc, kn, simprocAttr, eq_self_iff_true, implies_true, forall_const, Int.cast_ofNat_Int] at h10
                      cases h; subst hR; simp (maxDischargeDepth := 12) only [kk, kn, simprocAttr, eq_self_iff_true, implies_true, forall_const, Int.cast_ofNat_Int, L_ferrymanref08_Head, v_ferrymanref03_Encode, v_ferrymanref01_Put, Ow.enc, Sl.enc, rr_ferrymanref08_Head, ro_ferrymanref08_Head, b0_ferrymanref08_Head, *]
def St_ferrymanref07_Fits_l0 (q : Nat) : Prop := ∀ (M : Nat) (hM : 8 * q ≤ M) (j : Nat) (hj : q ≤ j) (v0z : Bool) (v0l : List S_api_Record) (v3 : Int) (r : Bool) (_ : ferrymanref07_Fits_l0 q v0z v0l v3 = some r) (R : Option (List V)) (_ : some [V.bool r] = R) (fr : Fr) (H : Hp) (_ : canon 0 [0, 3] fr H = ([(0, (.sl v0z (List.map S_api_Record.enc v0l))), (3, (.int .i64 v3))], [])), fin m_ferrymanref07_Fits (unw T (orc T (M + 7)) (M + 7) 0 [.blk 0, .code c_ferrymanref07_Fits_19] (iter 0 [0, 3] (exec T (orc T (M + 7)) (M + 7) 0 c_ferrymanref07_Fits_16) j fr H)) = R
theorem step_ferrymanref07_Fits_l0 (q : Nat) (ih_ferrymanref07_Fits_l0 : St_ferrymanref07_Fits_l0 q) : St_ferrymanref07_Fits_l0 (q + 1) := by
  intro M hM j hj v0z v0l v3 r h R hR fr H hc
  obtain ⟨j, rfl⟩ : ∃ i, j = i + 1 := ⟨j - 1, by omega⟩
  rw [unw_iter, hc]; clear hc
  rw [ferrymanref07_Fits_l0] at h
  rcases Classical.em (v3 < (v0l.length : Int)) with h1 | h1
  · rw [if_pos h1] at h; replace h1 := eq_true h1
    rcases Classical.em (0 ≤ v3) with h2 | h2
    · rw [if_pos h2] at h; replace h2 := eq_true h2
      rcases h3 : v0l[v3.toNat]? with _ | e1
      · rw [h3] at h; cases h
      · rw [h3, Option.bind_some] at h
        rcases h4 : ferrymanref06_Fits q e1 with _ | r2
        · rw [h4] at h; cases h
        · rw [h4, Option.bind_some] at h
          replace h4 := run_ferrymanref06_Fits q (M + 7) (by omega) _ _ h4
          try simp only [Ow.enc, S_api_Op.enc, S_api_Record.enc, kn, simprocAttr, eq_self_iff_true, implies_true, forall_const, Int.cast_ofNat_Int] at h4
          rcases Classical.em (r2 = true) with h5 | h5
          · rw [if_pos h5] at h; have h5' := bt1 h5; replace h5 := eq_true h5
            rcases Classical.em (0 < v3) with h6 | h6
            · rw [if_pos h6] at h; replace h6 := eq_true h6
              rcases Classical.em (0 ≤ (wrp .i64 (v3 - 1))) with h7 | h7
              · rw [if_pos h7] at h; replace h7 := eq_true h7
                try simp only [kn, simprocAttr, eq_self_iff_true, implies_true, forall_const, Int.cast_ofNat_Int] at h7
                rcases h8 : v0l[(wrp .i64 (v3 - 1)).toNat]? with _ | e3
                · rw [h8] at h; cases h
                · rw [h8, Option.bind_some] at h
                  rcases Classical.em (e1.Index = (wrp .i64 (e3.Index + 1))) with h9 | h9
                  · rw [if_pos h9] at h; replace h9 := eq_true h9
                    try simp only [kn, simprocAttr, eq_self_iff_true, implies_true, forall_const, Int.cast_ofNat_Int] at h9
                    replace h := ih_ferrymanref07_Fits_l0 M (by omega) j (by omega) _ _ _ _ h R hR
                    simp (maxDischargeDepth := 12) only [kk, kn, simprocAttr, eq_self_iff_true, implies_true, forall_const, Int.cast_ofNat_Int, L_ferrymanref07_Fits, v_ferrymanref06_Fits, Ow.enc, S_api_Op.enc, S_api_Record.enc, Sl.enc, rr_ferrymanref07_Fits, ro_ferrymanref07_Fits, b0_ferrymanref07_Fits, *]
                  · rw [if_neg h9] at h; replace h9 := eq_false h9
                    try simp only [kn, simprocAttr, eq_self_iff_true, implies_true, forall_const, Int.cast_ofNat_Int] at h9
                    cases h; subst hR; simp (maxDischargeDepth := 12) only [kk, kn, simprocAttr, eq_self_iff_true, implies_true, forall_const, Int.cast_ofNat_Int, L_ferrymanref07_Fits, v_ferrymanref06_Fits, Ow.enc, S_api_Op.enc, S_api_Record.enc, Sl.enc, rr_ferrymanref07_Fits, ro_ferrymanref07_Fits, b0_ferrymanref07_Fits, *]
              · rw [if_neg h7] at h; replace h7 := eq_false h7
                try simp only [kn, simprocAttr, eq_self_iff_true, implies_true, forall_const, Int.cast_ofNat_Int] at h7
                cases h
            · rw [if_neg h6] at h; replace h6 := eq_false h6
              replace h := ih_ferrymanref07_Fits_l0 M (by omega) j (by omega) _ _ _ _ h R hR
              simp (maxDischargeDepth := 12) only [kk, kn, simprocAttr, eq_self_iff_true, implies_true, forall_const, Int.cast_ofNat_Int, L_ferrymanref07_Fits, v_ferrymanref06_Fits, Ow.enc, S_api_Op.enc, S_api_Record.enc, Sl.enc, rr_ferrymanref07_Fits, ro_ferrymanref07_Fits, b0_ferrymanref07_Fits, *]
          · rw [if_neg h5] at h; have h5' := bt0 h5; replace h5 := eq_false h5
            cases h; subst hR; simp (maxDischargeDepth := 12) only [kk, kn, simprocAttr, eq_self_iff_true, implies_true, forall_const, Int.cast_ofNat_Int, L_ferrymanref07_Fits, v_ferrymanref06_Fits, Ow.enc, S_api_Op.enc, S_api_Record.enc, Sl.enc, rr_ferrymanref07_Fits, ro_ferrymanref07_Fits, b0_ferrymanref07_Fits, *]
    · rw [if_neg h2] at h; replace h2 := eq_false h2
      cases h
  · rw [if_neg h1] at h; replace h1 := eq_false h1
    cases h; subst hR; simp (maxDischargeDepth := 12) only [kk, kn, simprocAttr, eq_self_iff_true, implies_true, forall_const, Int.cast_ofNat_Int, L_ferrymanref07_Fits, v_ferrymanref06_Fits, Ow.enc, S_api_Op.enc, S_api_Record.enc, Sl.enc, rr_ferrymanref07_Fits, ro_ferrymanref07_Fits, b0_ferrymanref07_Fits, *]
theorem all_ferrymanref07_Fits : ∀ q, St_ferrymanref07_Fits_l0 q
  | 0 => by intro M hM j hj; intros; rename_i h _ _ _ _ _; cases h
  | q + 1 => by have i0 := all_ferrymanref07_Fits q; exact step_ferrymanref07_Fits_l0 q i0
theorem run_ferrymanref07_Fits : ∀ (q N : Nat), 8 * q ≤ N → ∀ (a0 : (Sl S_api_Record)), ∀ (r : Bool), ferrymanref07_Fits q a0 = some r → (orc T N).deep F.ferrymanref07_Fits [(Sl.enc S_api_Record.enc) a0] = some [V.bool r] := by
  intro q N hM a0 r h
  rcases q with _ | q
  · cases h
  obtain ⟨M, rfl⟩ : ∃ M, N = M + 8 := ⟨N - 8, by omega⟩
  have ih_ferrymanref07_Fits_l0 := (all_ferrymanref07_Fits q)
  generalize hR : some [V.bool r] = R
  rw [orc_deep, T_ferrymanref07_Fits, Option.bind_some, runDeep_eq]
  rw [ferrymanref07_Fits] at h
  rcases Classical.em ((a0.l.length : Int) < 1) with h1 | h1
  · rw [if_pos h1] at h; replace h1 := eq_true h1
    cases h; subst hR; simp (maxDischargeDepth := 12) only [kk, kn, simprocAttr, eq_self_iff_true, implies_true, forall_const, Int.cast_ofNat_Int, L_ferrymanref07_Fits, v_ferrymanref06_Fits, Ow.enc, S_api_Op.enc, S_api_Record.enc, Sl.enc, rr_ferrymanref07_Fits, ro_ferrymanref07_Fits, b0_ferrymanref07_Fits, *]
  · rw [if_neg h1] at h; replace h1 := eq_false h1
    rcases Classical.em (256 < (a0.l.length : Int)) with h2 | h2
    · rw [if_pos h2] at h; replace h2 := eq_true h2
      cases h; subst hR; simp (maxDischargeDepth := 12) only [kk, kn, simprocAttr, eq_self_iff_true, implies_true, forall_const, Int.cast_ofNat_Int, L_ferrymanref07_Fits, v_ferrymanref06_Fits, Ow.enc, S_api_Op.enc, S_api_Record.enc, Sl.enc, rr_ferrymanref07_Fits, ro_ferrymanref07_Fits, b0_ferrymanref07_Fits, *]
    · rw [if_neg h2] at h; replace h2 := eq_false h2
      replace h := ih_ferrymanref07_Fits_l0 M (by omega) (M + 7) (by omega) _ _ _ _ h R hR
      simp (maxDischargeDepth := 12) only [kk, kn, simprocAttr, eq_self_iff_true, implies_true, forall_const, Int.cast_ofNat_Int, L_ferrymanref07_Fits, v_ferrymanref06_Fits, Ow.enc, S_api_Op.enc, S_api_Record.enc, Sl.enc, rr_ferrymanref07_Fits, ro_ferrymanref07_Fits, b0_ferrymanref07_Fits, *]
def St_ferrymanref07_last_l0 (q : Nat) : Prop := ∀ (M : Nat) (hM : 8 * q ≤ M) (j : Nat) (hj : q ≤ j) (v0z : Bool) (v0l : List S_api_Record) (v1 : Int) (v5 : Int) (r : Int) (_ : ferrymanref07_last_l0 q v0z v0l v1 v5 = some r) (R : Option (List V)) (_ : some [(V.int .i64) r] = R) (fr : Fr) (H : Hp) (_ : canon 0 [0, 1, 5] fr H = ([(0, (.sl v0z (List.map S_api_Record.enc v0l))), (1, (.int .i64 v1)), (5, (.int .i64 v5))], [])), fin m_ferrymanref07_last (unw T (orc T (M + 7)) (M + 7) 0 [.blk 0, .code c_ferrymanref07_last_14] (iter 0 [0, 1, 5] (exec T (orc T (M + 7)) (M + 7) 0 c_ferrymanref07_last_11) j fr H)) = R
theorem step_ferrymanref07_last_l0 (q : Nat) (ih_ferrymanref07_last_l0 : St_ferrymanref07_last_l0 q) : St_ferrymanref07_last_l0 (q + 1) := by
  intro M hM j hj v0z v0l v1 v5 r h R hR fr H hc
  obtain ⟨j, rfl⟩ : ∃ i, j = i + 1 := ⟨j - 1, by omega⟩
  rw [unw_iter, hc]; clear hc
  rw [ferrymanref07_last_l0] at h
  rcases Classical.em (0 ≤ v5) with h1 | h1
  · rw [if_pos h1] at h; replace h1 := eq_true h1
    rcases h2 : v0l[v5.toNat]? with _ | e1
    · rw [h2] at h; cases h
    · rw [h2, Option.bind_some] at h
      rcases Classical.em (e1.Proc = v1) with h3 | h3
      · rw [if_pos h3] at h; replace h3 := eq_true h3
        cases h; subst hR; simp (maxDischargeDepth := 12) only [kk, kn, simprocAttr, eq_self_iff_true, implies_true, forall_const, Int.cast_ofNat_Int, L_ferrymanref07_last, Ow.enc, S_api_Op.enc, S_api_Record.enc, Sl.enc, rr_ferrymanref07_last, ro_ferrymanref07_last, b0_ferrymanref07_last, *]
      · rw [if_neg h3] at h; replace h3 := eq_false h3
        replace h := ih_ferrymanref07_last_l0 M (by omega) j (by omega) _ _ _ _ _ h R hR
        simp (maxDischargeDepth := 12) only [kk, kn, simprocAttr, eq_self_iff_true, implies_true, forall_const, Int.cast_ofNat_Int, L_ferrymanref07_last, Ow.enc, S_api_Op.enc, S_api_Record.enc, Sl.enc, rr_ferrymanref07_last, ro_ferrymanref07_last, b0_ferrymanref07_last, *]
  · rw [if_neg h1] at h; replace h1 := eq_false h1
    cases h; subst hR; simp (maxDischargeDepth := 12) only [kk, kn, simprocAttr, eq_self_iff_true, implies_true, forall_const, Int.cast_ofNat_Int, L_ferrymanref07_last, Ow.enc, S_api_Op.enc, S_api_Record.enc, Sl.enc, rr_ferrymanref07_last, ro_ferrymanref07_last, b0_ferrymanref07_last, *]
theorem all_ferrymanref07_last : ∀ q, St_ferrymanref07_last_l0 q
  | 0 => by intro M hM j hj; intros; rename_i h _ _ _ _ _; cases h
  | q + 1 => by have i0 := all_ferrymanref07_last q; exact step_ferrymanref07_last_l0 q i0
theorem run_ferrymanref07_last : ∀ (q N : Nat), 8 * q ≤ N → ∀ (a0 : (Sl S_api_Record)) (a1 : Int), ∀ (r : Int), ferrymanref07_last q a0 a1 = some r → (orc T N).deep F.ferrymanref07_last [(Sl.enc S_api_Record.enc) a0, (V.int .i64) a1] = some [(V.int .i64) r] := by
  intro q N hM a0 a1 r h
  rcases q with _ | q
  · cases h
  obtain ⟨M, rfl⟩ : ∃ M, N = M + 8 := ⟨N - 8, by omega⟩
  have ih_ferrymanref07_last_l0 := (all_ferrymanref07_last q)
  generalize hR : some [(V.int .i64) r] = R
  rw [orc_deep, T_ferrymanref07_last, Option.bind_some, runDeep_eq]
  rw [ferrymanref07_last] at h
  replace h := ih_ferrymanref07_last_l0 M (by omega) (M + 7) (by omega) _ _ _ _ _ h R hR
  simp (maxDischargeDepth := 12) only [kk, kn, simprocAttr, eq_self_iff_true, implies_true, forall_const, Int.cast_ofNat_Int, L_ferrymanref07_last, Ow.enc, S_api_Op.enc, S_api_Record.enc, Sl.enc, rr_ferrymanref07_last, ro_ferrymanref07_last, b0_ferrymanref07_last, *]
theorem run_ferrymanref01_Zig : ∀ (q N : Nat), 8 * q ≤ N → ∀ (a0 : Int), ∀ (r : Int), ferrymanref01_Zig q a0 = some r → (orc T N).deep F.ferrymanref01_Zig [(V.int .i64) a0] = some [(V.int .u64) r] := by
  intro q N hM a0 r h
  rcases q with _ | q
  · cases h
  obtain ⟨M, rfl⟩ : ∃ M, N = M + 8 := ⟨N - 8, by omega⟩
  generalize hR : some [(V.int .u64) r] = R
  rw [orc_deep, T_ferrymanref01_Zig, Option.bind_some, runDeep_eq]
  rw [ferrymanref01_Zig] at h
  rcases Classical.em (0 ≤ a0) with h1 | h1
  · rw [if_pos h1] at h; replace h1 := eq_true h1
    cases h; subst hR; simp (maxDischargeDepth := 12) only [kk, kn, simprocAttr, eq_self_iff_true, implies_true, forall_const, Int.cast_ofNat_Int, L_ferrymanref01_Zig, Ow.enc, Sl.enc, rr_ferrymanref01_Zig, ro_ferrymanref01_Zig, b0_ferrymanref01_Zig, *]
  · rw [if_neg h1] at h; replace h1 := eq_false h1
    cases h; subst hR; simp (maxDischargeDepth := 12) only [kk, kn, simprocAttr, eq_self_iff_true, implies_true, forall_const, Int.cast_ofNat_Int, L_ferrymanref01_Zig, Ow.enc, Sl.enc, rr_ferrymanref01_Zig, ro_ferrymanref01_Zig, b0_ferrymanref01_Zig, *]
theorem run_ferrymanref01_PutSigned : ∀ (q N : Nat), 8 * q ≤ N → ∀ (a0 : (Sl Int)) (a1 : Int), ∀ (r : (Ow Int)), ferrymanref01_PutSigned q a0 a1 = some r → (orc T N).deep F.ferrymanref01_PutSigned [(Sl.enc (V.int .u8)) a0, (V.int .i64) a1] = some [(Ow.enc 1 (V.int .u8)) r] := by
  intro q N hM a0 a1 r h
  rcases q with _ | q
  · cases h
  obtain ⟨M, rfl⟩ : ∃ M, N = M + 8 := ⟨N - 8, by omega⟩
  generalize hR : some [(Ow.enc 1 (V.int .u8)) r] = R
  rw [orc_deep, T_ferrymanref01_PutSigned, Option.bind_some, runDeep_eq]
  rw [ferrymanref01_PutSigned] at h
  rcases Classical.em (a0.l.length ≤ 4294967296) with h1 | h1
  · rw [if_pos h1] at h; replace h1 := eq_true h1
    rcases h2 : ferrymanref01_Zig q a1 with _ | r1
    · rw [h2] at h; cases h
    · rw [h2, Option.bind_some] at h
      replace h2 := run_ferrymanref01_Zig q (M + 7) (by omega) _ _ h2
      skip
      rcases h3 : ferrymanref01_groups q r1 with _ | r2
      · rw [h3] at h; cases h
      · rw [h3, Option.bind_some] at h
        replace h3 := run_ferrymanref01_groups q (M + 7) (by omega) _ _ h3
        try simp only [Ow.enc, kn, simprocAttr, eq_self_iff_true, implies_true, forall_const, Int.cast_ofNat_Int] at h3
        rcases Classical.em ((a0.l.length + r2.xs.length) ≤ 4294967296) with h4 | h4
        · rw [if_pos h4] at h; replace h4 := eq_true h4
          try simp only [kn, simprocAttr, eq_self_iff_true, implies_true, forall_const, Int.cast_ofNat_Int] at h4
          cases h; subst hR; simp (maxDischargeDepth := 12) only [kk, kn, simprocAttr, eq_self_iff_true, implies_true, forall_const, Int.cast_ofNat_Int, L_ferrymanref01_PutSigned, v_ferrymanref01_groups, v_ferrymanref01_Zig, Ow.enc, Sl.enc, rr_ferrymanref01_PutSigned, ro_ferrymanref01_PutSigned, b0_ferrymanref01_PutSigned, *]
        · rw [if_neg h4] at h; replace h4 := eq_false h4
          try simp only [kn, simprocAttr, eq_self_iff_true, implies_true, forall_const, Int.cast_ofNat_Int] at h4
          cases h
  · rw [if_neg h1] at h; replace h1 := eq_false h1
    cases h
theorem run_ferrymanref05_PutOp : ∀ (q N : Nat), 8 * q ≤ N → ∀ (a0 : (Sl Int)) (a1 : S_api_Op), ∀ (r : (Ow Int) × Int), ferrymanref05_PutOp q a0 a1 = some r → (orc T N).deep F.ferrymanref05_PutOp [(Sl.enc (V.int .u8)) a0, S_api_Op.enc a1] = some [(Ow.enc 1 (V.int .u8)) r.1, (V.int .i64) r.2] := by
  intro q N hM a0 a1 r h
  rcases q with _ | q
  · cases h
  obtain ⟨M, rfl⟩ : ∃ M, N = M + 8 := ⟨N - 8, by omega⟩
  generalize hR : some [(Ow.enc 1 (V.int .u8)) r.1, (V.int .i64) r.2] = R
  rw [orc_deep, T_ferrymanref05_PutOp, Option.bind_some, runDeep_eq]
  rw [ferrymanref05_PutOp] at h
  rcases Classical.em (a0.l.length ≤ 4294967296) with h1 | h1
  · rw [if_pos h1] at h; replace h1 := eq_true h1
    rcases h2 : ferrymanref04_Fits q a1 with _ | r1
    · rw [h2] at h; cases h
    · rw [h2, Option.bind_some] at h
      replace h2 := run_ferrymanref04_Fits q (M + 7) (by omega) _ _ h2
      try simp only [Ow.enc, S_api_Op.enc, kn, simprocAttr, eq_self_iff_true, implies_true, forall_const, Int.cast_ofNat_Int] at h2
      rcases Classical.em (r1 = true) with h3 | h3
      · rw [if_pos h3] at h; have h3' := bt1 h3; replace h3 := eq_true h3
        rcases h4 : ferrymanref01_Put q ⟨(decide (a0.l.length = 0)), a0.l⟩ a1.Code with _ | r2
        · rw [h4] at h; cases h
        · rw [h4, Option.bind_some] at h
          replace h4 := run_ferrymanref01_Put q (M + 7) (by omega) _ _ _ h4
          try simp only [Ow.enc, Sl.enc, kn, simprocAttr, eq_self_iff_true, implies_true, forall_const, Int.cast_ofNat_Int] at h4
          rcases h5 : ferrymanref01_PutSigned q ⟨r2.n, r2.xs⟩ a1.A with _ | r3
          · rw [h5] at h; cases h
          · rw [h5, Option.bind_some] at h
            replace h5 := run_ferrymanref01_PutSigned q (M + 7) (by omega) _ _ _ h5
            try simp only [Ow.enc, Sl.enc, kn, simprocAttr, eq_self_iff_true, implies_true, forall_const, Int.cast_ofNat_Int] at h5
            rcases h6 : ferrymanref01_PutSigned q ⟨r3.n, r3.xs⟩ a1.B with _ | r4
            · rw [h6] at h; cases h
            · rw [h6, Option.bind_some] at h
              replace h6 := run_ferrymanref01_PutSigned q (M + 7) (by omega) _ _ _ h6
              try simp only [Ow.enc, Sl.enc, kn, simprocAttr, eq_self_iff_true, implies_true, forall_const, Int.cast_ofNat_Int] at h6
              cases h; subst hR; simp (maxDischargeDepth := 12) only [kk, kn, simprocAttr, eq_self_iff_true, implies_true, forall_const, Int.cast_ofNat_Int, L_ferrymanref05_PutOp, v_ferrymanref01_Put, v_ferrymanref04_Fits, v_ferrymanref01_PutSigned, Ow.enc, S_api_Op.enc, Sl.enc, rr_ferrymanref05_PutOp, ro_ferrymanref05_PutOp, b0_ferrymanref05_PutOp, *]
      · rw [if_neg h3] at h; have h3' := bt0 h3; replace h3 := eq_false h3
        cases h; subst hR; simp (maxDischargeDepth := 12) only [kk, kn, simprocAttr, eq_self_iff_true, implies_true, forall_const, Int.cast_ofNat_Int, L_ferrymanref05_PutOp, v_ferrymanref01_Put, v_ferrymanref04_Fits, v_ferrymanref01_PutSigned, Ow.enc, S_api_Op.enc, Sl.enc, rr_ferrymanref05_PutOp, ro_ferrymanref05_PutOp, b0_ferrymanref05_PutOp, *]
  · rw [if_neg h1] at h; replace h1 := eq_false h1
    cases h
def St_ferrymanref07_Encode_l0 (q : Nat) : Prop := ∀ (M : Nat) (hM : 8 * q ≤ M) (j : Nat) (hj : q ≤ j) (v0z : Bool) (v0l : List S_api_Record) (v6 : Int) (h0z : Bool) (h0l : List Int) (h0x : Bool) (r : (Ow Int) × Int) (_ : ferrymanref07_Encode_l0 q v0z v0l v6 h0z h0l h0x = some r) (R : Option (List V)) (_ : some [(Ow.enc 1 (V.int .u8)) r.1, (V.int .i64) r.2] = R) (fr : Fr) (H : Hp) (_ : canon 0 [0, 5, 6] fr H = ([(0, (.sl v0z (List.map S_api_Record.enc v0l))), (5, (.vw 0 0 0 h0l.length 1)), (6, (.int .i64 v6))], [(.row 0 h0z 1 (List.map (V.int .u8) h0l) h0x)])), fin m_ferrymanref07_Encode (unw T (orc T (M + 7)) (M + 7) 0 [.blk 0, .code c_ferrymanref07_Encode_24] (iter 0 [0, 5, 6] (exec T (orc T (M + 7)) (M + 7) 0 c_ferrymanref07_Encode_21) j fr H)) = R
theorem step_ferrymanref07_Encode_l0 (q : Nat) (ih_ferrymanref07_Encode_l0 : St_ferrymanref07_Encode_l0 q) : St_ferrymanref07_Encode_l0 (q + 1) := by
  intro M hM j hj v0z v0l v6 h0z h0l h0x r h R hR fr H hc
  obtain ⟨j, rfl⟩ : ∃ i, j = i + 1 := ⟨j - 1, by omega⟩
  rw [unw_iter, hc]; clear hc
  rw [ferrymanref07_Encode_l0] at h
  rcases Classical.em (v6 < (v0l.length : Int)) with h1 | h1
  · rw [if_pos h1] at h; replace h1 := eq_true h1
    rcases Classical.em (0 ≤ v6) with h2 | h2
    · rw [if_pos h2] at h; replace h2 := eq_true h2
      rcases h3 : v0l[v6.toNat]? with _ | e5
      · rw [h3] at h; cases h
      · rw [h3, Option.bind_some] at h
        rcases h4 : ferrymanref01_Put q ⟨h0z, h0l⟩ e5.Proc with _ | r6
        · rw [h4] at h; cases h
        · rw [h4, Option.bind_some] at h
          replace h4 := run_ferrymanref01_Put q (M + 7) (by omega) _ _ _ h4
          try simp only [Ow.enc, Sl.enc, kn, simprocAttr, eq_self_iff_true, implies_true, forall_const, Int.cast_ofNat_Int] at h4
          rcases Classical.em (v6.toNat ≤ v0l.length) with h5 | h5
          · rw [if_pos h5] at h; replace h5 := eq_true h5
            rcases h6 : ferrymanref07_last q ⟨v0z, (List.take v6.toNat v0l)⟩ e5.Proc with _ | r7
            · rw [h6] at h; cases h
            · rw [h6, Option.bind_some] at h
              replace h6 := run_ferrymanref07_last q (M + 7) (by omega) _ _ _ h6
              try simp only [Ow.enc, S_api_Op.enc, S_api_Record.enc, Sl.enc, kn, simprocAttr, eq_self_iff_true, implies_true, forall_const, Int.cast_ofNat_Int] at h6
              rcases h7 : ferrymanref01_PutSigned q ⟨r6.n, r6.xs⟩ (wrp .i64 (e5.Seq - r7)) with _ | r8
              · rw [h7] at h; cases h
              · rw [h7, Option.bind_some] at h
                replace h7 := run_ferrymanref01_PutSigned q (M + 7) (by omega) _ _ _ h7
                try simp only [Ow.enc, Sl.enc, kn, simprocAttr, eq_self_iff_true, implies_true, forall_const, Int.cast_ofNat_Int] at h7
                rcases h8 : ferrymanref05_PutOp q ⟨r8.n, r8.xs⟩ e5.Op with _ | r9
                · rw [h8] at h; cases h
                · rw [h8, Option.bind_some] at h
                  replace h8 := run_ferrymanref05_PutOp q (M + 7) (by omega) _ _ _ h8
                  try simp only [Ow.enc, S_api_Op.enc, Sl.enc, kn, simprocAttr, eq_self_iff_true, implies_true, forall_const, Int.cast_ofNat_Int] at h8
                  rcases h9 : ferrymanref01_PutSigned q ⟨r9.1.n, r9.1.xs⟩ e5.Resp with _ | r10
                  · rw [h9] at h; cases h
                  · rw [h9, Option.bind_some] at h
                    replace h9 := run_ferrymanref01_PutSigned q (M + 7) (by omega) _ _ _ h9
                    try simp only [Ow.enc, Sl.enc, kn, simprocAttr, eq_self_iff_true, implies_true, forall_const, Int.cast_ofNat_Int] at h9
                    replace h := ih_ferrymanref07_Encode_l0 M (by omega) j (by omega) _ _ _ _ _ _ _ h R hR
                    simp (maxDischargeDepth := 12) only [kk, kn, simprocAttr, eq_self_iff_true, implies_true, forall_const, Int.cast_ofNat_Int, L_ferrymanref07_Encode, v_ferrymanref01_Put, v_ferrymanref07_Fits, v_ferrymanref01_PutSigned, v_ferrymanref07_last, v_ferrymanref05_PutOp, Ow.enc, S_api_Op.enc, S_api_Record.enc, Sl.enc, rr_ferrymanref07_Encode, ro_ferrymanref07_Encode, b0_ferrymanref07_Encode, *]
          · rw [if_neg h5] at h; replace h5 := eq_false h5
            cases h
    · rw [if_neg h2] at h; replace h2 := eq_false h2
      cases h
  · rw [if_neg h1] at h; replace h1 := eq_false h1
    cases h; subst hR; simp (maxDischargeDepth := 12) only [kk, kn, simprocAttr, eq_self_iff_true, implies_true, forall_const, Int.cast_ofNat_Int, L_ferrymanref07_Encode, v_ferrymanref01_Put, v_ferrymanref07_Fits, v_ferrymanref01_PutSigned, v_ferrymanref07_last, v_ferrymanref05_PutOp, Ow.enc, S_api_Op.enc, S_api_Record.enc, Sl.enc, rr_ferrymanref07_Encode, ro_ferrymanref07_Encode, b0_ferrymanref07_Encode, *]
theorem all_ferrymanref07_Encode : ∀ q, St_ferrymanref07_Encode_l0 q
  | 0 => by intro M hM j hj; intros; rename_i h _ _ _ _ _; cases h
  | q + 1 => by have i0 := all_ferrymanref07_Encode q; exact step_ferrymanref07_Encode_l0 q i0
theorem run_ferrymanref07_Encode : ∀ (q N : Nat), 8 * q ≤ N → ∀ (a0 : (Sl S_api_Record)), ∀ (r : (Ow Int) × Int), ferrymanref07_Encode q a0 = some r → (orc T N).deep F.ferrymanref07_Encode [(Sl.enc S_api_Record.enc) a0] = some [(Ow.enc 1 (V.int .u8)) r.1, (V.int .i64) r.2] := by
  intro q N hM a0 r h
  rcases q with _ | q
  · cases h
  obtain ⟨M, rfl⟩ : ∃ M, N = M + 8 := ⟨N - 8, by omega⟩
  have ih_ferrymanref07_Encode_l0 := (all_ferrymanref07_Encode q)
  generalize hR : some [(Ow.enc 1 (V.int .u8)) r.1, (V.int .i64) r.2] = R
  rw [orc_deep, T_ferrymanref07_Encode, Option.bind_some, runDeep_eq]
  rw [ferrymanref07_Encode] at h
  rcases h1 : ferrymanref07_Fits q a0 with _ | r1
  · rw [h1] at h; cases h
  · rw [h1, Option.bind_some] at h
    replace h1 := run_ferrymanref07_Fits q (M + 7) (by omega) _ _ h1
    try simp only [Ow.enc, S_api_Op.enc, S_api_Record.enc, Sl.enc, kn, simprocAttr, eq_self_iff_true, implies_true, forall_const, Int.cast_ofNat_Int] at h1
    rcases Classical.em (r1 = true) with h2 | h2
    · rw [if_pos h2] at h; have h2' := bt1 h2; replace h2 := eq_true h2
      rcases h3 : a0.l[0]? with _ | e2
      · rw [h3] at h; cases h
      · rw [h3, Option.bind_some] at h
        rcases h4 : ferrymanref01_Put q ⟨true, []⟩ e2.Index with _ | r3
        · rw [h4] at h; cases h
        · rw [h4, Option.bind_some] at h
          replace h4 := run_ferrymanref01_Put q (M + 7) (by omega) _ _ _ h4
          try simp only [Ow.enc, Sl.enc, kn, simprocAttr, eq_self_iff_true, implies_true, forall_const, Int.cast_ofNat_Int] at h4
          rcases h5 : ferrymanref01_Put q ⟨r3.n, r3.xs⟩ (a0.l.length : Int) with _ | r4
          · rw [h5] at h; cases h
          · rw [h5, Option.bind_some] at h
            replace h5 := run_ferrymanref01_Put q (M + 7) (by omega) _ _ _ h5
            try simp only [Ow.enc, Sl.enc, kn, simprocAttr, eq_self_iff_true, implies_true, forall_const, Int.cast_ofNat_Int] at h5
            replace h := ih_ferrymanref07_Encode_l0 M (by omega) (M + 7) (by omega) _ _ _ _ _ _ _ h R hR
            simp (maxDischargeDepth := 12) only [kk, kn, simprocAttr, eq_self_iff_true, implies_true, forall_const, Int.cast_ofNat_Int, L_ferrymanref07_Encode, v_ferrymanref01_Put, v_ferrymanref07_Fits, v_ferrymanref01_PutSigned, v_ferrymanref07_last, v_ferrymanref05_PutOp, Ow.enc, S_api_Op.enc, S_api_Record.enc, Sl.enc, rr_ferrymanref07_Encode, ro_ferrymanref07_Encode, b0_ferrymanref07_Encode, *]
    · rw [if_neg h2] at h; have h2' := bt0 h2; replace h2 := eq_false h2
      cases h; subst hR; simp (maxDischargeDepth := 12) only [kk, kn, simprocAttr, eq_self_iff_true, implies_true, forall_const, Int.cast_ofNat_Int, L_ferrymanref07_Encode, v_ferrymanref01_Put, v_ferrymanref07_Fits, v_ferrymanref01_PutSigned, v_ferrymanref07_last, v_ferrymanref05_PutOp, Ow.enc, S_api_Op.enc, S_api_Record.enc, Sl.enc, rr_ferrymanref07_Encode, ro_ferrymanref07_Encode, b0_ferrymanref07_Encode, *]
theorem run_ferrymanref06_has : ∀ (q N : Nat), 8 * q ≤ N → ∀ (a0 : Int) (a1 : Int), ∀ (r : Bool), ferrymanref06_has q a0 a1 = some r → (orc T N).deep F.ferrymanref06_has [(V.int .i64) a0, (V.int .i64) a1] = some [V.bool r] := by
  intro q N hM a0 a1 r h
  rcases q with _ | q
  · cases h
  obtain ⟨M, rfl⟩ : ∃ M, N = M + 8 := ⟨N - 8, by omega⟩
  generalize hR : some [V.bool r] = R
  rw [orc_deep, T_ferrymanref06_has, Option.bind_some, runDeep_eq]
  rw [ferrymanref06_has] at h
  rcases Classical.em (a1 = 1) with h1 | h1
  · rw [if_pos h1] at h; replace h1 := eq_true h1
    cases h; subst hR; simp (maxDischargeDepth := 12) only [kk, kn, simprocAttr, eq_self_iff_true, implies_true, forall_const, Int.cast_ofNat_Int, L_ferrymanref06_has, Ow.enc, Sl.enc, rr_ferrymanref06_has, ro_ferrymanref06_has, b0_ferrymanref06_has, *]
  · rw [if_neg h1] at h; replace h1 := eq_false h1
    rcases Classical.em (a1 = 2) with h2 | h2
    · rw [if_pos h2] at h; replace h2 := eq_true h2
      cases h; subst hR; simp (maxDischargeDepth := 12) only [kk, kn, simprocAttr, eq_self_iff_true, implies_true, forall_const, Int.cast_ofNat_Int, L_ferrymanref06_has, Ow.enc, Sl.enc, rr_ferrymanref06_has, ro_ferrymanref06_has, b0_ferrymanref06_has, *]
    · rw [if_neg h2] at h; replace h2 := eq_false h2
      rcases Classical.em (a1 = 4) with h3 | h3
      · rw [if_pos h3] at h; replace h3 := eq_true h3
        cases h; subst hR; simp (maxDischargeDepth := 12) only [kk, kn, simprocAttr, eq_self_iff_true, implies_true, forall_const, Int.cast_ofNat_Int, L_ferrymanref06_has, Ow.enc, Sl.enc, rr_ferrymanref06_has, ro_ferrymanref06_has, b0_ferrymanref06_has, *]
      · rw [if_neg h3] at h; replace h3 := eq_false h3
        rcases Classical.em (a1 = 3) with h4 | h4
        · rw [if_pos h4] at h; replace h4 := eq_true h4
          rcases Classical.em (2 ≤ a0) with h5 | h5
          · rw [if_pos h5] at h; replace h5 := eq_true h5
            cases h; subst hR; simp (maxDischargeDepth := 12) only [kk, kn, simprocAttr, eq_self_iff_true, implies_true, forall_const, Int.cast_ofNat_Int, L_ferrymanref06_has, Ow.enc, Sl.enc, rr_ferrymanref06_has, ro_ferrymanref06_has, b0_ferrymanref06_has, *]
          · rw [if_neg h5] at h; replace h5 := eq_false h5
            rcases Classical.em (a1 = 5) with h6 | h6
            · rw [if_pos h6] at h; replace h6 := eq_true h6
              cases h; subst hR; simp (maxDischargeDepth := 12) only [kk, kn, simprocAttr, eq_self_iff_true, implies_true, forall_const, Int.cast_ofNat_Int, L_ferrymanref06_has, Ow.enc, Sl.enc, rr_ferrymanref06_has, ro_ferrymanref06_has, b0_ferrymanref06_has, *]
            · rw [if_neg h6] at h; replace h6 := eq_false h6
              cases h; subst hR; simp (maxDischargeDepth := 12) only [kk, kn, simprocAttr, eq_self_iff_true, implies_true, forall_const, Int.cast_ofNat_Int, L_ferrymanref06_has, Ow.enc, Sl.enc, rr_ferrymanref06_has, ro_ferrymanref06_has, b0_ferrymanref06_has, *]
        · rw [if_neg h4] at h; replace h4 := eq_false h4
          rcases Classical.em (a1 = 5) with h7 | h7
          · rw [if_pos h7] at h; replace h7 := eq_true h7
            cases h; subst hR; simp (maxDischargeDepth := 12) only [kk, kn, simprocAttr, eq_self_iff_true, implies_true, forall_const, Int.cast_ofNat_Int, L_ferrymanref06_has, Ow.enc, Sl.enc, rr_ferrymanref06_has, ro_ferrymanref06_has, b0_ferrymanref06_has, *]
          · rw [if_neg h7] at h; replace h7 := eq_false h7
            cases h; subst hR; simp (maxDischargeDepth := 12) only [kk, kn, simprocAttr, eq_self_iff_true, implies_true, forall_const, Int.cast_ofNat_Int, L_ferrymanref06_has, Ow.enc, Sl.enc, rr_ferrymanref06_has, ro_ferrymanref06_has, b0_ferrymanref06_has, *]
def St_ferrymanref06_Encode_l0 (q : Nat) : Prop := ∀ (M : Nat) (hM : 8 * q ≤ M) (j : Nat) (hj : q ≤ j) (v0 : Int) (v8 : Int) (h0_0 : Int) (h0_1 : Int) (h0_2 : Int) (h0_3 : Int) (h0_4 : Int) (h0_5 : Int) (h0_6 : Int) (h1z : Bool) (h1l : List Int) (h1x : Bool) (r : (Ow Int) × Int) (_ : ferrymanref06_Encode_l0 q v0 v8 h0_0 h0_1 h0_2 h0_3 h0_4 h0_5 h0_6 h1z h1l h1x = some r) (R : Option (List V)) (_ : some [(Ow.enc 1 (V.int .u8)) r.1, (V.int .i64) r.2] = R) (fr : Fr) (H : Hp) (_ : canon 0 [0, 3, 7, 8] fr H = ([(0, (.int .i64 v0)), (3, (.ptr 0 0)), (7, (.vw 1 0 0 h1l.length 1)), (8, (.int .i64 v8))], [(.box [(.int .i64 h0_0), (.int .i64 h0_1), (.int .i64 h0_2), (.int .i64 h0_3), (.int .i64 h0_4), (.int .i64 h0_5), (.int .i64 h0_6)]), (.row 0 h1z 1 (List.map (V.int .u8) h1l) h1x)])), fin m_ferrymanref06_Encode (unw T (orc T (M + 7)) (M + 7) 0 [.blk 0, .code c_ferrymanref06_Encode_45] (iter 0 [0, 3, 7, 8] (exec T (orc T (M + 7)) (M + 7) 0 c_ferrymanref06_Encode_42) j fr H)) = R
theorem step_ferrymanref06_Encode_l0 (q : Nat) (ih_ferrymanref06_Encode_l0 : St_ferrymanref06_Encode_l0 q) : St_ferrymanref06_Encode_l0 (q + 1) := by
  intro M hM j hj v0 v8 h0_0 h0_1 h0_2 h0_3 h0_4 h0_5 h0_6 h1z h1l h1x r h R hR fr H hc
  obtain ⟨j, rfl⟩ : ∃ i, j = i + 1 := ⟨j - 1, by omega⟩
  rw [unw_iter, hc]; clear hc
  rw [ferrymanref06_Encode_l0] at h
  rcases Classical.em (v8 ≤ 5) with h1 | h1
  · rw [if_pos h1] at h; replace h1 := eq_true h1
    rcases h2 : ferrymanref06_has q v0 v8 with _ | r3
    · rw [h2] at h; cases h
    · rw [h2, Option.bind_some] at h
      replace h2 := run_ferrymanref06_has q (M + 7) (by omega) _ _ _ h2
      skip
      rcases Classical.em (r3 = true) with h3 | h3
      · rw [if_pos h3] at h; have h3' := bt1 h3; replace h3 := eq_true h3
        rcases h4 : ferrymanref01_Put q ⟨h1z, h1l⟩ v8 with _ | r4
        · rw [h4] at h; cases h
        · rw [h4, Option.bind_some] at h
          replace h4 := run_ferrymanref01_Put q (M + 7) (by omega) _ _ _ h4
          try simp only [Ow.enc, Sl.enc, kn, simprocAttr, eq_self_iff_true, implies_true, forall_const, Int.cast_ofNat_Int] at h4
          rcases Classical.em (v8 = 1) with h5 | h5
          · rw [if_pos h5] at h; replace h5 := eq_true h5
            rcases h6 : ferrymanref01_Put q ⟨r4.n, r4.xs⟩ h0_0 with _ | r5
            · rw [h6] at h; cases h
            · rw [h6, Option.bind_some] at h
              replace h6 := run_ferrymanref01_Put q (M + 7) (by omega) _ _ _ h6
              try simp only [Ow.enc, Sl.enc, kn, simprocAttr, eq_self_iff_true, implies_true, forall_const, Int.cast_ofNat_Int] at h6
              replace h := ih_ferrymanref06_Encode_l0 M (by omega) j (by omega) _ _ _ _ _ _ _ _ _ _ _ _ _ h R hR
              simp (maxDischargeDepth := 12) only [kk, kn, simprocAttr, eq_self_iff_true, implies_true, forall_const, Int.cast_ofNat_Int, L_ferrymanref06_Encode, v_ferrymanref01_Put, v_ferrymanref06_Fits, v_ferrymanref01_PutSigned, v_ferrymanref05_PutOp, v_ferrymanref06_has, Ow.enc, S_api_Op.enc, S_api_Record.enc, Sl.enc, rr_ferrymanref06_Encode, ro_ferrymanref06_Encode, b0_ferrymanref06_Encode, *]
          · rw [if_neg h5] at h; replace h5 := eq_false h5
            rcases Classical.em (v8 = 2) with h7 | h7
            · rw [if_pos h7] at h; replace h7 := eq_true h7
              rcases h8 : ferrymanref01_Put q ⟨r4.n, r4.xs⟩ h0_1 with _ | r6
              · rw [h8] at h; cases h
              · rw [h8, Option.bind_some] at h
                replace h8 := run_ferrymanref01_Put q (M + 7) (by omega) _ _ _ h8
                try simp only [Ow.enc, Sl.enc, kn, simprocAttr, eq_self_iff_true, implies_true, forall_const, Int.cast_ofNat_Int] at h8
                replace h := ih_ferrymanref06_Encode_l0 M (by omega) j (by omega) _ _ _ _ _ _ _ _ _ _ _ _ _ h R hR
                simp (maxDischargeDepth := 12) only [kk, kn, simprocAttr, eq_self_iff_true, implies_true, forall_const, Int.cast_ofNat_Int, L_ferrymanref06_Encode, v_ferrymanref01_Put, v_ferrymanref06_Fits, v_ferrymanref01_PutSigned, v_ferrymanref05_PutOp, v_ferrymanref06_has, Ow.enc, S_api_Op.enc, S_api_Record.enc, Sl.enc, rr_ferrymanref06_Encode, ro_ferrymanref06_Encode, b0_ferrymanref06_Encode, *]
            · rw [if_neg h7] at h; replace h7 := eq_false h7
              rcases Classical.em (v8 = 3) with h9 | h9
              · rw [if_pos h9] at h; replace h9 := eq_true h9
                rcases h10 : ferrymanref01_Put q ⟨r4.n, r4.xs⟩ h0_2 with _ | r7
                · rw [h10] at h; cases h
                · rw [h10, Option.bind_some] at h
                  replace h10 := run_ferrymanref01_Put q (M + 7) (by omega) _ _ _ h10
                  try simp only [Ow.enc, Sl.enc, kn, simprocAttr, eq_self_iff_true, implies_true, forall_const, Int.cast_ofNat_Int] at h10
                  replace h := ih_ferrymanref06_Encode_l0 M (by omega) j (by omega) _ _ _ _ _ _ _ _ _ _ _ _ _ h R hR
                  simp (maxDischargeDepth := 12) only [kk, kn, simprocAttr, eq_self_iff_true, implies_true, forall_const, Int.cast_ofNat_Int, L_ferrymanref06_Encode, v_ferrymanref01_Put, v_ferrymanref06_Fits, v_ferrymanref01_PutSigned, v_ferrymanref05_PutOp, v_ferrymanref06_has, Ow.enc, S_api_Op.enc, S_api_Record.enc, Sl.enc, rr_ferrymanref06_Encode, ro_ferrymanref06_Encode, b0_ferrymanref06_Encode, *]
              · rw [if_neg h9] at h; replace h9 := eq_false h9
                rcases Classical.em (v8 = 4) with h11 | h11
                · rw [if_pos h11] at h; replace h11 := eq_true h11
                  rcases h12 : ferrymanref05_PutOp q ⟨r4.n, r4.xs⟩ (⟨h0_3, h0_4, h0_5⟩ : S_api_Op) with _ | r8
                  · rw [h12] at h; cases h
                  · rw [h12, Option.bind_some] at h
                    replace h12 := run_ferrymanref05_PutOp q (M + 7) (by omega) _ _ _ h12
                    try simp only [Ow.enc, S_api_Op.enc, Sl.enc, kn, simprocAttr, eq_self_iff_true, implies_true, forall_const, Int.cast_ofNat_Int] at h12
                    replace h := ih_ferrymanref06_Encode_l0 M (by omega) j (by omega) _ _ _ _ _ _ _ _ _ _ _ _ _ h R hR
                    simp (maxDischargeDepth := 12) only [kk, kn, simprocAttr, eq_self_iff_true, implies_true, forall_const, Int.cast_ofNat_Int, L_ferrymanref06_Encode, v_ferrymanref01_Put, v_ferrymanref06_Fits, v_ferrymanref01_PutSigned, v_ferrymanref05_PutOp, v_ferrymanref06_has, Ow.enc, S_api_Op.enc, S_api_Record.enc, Sl.enc, rr_ferrymanref06_Encode, ro_ferrymanref06_Encode, b0_ferrymanref06_Encode, *]
                · rw [if_neg h11] at h; replace h11 := eq_false h11
                  rcases Classical.em (v8 = 5) with h13 | h13
                  · rw [if_pos h13] at h; replace h13 := eq_true h13
                    rcases h14 : ferrymanref01_PutSigned q ⟨r4.n, r4.xs⟩ h0_6 with _ | r9
                    · rw [h14] at h; cases h
                    · rw [h14, Option.bind_some] at h
                      replace h14 := run_ferrymanref01_PutSigned q (M + 7) (by omega) _ _ _ h14
                      try simp only [Ow.enc, Sl.enc, kn, simprocAttr, eq_self_iff_true, implies_true, forall_const, Int.cast_ofNat_Int] at h14
                      replace h := ih_ferrymanref06_Encode_l0 M (by omega) j (by omega) _ _ _ _ _ _ _ _ _ _ _ _ _ h R hR
                      simp (maxDischargeDepth := 12) only [kk, kn, simprocAttr, eq_self_iff_true, implies_true, forall_const, Int.cast_ofNat_Int, L_ferrymanref06_Encode, v_ferrymanref01_Put, v_ferrymanref06_Fits, v_ferrymanref01_PutSigned, v_ferrymanref05_PutOp, v_ferrymanref06_has, Ow.enc, S_api_Op.enc, S_api_Record.enc, Sl.enc, rr_ferrymanref06_Encode, ro_ferrymanref06_Encode, b0_ferrymanref06_Encode, *]
                  · rw [if_neg h13] at h; replace h13 := eq_false h13
                    replace h := ih_ferrymanref06_Encode_l0 M (by omega) j (by omega) _ _ _ _ _ _ _ _ _ _ _ _ _ h R hR
                    simp (maxDischargeDepth := 12) only [kk, kn, simprocAttr, eq_self_iff_true, implies_true, forall_const, Int.cast_ofNat_Int, L_ferrymanref06_Encode, v_ferrymanref01_Put, v_ferrymanref06_Fits, v_ferrymanref01_PutSigned, v_ferrymanref05_PutOp, v_ferrymanref06_has, Ow.enc, S_api_Op.enc, S_api_Record.enc, Sl.enc, rr_ferrymanref06_Encode, ro_ferrymanref06_Encode, b0_ferrymanref06_Encode, *]
      · rw [if_neg h3] at h; have h3' := bt0 h3; replace h3 := eq_false h3
        replace h := ih_ferrymanref06_Encode_l0 M (by omega) j (by omega) _ _ _ _ _ _ _ _ _ _ _ _ _ h R hR
        simp (maxDischargeDepth := 12) only [kk, kn, simprocAttr, eq_self_iff_true, implies_true, forall_const, Int.cast_ofNat_Int, L_ferrymanref06_Encode, v_ferrymanref01_Put, v_ferrymanref06_Fits, v_ferrymanref01_PutSigned, v_ferrymanref05_PutOp, v_ferrymanref06_has, Ow.enc, S_api_Op.enc, S_api_Record.enc, Sl.enc, rr_ferrymanref06_Encode, ro_ferrymanref06_Encode, b0_ferrymanref06_Encode, *]
  · rw [if_neg h1] at h; replace h1 := eq_false h1
    cases h; subst hR; simp (maxDischargeDepth := 12) only [kk, kn, simprocAttr, eq_self_iff_true, implies_true, forall_const, Int.cast_ofNat_Int, L_ferrymanref06_Encode, v_ferrymanref01_Put, v_ferrymanref06_Fits, v_ferrymanref01_PutSigned, v_ferrymanref05_PutOp, v_ferrymanref06_has, Ow.enc, S_api_Op.enc, S_api_Record.enc, Sl.enc, rr_ferrymanref06_Encode, ro_ferrymanref06_Encode, b0_ferrymanref06_Encode, *]
theorem all_ferrymanref06_Encode : ∀ q, St_ferrymanref06_Encode_l0 q
  | 0 => by intro M hM j hj; intros; rename_i h _ _ _ _ _; cases h
  | q + 1 => by have i0 := all_ferrymanref06_Encode q; exact step_ferrymanref06_Encode_l0 q i0
theorem run_ferrymanref06_Encode : ∀ (q N : Nat), 8 * q ≤ N → ∀ (a0 : Int) (a1 : S_api_Record), ∀ (r : (Ow Int) × Int), ferrymanref06_Encode q a0 a1 = some r → (orc T N).deep F.ferrymanref06_Encode [(V.int .i64) a0, S_api_Record.enc a1] = some [(Ow.enc 1 (V.int .u8)) r.1, (V.int .i64) r.2] := by
  intro q N hM a0 a1 r h
  rcases q with _ | q
  · cases h
  obtain ⟨M, rfl⟩ : ∃ M, N = M + 8 := ⟨N - 8, by omega⟩
  have ih_ferrymanref06_Encode_l0 := (all_ferrymanref06_Encode q)
  generalize hR : some [(Ow.enc 1 (V.int .u8)) r.1, (V.int .i64) r.2] = R
  rw [orc_deep, T_ferrymanref06_Encode, Option.bind_some, runDeep_eq]
  rw [ferrymanref06_Encode] at h
  rcases Classical.em (a0 < 1) with h1 | h1
  · rw [if_pos h1] at h; replace h1 := eq_true h1
    cases h; subst hR; simp (maxDischargeDepth := 12) only [kk, kn, simprocAttr, eq_self_iff_true, implies_true, forall_const, Int.cast_ofNat_Int, L_ferrymanref06_Encode, v_ferrymanref01_Put, v_ferrymanref06_Fits, v_ferrymanref01_PutSigned, v_ferrymanref05_PutOp, v_ferrymanref06_has, Ow.enc, S_api_Op.enc, S_api_Record.enc, Sl.enc, rr_ferrymanref06_Encode, ro_ferrymanref06_Encode, b0_ferrymanref06_Encode, *]
  · rw [if_neg h1] at h; replace h1 := eq_false h1
    rcases Classical.em (3 < a0) with h2 | h2
    · rw [if_pos h2] at h; replace h2 := eq_true h2
      cases h; subst hR; simp (maxDischargeDepth := 12) only [kk, kn, simprocAttr, eq_self_iff_true, implies_true, forall_const, Int.cast_ofNat_Int, L_ferrymanref06_Encode, v_ferrymanref01_Put, v_ferrymanref06_Fits, v_ferrymanref01_PutSigned, v_ferrymanref05_PutOp, v_ferrymanref06_has, Ow.enc, S_api_Op.enc, S_api_Record.enc, Sl.enc, rr_ferrymanref06_Encode, ro_ferrymanref06_Encode, b0_ferrymanref06_Encode, *]
    · rw [if_neg h2] at h; replace h2 := eq_false h2
      rcases h3 : ferrymanref06_Fits q a1 with _ | r1
      · rw [h3] at h; cases h
      · rw [h3, Option.bind_some] at h
        replace h3 := run_ferrymanref06_Fits q (M + 7) (by omega) _ _ h3
        try simp only [Ow.enc, S_api_Op.enc, S_api_Record.enc, kn, simprocAttr, eq_self_iff_true, implies_true, forall_const, Int.cast_ofNat_Int] at h3
        rcases Classical.em (r1 = true) with h4 | h4
        · rw [if_pos h4] at h; have h4' := bt1 h4; replace h4 := eq_true h4
          rcases h5 : ferrymanref01_Put q ⟨true, []⟩ a0 with _ | r2
          · rw [h5] at h; cases h
          · rw [h5, Option.bind_some] at h
            replace h5 := run_ferrymanref01_Put q (M + 7) (by omega) _ _ _ h5
            try simp only [Ow.enc, Sl.enc, kn, simprocAttr, eq_self_iff_true, implies_true, forall_const, Int.cast_ofNat_Int] at h5
            replace h := ih_ferrymanref06_Encode_l0 M (by omega) (M + 7) (by omega) _ _ _ _ _ _ _ _ _ _ _ _ _ h R hR
            simp (maxDischargeDepth := 12) only [kk, kn, simprocAttr, eq_self_iff_true, implies_true, forall_const, Int.cast_ofNat_Int, L_ferrymanref06_Encode, v_ferrymanref01_Put, v_ferrymanref06_Fits, v_ferrymanref01_PutSigned, v_ferrymanref05_PutOp, v_ferrymanref06_has, Ow.enc, S_api_Op.enc, S_api_Record.enc, Sl.enc, rr_ferrymanref06_Encode, ro_ferrymanref06_Encode, b0_ferrymanref06_Encode, *]
        · rw [if_neg h4] at h; have h4' := bt0 h4; replace h4 := eq_false h4
          cases h; subst hR; simp (maxDischargeDepth := 12) only [kk, kn, simprocAttr, eq_self_iff_true, implies_true, forall_const, Int.cast_ofNat_Int, L_ferrymanref06_Encode, v_ferrymanref01_Put, v_ferrymanref06_Fits, v_ferrymanref01_PutSigned, v_ferrymanref05_PutOp, v_ferrymanref06_has, Ow.enc, S_api_Op.enc, S_api_Record.enc, Sl.enc, rr_ferrymanref06_Encode, ro_ferrymanref06_Encode, b0_ferrymanref06_Encode, *]
def St_ferrymanref08_data_l0 (q : Nat) : Prop := ∀ (M : Nat) (hM : 8 * q ≤ M) (j : Nat) (hj : q ≤ j) (v0 : Int) (v1z : Bool) (v1l : List S_api_Record) (v8 : Int) (h0z : Bool) (h0l : List Int) (h0x : Bool) (r : (Ow Int)) (_ : ferrymanref08_data_l0 q v0 v1z v1l v8 h0z h0l h0x = some r) (R : Option (List V)) (_ : some [(Ow.enc 1 (V.int .u8)) r] = R) (fr : Fr) (H : Hp) (_ : canon 0 [0, 1, 7, 8] fr H = ([(0, (.int .i64 v0)), (1, (.sl v1z (List.map S_api_Record.enc v1l))), (7, (.vw 0 0 0 h0l.length 1)), (8, (.int .i64 v8))], [(.row 0 h0z 1 (List.map (V.int .u8) h0l) h0x)])), fin m_ferrymanref08_data (unw T (orc T (M + 7)) (M + 7) 0 [.blk 0, .code c_ferrymanref08_data_22] (iter 0 [0, 1, 7, 8] (exec T (orc T (M + 7)) (M + 7) 0 c_ferrymanref08_data_19) j fr H)) = R
theorem step_ferrymanref08_data_l0 (q : Nat) (ih_ferrymanref08_data_l0 : St_ferrymanref08_data_l0 q) : St_ferrymanref08_data_l0 (q + 1) := by
  intro M hM j hj v0 v1z v1l v8 h0z h0l h0x r h R hR fr H hc
  obtain ⟨j, rfl⟩ : ∃ i, j = i + 1 := ⟨j - 1, by omega⟩
  rw [unw_iter, hc]; clear hc
  rw [ferrymanref08_data_l0] at h
  rcases Classical.em (v8 < (v1l.length : Int)) with h1 | h1
  · rw [if_pos h1] at h; replace h1 := eq_true h1
    rcases Classical.em (0 ≤ v8) with h2 | h2
    · rw [if_pos h2] at h; replace h2 := eq_true h2
      rcases h3 : v1l[v8.toNat]? with _ | e2
      · rw [h3] at h; cases h
      · rw [h3, Option.bind_some] at h
        rcases h4 : ferrymanref06_Encode q v0 e2 with _ | r3
        · rw [h4] at h; cases h
        · rw [h4, Option.bind_some] at h
          replace h4 := run_ferrymanref06_Encode q (M + 7) (by omega) _ _ _ h4
          try simp only [Ow.enc, S_api_Op.enc, S_api_Record.enc, kn, simprocAttr, eq_self_iff_true, implies_true, forall_const, Int.cast_ofNat_Int] at h4
          rcases h5 : ferrymanref01_Put q ⟨h0z, h0l⟩ (r3.1.xs.length : Int) with _ | r4
          · rw [h5] at h; cases h
          · rw [h5, Option.bind_some] at h
            replace h5 := run_ferrymanref01_Put q (M + 7) (by omega) _ _ _ h5
            try simp only [Ow.enc, Sl.enc, kn, simprocAttr, eq_self_iff_true, implies_true, forall_const, Int.cast_ofNat_Int] at h5
            rcases Classical.em ((r4.xs.length + r3.1.xs.length) ≤ 4294967296) with h6 | h6
            · rw [if_pos h6] at h; replace h6 := eq_true h6
              try simp only [kn, simprocAttr, eq_self_iff_true, implies_true, forall_const, Int.cast_ofNat_Int] at h6
              replace h := ih_ferrymanref08_data_l0 M (by omega) j (by omega) _ _ _ _ _ _ _ _ h R hR
              simp (maxDischargeDepth := 12) only [kk, kn, simprocAttr, eq_self_iff_true, implies_true, forall_const, Int.cast_ofNat_Int, L_ferrymanref08_data, v_ferrymanref01_Put, v_ferrymanref07_Encode, v_ferrymanref06_Encode, Ow.enc, S_api_Op.enc, S_api_Record.enc, Sl.enc, rr_ferrymanref08_data, ro_ferrymanref08_data, b0_ferrymanref08_data, *]
            · rw [if_neg h6] at h; replace h6 := eq_false h6
              try simp only [kn, simprocAttr, eq_self_iff_true, implies_true, forall_const, Int.cast_ofNat_Int] at h6
              cases h
    · rw [if_neg h2] at h; replace h2 := eq_false h2
      cases h
  · rw [if_neg h1] at h; replace h1 := eq_false h1
    cases h; subst hR; simp (maxDischargeDepth := 12) only [kk, kn, simprocAttr, eq_self_iff_true, implies_true, forall_const, Int.cast_ofNat_Int, L_ferrymanref08_data, v_ferrymanref01_Put, v_ferrymanref07_Encode, v_ferrymanref06_Encode, Ow.enc, S_api_Op.enc, S_api_Record.enc, Sl.enc, rr_ferrymanref08_data, ro_ferrymanref08_data, b0_ferrymanref08_data, *]
theorem all_ferrymanref08_data : ∀ q, St_ferrymanref08_data_l0 q
  | 0 => by intro M hM j hj; intros; rename_i h _ _ _ _ _; cases h
  | q + 1 => by have i0 := all_ferrymanref08_data q; exact step_ferrymanref08_data_l0 q i0
theorem run_ferrymanref08_data : ∀ (q N : Nat), 8 * q ≤ N → ∀ (a0 : Int) (a1 : (Sl S_api_Record)), ∀ (r : (Ow Int)), ferrymanref08_data q a0 a1 = some r → (orc T N).deep F.ferrymanref08_data [(V.int .i64) a0, (Sl.enc S_api_Record.enc) a1] = some [(Ow.enc 1 (V.int .u8)) r] := by
  intro q N hM a0 a1 r h
  rcases q with _ | q
  · cases h
  obtain ⟨M, rfl⟩ : ∃ M, N = M + 8 := ⟨N - 8, by omega⟩
  have ih_ferrymanref08_data_l0 := (all_ferrymanref08_data q)
  generalize hR : some [(Ow.enc 1 (V.int .u8)) r] = R
  rw [orc_deep, T_ferrymanref08_data, Option.bind_some, runDeep_eq]
  rw [ferrymanref08_data] at h
  rcases Classical.em (a0 = 3) with h1 | h1
  · rw [if_pos h1] at h; replace h1 := eq_true h1
    rcases h2 : ferrymanref07_Encode q a1 with _ | r1
    · rw [h2] at h; cases h
    · rw [h2, Option.bind_some] at h
      replace h2 := run_ferrymanref07_Encode q (M + 7) (by omega) _ _ h2
      try simp only [Ow.enc, S_api_Op.enc, S_api_Record.enc, Sl.enc, kn, simprocAttr, eq_self_iff_true, implies_true, forall_const, Int.cast_ofNat_Int] at h2
      cases h; subst hR; simp (maxDischargeDepth := 12) only [kk, kn, simprocAttr, eq_self_iff_true, implies_true, forall_const, Int.cast_ofNat_Int, L_ferrymanref08_data, v_ferrymanref01_Put, v_ferrymanref07_Encode, v_ferrymanref06_Encode, Ow.enc, S_api_Op.enc, S_api_Record.enc, Sl.enc, rr_ferrymanref08_data, ro_ferrymanref08_data, b0_ferrymanref08_data, *]
  · rw [if_neg h1] at h; replace h1 := eq_false h1
    replace h := ih_ferrymanref08_data_l0 M (by omega) (M + 7) (by omega) _ _ _ _ _ _ _ _ h R hR
    simp (maxDischargeDepth := 12) only [kk, kn, simprocAttr, eq_self_iff_true, implies_true, forall_const, Int.cast_ofNat_Int, L_ferrymanref08_data, v_ferrymanref01_Put, v_ferrymanref07_Encode, v_ferrymanref06_Encode, Ow.enc, S_api_Op.enc, S_api_Record.enc, Sl.enc, rr_ferrymanref08_data, ro_ferrymanref08_data, b0_ferrymanref08_data, *]
def St_ferrymanref08_frames_l0 (q : Nat) : Prop := ∀ (M : Nat) (hM : 8 * q ≤ M) (j : Nat) (hj : q ≤ j) (v0 : Int) (v1z : Bool) (v1l : List S_api_Record) (v6 : Int) (h0z : Bool) (h0l : List (Sl Int)) (r : (Ow (Sl Int))) (_ : ferrymanref08_frames_l0 q v0 v1z v1l v6 h0z h0l = some r) (R : Option (List V)) (_ : some [(Ow.enc 1 (Sl.enc (V.int .u8))) r] = R) (fr : Fr) (H : Hp) (_ : canon 0 [0, 1, 5, 6] fr H = ([(0, (.int .i64 v0)), (1, (.sl v1z (List.map S_api_Record.enc v1l))), (5, (.vw 0 0 0 h0l.length 1)), (6, (.int .i64 v6))], [(.row 0 h0z 1 (List.map (Sl.enc (V.int .u8)) h0l) true)])), fin m_ferrymanref08_frames (unw T (orc T (M + 7)) (M + 7) 0 [.blk 0, .code c_ferrymanref08_frames_21] (iter 0 [0, 1, 5, 6] (exec T (orc T (M + 7)) (M + 7) 0 c_ferrymanref08_frames_18) j fr H)) = R
theorem step_ferrymanref08_frames_l0 (q : Nat) (ih_ferrymanref08_frames_l0 : St_ferrymanref08_frames_l0 q) : St_ferrymanref08_frames_l0 (q + 1) := by
  intro M hM j hj v0 v1z v1l v6 h0z h0l r h R hR fr H hc
  obtain ⟨j, rfl⟩ : ∃ i, j = i + 1 := ⟨j - 1, by omega⟩
  rw [unw_iter, hc]; clear hc
  rw [ferrymanref08_frames_l0] at h
  rcases Classical.em (v6 < (v1l.length : Int)) with h1 | h1
  · rw [if_pos h1] at h; replace h1 := eq_true h1
    rcases Classical.em ((v1l.length : Int) < (wrp .i64 (v6 + 16))) with h2 | h2
    · rw [if_pos h2] at h; replace h2 := eq_true h2
      try simp only [kn, simprocAttr, eq_self_iff_true, implies_true, forall_const, Int.cast_ofNat_Int] at h2
      rcases Classical.em (0 ≤ v6) with h3 | h3
      · rw [if_pos h3] at h; replace h3 := eq_true h3
        rcases Classical.em (v6 ≤ (v1l.length : Int)) with h4 | h4
        · rw [if_pos h4] at h; replace h4 := eq_true h4
          rcases h5 : ferrymanref08_data q v0 ⟨v1z, (List.drop v6.toNat (List.take v1l.length v1l))⟩ with _ | r1
          · rw [h5] at h; cases h
          · rw [h5, Option.bind_some] at h
            replace h5 := run_ferrymanref08_data q (M + 7) (by omega) _ _ _ h5
            try simp only [Ow.enc, S_api_Op.enc, S_api_Record.enc, Sl.enc, kn, simprocAttr, eq_self_iff_true, implies_true, forall_const, Int.cast_ofNat_Int] at h5
            rcases h6 : ferrymanref03_Encode q ⟨r1.n, r1.xs⟩ with _ | r2
            · rw [h6] at h; cases h
            · rw [h6, Option.bind_some] at h
              replace h6 := run_ferrymanref03_Encode q (M + 7) (by omega) _ _ h6
              try simp only [Ow.enc, Sl.enc, kn, simprocAttr, eq_self_iff_true, implies_true, forall_const, Int.cast_ofNat_Int] at h6
              rcases Classical.em ((h0l.length + 1) ≤ 4294967296) with h7 | h7
              · rw [if_pos h7] at h; replace h7 := eq_true h7
                try simp only [kn, simprocAttr, eq_self_iff_true, implies_true, forall_const, Int.cast_ofNat_Int] at h7
                replace h := ih_ferrymanref08_frames_l0 M (by omega) j (by omega) _ _ _ _ _ _ _ h R hR
                simp (maxDischargeDepth := 12) only [kk, kn, simprocAttr, eq_self_iff_true, implies_true, forall_const, Int.cast_ofNat_Int, L_ferrymanref08_frames, v_ferrymanref03_Encode, v_ferrymanref08_data, Ow.enc, S_api_Op.enc, S_api_Record.enc, Sl.enc, rr_ferrymanref08_frames, ro_ferrymanref08_frames, b0_ferrymanref08_frames, *]
              · rw [if_neg h7] at h; replace h7 := eq_false h7
                try simp only [kn, simprocAttr, eq_self_iff_true, implies_true, forall_const, Int.cast_ofNat_Int] at h7
                cases h
        · rw [if_neg h4] at h; replace h4 := eq_false h4
          cases h
      · rw [if_neg h3] at h; replace h3 := eq_false h3
        cases h
    · rw [if_neg h2] at h; replace h2 := eq_false h2
      try simp only [kn, simprocAttr, eq_self_iff_true, implies_true, forall_const, Int.cast_ofNat_Int] at h2
      rcases Classical.em (0 ≤ v6) with h8 | h8
      · rw [if_pos h8] at h; replace h8 := eq_true h8
        rcases Classical.em (v6 ≤ (wrp .i64 (v6 + 16))) with h9 | h9
        · rw [if_pos h9] at h; replace h9 := eq_true h9
          try simp only [kn, simprocAttr, eq_self_iff_true, implies_true, forall_const, Int.cast_ofNat_Int] at h9
          rcases Classical.em ((wrp .i64 (v6 + 16)).toNat ≤ v1l.length) with h10 | h10
          · rw [if_pos h10] at h; replace h10 := eq_true h10
            try simp only [kn, simprocAttr, eq_self_iff_true, implies_true, forall_const, Int.cast_ofNat_Int] at h10
            rcases h11 : ferrymanref08_data q v0 ⟨v1z, (List.drop v6.toNat (List.take ((wrp .i64 (v6 + 16)).toNat) v1l))⟩ with _ | r3
            · rw [h11] at h; cases h
            · rw [h11, Option.bind_some] at h
              replace h11 := run_ferrymanref08_data q (M + 7) (by omega) _ _ _ h11
              try simp only [Ow.enc, S_api_Op.enc, S_api_Record.enc, Sl.enc, kn, simprocAttr, eq_self_iff_true, implies_true, forall_const, Int.cast_ofNat_Int] at h11
              rcases h12 : ferrymanref03_Encode q ⟨r3.n, r3.xs⟩ with _ | r4
              · rw [h12] at h; cases h
              · rw [h12, Option.bind_some] at h
                replace h12 := run_ferrymanref03_Encode q (M + 7) (by omega) _ _ h12
                try simp only [Ow.enc, Sl.enc, kn, simprocAttr, eq_self_iff_true, implies_true, forall_const, Int.cast_ofNat_Int] at h12
                rcases Classical.em ((h0l.length + 1) ≤ 4294967296) with h13 | h13
                · rw [if_pos h13] at h; replace h13 := eq_true h13
                  try simp only [kn, simprocAttr, eq_self_iff_true, implies_true, forall_const, Int.cast_ofNat_Int] at h13
                  replace h := ih_ferrymanref08_frames_l0 M (by omega) j (by omega) _ _ _ _ _ _ _ h R hR
                  simp (maxDischargeDepth := 12) only [kk, kn, simprocAttr, eq_self_iff_true, implies_true, forall_const, Int.cast_ofNat_Int, L_ferrymanref08_frames, v_ferrymanref03_Encode, v_ferrymanref08_data, Ow.enc, S_api_Op.enc, S_api_Record.enc, Sl.enc, rr_ferrymanref08_frames, ro_ferrymanref08_frames, b0_ferrymanref08_frames, *]
                · rw [if_neg h13] at h; replace h13 := eq_false h13
                  try simp only [kn, simprocAttr, eq_self_iff_true, implies_true, forall_const, Int.cast_ofNat_Int] at h13
                  cases h
          · rw [if_neg h10] at h; replace h10 := eq_false h10
            try simp only [kn, simprocAttr, eq_self_iff_true, implies_true, forall_const, Int.cast_ofNat_Int] at h10
            cases h
        · rw [if_neg h9] at h; replace h9 := eq_false h9
          try simp only [kn, simprocAttr, eq_self_iff_true, implies_true, forall_const, Int.cast_ofNat_Int] at h9
          cases h
      · rw [if_neg h8] at h; replace h8 := eq_false h8
        cases h
  · rw [if_neg h1] at h; replace h1 := eq_false h1
    cases h; subst hR; simp (maxDischargeDepth := 12) only [kk, kn, simprocAttr, eq_self_iff_true, implies_true, forall_const, Int.cast_ofNat_Int, L_ferrymanref08_frames, v_ferrymanref03_Encode, v_ferrymanref08_data, Ow.enc, S_api_Op.enc, S_api_Record.enc, Sl.enc, rr_ferrymanref08_frames, ro_ferrymanref08_frames, b0_ferrymanref08_frames, *]
theorem all_ferrymanref08_frames : ∀ q, St_ferrymanref08_frames_l0 q
  | 0 => by intro M hM j hj; intros; rename_i h _ _ _ _ _; cases h
  | q + 1 => by have i0 := all_ferrymanref08_frames q; exact step_ferrymanref08_frames_l0 q i0
theorem run_ferrymanref08_frames : ∀ (q N : Nat), 8 * q ≤ N → ∀ (a0 : Int) (a1 : (Sl S_api_Record)), ∀ (r : (Ow (Sl Int))), ferrymanref08_frames q a0 a1 = some r → (orc T N).deep F.ferrymanref08_frames [(V.int .i64) a0, (Sl.enc S_api_Record.enc) a1] = some [(Ow.enc 1 (Sl.enc (V.int .u8))) r] := by
  intro q N hM a0 a1 r h
  rcases q with _ | q
  · cases h
  obtain ⟨M, rfl⟩ : ∃ M, N = M + 8 := ⟨N - 8, by omega⟩
  have ih_ferrymanref08_frames_l0 := (all_ferrymanref08_frames q)
  generalize hR : some [(Ow.enc 1 (Sl.enc (V.int .u8))) r] = R
  rw [orc_deep, T_ferrymanref08_frames, Option.bind_some, runDeep_eq]
  rw [ferrymanref08_frames] at h
  replace h := ih_ferrymanref08_frames_l0 M (by omega) (M + 7) (by omega) _ _ _ _ _ _ _ h R hR
  simp (maxDischargeDepth := 12) only [kk, kn, simprocAttr, eq_self_iff_true, implies_true, forall_const, Int.cast_ofNat_Int, L_ferrymanref08_frames, v_ferrymanref03_Encode, v_ferrymanref08_data, Ow.enc, S_api_Op.enc, S_api_Record.enc, Sl.enc, rr_ferrymanref08_frames, ro_ferrymanref08_frames, b0_ferrymanref08_frames, *]
def St_ferrymanref08_footer_l0 (q : Nat) : Prop := ∀ (M : Nat) (hM : 8 * q ≤ M) (j : Nat) (hj : q ≤ j) (v1z : Bool) (v1l : List (Sl Int)) (v6 : Int) (v7 : Int) (h0z : Bool) (h0l : List Int) (h0x : Bool) (r : (Ow Int)) (_ : ferrymanref08_footer_l0 q v1z v1l v6 v7 h0z h0l h0x = some r) (R : Option (List V)) (_ : some [(Ow.enc 1 (V.int .u8)) r] = R) (fr : Fr) (H : Hp) (_ : canon 0 [1, 5, 6, 7] fr H = ([(1, (.sl v1z (List.map (Sl.enc (V.int .u8)) v1l))), (5, (.vw 0 0 0 h0l.length 1)), (6, (.int .i64 v6)), (7, (.int .i64 v7))], [(.row 0 h0z 1 (List.map (V.int .u8) h0l) h0x)])), fin m_ferrymanref08_footer (unw T (orc T (M + 7)) (M + 7) 0 [.blk 0, .code c_ferrymanref08_footer_16] (iter 0 [1, 5, 6, 7] (exec T (orc T (M + 7)) (M + 7) 0 c_ferrymanref08_footer_13) j fr H)) = R
theorem step_ferrymanref08_footer_l0 (q : Nat) (ih_ferrymanref08_footer_l0 : St_ferrymanref08_footer_l0 q) : St_ferrymanref08_footer_l0 (q + 1) := by
  intro M hM j hj v1z v1l v6 v7 h0z h0l h0x r h R hR fr H hc
  obtain ⟨j, rfl⟩ : ∃ i, j = i + 1 := ⟨j - 1, by omega⟩
  rw [unw_iter, hc]; clear hc
  rw [ferrymanref08_footer_l0] at h
  rcases Classical.em (v7 < (v1l.length : Int)) with h1 | h1
  · rw [if_pos h1] at h; replace h1 := eq_true h1
    rcases h2 : ferrymanref01_Put q ⟨h0z, h0l⟩ v6 with _ | r2
    · rw [h2] at h; cases h
    · rw [h2, Option.bind_some] at h
      replace h2 := run_ferrymanref01_Put q (M + 7) (by omega) _ _ _ h2
      try simp only [Ow.enc, Sl.enc, kn, simprocAttr, eq_self_iff_true, implies_true, forall_const, Int.cast_ofNat_Int] at h2
      rcases Classical.em (0 ≤ v7) with h3 | h3
      · rw [if_pos h3] at h; replace h3 := eq_true h3
        rcases h4 : v1l[v7.toNat]? with _ | e3
        · rw [h4] at h; cases h
        · rw [h4, Option.bind_some] at h
          replace h := ih_ferrymanref08_footer_l0 M (by omega) j (by omega) _ _ _ _ _ _ _ _ h R hR
          simp (maxDischargeDepth := 12) only [kk, kn, simprocAttr, eq_self_iff_true, implies_true, forall_const, Int.cast_ofNat_Int, L_ferrymanref08_footer, v_ferrymanref01_Put, Ow.enc, Sl.enc, rr_ferrymanref08_footer, ro_ferrymanref08_footer, b0_ferrymanref08_footer, *]
      · rw [if_neg h3] at h; replace h3 := eq_false h3
        cases h
  · rw [if_neg h1] at h; replace h1 := eq_false h1
    cases h; subst hR; simp (maxDischargeDepth := 12) only [kk, kn, simprocAttr, eq_self_iff_true, implies_true, forall_const, Int.cast_ofNat_Int, L_ferrymanref08_footer, v_ferrymanref01_Put, Ow.enc, Sl.enc, rr_ferrymanref08_footer, ro_ferrymanref08_footer, b0_ferrymanref08_footer, *]
theorem all_ferrymanref08_footer : ∀ q, St_ferrymanref08_footer_l0 q
  | 0 => by intro M hM j hj; intros; rename_i h _ _ _ _ _; cases h
  | q + 1 => by have i0 := all_ferrymanref08_footer q; exact step_ferrymanref08_footer_l0 q i0
theorem run_ferrymanref08_footer : ∀ (q N : Nat), 8 * q ≤ N → ∀ (a0 : (Sl Int)) (a1 : (Sl (Sl Int))), ∀ (r : (Ow Int)), ferrymanref08_footer q a0 a1 = some r → (orc T N).deep F.ferrymanref08_footer [(Sl.enc (V.int .u8)) a0, (Sl.enc (Sl.enc (V.int .u8))) a1] = some [(Ow.enc 1 (V.int .u8)) r] := by
  intro q N hM a0 a1 r h
  rcases q with _ | q
  · cases h
  obtain ⟨M, rfl⟩ : ∃ M, N = M + 8 := ⟨N - 8, by omega⟩
  have ih_ferrymanref08_footer_l0 := (all_ferrymanref08_footer q)
  generalize hR : some [(Ow.enc 1 (V.int .u8)) r] = R
  rw [orc_deep, T_ferrymanref08_footer, Option.bind_some, runDeep_eq]
  rw [ferrymanref08_footer] at h
  rcases h1 : ferrymanref01_Put q ⟨true, []⟩ (a1.l.length : Int) with _ | r1
  · rw [h1] at h; cases h
  · rw [h1, Option.bind_some] at h
    replace h1 := run_ferrymanref01_Put q (M + 7) (by omega) _ _ _ h1
    try simp only [Ow.enc, Sl.enc, kn, simprocAttr, eq_self_iff_true, implies_true, forall_const, Int.cast_ofNat_Int] at h1
    replace h := ih_ferrymanref08_footer_l0 M (by omega) (M + 7) (by omega) _ _ _ _ _ _ _ _ h R hR
    simp (maxDischargeDepth := 12) only [kk, kn, simprocAttr, eq_self_iff_true, implies_true, forall_const, Int.cast_ofNat_Int, L_ferrymanref08_footer, v_ferrymanref01_Put, Ow.enc, Sl.enc, rr_ferrymanref08_footer, ro_ferrymanref08_footer, b0_ferrymanref08_footer, *]
def St_ferrymanref08_joined_l0 (q : Nat) : Prop := ∀ (M : Nat) (hM : 8 * q ≤ M) (j : Nat) (hj : q ≤ j) (v0z : Bool) (v0l : List (Sl Int)) (v4 : Int) (h0z : Bool) (h0l : List Int) (r : (Ow Int)) (_ : ferrymanref08_joined_l0 q v0z v0l v4 h0z h0l = some r) (R : Option (List V)) (_ : some [(Ow.enc 1 (V.int .u8)) r] = R) (fr : Fr) (H : Hp) (_ : canon 0 [0, 3, 4] fr H = ([(0, (.sl v0z (List.map (Sl.enc (V.int .u8)) v0l))), (3, (.vw 0 0 0 h0l.length 1)), (4, (.int .i64 v4))], [(.row 0 h0z 1 (List.map (V.int .u8) h0l) true)])), fin m_ferrymanref08_joined (unw T (orc T (M + 7)) (M + 7) 0 [.blk 0, .code c_ferrymanref08_joined_13] (iter 0 [0, 3, 4] (exec T (orc T (M + 7)) (M + 7) 0 c_ferrymanref08_joined_10) j fr H)) = R
theorem step_ferrymanref08_joined_l0 (q : Nat) (ih_ferrymanref08_joined_l0 : St_ferrymanref08_joined_l0 q) : St_ferrymanref08_joined_l0 (q + 1) := by
  intro M hM j hj v0z v0l v4 h0z h0l r h R hR fr H hc
  obtain ⟨j, rfl⟩ : ∃ i, j = i + 1 := ⟨j - 1, by omega⟩
  rw [unw_iter, hc]; clear hc
  rw [ferrymanref08_joined_l0] at h
  rcases Classical.em (v4 < (v0l.length : Int)) with h1 | h1
  · rw [if_pos h1] at h; replace h1 := eq_true h1
    rcases Classical.em (0 ≤ v4) with h2 | h2
    · rw [if_pos h2] at h; replace h2 := eq_true h2
      rcases h3 : v0l[v4.toNat]? with _ | e1
      · rw [h3] at h; cases h
      · rw [h3, Option.bind_some] at h
        rcases Classical.em ((h0l.length + e1.l.length) ≤ 4294967296) with h4 | h4
        · rw [if_pos h4] at h; replace h4 := eq_true h4
          try simp only [kn, simprocAttr, eq_self_iff_true, implies_true, forall_const, Int.cast_ofNat_Int] at h4
          replace h := ih_ferrymanref08_joined_l0 M (by omega) j (by omega) _ _ _ _ _ _ h R hR
          simp (maxDischargeDepth := 12) only [kk, kn, simprocAttr, eq_self_iff_true, implies_true, forall_const, Int.cast_ofNat_Int, L_ferrymanref08_joined, Ow.enc, Sl.enc, rr_ferrymanref08_joined, ro_ferrymanref08_joined, b0_ferrymanref08_joined, *]
        · rw [if_neg h4] at h; replace h4 := eq_false h4
          try simp only [kn, simprocAttr, eq_self_iff_true, implies_true, forall_const, Int.cast_ofNat_Int] at h4
          cases h
    · rw [if_neg h2] at h; replace h2 := eq_false h2
      cases h
  · rw [if_neg h1] at h; replace h1 := eq_false h1
    cases h; subst hR; simp (maxDischargeDepth := 12) only [kk, kn, simprocAttr, eq_self_iff_true, implies_true, forall_const, Int.cast_ofNat_Int, L_ferrymanref08_joined, Ow.enc, Sl.enc, rr_ferrymanref08_joined, ro_ferrymanref08_joined, b0_ferrymanref08_joined, *]
theorem all_ferrymanref08_joined : ∀ q, St_ferrymanref08_joined_l0 q
  | 0 => by intro M hM j hj; intros; rename_i h _ _ _ _ _; cases h
  | q + 1 => by have i0 := all_ferrymanref08_joined q; exact step_ferrymanref08_joined_l0 q i0
theorem run_ferrymanref08_joined : ∀ (q N : Nat), 8 * q ≤ N → ∀ (a0 : (Sl (Sl Int))), ∀ (r : (Ow Int)), ferrymanref08_joined q a0 = some r → (orc T N).deep F.ferrymanref08_joined [(Sl.enc (Sl.enc (V.int .u8))) a0] = some [(Ow.enc 1 (V.int .u8)) r] := by
  intro q N hM a0 r h
  rcases q with _ | q
  · cases h
  obtain ⟨M, rfl⟩ : ∃ M, N = M + 8 := ⟨N - 8, by omega⟩
  have ih_ferrymanref08_joined_l0 := (all_ferrymanref08_joined q)
  generalize hR : some [(Ow.enc 1 (V.int .u8)) r] = R
  rw [orc_deep, T_ferrymanref08_joined, Option.bind_some, runDeep_eq]
  rw [ferrymanref08_joined] at h
  replace h := ih_ferrymanref08_joined_l0 M (by omega) (M + 7) (by omega) _ _ _ _ _ _ h R hR
  simp (maxDischargeDepth := 12) only [kk, kn, simprocAttr, eq_self_iff_true, implies_true, forall_const, Int.cast_ofNat_Int, L_ferrymanref08_joined, Ow.enc, Sl.enc, rr_ferrymanref08_joined, ro_ferrymanref08_joined, b0_ferrymanref08_joined, *]
theorem run_ferrymanref08_Encode : ∀ (q N : Nat), 8 * q ≤ N → ∀ (a0 : Int) (a1 : S_api_Segment), ∀ (r : (Ow Int) × Int), ferrymanref08_Encode q a0 a1 = some r → (orc T N).deep F.ferrymanref08_Encode [(V.int .i64) a0, S_api_Segment.enc a1] = some [(Ow.enc 1 (V.int .u8)) r.1, (V.int .i64) r.2] := by
  intro q N hM a0 a1 r h
  rcases q with _ | q
  · cases h
  obtain ⟨M, rfl⟩ : ∃ M, N = M + 8 := ⟨N - 8, by omega⟩
  generalize hR : some [(Ow.enc 1 (V.int .u8)) r.1, (V.int .i64) r.2] = R
  rw [orc_deep, T_ferrymanref08_Encode, Option.bind_some, runDeep_eq]
  rw [ferrymanref08_Encode] at h
  rcases Classical.em (a0 < 1) with h1 | h1
  · rw [if_pos h1] at h; replace h1 := eq_true h1
    cases h; subst hR; simp (maxDischargeDepth := 12) only [kk, kn, simprocAttr, eq_self_iff_true, implies_true, forall_const, Int.cast_ofNat_Int, L_ferrymanref08_Encode, v_ferrymanref08_Head, v_ferrymanref08_May, v_ferrymanref08_frames, v_ferrymanref03_Encode, v_ferrymanref08_footer, v_ferrymanref08_joined, Ow.enc, S_api_Op.enc, S_api_Record.enc, S_api_Segment.enc, Sl.enc, rr_ferrymanref08_Encode, ro_ferrymanref08_Encode, b0_ferrymanref08_Encode, *]
  · rw [if_neg h1] at h; replace h1 := eq_false h1
    rcases Classical.em (3 < a0) with h2 | h2
    · rw [if_pos h2] at h; replace h2 := eq_true h2
      cases h; subst hR; simp (maxDischargeDepth := 12) only [kk, kn, simprocAttr, eq_self_iff_true, implies_true, forall_const, Int.cast_ofNat_Int, L_ferrymanref08_Encode, v_ferrymanref08_Head, v_ferrymanref08_May, v_ferrymanref08_frames, v_ferrymanref03_Encode, v_ferrymanref08_footer, v_ferrymanref08_joined, Ow.enc, S_api_Op.enc, S_api_Record.enc, S_api_Segment.enc, Sl.enc, rr_ferrymanref08_Encode, ro_ferrymanref08_Encode, b0_ferrymanref08_Encode, *]
    · rw [if_neg h2] at h; replace h2 := eq_false h2
      rcases h3 : ferrymanref08_May q a1 with _ | r1
      · rw [h3] at h; cases h
      · rw [h3, Option.bind_some] at h
        replace h3 := run_ferrymanref08_May q (M + 7) (by omega) _ _ h3
        try simp only [Ow.enc, S_api_Op.enc, S_api_Record.enc, S_api_Segment.enc, Sl.enc, kn, simprocAttr, eq_self_iff_true, implies_true, forall_const, Int.cast_ofNat_Int] at h3
        rcases Classical.em (r1 = true) with h4 | h4
        · rw [if_pos h4] at h; have h4' := bt1 h4; replace h4 := eq_true h4
          rcases h5 : ferrymanref08_Head q a0 a1.Kind a1.First with _ | r2
          · rw [h5] at h; cases h
          · rw [h5, Option.bind_some] at h
            replace h5 := run_ferrymanref08_Head q (M + 7) (by omega) _ _ _ _ h5
            try simp only [Ow.enc, kn, simprocAttr, eq_self_iff_true, implies_true, forall_const, Int.cast_ofNat_Int] at h5
            rcases h6 : ferrymanref08_frames q a0 a1.Records with _ | r3
            · rw [h6] at h; cases h
            · rw [h6, Option.bind_some] at h
              replace h6 := run_ferrymanref08_frames q (M + 7) (by omega) _ _ _ h6
              try simp only [Ow.enc, S_api_Op.enc, S_api_Record.enc, Sl.enc, kn, simprocAttr, eq_self_iff_true, implies_true, forall_const, Int.cast_ofNat_Int] at h6
              rcases h7 : ferrymanref08_footer q ⟨r2.1.n, r2.1.xs⟩ ⟨r3.n, r3.xs⟩ with _ | r4
              · rw [h7] at h; cases h
              · rw [h7, Option.bind_some] at h
                replace h7 := run_ferrymanref08_footer q (M + 7) (by omega) _ _ _ h7
                try simp only [Ow.enc, Sl.enc, kn, simprocAttr, eq_self_iff_true, implies_true, forall_const, Int.cast_ofNat_Int] at h7
                rcases h8 : ferrymanref03_Encode q ⟨r4.n, r4.xs⟩ with _ | r5
                · rw [h8] at h; cases h
                · rw [h8, Option.bind_some] at h
                  replace h8 := run_ferrymanref03_Encode q (M + 7) (by omega) _ _ h8
                  try simp only [Ow.enc, Sl.enc, kn, simprocAttr, eq_self_iff_true, implies_true, forall_const, Int.cast_ofNat_Int] at h8
                  rcases Classical.em (r2.1.xs.length ≤ 4294967296) with h9 | h9
                  · rw [if_pos h9] at h; replace h9 := eq_true h9
                    rcases h10 : ferrymanref08_joined q ⟨r3.n, r3.xs⟩ with _ | r6
                    · rw [h10] at h; cases h
                    · rw [h10, Option.bind_some] at h
                      replace h10 := run_ferrymanref08_joined q (M + 7) (by omega) _ _ h10
                      try simp only [Ow.enc, Sl.enc, kn, simprocAttr, eq_self_iff_true, implies_true, forall_const, Int.cast_ofNat_Int] at h10
                      rcases Classical.em ((r2.1.xs.length + r6.xs.length) ≤ 4294967296) with h11 | h11
                      · rw [if_pos h11] at h; replace h11 := eq_true h11
                        try simp only [kn, simprocAttr, eq_self_iff_true, implies_true, forall_const, Int.cast_ofNat_Int] at h11
                        rcases Classical.em (((r2.1.xs.length + r6.xs.length) + r5.1.xs.length) ≤ 4294967296) with h12 | h12
                        · rw [if_pos h12] at h; replace h12 := eq_true h12
                          try simp only [kn, simprocAttr, eq_self_iff_true, implies_true, forall_const, Int.cast_ofNat_Int] at h12
                          cases h; subst hR; simp (maxDischargeDepth := 12) only [kk, kn, simprocAttr, eq_self_iff_true, implies_true, forall_const, Int.cast_ofNat_Int, L_ferrymanref08_Encode, v_ferrymanref08_Head, v_ferrymanref08_May, v_ferrymanref08_frames, v_ferrymanref03_Encode, v_ferrymanref08_footer, v_ferrymanref08_joined, Ow.enc, S_api_Op.enc, S_api_Record.enc, S_api_Segment.enc, Sl.enc, rr_ferrymanref08_Encode, ro_ferrymanref08_Encode, b0_ferrymanref08_Encode, *]
                        · rw [if_neg h12] at h; replace h12 := eq_false h12
                          try simp only [kn, simprocAttr, eq_self_iff_true, implies_true, forall_const, Int.cast_ofNat_Int] at h12
                          cases h
                      · rw [if_neg h11] at h; replace h11 := eq_false h11
                        try simp only [kn, simprocAttr, eq_self_iff_true, implies_true, forall_const, Int.cast_ofNat_Int] at h11
                        cases h
                  · rw [if_neg h9] at h; replace h9 := eq_false h9
                    cases h
        · rw [if_neg h4] at h; have h4' := bt0 h4; replace h4 := eq_false h4
          cases h; subst hR; simp (maxDischargeDepth := 12) only [kk, kn, simprocAttr, eq_self_iff_true, implies_true, forall_const, Int.cast_ofNat_Int, L_ferrymanref08_Encode, v_ferrymanref08_Head, v_ferrymanref08_May, v_ferrymanref08_frames, v_ferrymanref03_Encode, v_ferrymanref08_footer, v_ferrymanref08_joined, Ow.enc, S_api_Op.enc, S_api_Record.enc, S_api_Segment.enc, Sl.enc, rr_ferrymanref08_Encode, ro_ferrymanref08_Encode, b0_ferrymanref08_Encode, *]
theorem run_segment_Body : ∀ (q N : Nat), 8 * q ≤ N → ∀ (a0 : Int) (a1 : (Sl S_api_Record)), ∀ (r : (Ow Int) × Int), segment_Body q a0 a1 = some r → (orc T N).deep F.segment_Body [(V.int .i64) a0, (Sl.enc S_api_Record.enc) a1] = some [(Ow.enc 1 (V.int .u8)) r.1, (V.int .i64) r.2] := by
  intro q N hM a0 a1 r h
  rcases q with _ | q
  · cases h
  obtain ⟨M, rfl⟩ : ∃ M, N = M + 8 := ⟨N - 8, by omega⟩
  generalize hR : some [(Ow.enc 1 (V.int .u8)) r.1, (V.int .i64) r.2] = R
  rw [orc_deep, T_segment_Body, Option.bind_some, runDeep_eq]
  rw [segment_Body] at h
  rcases h1 : segment_known q a0 with _ | r1
  · rw [h1] at h; cases h
  · rw [h1, Option.bind_some] at h
    replace h1 := run_segment_known q (M + 7) (by omega) _ _ h1
    skip
    rcases Classical.em (r1 = true) with h2 | h2
    · rw [if_pos h2] at h; have h2' := bt1 h2; replace h2 := eq_true h2
      rcases Classical.em (0 < (a1.l.length : Int)) with h3 | h3
      · rw [if_pos h3] at h; replace h3 := eq_true h3
        rcases h4 : a1.l[0]? with _ | e2
        · rw [h4] at h; cases h
        · rw [h4, Option.bind_some] at h
          rcases h5 : segment_fit q a1 e2.Index with _ | r3
          · rw [h5] at h; cases h
          · rw [h5, Option.bind_some] at h
            replace h5 := run_segment_fit q (M + 7) (by omega) _ _ _ h5
            try simp only [Ow.enc, S_api_Op.enc, S_api_Record.enc, Sl.enc, kn, simprocAttr, eq_self_iff_true, implies_true, forall_const, Int.cast_ofNat_Int] at h5
            rcases Classical.em (r3 = true) with h6 | h6
            · rw [if_pos h6] at h; have h6' := bt1 h6; replace h6 := eq_true h6
              rcases h7 : segment_blocks q a0 a1 with _ | r4
              · rw [h7] at h; cases h
              · rw [h7, Option.bind_some] at h
                replace h7 := run_segment_blocks q (M + 7) (by omega) _ _ _ h7
                try simp only [Ow.enc, S_api_Op.enc, S_api_Record.enc, Sl.enc, kn, simprocAttr, eq_self_iff_true, implies_true, forall_const, Int.cast_ofNat_Int] at h7
                rcases h8 : slices_Concat_byte_byte q ⟨r4.n, r4.xs⟩ with _ | r5
                · rw [h8] at h; cases h
                · rw [h8, Option.bind_some] at h
                  replace h8 := run_slices_Concat_byte_byte q (M + 7) (by omega) _ _ h8
                  try simp only [Ow.enc, Sl.enc, kn, simprocAttr, eq_self_iff_true, implies_true, forall_const, Int.cast_ofNat_Int] at h8
                  cases h; subst hR; simp (maxDischargeDepth := 12) only [kk, kn, simprocAttr, eq_self_iff_true, implies_true, forall_const, Int.cast_ofNat_Int, L_segment_Body, v_segment_fit, v_segment_blocks, v_slices_Concat_byte_byte, v_segment_known, Ow.enc, S_api_Op.enc, S_api_Record.enc, Sl.enc, rr_segment_Body, ro_segment_Body, b0_segment_Body, *]
            · rw [if_neg h6] at h; have h6' := bt0 h6; replace h6 := eq_false h6
              cases h; subst hR; simp (maxDischargeDepth := 12) only [kk, kn, simprocAttr, eq_self_iff_true, implies_true, forall_const, Int.cast_ofNat_Int, L_segment_Body, v_segment_fit, v_segment_blocks, v_slices_Concat_byte_byte, v_segment_known, Ow.enc, S_api_Op.enc, S_api_Record.enc, Sl.enc, rr_segment_Body, ro_segment_Body, b0_segment_Body, *]
      · rw [if_neg h3] at h; replace h3 := eq_false h3
        rcases h9 : segment_blocks q a0 a1 with _ | r6
        · rw [h9] at h; cases h
        · rw [h9, Option.bind_some] at h
          replace h9 := run_segment_blocks q (M + 7) (by omega) _ _ _ h9
          try simp only [Ow.enc, S_api_Op.enc, S_api_Record.enc, Sl.enc, kn, simprocAttr, eq_self_iff_true, implies_true, forall_const, Int.cast_ofNat_Int] at h9
          rcases h10 : slices_Concat_byte_byte q ⟨r6.n, r6.xs⟩ with _ | r7
          · rw [h10] at h; cases h
          · rw [h10, Option.bind_some] at h
            replace h10 := run_slices_Concat_byte_byte q (M + 7) (by omega) _ _ h10
            try simp only [Ow.enc, Sl.enc, kn, simprocAttr, eq_self_iff_true, implies_true, forall_const, Int.cast_ofNat_Int] at h10
            cases h; subst hR; simp (maxDischargeDepth := 12) only [kk, kn, simprocAttr, eq_self_iff_true, implies_true, forall_const, Int.cast_ofNat_Int, L_segment_Body, v_segment_fit, v_segment_blocks, v_slices_Concat_byte_byte, v_segment_known, Ow.enc, S_api_Op.enc, S_api_Record.enc, Sl.enc, rr_segment_Body, ro_segment_Body, b0_segment_Body, *]
    · rw [if_neg h2] at h; have h2' := bt0 h2; replace h2 := eq_false h2
      cases h; subst hR; simp (maxDischargeDepth := 12) only [kk, kn, simprocAttr, eq_self_iff_true, implies_true, forall_const, Int.cast_ofNat_Int, L_segment_Body, v_segment_fit, v_segment_blocks, v_slices_Concat_byte_byte, v_segment_known, Ow.enc, S_api_Op.enc, S_api_Record.enc, Sl.enc, rr_segment_Body, ro_segment_Body, b0_segment_Body, *]
end Go.Dvm.C
