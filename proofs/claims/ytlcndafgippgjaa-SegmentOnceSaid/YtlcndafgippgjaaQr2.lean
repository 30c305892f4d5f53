/- The machine comes to these answers: part 3. -/
import Derived.Test.YtlcndafgippgjaaQl0
import Derived.Test.YtlcndafgippgjaaQr0
import Derived.Test.YtlcndafgippgjaaQr1
set_option linter.all false
set_option maxRecDepth 100000
set_option maxHeartbeats 4000000
namespace Go.Dvm.C
open Go Go.Dvm Go.Dvm.I
def St_segment_decode_s0_s0_l0 (q : Nat) : Prop := ∀ (M : Nat) (hM : 8 * q ≤ M) (j : Nat) (hj : q ≤ j) (w1 : Nat) (v1z : Bool) (v1l : List Int) (v19 : Int) (h1z : Bool) (h1l : List (Sl Int)) (h1x : Bool) (h3_0 : Int) (h3_1 : Int) (h3_2 : Int) (r : Int × Int × Int × Int × Bool) (_ : segment_decode_s0_s0_l0 q v1z v1l v19 h1z h1l h1x h3_0 h3_1 h3_2 = some r) (R : Option (List V × Hp)) (_ : (some ([(.int .i64 r.1)], [(.box [(.int .i64 0), (.int .i64 0), (.sl true [])]), (.row w1 h1z 1 (List.map (Sl.enc (V.int .u8)) h1l) h1x), (.box [(.int .i64 r.2.1), (.int .i64 r.2.2.1), (.int .i64 r.2.2.2.1), (.sl true []), (.bool r.2.2.2.2)])]) : Option (List V × Hp)) = R) (fr : Fr) (H : Hp) (_ : canon 3 [0, 1, 5, 19] fr H = ([(0, (.ptr 2 0)), (1, (.sl v1z (List.map (V.int .u8) v1l))), (5, (.ptr 3 0)), (19, (.int .i64 v19))], [(.box [(.int .i64 0), (.int .i64 0), (.sl true [])]), (.row w1 h1z 1 (List.map (Sl.enc (V.int .u8)) h1l) h1x), (.box [(.int .i64 0), (.int .i64 0), (.int .i64 0), (.sl true []), (.bool false)]), (.box [(.int .i64 h3_0), (.int .i64 h3_1), (.int .i64 h3_2)])])), finI 3 false [.tmp 4] (unw T (orc T (M + 5)) (M + 5) 3 [.blk 0, .code c_segment_reader_head_39] (iter 3 [0, 1, 5, 19] (exec T (orc T (M + 5)) (M + 5) 3 c_segment_reader_head_24) j fr H)) = R
def A_segment_decode_s0_s0 := And.intro @kk <| And.intro @L_segment_reader_head <| And.intro @v_segment_known <| @v_num_Get
theorem step_segment_decode_s0_s0_l0 (q : Nat) (ih_segment_decode_s0_s0_l0 : St_segment_decode_s0_s0_l0 q) : St_segment_decode_s0_s0_l0 (q + 1) := by
  intro M hM j hj w1 v1z v1l v19 h1z h1l h1x h3_0 h3_1 h3_2 r h R hR fr H hc
  obtain ⟨j, rfl⟩ : ∃ i, j = i + 1 := ⟨j - 1, by omega⟩
  rw [unw_iter, hc]; clear hc
  rw [segment_decode_s0_s0_l0] at h
  rcases Classical.em (v19 < 3) with h1 | h1
  · rw [if_pos h1] at h; replace h1 := eq_true h1
    rcases h2 : num_Get q ⟨v1z, v1l⟩ with _ | r2
    · rw [h2] at h; cases h
    · rw [h2, Option.bind_some] at h
      replace h2 := run_num_Get q (M + 5) (by omega) _ _ h2
      try simp only [Ow.enc, Sl.enc, kn, simprocAttr, qa, qb, qc, qd] at h2
      rcases Classical.em (0 ≤ v19) with h3 | h3
      · rw [if_pos h3] at h; replace h3 := eq_true h3
        rcases Classical.em (v19.toNat < 3) with h4 | h4
        · rw [if_pos h4] at h; replace h4 := eq_true h4
          rcases Classical.em (v19.toNat = 0) with h5 | h5
          · rw [if_pos h5] at h
            rcases Classical.em (r2.2 = 0) with h6 | h6
            · rw [if_pos h6] at h; replace h6 := eq_true h6
              cases h; subst hR; simp (maxDischargeDepth := 12) only [A_segment_decode_s0_s0, kn, simprocAttr, qa, qb, qc, qd, Ow.enc, Sl.enc, *]
            · rw [if_neg h6] at h; replace h6 := eq_false h6
              rcases Classical.em (0 ≤ r2.2) with h7 | h7
              · rw [if_pos h7] at h; replace h7 := eq_true h7
                rcases Classical.em (r2.2 ≤ (v1l.length : Int)) with h8 | h8
                · rw [if_pos h8] at h; replace h8 := eq_true h8
                  replace h := ih_segment_decode_s0_s0_l0 M (by omega) j (by omega) w1 _ _ _ _ _ _ _ _ _ _ h R hR
                  simp (maxDischargeDepth := 12) only [A_segment_decode_s0_s0, kn, simprocAttr, qa, qb, qc, qd, Ow.enc, Sl.enc, *]
                · rw [if_neg h8] at h; replace h8 := eq_false h8
                  cases h
              · rw [if_neg h7] at h; replace h7 := eq_false h7
                cases h
          · rw [if_neg h5] at h; replace h5 := eq_false h5
            rcases Classical.em (v19.toNat = 1) with h9 | h9
            · rw [if_pos h9] at h
              rcases Classical.em (r2.2 = 0) with h10 | h10
              · rw [if_pos h10] at h; replace h10 := eq_true h10
                cases h; subst hR; simp (maxDischargeDepth := 12) only [A_segment_decode_s0_s0, kn, simprocAttr, qa, qb, qc, qd, Ow.enc, Sl.enc, *]
              · rw [if_neg h10] at h; replace h10 := eq_false h10
                rcases Classical.em (0 ≤ r2.2) with h11 | h11
                · rw [if_pos h11] at h; replace h11 := eq_true h11
                  rcases Classical.em (r2.2 ≤ (v1l.length : Int)) with h12 | h12
                  · rw [if_pos h12] at h; replace h12 := eq_true h12
                    replace h := ih_segment_decode_s0_s0_l0 M (by omega) j (by omega) w1 _ _ _ _ _ _ _ _ _ _ h R hR
                    simp (maxDischargeDepth := 12) only [A_segment_decode_s0_s0, kn, simprocAttr, qa, qb, qc, qd, Ow.enc, Sl.enc, *]
                  · rw [if_neg h12] at h; replace h12 := eq_false h12
                    cases h
                · rw [if_neg h11] at h; replace h11 := eq_false h11
                  cases h
            · rw [if_neg h9] at h; replace h9 := eq_false h9
              rcases Classical.em (v19.toNat = 2) with h13 | h13
              · rw [if_pos h13] at h
                rcases Classical.em (r2.2 = 0) with h14 | h14
                · rw [if_pos h14] at h; replace h14 := eq_true h14
                  cases h; subst hR; simp (maxDischargeDepth := 12) only [A_segment_decode_s0_s0, kn, simprocAttr, qa, qb, qc, qd, Ow.enc, Sl.enc, *]
                · rw [if_neg h14] at h; replace h14 := eq_false h14
                  rcases Classical.em (0 ≤ r2.2) with h15 | h15
                  · rw [if_pos h15] at h; replace h15 := eq_true h15
                    rcases Classical.em (r2.2 ≤ (v1l.length : Int)) with h16 | h16
                    · rw [if_pos h16] at h; replace h16 := eq_true h16
                      replace h := ih_segment_decode_s0_s0_l0 M (by omega) j (by omega) w1 _ _ _ _ _ _ _ _ _ _ h R hR
                      simp (maxDischargeDepth := 12) only [A_segment_decode_s0_s0, kn, simprocAttr, qa, qb, qc, qd, Ow.enc, Sl.enc, *]
                    · rw [if_neg h16] at h; replace h16 := eq_false h16
                      cases h
                  · rw [if_neg h15] at h; replace h15 := eq_false h15
                    cases h
              · rw [if_neg h13] at h; replace h13 := eq_false h13
                cases h
        · rw [if_neg h4] at h; replace h4 := eq_false h4
          cases h
      · rw [if_neg h3] at h; replace h3 := eq_false h3
        cases h
  · rw [if_neg h1] at h; replace h1 := eq_false h1
    rcases Classical.em (0 < (v1l.length : Int)) with h17 | h17
    · rw [if_pos h17] at h; replace h17 := eq_true h17
      cases h; subst hR; simp (maxDischargeDepth := 12) only [A_segment_decode_s0_s0, kn, simprocAttr, qa, qb, qc, qd, Ow.enc, Sl.enc, *]
    · rw [if_neg h17] at h; replace h17 := eq_false h17
      rcases h18 : segment_known q h3_0 with _ | r3
      · rw [h18] at h; cases h
      · rw [h18, Option.bind_some] at h
        replace h18 := run_segment_known q (M + 5) (by omega) _ _ h18
        skip
        rcases Classical.em (r3 = true) with h19 | h19
        · rw [if_pos h19] at h; have h19' := bt1 h19; replace h19 := eq_true h19
          rcases Classical.em (6 ≤ h3_1) with h20 | h20
          · rw [if_pos h20] at h; replace h20 := eq_true h20
            cases h; subst hR; simp (maxDischargeDepth := 12) only [A_segment_decode_s0_s0, kn, simprocAttr, qa, qb, qc, qd, Ow.enc, Sl.enc, *]
          · rw [if_neg h20] at h; replace h20 := eq_false h20
            cases h; subst hR; simp (maxDischargeDepth := 12) only [A_segment_decode_s0_s0, kn, simprocAttr, qa, qb, qc, qd, Ow.enc, Sl.enc, *]
        · rw [if_neg h19] at h; have h19' := bt0 h19; replace h19 := eq_false h19
          cases h; subst hR; simp (maxDischargeDepth := 12) only [A_segment_decode_s0_s0, kn, simprocAttr, qa, qb, qc, qd, Ow.enc, Sl.enc, *]
theorem all_segment_decode_s0_s0 : ∀ q, St_segment_decode_s0_s0_l0 q
  | 0 => by intro M hM j hj; intros; rename_i h _ _ _ _ _; cases h
  | q + 1 => by have i0 := all_segment_decode_s0_s0 q; exact step_segment_decode_s0_s0_l0 q i0
theorem run_segment_decode_s0_s0 : ∀ (q M : Nat), 8 * q ≤ M → ∀ (w1 : Nat), ∀ (v1z : Bool), ∀ (v1l : List Int), ∀ (h1z : Bool), ∀ (h1l : List (Sl Int)), ∀ (h1x : Bool), ∀ (r : Int × Int × Int × Int × Bool), segment_decode_s0_s0 q v1z v1l h1z h1l h1x = some r → (orc T (M + 6)).inl F.segment_reader_head [(.ptr 2 0), (.sl v1z (List.map (V.int .u8) v1l))] [(.box [(.int .i64 0), (.int .i64 0), (.sl true [])]), (.row w1 h1z 1 (List.map (Sl.enc (V.int .u8)) h1l) h1x), (.box [(.int .i64 0), (.int .i64 0), (.int .i64 0), (.sl true []), (.bool false)])] = (some ([(.int .i64 r.1)], [(.box [(.int .i64 0), (.int .i64 0), (.sl true [])]), (.row w1 h1z 1 (List.map (Sl.enc (V.int .u8)) h1l) h1x), (.box [(.int .i64 r.2.1), (.int .i64 r.2.2.1), (.int .i64 r.2.2.2.1), (.sl true []), (.bool r.2.2.2.2)])]) : Option (List V × Hp)) := by
  intro q M hM w1 v1z v1l h1z h1l h1x r h
  rcases q with _ | q
  · cases h
  have ih_segment_decode_s0_s0_l0 := (all_segment_decode_s0_s0 q)
  generalize hR : (some ([(.int .i64 r.1)], [(.box [(.int .i64 0), (.int .i64 0), (.sl true [])]), (.row w1 h1z 1 (List.map (Sl.enc (V.int .u8)) h1l) h1x), (.box [(.int .i64 r.2.1), (.int .i64 r.2.2.1), (.int .i64 r.2.2.2.1), (.sl true []), (.bool r.2.2.2.2)])]) : Option (List V × Hp)) = R
  rw [i_segment_reader_head (n := M + 5)]
  rw [segment_decode_s0_s0] at h
  rcases Classical.em ((v1l.length : Int) = 0) with h1 | h1
  · rw [if_pos h1] at h; replace h1 := eq_true h1
    cases h; subst hR; simp (maxDischargeDepth := 12) only [A_segment_decode_s0_s0, kn, simprocAttr, qa, qb, qc, qd, Ow.enc, Sl.enc, *]
  · rw [if_neg h1] at h; replace h1 := eq_false h1
    rcases h2 : v1l[0]? with _ | e1
    · rw [h2] at h; cases h
    · rw [h2, Option.bind_some] at h
      rcases Classical.em (e1 = 108) with h3 | h3
      · rw [if_pos h3] at h; replace h3 := eq_true h3
        rcases Classical.em (1 ≤ (v1l.length : Int)) with h4 | h4
        · rw [if_pos h4] at h; replace h4 := eq_true h4
          replace h := ih_segment_decode_s0_s0_l0 M (by omega) (M + 5) (by omega) w1 _ _ _ _ _ _ _ _ _ _ h R hR
          simp (maxDischargeDepth := 12) only [A_segment_decode_s0_s0, kn, simprocAttr, qa, qb, qc, qd, Ow.enc, Sl.enc, *]
        · rw [if_neg h4] at h; replace h4 := eq_false h4
          cases h
      · rw [if_neg h3] at h; replace h3 := eq_false h3
        cases h; subst hR; simp (maxDischargeDepth := 12) only [A_segment_decode_s0_s0, kn, simprocAttr, qa, qb, qc, qd, Ow.enc, Sl.enc, *]
def St_segment_decode_s0_l0 (q : Nat) : Prop := ∀ (M : Nat) (hM : 8 * q ≤ M) (j : Nat) (hj : q ≤ j) (w1 : Nat) (v1len : Nat) (v19len : Nat) (v20 : Int) (h1z : Bool) (h1l : List (Sl Int)) (h1x : Bool) (h2_0 : Int) (h2_1 : Int) (h2_2 : Int) (h2_4 : Bool) (r : Nat × Int × Int × Int × Int × Int × Bool × Int × Int × Int × Int × Int × Nat × Bool × Bool × (List S_api_Record)) (_ : segment_decode_s0_l0 q v1len v19len v20 h1z h1l h1x h2_0 h2_1 h2_2 h2_4 = some r) (R : Option (List V × Hp)) (_ : (if r.1 = 0 then (some ([(.int .i64 r.2.1), (.int .i64 r.2.2.1)], [(.box [(.int .i64 0), (.int .i64 0), (.sl true [])]), (.row w1 h1z 1 (List.map (Sl.enc (V.int .u8)) h1l) h1x), (.box [(.int .i64 r.2.2.2.1), (.int .i64 r.2.2.2.2.1), (.int .i64 r.2.2.2.2.2.1), (.sl true []), (.bool r.2.2.2.2.2.2.1)])]) : Option (List V × Hp)) else (some ([(.int .i64 r.2.2.2.2.2.2.2.1), (.int .i64 r.2.2.2.2.2.2.2.2.1)], [(.box [(.int .i64 0), (.int .i64 0), (.sl true [])]), (.row w1 h1z 1 (List.map (Sl.enc (V.int .u8)) h1l) h1x), (.box [(.int .i64 r.2.2.2.2.2.2.2.2.2.1), (.int .i64 r.2.2.2.2.2.2.2.2.2.2.1), (.int .i64 r.2.2.2.2.2.2.2.2.2.2.2.1), (.vw 3 0 0 r.2.2.2.2.2.2.2.2.2.2.2.2.1 1), (.bool r.2.2.2.2.2.2.2.2.2.2.2.2.2.1)]), (.row 0 r.2.2.2.2.2.2.2.2.2.2.2.2.2.2.1 7 (List.map S_api_Record.enc r.2.2.2.2.2.2.2.2.2.2.2.2.2.2.2) true)]) : Option (List V × Hp))) = R) (fr : Fr) (H : Hp) (_ : canon 3 [0, 1, 19, 20, 21] fr H = ([(0, (.ptr 2 0)), (1, (.vw 1 w1 0 v1len 1)), (19, (.vw 1 w1 1 v19len 1)), (20, (.int .i64 v20)), (21, (.int .i64 0))], [(.box [(.int .i64 0), (.int .i64 0), (.sl true [])]), (.row w1 h1z 1 (List.map (Sl.enc (V.int .u8)) h1l) h1x), (.box [(.int .i64 h2_0), (.int .i64 h2_1), (.int .i64 h2_2), (.sl true []), (.bool h2_4)])])), finI 3 false [.tmp 4, .tmp 5] (unw T (orc T (M + 6)) (M + 6) 3 [.blk 0, .code c_segment_reader_walk_23] (iter 3 [0, 1, 19, 20, 21] (exec T (orc T (M + 6)) (M + 6) 3 c_segment_reader_walk_20) j fr H)) = R
def St_segment_decode_s0_l1 (q : Nat) : Prop := ∀ (M : Nat) (hM : 8 * q ≤ M) (j : Nat) (hj : q ≤ j) (w1 : Nat) (v1len : Nat) (v19len : Nat) (v20 : Int) (v21 : Int) (h1z : Bool) (h1l : List (Sl Int)) (h1x : Bool) (h2_0 : Int) (h2_1 : Int) (h2_2 : Int) (h2_4 : Bool) (h3z : Bool) (h3l : List S_api_Record) (r : Nat × Int × Int × Int × Int × Int × Bool × Int × Int × Int × Int × Int × Nat × Bool × Bool × (List S_api_Record)) (_ : segment_decode_s0_l1 q v1len v19len v20 v21 h1z h1l h1x h2_0 h2_1 h2_2 h2_4 h3z h3l = some r) (R : Option (List V × Hp)) (_ : (if r.1 = 0 then (some ([(.int .i64 r.2.1), (.int .i64 r.2.2.1)], [(.box [(.int .i64 0), (.int .i64 0), (.sl true [])]), (.row w1 h1z 1 (List.map (Sl.enc (V.int .u8)) h1l) h1x), (.box [(.int .i64 r.2.2.2.1), (.int .i64 r.2.2.2.2.1), (.int .i64 r.2.2.2.2.2.1), (.sl true []), (.bool r.2.2.2.2.2.2.1)])]) : Option (List V × Hp)) else (some ([(.int .i64 r.2.2.2.2.2.2.2.1), (.int .i64 r.2.2.2.2.2.2.2.2.1)], [(.box [(.int .i64 0), (.int .i64 0), (.sl true [])]), (.row w1 h1z 1 (List.map (Sl.enc (V.int .u8)) h1l) h1x), (.box [(.int .i64 r.2.2.2.2.2.2.2.2.2.1), (.int .i64 r.2.2.2.2.2.2.2.2.2.2.1), (.int .i64 r.2.2.2.2.2.2.2.2.2.2.2.1), (.vw 3 0 0 r.2.2.2.2.2.2.2.2.2.2.2.2.1 1), (.bool r.2.2.2.2.2.2.2.2.2.2.2.2.2.1)]), (.row 0 r.2.2.2.2.2.2.2.2.2.2.2.2.2.2.1 7 (List.map S_api_Record.enc r.2.2.2.2.2.2.2.2.2.2.2.2.2.2.2) true)]) : Option (List V × Hp))) = R) (fr : Fr) (H : Hp) (_ : canon 3 [0, 1, 19, 20, 21] fr H = ([(0, (.ptr 2 0)), (1, (.vw 1 w1 0 v1len 1)), (19, (.vw 1 w1 1 v19len 1)), (20, (.int .i64 v20)), (21, (.int .i64 v21))], [(.box [(.int .i64 0), (.int .i64 0), (.sl true [])]), (.row w1 h1z 1 (List.map (Sl.enc (V.int .u8)) h1l) h1x), (.box [(.int .i64 h2_0), (.int .i64 h2_1), (.int .i64 h2_2), (.vw 3 0 0 h3l.length 1), (.bool h2_4)]), (.row 0 h3z 7 (List.map S_api_Record.enc h3l) true)])), finI 3 false [.tmp 4, .tmp 5] (unw T (orc T (M + 6)) (M + 6) 3 [.blk 0, .code c_segment_reader_walk_23] (iter 3 [0, 1, 19, 20, 21] (exec T (orc T (M + 6)) (M + 6) 3 c_segment_reader_walk_20) j fr H)) = R
def A_segment_decode_s0 := And.intro @kk <| And.intro @L_segment_reader_walk <| And.intro @L_segment_reader_block <| And.intro @v_segment_fit <| And.intro @v_segment_reader_head <| And.intro @v_block_Decode <| And.intro @v_segment_elder <| And.intro @v_segment_reader_block <| @i_segment_reader_block
theorem step_segment_decode_s0_l0 (q : Nat) (ih_segment_decode_s0_l1 : St_segment_decode_s0_l1 q) : St_segment_decode_s0_l0 (q + 1) := by
  intro M hM j hj w1 v1len v19len v20 h1z h1l h1x h2_0 h2_1 h2_2 h2_4 r h R hR fr H hc
  obtain ⟨j, rfl⟩ : ∃ i, j = i + 1 := ⟨j - 1, by omega⟩
  rw [unw_iter, hc]; clear hc
  rw [segment_decode_s0_l0] at h
  rcases Classical.em (0 < v20) with h1 | h1
  · rw [if_pos h1] at h; replace h1 := eq_true h1
    rcases Classical.em (0 < v19len) with h2 | h2
    · rw [if_pos h2] at h; replace h2 := eq_true h2
      rcases h3 : h1l[1]? with _ | e3
      · rw [h3] at h; cases h
      · rw [h3, Option.bind_some] at h
        rcases Classical.em (h2_0 = 3) with h4 | h4
        · rw [if_pos h4] at h; replace h4 := eq_true h4
          rcases h5 : block_Decode q e3 with _ | r4
          · rw [h5] at h; cases h
          · rw [h5, Option.bind_some] at h
            replace h5 := run_block_Decode q (M + 5) (by omega) _ _ h5
            try simp only [Ow.enc, S_api_Op.enc, S_api_Record.enc, Sl.enc, kn, simprocAttr, qa, qb, qc, qd] at h5
            rcases Classical.em (r4.2 = 0) with h6 | h6
            · rw [if_pos h6] at h; replace h6 := eq_true h6
              rcases Classical.em (h2_4 = true) with h7 | h7
              · rw [if_pos h7] at h; have h7' := bt1 h7; replace h7 := eq_true h7
                rcases Classical.em ((r4.1.xs.length : Int) = 0) with h8 | h8
                · rw [if_pos h8] at h; replace h8 := eq_true h8
                  cases h; subst hR; simp (maxDischargeDepth := 12) only [A_segment_decode_s0, kn, simprocAttr, qa, qb, qc, qd, Ow.enc, S_api_Op.enc, S_api_Record.enc, Sl.enc, *]
                · rw [if_neg h8] at h; replace h8 := eq_false h8
                  rcases Classical.em (16 < (r4.1.xs.length : Int)) with h9 | h9
                  · rw [if_pos h9] at h; replace h9 := eq_true h9
                    cases h; subst hR; simp (maxDischargeDepth := 12) only [A_segment_decode_s0, kn, simprocAttr, qa, qb, qc, qd, Ow.enc, S_api_Op.enc, S_api_Record.enc, Sl.enc, *]
                  · rw [if_neg h9] at h; replace h9 := eq_false h9
                    rcases h10 : segment_fit q ⟨r4.1.n, r4.1.xs⟩ (wrp .i64 (h2_2 + 0)) with _ | r5
                    · rw [h10] at h; cases h
                    · rw [h10, Option.bind_some] at h
                      replace h10 := run_segment_fit q (M + 5) (by omega) _ _ _ h10
                      try simp only [Ow.enc, S_api_Op.enc, S_api_Record.enc, Sl.enc, kn, simprocAttr, qa, qb, qc, qd] at h10
                      rcases Classical.em (r5 = true) with h11 | h11
                      · rw [if_pos h11] at h; have h11' := bt1 h11; replace h11 := eq_true h11
                        rcases Classical.em (4096 < (wrp .i64 (0 + (r4.1.xs.length : Int)))) with h12 | h12
                        · rw [if_pos h12] at h; replace h12 := eq_true h12
                          try simp only [kn, simprocAttr, qa, qb, qc, qd] at h12
                          cases h; subst hR; simp (maxDischargeDepth := 12) only [A_segment_decode_s0, kn, simprocAttr, qa, qb, qc, qd, Ow.enc, S_api_Op.enc, S_api_Record.enc, Sl.enc, *]
                        · rw [if_neg h12] at h; replace h12 := eq_false h12
                          try simp only [kn, simprocAttr, qa, qb, qc, qd] at h12
                          rcases Classical.em (r4.1.xs.length ≤ 4294967296) with h13 | h13
                          · rw [if_pos h13] at h; replace h13 := eq_true h13
                            replace h := ih_segment_decode_s0_l1 M (by omega) j (by omega) w1 _ _ _ _ _ _ _ _ _ _ _ _ _ _ h R hR
                            simp (maxDischargeDepth := 12) only [A_segment_decode_s0, kn, simprocAttr, qa, qb, qc, qd, Ow.enc, S_api_Op.enc, S_api_Record.enc, Sl.enc, *]
                          · rw [if_neg h13] at h; replace h13 := eq_false h13
                            cases h
                      · rw [if_neg h11] at h; have h11' := bt0 h11; replace h11 := eq_false h11
                        cases h; subst hR; simp (maxDischargeDepth := 12) only [A_segment_decode_s0, kn, simprocAttr, qa, qb, qc, qd, Ow.enc, S_api_Op.enc, S_api_Record.enc, Sl.enc, *]
              · rw [if_neg h7] at h; have h7' := bt0 h7; replace h7 := eq_false h7
                cases h; subst hR; simp (maxDischargeDepth := 12) only [A_segment_decode_s0, kn, simprocAttr, qa, qb, qc, qd, Ow.enc, S_api_Op.enc, S_api_Record.enc, Sl.enc, *]
            · rw [if_neg h6] at h; replace h6 := eq_false h6
              cases h; subst hR; simp (maxDischargeDepth := 12) only [A_segment_decode_s0, kn, simprocAttr, qa, qb, qc, qd, Ow.enc, S_api_Op.enc, S_api_Record.enc, Sl.enc, *]
        · rw [if_neg h4] at h; replace h4 := eq_false h4
          rcases h14 : segment_elder q h2_0 e3 with _ | r6
          · rw [h14] at h; cases h
          · rw [h14, Option.bind_some] at h
            replace h14 := run_segment_elder q (M + 5) (by omega) _ _ _ h14
            try simp only [Ow.enc, S_api_Op.enc, S_api_Record.enc, Sl.enc, kn, simprocAttr, qa, qb, qc, qd] at h14
            rcases Classical.em (r6.2 = true) with h15 | h15
            · rw [if_pos h15] at h; have h15' := bt1 h15; replace h15 := eq_true h15
              rcases Classical.em (h2_4 = true) with h16 | h16
              · rw [if_pos h16] at h; have h16' := bt1 h16; replace h16 := eq_true h16
                rcases Classical.em ((r6.1.xs.length : Int) = 0) with h17 | h17
                · rw [if_pos h17] at h; replace h17 := eq_true h17
                  cases h; subst hR; simp (maxDischargeDepth := 12) only [A_segment_decode_s0, kn, simprocAttr, qa, qb, qc, qd, Ow.enc, S_api_Op.enc, S_api_Record.enc, Sl.enc, *]
                · rw [if_neg h17] at h; replace h17 := eq_false h17
                  rcases Classical.em (16 < (r6.1.xs.length : Int)) with h18 | h18
                  · rw [if_pos h18] at h; replace h18 := eq_true h18
                    cases h; subst hR; simp (maxDischargeDepth := 12) only [A_segment_decode_s0, kn, simprocAttr, qa, qb, qc, qd, Ow.enc, S_api_Op.enc, S_api_Record.enc, Sl.enc, *]
                  · rw [if_neg h18] at h; replace h18 := eq_false h18
                    rcases h19 : segment_fit q ⟨r6.1.n, r6.1.xs⟩ (wrp .i64 (h2_2 + 0)) with _ | r7
                    · rw [h19] at h; cases h
                    · rw [h19, Option.bind_some] at h
                      replace h19 := run_segment_fit q (M + 5) (by omega) _ _ _ h19
                      try simp only [Ow.enc, S_api_Op.enc, S_api_Record.enc, Sl.enc, kn, simprocAttr, qa, qb, qc, qd] at h19
                      rcases Classical.em (r7 = true) with h20 | h20
                      · rw [if_pos h20] at h; have h20' := bt1 h20; replace h20 := eq_true h20
                        rcases Classical.em (4096 < (wrp .i64 (0 + (r6.1.xs.length : Int)))) with h21 | h21
                        · rw [if_pos h21] at h; replace h21 := eq_true h21
                          try simp only [kn, simprocAttr, qa, qb, qc, qd] at h21
                          cases h; subst hR; simp (maxDischargeDepth := 12) only [A_segment_decode_s0, kn, simprocAttr, qa, qb, qc, qd, Ow.enc, S_api_Op.enc, S_api_Record.enc, Sl.enc, *]
                        · rw [if_neg h21] at h; replace h21 := eq_false h21
                          try simp only [kn, simprocAttr, qa, qb, qc, qd] at h21
                          rcases Classical.em (r6.1.xs.length ≤ 4294967296) with h22 | h22
                          · rw [if_pos h22] at h; replace h22 := eq_true h22
                            replace h := ih_segment_decode_s0_l1 M (by omega) j (by omega) w1 _ _ _ _ _ _ _ _ _ _ _ _ _ _ h R hR
                            simp (maxDischargeDepth := 12) only [A_segment_decode_s0, kn, simprocAttr, qa, qb, qc, qd, Ow.enc, S_api_Op.enc, S_api_Record.enc, Sl.enc, *]
                          · rw [if_neg h22] at h; replace h22 := eq_false h22
                            cases h
                      · rw [if_neg h20] at h; have h20' := bt0 h20; replace h20 := eq_false h20
                        cases h; subst hR; simp (maxDischargeDepth := 12) only [A_segment_decode_s0, kn, simprocAttr, qa, qb, qc, qd, Ow.enc, S_api_Op.enc, S_api_Record.enc, Sl.enc, *]
              · rw [if_neg h16] at h; have h16' := bt0 h16; replace h16 := eq_false h16
                cases h; subst hR; simp (maxDischargeDepth := 12) only [A_segment_decode_s0, kn, simprocAttr, qa, qb, qc, qd, Ow.enc, S_api_Op.enc, S_api_Record.enc, Sl.enc, *]
            · rw [if_neg h15] at h; have h15' := bt0 h15; replace h15 := eq_false h15
              cases h; subst hR; simp (maxDischargeDepth := 12) only [A_segment_decode_s0, kn, simprocAttr, qa, qb, qc, qd, Ow.enc, S_api_Op.enc, S_api_Record.enc, Sl.enc, *]
    · rw [if_neg h2] at h; replace h2 := eq_false h2
      cases h
  · rw [if_neg h1] at h; replace h1 := eq_false h1
    cases h; subst hR; simp (maxDischargeDepth := 12) only [A_segment_decode_s0, kn, simprocAttr, qa, qb, qc, qd, Ow.enc, S_api_Op.enc, S_api_Record.enc, Sl.enc, *]
theorem step_segment_decode_s0_l1 (q : Nat) (ih_segment_decode_s0_l1 : St_segment_decode_s0_l1 q) : St_segment_decode_s0_l1 (q + 1) := by
  intro M hM j hj w1 v1len v19len v20 v21 h1z h1l h1x h2_0 h2_1 h2_2 h2_4 h3z h3l r h R hR fr H hc
  obtain ⟨j, rfl⟩ : ∃ i, j = i + 1 := ⟨j - 1, by omega⟩
  rw [unw_iter, hc]; clear hc
  rw [segment_decode_s0_l1] at h
  rcases Classical.em (v21 < v20) with h1 | h1
  · rw [if_pos h1] at h; replace h1 := eq_true h1
    rcases Classical.em (0 ≤ v21) with h2 | h2
    · rw [if_pos h2] at h; replace h2 := eq_true h2
      rcases Classical.em (v21.toNat < v19len) with h3 | h3
      · rw [if_pos h3] at h; replace h3 := eq_true h3
        rcases h4 : h1l[(1 + v21.toNat)]? with _ | e8
        · rw [h4] at h; cases h
        · rw [h4, Option.bind_some] at h
          rcases Classical.em (h2_0 = 3) with h5 | h5
          · rw [if_pos h5] at h; replace h5 := eq_true h5
            rcases h6 : block_Decode q e8 with _ | r9
            · rw [h6] at h; cases h
            · rw [h6, Option.bind_some] at h
              replace h6 := run_block_Decode q (M + 5) (by omega) _ _ h6
              try simp only [Ow.enc, S_api_Op.enc, S_api_Record.enc, Sl.enc, kn, simprocAttr, qa, qb, qc, qd] at h6
              rcases Classical.em (r9.2 = 0) with h7 | h7
              · rw [if_pos h7] at h; replace h7 := eq_true h7
                rcases Classical.em (h2_4 = true) with h8 | h8
                · rw [if_pos h8] at h; have h8' := bt1 h8; replace h8 := eq_true h8
                  rcases Classical.em ((r9.1.xs.length : Int) = 0) with h9 | h9
                  · rw [if_pos h9] at h; replace h9 := eq_true h9
                    cases h; subst hR; simp (maxDischargeDepth := 12) only [A_segment_decode_s0, kn, simprocAttr, qa, qb, qc, qd, Ow.enc, S_api_Op.enc, S_api_Record.enc, Sl.enc, *]
                  · rw [if_neg h9] at h; replace h9 := eq_false h9
                    rcases Classical.em (16 < (r9.1.xs.length : Int)) with h10 | h10
                    · rw [if_pos h10] at h; replace h10 := eq_true h10
                      cases h; subst hR; simp (maxDischargeDepth := 12) only [A_segment_decode_s0, kn, simprocAttr, qa, qb, qc, qd, Ow.enc, S_api_Op.enc, S_api_Record.enc, Sl.enc, *]
                    · rw [if_neg h10] at h; replace h10 := eq_false h10
                      rcases h11 : segment_fit q ⟨r9.1.n, r9.1.xs⟩ (wrp .i64 (h2_2 + (h3l.length : Int))) with _ | r10
                      · rw [h11] at h; cases h
                      · rw [h11, Option.bind_some] at h
                        replace h11 := run_segment_fit q (M + 5) (by omega) _ _ _ h11
                        try simp only [Ow.enc, S_api_Op.enc, S_api_Record.enc, Sl.enc, kn, simprocAttr, qa, qb, qc, qd] at h11
                        rcases Classical.em (r10 = true) with h12 | h12
                        · rw [if_pos h12] at h; have h12' := bt1 h12; replace h12 := eq_true h12
                          rcases Classical.em (4096 < (wrp .i64 ((h3l.length : Int) + (r9.1.xs.length : Int)))) with h13 | h13
                          · rw [if_pos h13] at h; replace h13 := eq_true h13
                            try simp only [kn, simprocAttr, qa, qb, qc, qd] at h13
                            cases h; subst hR; simp (maxDischargeDepth := 12) only [A_segment_decode_s0, kn, simprocAttr, qa, qb, qc, qd, Ow.enc, S_api_Op.enc, S_api_Record.enc, Sl.enc, *]
                          · rw [if_neg h13] at h; replace h13 := eq_false h13
                            try simp only [kn, simprocAttr, qa, qb, qc, qd] at h13
                            rcases Classical.em ((h3l.length + r9.1.xs.length) ≤ 4294967296) with h14 | h14
                            · rw [if_pos h14] at h; replace h14 := eq_true h14
                              try simp only [kn, simprocAttr, qa, qb, qc, qd] at h14
                              replace h := ih_segment_decode_s0_l1 M (by omega) j (by omega) w1 _ _ _ _ _ _ _ _ _ _ _ _ _ _ h R hR
                              simp (maxDischargeDepth := 12) only [A_segment_decode_s0, kn, simprocAttr, qa, qb, qc, qd, Ow.enc, S_api_Op.enc, S_api_Record.enc, Sl.enc, *]
                            · rw [if_neg h14] at h; replace h14 := eq_false h14
                              try simp only [kn, simprocAttr, qa, qb, qc, qd] at h14
                              cases h
                        · rw [if_neg h12] at h; have h12' := bt0 h12; replace h12 := eq_false h12
                          cases h; subst hR; simp (maxDischargeDepth := 12) only [A_segment_decode_s0, kn, simprocAttr, qa, qb, qc, qd, Ow.enc, S_api_Op.enc, S_api_Record.enc, Sl.enc, *]
                · rw [if_neg h8] at h; have h8' := bt0 h8; replace h8 := eq_false h8
                  cases h; subst hR; simp (maxDischargeDepth := 12) only [A_segment_decode_s0, kn, simprocAttr, qa, qb, qc, qd, Ow.enc, S_api_Op.enc, S_api_Record.enc, Sl.enc, *]
              · rw [if_neg h7] at h; replace h7 := eq_false h7
                cases h; subst hR; simp (maxDischargeDepth := 12) only [A_segment_decode_s0, kn, simprocAttr, qa, qb, qc, qd, Ow.enc, S_api_Op.enc, S_api_Record.enc, Sl.enc, *]
          · rw [if_neg h5] at h; replace h5 := eq_false h5
            rcases h15 : segment_elder q h2_0 e8 with _ | r11
            · rw [h15] at h; cases h
            · rw [h15, Option.bind_some] at h
              replace h15 := run_segment_elder q (M + 5) (by omega) _ _ _ h15
              try simp only [Ow.enc, S_api_Op.enc, S_api_Record.enc, Sl.enc, kn, simprocAttr, qa, qb, qc, qd] at h15
              rcases Classical.em (r11.2 = true) with h16 | h16
              · rw [if_pos h16] at h; have h16' := bt1 h16; replace h16 := eq_true h16
                rcases Classical.em (h2_4 = true) with h17 | h17
                · rw [if_pos h17] at h; have h17' := bt1 h17; replace h17 := eq_true h17
                  rcases Classical.em ((r11.1.xs.length : Int) = 0) with h18 | h18
                  · rw [if_pos h18] at h; replace h18 := eq_true h18
                    cases h; subst hR; simp (maxDischargeDepth := 12) only [A_segment_decode_s0, kn, simprocAttr, qa, qb, qc, qd, Ow.enc, S_api_Op.enc, S_api_Record.enc, Sl.enc, *]
                  · rw [if_neg h18] at h; replace h18 := eq_false h18
                    rcases Classical.em (16 < (r11.1.xs.length : Int)) with h19 | h19
                    · rw [if_pos h19] at h; replace h19 := eq_true h19
                      cases h; subst hR; simp (maxDischargeDepth := 12) only [A_segment_decode_s0, kn, simprocAttr, qa, qb, qc, qd, Ow.enc, S_api_Op.enc, S_api_Record.enc, Sl.enc, *]
                    · rw [if_neg h19] at h; replace h19 := eq_false h19
                      rcases h20 : segment_fit q ⟨r11.1.n, r11.1.xs⟩ (wrp .i64 (h2_2 + (h3l.length : Int))) with _ | r12
                      · rw [h20] at h; cases h
                      · rw [h20, Option.bind_some] at h
                        replace h20 := run_segment_fit q (M + 5) (by omega) _ _ _ h20
                        try simp only [Ow.enc, S_api_Op.enc, S_api_Record.enc, Sl.enc, kn, simprocAttr, qa, qb, qc, qd] at h20
                        rcases Classical.em (r12 = true) with h21 | h21
                        · rw [if_pos h21] at h; have h21' := bt1 h21; replace h21 := eq_true h21
                          rcases Classical.em (4096 < (wrp .i64 ((h3l.length : Int) + (r11.1.xs.length : Int)))) with h22 | h22
                          · rw [if_pos h22] at h; replace h22 := eq_true h22
                            try simp only [kn, simprocAttr, qa, qb, qc, qd] at h22
                            cases h; subst hR; simp (maxDischargeDepth := 12) only [A_segment_decode_s0, kn, simprocAttr, qa, qb, qc, qd, Ow.enc, S_api_Op.enc, S_api_Record.enc, Sl.enc, *]
                          · rw [if_neg h22] at h; replace h22 := eq_false h22
                            try simp only [kn, simprocAttr, qa, qb, qc, qd] at h22
                            rcases Classical.em ((h3l.length + r11.1.xs.length) ≤ 4294967296) with h23 | h23
                            · rw [if_pos h23] at h; replace h23 := eq_true h23
                              try simp only [kn, simprocAttr, qa, qb, qc, qd] at h23
                              replace h := ih_segment_decode_s0_l1 M (by omega) j (by omega) w1 _ _ _ _ _ _ _ _ _ _ _ _ _ _ h R hR
                              simp (maxDischargeDepth := 12) only [A_segment_decode_s0, kn, simprocAttr, qa, qb, qc, qd, Ow.enc, S_api_Op.enc, S_api_Record.enc, Sl.enc, *]
                            · rw [if_neg h23] at h; replace h23 := eq_false h23
                              try simp only [kn, simprocAttr, qa, qb, qc, qd] at h23
                              cases h
                        · rw [if_neg h21] at h; have h21' := bt0 h21; replace h21 := eq_false h21
                          cases h; subst hR; simp (maxDischargeDepth := 12) only [A_segment_decode_s0, kn, simprocAttr, qa, qb, qc, qd, Ow.enc, S_api_Op.enc, S_api_Record.enc, Sl.enc, *]
                · rw [if_neg h17] at h; have h17' := bt0 h17; replace h17 := eq_false h17
                  cases h; subst hR; simp (maxDischargeDepth := 12) only [A_segment_decode_s0, kn, simprocAttr, qa, qb, qc, qd, Ow.enc, S_api_Op.enc, S_api_Record.enc, Sl.enc, *]
              · rw [if_neg h16] at h; have h16' := bt0 h16; replace h16 := eq_false h16
                cases h; subst hR; simp (maxDischargeDepth := 12) only [A_segment_decode_s0, kn, simprocAttr, qa, qb, qc, qd, Ow.enc, S_api_Op.enc, S_api_Record.enc, Sl.enc, *]
      · rw [if_neg h3] at h; replace h3 := eq_false h3
        cases h
    · rw [if_neg h2] at h; replace h2 := eq_false h2
      cases h
  · rw [if_neg h1] at h; replace h1 := eq_false h1
    cases h; subst hR; simp (maxDischargeDepth := 12) only [A_segment_decode_s0, kn, simprocAttr, qa, qb, qc, qd, Ow.enc, S_api_Op.enc, S_api_Record.enc, Sl.enc, *]
theorem all_segment_decode_s0 : ∀ q, St_segment_decode_s0_l0 q ∧ St_segment_decode_s0_l1 q
  | 0 => by refine ⟨?_, ?_⟩ <;> (intro M hM j hj; intros; rename_i h _ _ _ _ _; cases h)
  | q + 1 => by have ⟨i0, i1⟩ := all_segment_decode_s0 q; exact ⟨step_segment_decode_s0_l0 q i1, step_segment_decode_s0_l1 q i1⟩
theorem run_segment_decode_s0 : ∀ (q M : Nat), 8 * q ≤ M → ∀ (w1 : Nat), ∀ (v1len : Nat), ∀ (h1z : Bool), ∀ (h1l : List (Sl Int)), ∀ (h1x : Bool), ∀ (r : Nat × Int × Int × Int × Int × Int × Bool × Int × Int × Int × Int × Int × Nat × Bool × Bool × (List S_api_Record)), segment_decode_s0 q v1len h1z h1l h1x = some r → (orc T (M + 7)).inl F.segment_reader_walk [(.ptr 2 0), (.vw 1 w1 0 v1len 1)] [(.box [(.int .i64 0), (.int .i64 0), (.sl true [])]), (.row w1 h1z 1 (List.map (Sl.enc (V.int .u8)) h1l) h1x), (.box [(.int .i64 0), (.int .i64 0), (.int .i64 0), (.sl true []), (.bool false)])] = (if r.1 = 0 then (some ([(.int .i64 r.2.1), (.int .i64 r.2.2.1)], [(.box [(.int .i64 0), (.int .i64 0), (.sl true [])]), (.row w1 h1z 1 (List.map (Sl.enc (V.int .u8)) h1l) h1x), (.box [(.int .i64 r.2.2.2.1), (.int .i64 r.2.2.2.2.1), (.int .i64 r.2.2.2.2.2.1), (.sl true []), (.bool r.2.2.2.2.2.2.1)])]) : Option (List V × Hp)) else (some ([(.int .i64 r.2.2.2.2.2.2.2.1), (.int .i64 r.2.2.2.2.2.2.2.2.1)], [(.box [(.int .i64 0), (.int .i64 0), (.sl true [])]), (.row w1 h1z 1 (List.map (Sl.enc (V.int .u8)) h1l) h1x), (.box [(.int .i64 r.2.2.2.2.2.2.2.2.2.1), (.int .i64 r.2.2.2.2.2.2.2.2.2.2.1), (.int .i64 r.2.2.2.2.2.2.2.2.2.2.2.1), (.vw 3 0 0 r.2.2.2.2.2.2.2.2.2.2.2.2.1 1), (.bool r.2.2.2.2.2.2.2.2.2.2.2.2.2.1)]), (.row 0 r.2.2.2.2.2.2.2.2.2.2.2.2.2.2.1 7 (List.map S_api_Record.enc r.2.2.2.2.2.2.2.2.2.2.2.2.2.2.2) true)]) : Option (List V × Hp))) := by
  intro q M hM w1 v1len h1z h1l h1x r h
  rcases q with _ | q
  · cases h
  have ih_segment_decode_s0_l0 := (all_segment_decode_s0 q).1
  generalize hR : (if r.1 = 0 then (some ([(.int .i64 r.2.1), (.int .i64 r.2.2.1)], [(.box [(.int .i64 0), (.int .i64 0), (.sl true [])]), (.row w1 h1z 1 (List.map (Sl.enc (V.int .u8)) h1l) h1x), (.box [(.int .i64 r.2.2.2.1), (.int .i64 r.2.2.2.2.1), (.int .i64 r.2.2.2.2.2.1), (.sl true []), (.bool r.2.2.2.2.2.2.1)])]) : Option (List V × Hp)) else (some ([(.int .i64 r.2.2.2.2.2.2.2.1), (.int .i64 r.2.2.2.2.2.2.2.2.1)], [(.box [(.int .i64 0), (.int .i64 0), (.sl true [])]), (.row w1 h1z 1 (List.map (Sl.enc (V.int .u8)) h1l) h1x), (.box [(.int .i64 r.2.2.2.2.2.2.2.2.2.1), (.int .i64 r.2.2.2.2.2.2.2.2.2.2.1), (.int .i64 r.2.2.2.2.2.2.2.2.2.2.2.1), (.vw 3 0 0 r.2.2.2.2.2.2.2.2.2.2.2.2.1 1), (.bool r.2.2.2.2.2.2.2.2.2.2.2.2.2.1)]), (.row 0 r.2.2.2.2.2.2.2.2.2.2.2.2.2.2.1 7 (List.map S_api_Record.enc r.2.2.2.2.2.2.2.2.2.2.2.2.2.2.2) true)]) : Option (List V × Hp))) = R
  rw [i_segment_reader_walk (n := M + 6)]
  rw [segment_decode_s0] at h
  rcases Classical.em (0 < v1len) with h1 | h1
  · rw [if_pos h1] at h; replace h1 := eq_true h1
    rcases h2 : h1l[0]? with _ | e1
    · rw [h2] at h; cases h
    · rw [h2, Option.bind_some] at h
      rcases h3 : segment_decode_s0_s0 q e1.z e1.l h1z h1l h1x with _ | r2
      · rw [h3] at h; cases h
      · rw [h3, Option.bind_some] at h
        replace h3 := run_segment_decode_s0_s0 q M (by omega) w1 _ _ _ _ _ _ h3
        try simp only [Ow.enc, S_api_Op.enc, S_api_Record.enc, Sl.enc, kn, simprocAttr, qa, qb, qc, qd] at h3
        rcases Classical.em (r2.1 = 0) with h4 | h4
        · rw [if_pos h4] at h; replace h4 := eq_true h4
          rcases Classical.em (1 ≤ v1len) with h5 | h5
          · rw [if_pos h5] at h; replace h5 := eq_true h5
            replace h := ih_segment_decode_s0_l0 M (by omega) (M + 6) (by omega) w1 _ _ _ _ _ _ _ _ _ _ _ h R hR
            simp (maxDischargeDepth := 12) only [A_segment_decode_s0, kn, simprocAttr, qa, qb, qc, qd, Ow.enc, S_api_Op.enc, S_api_Record.enc, Sl.enc, *]
          · rw [if_neg h5] at h; replace h5 := eq_false h5
            cases h
        · rw [if_neg h4] at h; replace h4 := eq_false h4
          cases h; subst hR; simp (maxDischargeDepth := 12) only [A_segment_decode_s0, kn, simprocAttr, qa, qb, qc, qd, Ow.enc, S_api_Op.enc, S_api_Record.enc, Sl.enc, *]
  · rw [if_neg h1] at h; replace h1 := eq_false h1
    cases h
def St_segment_decode_s1_s0_l0 (q : Nat) : Prop := ∀ (M : Nat) (hM : 8 * q ≤ M) (j : Nat) (hj : q ≤ j) (w1 : Nat) (v1z : Bool) (v1l : List Int) (v19 : Int) (h1z : Bool) (h1l : List (Sl Int)) (h1x : Bool) (h3_0 : Int) (h3_1 : Int) (h3_2 : Int) (r : Int × Int × Int × Int × Bool) (_ : segment_decode_s1_s0_l0 q v1z v1l v19 h1z h1l h1x h3_0 h3_1 h3_2 = some r) (R : Option (List V × Hp)) (_ : (some ([(.int .i64 r.1)], [(.box [(.int .i64 0), (.int .i64 0), (.sl true [])]), (.row w1 h1z 1 (List.map (Sl.enc (V.int .u8)) h1l) h1x), (.box [(.int .i64 r.2.1), (.int .i64 r.2.2.1), (.int .i64 r.2.2.2.1), (.sl true []), (.bool r.2.2.2.2)])]) : Option (List V × Hp)) = R) (fr : Fr) (H : Hp) (_ : canon 3 [0, 1, 5, 19] fr H = ([(0, (.ptr 2 0)), (1, (.sl v1z (List.map (V.int .u8) v1l))), (5, (.ptr 3 0)), (19, (.int .i64 v19))], [(.box [(.int .i64 0), (.int .i64 0), (.sl true [])]), (.row w1 h1z 1 (List.map (Sl.enc (V.int .u8)) h1l) h1x), (.box [(.int .i64 0), (.int .i64 0), (.int .i64 0), (.sl true []), (.bool false)]), (.box [(.int .i64 h3_0), (.int .i64 h3_1), (.int .i64 h3_2)])])), finI 3 false [.tmp 4] (unw T (orc T (M + 5)) (M + 5) 3 [.blk 0, .code c_segment_reader_head_39] (iter 3 [0, 1, 5, 19] (exec T (orc T (M + 5)) (M + 5) 3 c_segment_reader_head_24) j fr H)) = R
def A_segment_decode_s1_s0 := And.intro @kk <| And.intro @L_segment_reader_head <| And.intro @v_segment_known <| @v_num_Get
theorem step_segment_decode_s1_s0_l0 (q : Nat) (ih_segment_decode_s1_s0_l0 : St_segment_decode_s1_s0_l0 q) : St_segment_decode_s1_s0_l0 (q + 1) := by
  intro M hM j hj w1 v1z v1l v19 h1z h1l h1x h3_0 h3_1 h3_2 r h R hR fr H hc
  obtain ⟨j, rfl⟩ : ∃ i, j = i + 1 := ⟨j - 1, by omega⟩
  rw [unw_iter, hc]; clear hc
  rw [segment_decode_s1_s0_l0] at h
  rcases Classical.em (v19 < 3) with h1 | h1
  · rw [if_pos h1] at h; replace h1 := eq_true h1
    rcases h2 : num_Get q ⟨v1z, v1l⟩ with _ | r2
    · rw [h2] at h; cases h
    · rw [h2, Option.bind_some] at h
      replace h2 := run_num_Get q (M + 5) (by omega) _ _ h2
      try simp only [Ow.enc, Sl.enc, kn, simprocAttr, qa, qb, qc, qd] at h2
      rcases Classical.em (0 ≤ v19) with h3 | h3
      · rw [if_pos h3] at h; replace h3 := eq_true h3
        rcases Classical.em (v19.toNat < 3) with h4 | h4
        · rw [if_pos h4] at h; replace h4 := eq_true h4
          rcases Classical.em (v19.toNat = 0) with h5 | h5
          · rw [if_pos h5] at h
            rcases Classical.em (r2.2 = 0) with h6 | h6
            · rw [if_pos h6] at h; replace h6 := eq_true h6
              cases h; subst hR; simp (maxDischargeDepth := 12) only [A_segment_decode_s1_s0, kn, simprocAttr, qa, qb, qc, qd, Ow.enc, Sl.enc, *]
            · rw [if_neg h6] at h; replace h6 := eq_false h6
              rcases Classical.em (0 ≤ r2.2) with h7 | h7
              · rw [if_pos h7] at h; replace h7 := eq_true h7
                rcases Classical.em (r2.2 ≤ (v1l.length : Int)) with h8 | h8
                · rw [if_pos h8] at h; replace h8 := eq_true h8
                  replace h := ih_segment_decode_s1_s0_l0 M (by omega) j (by omega) w1 _ _ _ _ _ _ _ _ _ _ h R hR
                  simp (maxDischargeDepth := 12) only [A_segment_decode_s1_s0, kn, simprocAttr, qa, qb, qc, qd, Ow.enc, Sl.enc, *]
                · rw [if_neg h8] at h; replace h8 := eq_false h8
                  cases h
              · rw [if_neg h7] at h; replace h7 := eq_false h7
                cases h
          · rw [if_neg h5] at h; replace h5 := eq_false h5
            rcases Classical.em (v19.toNat = 1) with h9 | h9
            · rw [if_pos h9] at h
              rcases Classical.em (r2.2 = 0) with h10 | h10
              · rw [if_pos h10] at h; replace h10 := eq_true h10
                cases h; subst hR; simp (maxDischargeDepth := 12) only [A_segment_decode_s1_s0, kn, simprocAttr, qa, qb, qc, qd, Ow.enc, Sl.enc, *]
              · rw [if_neg h10] at h; replace h10 := eq_false h10
                rcases Classical.em (0 ≤ r2.2) with h11 | h11
                · rw [if_pos h11] at h; replace h11 := eq_true h11
                  rcases Classical.em (r2.2 ≤ (v1l.length : Int)) with h12 | h12
                  · rw [if_pos h12] at h; replace h12 := eq_true h12
                    replace h := ih_segment_decode_s1_s0_l0 M (by omega) j (by omega) w1 _ _ _ _ _ _ _ _ _ _ h R hR
                    simp (maxDischargeDepth := 12) only [A_segment_decode_s1_s0, kn, simprocAttr, qa, qb, qc, qd, Ow.enc, Sl.enc, *]
                  · rw [if_neg h12] at h; replace h12 := eq_false h12
                    cases h
                · rw [if_neg h11] at h; replace h11 := eq_false h11
                  cases h
            · rw [if_neg h9] at h; replace h9 := eq_false h9
              rcases Classical.em (v19.toNat = 2) with h13 | h13
              · rw [if_pos h13] at h
                rcases Classical.em (r2.2 = 0) with h14 | h14
                · rw [if_pos h14] at h; replace h14 := eq_true h14
                  cases h; subst hR; simp (maxDischargeDepth := 12) only [A_segment_decode_s1_s0, kn, simprocAttr, qa, qb, qc, qd, Ow.enc, Sl.enc, *]
                · rw [if_neg h14] at h; replace h14 := eq_false h14
                  rcases Classical.em (0 ≤ r2.2) with h15 | h15
                  · rw [if_pos h15] at h; replace h15 := eq_true h15
                    rcases Classical.em (r2.2 ≤ (v1l.length : Int)) with h16 | h16
                    · rw [if_pos h16] at h; replace h16 := eq_true h16
                      replace h := ih_segment_decode_s1_s0_l0 M (by omega) j (by omega) w1 _ _ _ _ _ _ _ _ _ _ h R hR
                      simp (maxDischargeDepth := 12) only [A_segment_decode_s1_s0, kn, simprocAttr, qa, qb, qc, qd, Ow.enc, Sl.enc, *]
                    · rw [if_neg h16] at h; replace h16 := eq_false h16
                      cases h
                  · rw [if_neg h15] at h; replace h15 := eq_false h15
                    cases h
              · rw [if_neg h13] at h; replace h13 := eq_false h13
                cases h
        · rw [if_neg h4] at h; replace h4 := eq_false h4
          cases h
      · rw [if_neg h3] at h; replace h3 := eq_false h3
        cases h
  · rw [if_neg h1] at h; replace h1 := eq_false h1
    rcases Classical.em (0 < (v1l.length : Int)) with h17 | h17
    · rw [if_pos h17] at h; replace h17 := eq_true h17
      cases h; subst hR; simp (maxDischargeDepth := 12) only [A_segment_decode_s1_s0, kn, simprocAttr, qa, qb, qc, qd, Ow.enc, Sl.enc, *]
    · rw [if_neg h17] at h; replace h17 := eq_false h17
      rcases h18 : segment_known q h3_0 with _ | r3
      · rw [h18] at h; cases h
      · rw [h18, Option.bind_some] at h
        replace h18 := run_segment_known q (M + 5) (by omega) _ _ h18
        skip
        rcases Classical.em (r3 = true) with h19 | h19
        · rw [if_pos h19] at h; have h19' := bt1 h19; replace h19 := eq_true h19
          rcases Classical.em (6 ≤ h3_1) with h20 | h20
          · rw [if_pos h20] at h; replace h20 := eq_true h20
            cases h; subst hR; simp (maxDischargeDepth := 12) only [A_segment_decode_s1_s0, kn, simprocAttr, qa, qb, qc, qd, Ow.enc, Sl.enc, *]
          · rw [if_neg h20] at h; replace h20 := eq_false h20
            cases h; subst hR; simp (maxDischargeDepth := 12) only [A_segment_decode_s1_s0, kn, simprocAttr, qa, qb, qc, qd, Ow.enc, Sl.enc, *]
        · rw [if_neg h19] at h; have h19' := bt0 h19; replace h19 := eq_false h19
          cases h; subst hR; simp (maxDischargeDepth := 12) only [A_segment_decode_s1_s0, kn, simprocAttr, qa, qb, qc, qd, Ow.enc, Sl.enc, *]
theorem all_segment_decode_s1_s0 : ∀ q, St_segment_decode_s1_s0_l0 q
  | 0 => by intro M hM j hj; intros; rename_i h _ _ _ _ _; cases h
  | q + 1 => by have i0 := all_segment_decode_s1_s0 q; exact step_segment_decode_s1_s0_l0 q i0
theorem run_segment_decode_s1_s0 : ∀ (q M : Nat), 8 * q ≤ M → ∀ (w1 : Nat), ∀ (v1z : Bool), ∀ (v1l : List Int), ∀ (h1z : Bool), ∀ (h1l : List (Sl Int)), ∀ (h1x : Bool), ∀ (r : Int × Int × Int × Int × Bool), segment_decode_s1_s0 q v1z v1l h1z h1l h1x = some r → (orc T (M + 6)).inl F.segment_reader_head [(.ptr 2 0), (.sl v1z (List.map (V.int .u8) v1l))] [(.box [(.int .i64 0), (.int .i64 0), (.sl true [])]), (.row w1 h1z 1 (List.map (Sl.enc (V.int .u8)) h1l) h1x), (.box [(.int .i64 0), (.int .i64 0), (.int .i64 0), (.sl true []), (.bool false)])] = (some ([(.int .i64 r.1)], [(.box [(.int .i64 0), (.int .i64 0), (.sl true [])]), (.row w1 h1z 1 (List.map (Sl.enc (V.int .u8)) h1l) h1x), (.box [(.int .i64 r.2.1), (.int .i64 r.2.2.1), (.int .i64 r.2.2.2.1), (.sl true []), (.bool r.2.2.2.2)])]) : Option (List V × Hp)) := by
  intro q M hM w1 v1z v1l h1z h1l h1x r h
  rcases q with _ | q
  · cases h
  have ih_segment_decode_s1_s0_l0 := (all_segment_decode_s1_s0 q)
  generalize hR : (some ([(.int .i64 r.1)], [(.box [(.int .i64 0), (.int .i64 0), (.sl true [])]), (.row w1 h1z 1 (List.map (Sl.enc (V.int .u8)) h1l) h1x), (.box [(.int .i64 r.2.1), (.int .i64 r.2.2.1), (.int .i64 r.2.2.2.1), (.sl true []), (.bool r.2.2.2.2)])]) : Option (List V × Hp)) = R
  rw [i_segment_reader_head (n := M + 5)]
  rw [segment_decode_s1_s0] at h
  rcases Classical.em ((v1l.length : Int) = 0) with h1 | h1
  · rw [if_pos h1] at h; replace h1 := eq_true h1
    cases h; subst hR; simp (maxDischargeDepth := 12) only [A_segment_decode_s1_s0, kn, simprocAttr, qa, qb, qc, qd, Ow.enc, Sl.enc, *]
  · rw [if_neg h1] at h; replace h1 := eq_false h1
    rcases h2 : v1l[0]? with _ | e1
    · rw [h2] at h; cases h
    · rw [h2, Option.bind_some] at h
      rcases Classical.em (e1 = 108) with h3 | h3
      · rw [if_pos h3] at h; replace h3 := eq_true h3
        rcases Classical.em (1 ≤ (v1l.length : Int)) with h4 | h4
        · rw [if_pos h4] at h; replace h4 := eq_true h4
          replace h := ih_segment_decode_s1_s0_l0 M (by omega) (M + 5) (by omega) w1 _ _ _ _ _ _ _ _ _ _ h R hR
          simp (maxDischargeDepth := 12) only [A_segment_decode_s1_s0, kn, simprocAttr, qa, qb, qc, qd, Ow.enc, Sl.enc, *]
        · rw [if_neg h4] at h; replace h4 := eq_false h4
          cases h
      · rw [if_neg h3] at h; replace h3 := eq_false h3
        cases h; subst hR; simp (maxDischargeDepth := 12) only [A_segment_decode_s1_s0, kn, simprocAttr, qa, qb, qc, qd, Ow.enc, Sl.enc, *]
def St_segment_decode_s1_l0 (q : Nat) : Prop := ∀ (M : Nat) (hM : 8 * q ≤ M) (j : Nat) (hj : q ≤ j) (w1 : Nat) (v1len : Nat) (v19len : Nat) (v20 : Int) (h1z : Bool) (h1l : List (Sl Int)) (h1x : Bool) (h2_0 : Int) (h2_1 : Int) (h2_2 : Int) (h2_4 : Bool) (r : Nat × Int × Int × Int × Int × Int × Bool × Int × Int × Int × Int × Int × Nat × Bool × Bool × (List S_api_Record)) (_ : segment_decode_s1_l0 q v1len v19len v20 h1z h1l h1x h2_0 h2_1 h2_2 h2_4 = some r) (R : Option (List V × Hp)) (_ : (if r.1 = 0 then (some ([(.int .i64 r.2.1), (.int .i64 r.2.2.1)], [(.box [(.int .i64 0), (.int .i64 0), (.sl true [])]), (.row w1 h1z 1 (List.map (Sl.enc (V.int .u8)) h1l) h1x), (.box [(.int .i64 r.2.2.2.1), (.int .i64 r.2.2.2.2.1), (.int .i64 r.2.2.2.2.2.1), (.sl true []), (.bool r.2.2.2.2.2.2.1)])]) : Option (List V × Hp)) else (some ([(.int .i64 r.2.2.2.2.2.2.2.1), (.int .i64 r.2.2.2.2.2.2.2.2.1)], [(.box [(.int .i64 0), (.int .i64 0), (.sl true [])]), (.row w1 h1z 1 (List.map (Sl.enc (V.int .u8)) h1l) h1x), (.box [(.int .i64 r.2.2.2.2.2.2.2.2.2.1), (.int .i64 r.2.2.2.2.2.2.2.2.2.2.1), (.int .i64 r.2.2.2.2.2.2.2.2.2.2.2.1), (.vw 3 0 0 r.2.2.2.2.2.2.2.2.2.2.2.2.1 1), (.bool r.2.2.2.2.2.2.2.2.2.2.2.2.2.1)]), (.row 0 r.2.2.2.2.2.2.2.2.2.2.2.2.2.2.1 7 (List.map S_api_Record.enc r.2.2.2.2.2.2.2.2.2.2.2.2.2.2.2) true)]) : Option (List V × Hp))) = R) (fr : Fr) (H : Hp) (_ : canon 3 [0, 1, 19, 20, 21] fr H = ([(0, (.ptr 2 0)), (1, (.vw 1 w1 0 v1len 0)), (19, (.vw 1 w1 1 v19len 0)), (20, (.int .i64 v20)), (21, (.int .i64 0))], [(.box [(.int .i64 0), (.int .i64 0), (.sl true [])]), (.row w1 h1z 1 (List.map (Sl.enc (V.int .u8)) h1l) h1x), (.box [(.int .i64 h2_0), (.int .i64 h2_1), (.int .i64 h2_2), (.sl true []), (.bool h2_4)])])), finI 3 false [.tmp 4, .tmp 5] (unw T (orc T (M + 6)) (M + 6) 3 [.blk 0, .code c_segment_reader_walk_23] (iter 3 [0, 1, 19, 20, 21] (exec T (orc T (M + 6)) (M + 6) 3 c_segment_reader_walk_20) j fr H)) = R
def St_segment_decode_s1_l1 (q : Nat) : Prop := ∀ (M : Nat) (hM : 8 * q ≤ M) (j : Nat) (hj : q ≤ j) (w1 : Nat) (v1len : Nat) (v19len : Nat) (v20 : Int) (v21 : Int) (h1z : Bool) (h1l : List (Sl Int)) (h1x : Bool) (h2_0 : Int) (h2_1 : Int) (h2_2 : Int) (h2_4 : Bool) (h3z : Bool) (h3l : List S_api_Record) (r : Nat × Int × Int × Int × Int × Int × Bool × Int × Int × Int × Int × Int × Nat × Bool × Bool × (List S_api_Record)) (_ : segment_decode_s1_l1 q v1len v19len v20 v21 h1z h1l h1x h2_0 h2_1 h2_2 h2_4 h3z h3l = some r) (R : Option (List V × Hp)) (_ : (if r.1 = 0 then (some ([(.int .i64 r.2.1), (.int .i64 r.2.2.1)], [(.box [(.int .i64 0), (.int .i64 0), (.sl true [])]), (.row w1 h1z 1 (List.map (Sl.enc (V.int .u8)) h1l) h1x), (.box [(.int .i64 r.2.2.2.1), (.int .i64 r.2.2.2.2.1), (.int .i64 r.2.2.2.2.2.1), (.sl true []), (.bool r.2.2.2.2.2.2.1)])]) : Option (List V × Hp)) else (some ([(.int .i64 r.2.2.2.2.2.2.2.1), (.int .i64 r.2.2.2.2.2.2.2.2.1)], [(.box [(.int .i64 0), (.int .i64 0), (.sl true [])]), (.row w1 h1z 1 (List.map (Sl.enc (V.int .u8)) h1l) h1x), (.box [(.int .i64 r.2.2.2.2.2.2.2.2.2.1), (.int .i64 r.2.2.2.2.2.2.2.2.2.2.1), (.int .i64 r.2.2.2.2.2.2.2.2.2.2.2.1), (.vw 3 0 0 r.2.2.2.2.2.2.2.2.2.2.2.2.1 1), (.bool r.2.2.2.2.2.2.2.2.2.2.2.2.2.1)]), (.row 0 r.2.2.2.2.2.2.2.2.2.2.2.2.2.2.1 7 (List.map S_api_Record.enc r.2.2.2.2.2.2.2.2.2.2.2.2.2.2.2) true)]) : Option (List V × Hp))) = R) (fr : Fr) (H : Hp) (_ : canon 3 [0, 1, 19, 20, 21] fr H = ([(0, (.ptr 2 0)), (1, (.vw 1 w1 0 v1len 0)), (19, (.vw 1 w1 1 v19len 0)), (20, (.int .i64 v20)), (21, (.int .i64 v21))], [(.box [(.int .i64 0), (.int .i64 0), (.sl true [])]), (.row w1 h1z 1 (List.map (Sl.enc (V.int .u8)) h1l) h1x), (.box [(.int .i64 h2_0), (.int .i64 h2_1), (.int .i64 h2_2), (.vw 3 0 0 h3l.length 1), (.bool h2_4)]), (.row 0 h3z 7 (List.map S_api_Record.enc h3l) true)])), finI 3 false [.tmp 4, .tmp 5] (unw T (orc T (M + 6)) (M + 6) 3 [.blk 0, .code c_segment_reader_walk_23] (iter 3 [0, 1, 19, 20, 21] (exec T (orc T (M + 6)) (M + 6) 3 c_segment_reader_walk_20) j fr H)) = R
def A_segment_decode_s1 := And.intro @kk <| And.intro @L_segment_reader_walk <| And.intro @L_segment_reader_block <| And.intro @v_segment_fit <| And.intro @v_segment_reader_head <| And.intro @v_block_Decode <| And.intro @v_segment_elder <| And.intro @v_segment_reader_block <| @i_segment_reader_block
theorem step_segment_decode_s1_l0 (q : Nat) (ih_segment_decode_s1_l1 : St_segment_decode_s1_l1 q) : St_segment_decode_s1_l0 (q + 1) := by
  intro M hM j hj w1 v1len v19len v20 h1z h1l h1x h2_0 h2_1 h2_2 h2_4 r h R hR fr H hc
  obtain ⟨j, rfl⟩ : ∃ i, j = i + 1 := ⟨j - 1, by omega⟩
  rw [unw_iter, hc]; clear hc
  rw [segment_decode_s1_l0] at h
  rcases Classical.em (0 < v20) with h1 | h1
  · rw [if_pos h1] at h; replace h1 := eq_true h1
    rcases Classical.em (0 < v19len) with h2 | h2
    · rw [if_pos h2] at h; replace h2 := eq_true h2
      rcases h3 : h1l[1]? with _ | e3
      · rw [h3] at h; cases h
      · rw [h3, Option.bind_some] at h
        rcases Classical.em (h2_0 = 3) with h4 | h4
        · rw [if_pos h4] at h; replace h4 := eq_true h4
          rcases h5 : block_Decode q e3 with _ | r4
          · rw [h5] at h; cases h
          · rw [h5, Option.bind_some] at h
            replace h5 := run_block_Decode q (M + 5) (by omega) _ _ h5
            try simp only [Ow.enc, S_api_Op.enc, S_api_Record.enc, Sl.enc, kn, simprocAttr, qa, qb, qc, qd] at h5
            rcases Classical.em (r4.2 = 0) with h6 | h6
            · rw [if_pos h6] at h; replace h6 := eq_true h6
              rcases Classical.em (h2_4 = true) with h7 | h7
              · rw [if_pos h7] at h; have h7' := bt1 h7; replace h7 := eq_true h7
                rcases Classical.em ((r4.1.xs.length : Int) = 0) with h8 | h8
                · rw [if_pos h8] at h; replace h8 := eq_true h8
                  cases h; subst hR; simp (maxDischargeDepth := 12) only [A_segment_decode_s1, kn, simprocAttr, qa, qb, qc, qd, Ow.enc, S_api_Op.enc, S_api_Record.enc, Sl.enc, *]
                · rw [if_neg h8] at h; replace h8 := eq_false h8
                  rcases Classical.em (16 < (r4.1.xs.length : Int)) with h9 | h9
                  · rw [if_pos h9] at h; replace h9 := eq_true h9
                    cases h; subst hR; simp (maxDischargeDepth := 12) only [A_segment_decode_s1, kn, simprocAttr, qa, qb, qc, qd, Ow.enc, S_api_Op.enc, S_api_Record.enc, Sl.enc, *]
                  · rw [if_neg h9] at h; replace h9 := eq_false h9
                    rcases h10 : segment_fit q ⟨r4.1.n, r4.1.xs⟩ (wrp .i64 (h2_2 + 0)) with _ | r5
                    · rw [h10] at h; cases h
                    · rw [h10, Option.bind_some] at h
                      replace h10 := run_segment_fit q (M + 5) (by omega) _ _ _ h10
                      try simp only [Ow.enc, S_api_Op.enc, S_api_Record.enc, Sl.enc, kn, simprocAttr, qa, qb, qc, qd] at h10
                      rcases Classical.em (r5 = true) with h11 | h11
                      · rw [if_pos h11] at h; have h11' := bt1 h11; replace h11 := eq_true h11
                        rcases Classical.em (4096 < (wrp .i64 (0 + (r4.1.xs.length : Int)))) with h12 | h12
                        · rw [if_pos h12] at h; replace h12 := eq_true h12
                          try simp only [kn, simprocAttr, qa, qb, qc, qd] at h12
                          cases h; subst hR; simp (maxDischargeDepth := 12) only [A_segment_decode_s1, kn, simprocAttr, qa, qb, qc, qd, Ow.enc, S_api_Op.enc, S_api_Record.enc, Sl.enc, *]
                        · rw [if_neg h12] at h; replace h12 := eq_false h12
                          try simp only [kn, simprocAttr, qa, qb, qc, qd] at h12
                          rcases Classical.em (r4.1.xs.length ≤ 4294967296) with h13 | h13
                          · rw [if_pos h13] at h; replace h13 := eq_true h13
                            replace h := ih_segment_decode_s1_l1 M (by omega) j (by omega) w1 _ _ _ _ _ _ _ _ _ _ _ _ _ _ h R hR
                            simp (maxDischargeDepth := 12) only [A_segment_decode_s1, kn, simprocAttr, qa, qb, qc, qd, Ow.enc, S_api_Op.enc, S_api_Record.enc, Sl.enc, *]
                          · rw [if_neg h13] at h; replace h13 := eq_false h13
                            cases h
                      · rw [if_neg h11] at h; have h11' := bt0 h11; replace h11 := eq_false h11
                        cases h; subst hR; simp (maxDischargeDepth := 12) only [A_segment_decode_s1, kn, simprocAttr, qa, qb, qc, qd, Ow.enc, S_api_Op.enc, S_api_Record.enc, Sl.enc, *]
              · rw [if_neg h7] at h; have h7' := bt0 h7; replace h7 := eq_false h7
                cases h; subst hR; simp (maxDischargeDepth := 12) only [A_segment_decode_s1, kn, simprocAttr, qa, qb, qc, qd, Ow.enc, S_api_Op.enc, S_api_Record.enc, Sl.enc, *]
            · rw [if_neg h6] at h; replace h6 := eq_false h6
              cases h; subst hR; simp (maxDischargeDepth := 12) only [A_segment_decode_s1, kn, simprocAttr, qa, qb, qc, qd, Ow.enc, S_api_Op.enc, S_api_Record.enc, Sl.enc, *]
        · rw [if_neg h4] at h; replace h4 := eq_false h4
          rcases h14 : segment_elder q h2_0 e3 with _ | r6
          · rw [h14] at h; cases h
          · rw [h14, Option.bind_some] at h
            replace h14 := run_segment_elder q (M + 5) (by omega) _ _ _ h14
            try simp only [Ow.enc, S_api_Op.enc, S_api_Record.enc, Sl.enc, kn, simprocAttr, qa, qb, qc, qd] at h14
            rcases Classical.em (r6.2 = true) with h15 | h15
            · rw [if_pos h15] at h; have h15' := bt1 h15; replace h15 := eq_true h15
              rcases Classical.em (h2_4 = true) with h16 | h16
              · rw [if_pos h16] at h; have h16' := bt1 h16; replace h16 := eq_true h16
                rcases Classical.em ((r6.1.xs.length : Int) = 0) with h17 | h17
                · rw [if_pos h17] at h; replace h17 := eq_true h17
                  cases h; subst hR; simp (maxDischargeDepth := 12) only [A_segment_decode_s1, kn, simprocAttr, qa, qb, qc, qd, Ow.enc, S_api_Op.enc, S_api_Record.enc, Sl.enc, *]
                · rw [if_neg h17] at h; replace h17 := eq_false h17
                  rcases Classical.em (16 < (r6.1.xs.length : Int)) with h18 | h18
                  · rw [if_pos h18] at h; replace h18 := eq_true h18
                    cases h; subst hR; simp (maxDischargeDepth := 12) only [A_segment_decode_s1, kn, simprocAttr, qa, qb, qc, qd, Ow.enc, S_api_Op.enc, S_api_Record.enc, Sl.enc, *]
                  · rw [if_neg h18] at h; replace h18 := eq_false h18
                    rcases h19 : segment_fit q ⟨r6.1.n, r6.1.xs⟩ (wrp .i64 (h2_2 + 0)) with _ | r7
                    · rw [h19] at h; cases h
                    · rw [h19, Option.bind_some] at h
                      replace h19 := run_segment_fit q (M + 5) (by omega) _ _ _ h19
                      try simp only [Ow.enc, S_api_Op.enc, S_api_Record.enc, Sl.enc, kn, simprocAttr, qa, qb, qc, qd] at h19
                      rcases Classical.em (r7 = true) with h20 | h20
                      · rw [if_pos h20] at h; have h20' := bt1 h20; replace h20 := eq_true h20
                        rcases Classical.em (4096 < (wrp .i64 (0 + (r6.1.xs.length : Int)))) with h21 | h21
                        · rw [if_pos h21] at h; replace h21 := eq_true h21
                          try simp only [kn, simprocAttr, qa, qb, qc, qd] at h21
                          cases h; subst hR; simp (maxDischargeDepth := 12) only [A_segment_decode_s1, kn, simprocAttr, qa, qb, qc, qd, Ow.enc, S_api_Op.enc, S_api_Record.enc, Sl.enc, *]
                        · rw [if_neg h21] at h; replace h21 := eq_false h21
                          try simp only [kn, simprocAttr, qa, qb, qc, qd] at h21
                          rcases Classical.em (r6.1.xs.length ≤ 4294967296) with h22 | h22
                          · rw [if_pos h22] at h; replace h22 := eq_true h22
                            replace h := ih_segment_decode_s1_l1 M (by omega) j (by omega) w1 _ _ _ _ _ _ _ _ _ _ _ _ _ _ h R hR
                            simp (maxDischargeDepth := 12) only [A_segment_decode_s1, kn, simprocAttr, qa, qb, qc, qd, Ow.enc, S_api_Op.enc, S_api_Record.enc, Sl.enc, *]
                          · rw [if_neg h22] at h; replace h22 := eq_false h22
                            cases h
                      · rw [if_neg h20] at h; have h20' := bt0 h20; replace h20 := eq_false h20
                        cases h; subst hR; simp (maxDischargeDepth := 12) only [A_segment_decode_s1, kn, simprocAttr, qa, qb, qc, qd, Ow.enc, S_api_Op.enc, S_api_Record.enc, Sl.enc, *]
              · rw [if_neg h16] at h; have h16' := bt0 h16; replace h16 := eq_false h16
                cases h; subst hR; simp (maxDischargeDepth := 12) only [A_segment_decode_s1, kn, simprocAttr, qa, qb, qc, qd, Ow.enc, S_api_Op.enc, S_api_Record.enc, Sl.enc, *]
            · rw [if_neg h15] at h; have h15' := bt0 h15; replace h15 := eq_false h15
              cases h; subst hR; simp (maxDischargeDepth := 12) only [A_segment_decode_s1, kn, simprocAttr, qa, qb, qc, qd, Ow.enc, S_api_Op.enc, S_api_Record.enc, Sl.enc, *]
    · rw [if_neg h2] at h; replace h2 := eq_false h2
      cases h
  · rw [if_neg h1] at h; replace h1 := eq_false h1
    cases h; subst hR; simp (maxDischargeDepth := 12) only [A_segment_decode_s1, kn, simprocAttr, qa, qb, qc, qd, Ow.enc, S_api_Op.enc, S_api_Record.enc, Sl.enc, *]
theorem step_segment_decode_s1_l1 (q : Nat) (ih_segment_decode_s1_l1 : St_segment_decode_s1_l1 q) : St_segment_decode_s1_l1 (q + 1) := by
  intro M hM j hj w1 v1len v19len v20 v21 h1z h1l h1x h2_0 h2_1 h2_2 h2_4 h3z h3l r h R hR fr H hc
  obtain ⟨j, rfl⟩ : ∃ i, j = i + 1 := ⟨j - 1, by omega⟩
  rw [unw_iter, hc]; clear hc
  rw [segment_decode_s1_l1] at h
  rcases Classical.em (v21 < v20) with h1 | h1
  · rw [if_pos h1] at h; replace h1 := eq_true h1
    rcases Classical.em (0 ≤ v21) with h2 | h2
    · rw [if_pos h2] at h; replace h2 := eq_true h2
      rcases Classical.em (v21.toNat < v19len) with h3 | h3
      · rw [if_pos h3] at h; replace h3 := eq_true h3
        rcases h4 : h1l[(1 + v21.toNat)]? with _ | e8
        · rw [h4] at h; cases h
        · rw [h4, Option.bind_some] at h
          rcases Classical.em (h2_0 = 3) with h5 | h5
          · rw [if_pos h5] at h; replace h5 := eq_true h5
            rcases h6 : block_Decode q e8 with _ | r9
            · rw [h6] at h; cases h
            · rw [h6, Option.bind_some] at h
              replace h6 := run_block_Decode q (M + 5) (by omega) _ _ h6
              try simp only [Ow.enc, S_api_Op.enc, S_api_Record.enc, Sl.enc, kn, simprocAttr, qa, qb, qc, qd] at h6
              rcases Classical.em (r9.2 = 0) with h7 | h7
              · rw [if_pos h7] at h; replace h7 := eq_true h7
                rcases Classical.em (h2_4 = true) with h8 | h8
                · rw [if_pos h8] at h; have h8' := bt1 h8; replace h8 := eq_true h8
                  rcases Classical.em ((r9.1.xs.length : Int) = 0) with h9 | h9
                  · rw [if_pos h9] at h; replace h9 := eq_true h9
                    cases h; subst hR; simp (maxDischargeDepth := 12) only [A_segment_decode_s1, kn, simprocAttr, qa, qb, qc, qd, Ow.enc, S_api_Op.enc, S_api_Record.enc, Sl.enc, *]
                  · rw [if_neg h9] at h; replace h9 := eq_false h9
                    rcases Classical.em (16 < (r9.1.xs.length : Int)) with h10 | h10
                    · rw [if_pos h10] at h; replace h10 := eq_true h10
                      cases h; subst hR; simp (maxDischargeDepth := 12) only [A_segment_decode_s1, kn, simprocAttr, qa, qb, qc, qd, Ow.enc, S_api_Op.enc, S_api_Record.enc, Sl.enc, *]
                    · rw [if_neg h10] at h; replace h10 := eq_false h10
                      rcases h11 : segment_fit q ⟨r9.1.n, r9.1.xs⟩ (wrp .i64 (h2_2 + (h3l.length : Int))) with _ | r10
                      · rw [h11] at h; cases h
                      · rw [h11, Option.bind_some] at h
                        replace h11 := run_segment_fit q (M + 5) (by omega) _ _ _ h11
                        try simp only [Ow.enc, S_api_Op.enc, S_api_Record.enc, Sl.enc, kn, simprocAttr, qa, qb, qc, qd] at h11
                        rcases Classical.em (r10 = true) with h12 | h12
                        · rw [if_pos h12] at h; have h12' := bt1 h12; replace h12 := eq_true h12
                          rcases Classical.em (4096 < (wrp .i64 ((h3l.length : Int) + (r9.1.xs.length : Int)))) with h13 | h13
                          · rw [if_pos h13] at h; replace h13 := eq_true h13
                            try simp only [kn, simprocAttr, qa, qb, qc, qd] at h13
                            cases h; subst hR; simp (maxDischargeDepth := 12) only [A_segment_decode_s1, kn, simprocAttr, qa, qb, qc, qd, Ow.enc, S_api_Op.enc, S_api_Record.enc, Sl.enc, *]
                          · rw [if_neg h13] at h; replace h13 := eq_false h13
                            try simp only [kn, simprocAttr, qa, qb, qc, qd] at h13
                            rcases Classical.em ((h3l.length + r9.1.xs.length) ≤ 4294967296) with h14 | h14
                            · rw [if_pos h14] at h; replace h14 := eq_true h14
                              try simp only [kn, simprocAttr, qa, qb, qc, qd] at h14
                              replace h := ih_segment_decode_s1_l1 M (by omega) j (by omega) w1 _ _ _ _ _ _ _ _ _ _ _ _ _ _ h R hR
                              simp (maxDischargeDepth := 12) only [A_segment_decode_s1, kn, simprocAttr, qa, qb, qc, qd, Ow.enc, S_api_Op.enc, S_api_Record.enc, Sl.enc, *]
                            · rw [if_neg h14] at h; replace h14 := eq_false h14
                              try simp only [kn, simprocAttr, qa, qb, qc, qd] at h14
                              cases h
                        · rw [if_neg h12] at h; have h12' := bt0 h12; replace h12 := eq_false h12
                          cases h; subst hR; simp (maxDischargeDepth := 12) only [A_segment_decode_s1, kn, simprocAttr, qa, qb, qc, qd, Ow.enc, S_api_Op.enc, S_api_Record.enc, Sl.enc, *]
                · rw [if_neg h8] at h; have h8' := bt0 h8; replace h8 := eq_false h8
                  cases h; subst hR; simp (maxDischargeDepth := 12) only [A_segment_decode_s1, kn, simprocAttr, qa, qb, qc, qd, Ow.enc, S_api_Op.enc, S_api_Record.enc, Sl.enc, *]
              · rw [if_neg h7] at h; replace h7 := eq_false h7
                cases h; subst hR; simp (maxDischargeDepth := 12) only [A_segment_decode_s1, kn, simprocAttr, qa, qb, qc, qd, Ow.enc, S_api_Op.enc, S_api_Record.enc, Sl.enc, *]
          · rw [if_neg h5] at h; replace h5 := eq_false h5
            rcases h15 : segment_elder q h2_0 e8 with _ | r11
            · rw [h15] at h; cases h
            · rw [h15, Option.bind_some] at h
              replace h15 := run_segment_elder q (M + 5) (by omega) _ _ _ h15
              try simp only [Ow.enc, S_api_Op.enc, S_api_Record.enc, Sl.enc, kn, simprocAttr, qa, qb, qc, qd] at h15
              rcases Classical.em (r11.2 = true) with h16 | h16
              · rw [if_pos h16] at h; have h16' := bt1 h16; replace h16 := eq_true h16
                rcases Classical.em (h2_4 = true) with h17 | h17
                · rw [if_pos h17] at h; have h17' := bt1 h17; replace h17 := eq_true h17
                  rcases Classical.em ((r11.1.xs.length : Int) = 0) with h18 | h18
                  · rw [if_pos h18] at h; replace h18 := eq_true h18
                    cases h; subst hR; simp (maxDischargeDepth := 12) only [A_segment_decode_s1, kn, simprocAttr, qa, qb, qc, qd, Ow.enc, S_api_Op.enc, S_api_Record.enc, Sl.enc, *]
                  · rw [if_neg h18] at h; replace h18 := eq_false h18
                    rcases Classical.em (16 < (r11.1.xs.length : Int)) with h19 | h19
                    · rw [if_pos h19] at h; replace h19 := eq_true h19
                      cases h; subst hR; simp (maxDischargeDepth := 12) only [A_segment_decode_s1, kn, simprocAttr, qa, qb, qc, qd, Ow.enc, S_api_Op.enc, S_api_Record.enc, Sl.enc, *]
                    · rw [if_neg h19] at h; replace h19 := eq_false h19
                      rcases h20 : segment_fit q ⟨r11.1.n, r11.1.xs⟩ (wrp .i64 (h2_2 + (h3l.length : Int))) with _ | r12
                      · rw [h20] at h; cases h
                      · rw [h20, Option.bind_some] at h
                        replace h20 := run_segment_fit q (M + 5) (by omega) _ _ _ h20
                        try simp only [Ow.enc, S_api_Op.enc, S_api_Record.enc, Sl.enc, kn, simprocAttr, qa, qb, qc, qd] at h20
                        rcases Classical.em (r12 = true) with h21 | h21
                        · rw [if_pos h21] at h; have h21' := bt1 h21; replace h21 := eq_true h21
                          rcases Classical.em (4096 < (wrp .i64 ((h3l.length : Int) + (r11.1.xs.length : Int)))) with h22 | h22
                          · rw [if_pos h22] at h; replace h22 := eq_true h22
                            try simp only [kn, simprocAttr, qa, qb, qc, qd] at h22
                            cases h; subst hR; simp (maxDischargeDepth := 12) only [A_segment_decode_s1, kn, simprocAttr, qa, qb, qc, qd, Ow.enc, S_api_Op.enc, S_api_Record.enc, Sl.enc, *]
                          · rw [if_neg h22] at h; replace h22 := eq_false h22
                            try simp only [kn, simprocAttr, qa, qb, qc, qd] at h22
                            rcases Classical.em ((h3l.length + r11.1.xs.length) ≤ 4294967296) with h23 | h23
                            · rw [if_pos h23] at h; replace h23 := eq_true h23
                              try simp only [kn, simprocAttr, qa, qb, qc, qd] at h23
                              replace h := ih_segment_decode_s1_l1 M (by omega) j (by omega) w1 _ _ _ _ _ _ _ _ _ _ _ _ _ _ h R hR
                              simp (maxDischargeDepth := 12) only [A_segment_decode_s1, kn, simprocAttr, qa, qb, qc, qd, Ow.enc, S_api_Op.enc, S_api_Record.enc, Sl.enc, *]
                            · rw [if_neg h23] at h; replace h23 := eq_false h23
                              try simp only [kn, simprocAttr, qa, qb, qc, qd] at h23
                              cases h
                        · rw [if_neg h21] at h; have h21' := bt0 h21; replace h21 := eq_false h21
                          cases h; subst hR; simp (maxDischargeDepth := 12) only [A_segment_decode_s1, kn, simprocAttr, qa, qb, qc, qd, Ow.enc, S_api_Op.enc, S_api_Record.enc, Sl.enc, *]
                · rw [if_neg h17] at h; have h17' := bt0 h17; replace h17 := eq_false h17
                  cases h; subst hR; simp (maxDischargeDepth := 12) only [A_segment_decode_s1, kn, simprocAttr, qa, qb, qc, qd, Ow.enc, S_api_Op.enc, S_api_Record.enc, Sl.enc, *]
              · rw [if_neg h16] at h; have h16' := bt0 h16; replace h16 := eq_false h16
                cases h; subst hR; simp (maxDischargeDepth := 12) only [A_segment_decode_s1, kn, simprocAttr, qa, qb, qc, qd, Ow.enc, S_api_Op.enc, S_api_Record.enc, Sl.enc, *]
      · rw [if_neg h3] at h; replace h3 := eq_false h3
        cases h
    · rw [if_neg h2] at h; replace h2 := eq_false h2
      cases h
  · rw [if_neg h1] at h; replace h1 := eq_false h1
    cases h; subst hR; simp (maxDischargeDepth := 12) only [A_segment_decode_s1, kn, simprocAttr, qa, qb, qc, qd, Ow.enc, S_api_Op.enc, S_api_Record.enc, Sl.enc, *]
theorem all_segment_decode_s1 : ∀ q, St_segment_decode_s1_l0 q ∧ St_segment_decode_s1_l1 q
  | 0 => by refine ⟨?_, ?_⟩ <;> (intro M hM j hj; intros; rename_i h _ _ _ _ _; cases h)
  | q + 1 => by have ⟨i0, i1⟩ := all_segment_decode_s1 q; exact ⟨step_segment_decode_s1_l0 q i1, step_segment_decode_s1_l1 q i1⟩
theorem run_segment_decode_s1 : ∀ (q M : Nat), 8 * q ≤ M → ∀ (w1 : Nat), ∀ (v1len : Nat), ∀ (h1z : Bool), ∀ (h1l : List (Sl Int)), ∀ (h1x : Bool), ∀ (r : Nat × Int × Int × Int × Int × Int × Bool × Int × Int × Int × Int × Int × Nat × Bool × Bool × (List S_api_Record)), segment_decode_s1 q v1len h1z h1l h1x = some r → (orc T (M + 7)).inl F.segment_reader_walk [(.ptr 2 0), (.vw 1 w1 0 v1len 0)] [(.box [(.int .i64 0), (.int .i64 0), (.sl true [])]), (.row w1 h1z 1 (List.map (Sl.enc (V.int .u8)) h1l) h1x), (.box [(.int .i64 0), (.int .i64 0), (.int .i64 0), (.sl true []), (.bool false)])] = (if r.1 = 0 then (some ([(.int .i64 r.2.1), (.int .i64 r.2.2.1)], [(.box [(.int .i64 0), (.int .i64 0), (.sl true [])]), (.row w1 h1z 1 (List.map (Sl.enc (V.int .u8)) h1l) h1x), (.box [(.int .i64 r.2.2.2.1), (.int .i64 r.2.2.2.2.1), (.int .i64 r.2.2.2.2.2.1), (.sl true []), (.bool r.2.2.2.2.2.2.1)])]) : Option (List V × Hp)) else (some ([(.int .i64 r.2.2.2.2.2.2.2.1), (.int .i64 r.2.2.2.2.2.2.2.2.1)], [(.box [(.int .i64 0), (.int .i64 0), (.sl true [])]), (.row w1 h1z 1 (List.map (Sl.enc (V.int .u8)) h1l) h1x), (.box [(.int .i64 r.2.2.2.2.2.2.2.2.2.1), (.int .i64 r.2.2.2.2.2.2.2.2.2.2.1), (.int .i64 r.2.2.2.2.2.2.2.2.2.2.2.1), (.vw 3 0 0 r.2.2.2.2.2.2.2.2.2.2.2.2.1 1), (.bool r.2.2.2.2.2.2.2.2.2.2.2.2.2.1)]), (.row 0 r.2.2.2.2.2.2.2.2.2.2.2.2.2.2.1 7 (List.map S_api_Record.enc r.2.2.2.2.2.2.2.2.2.2.2.2.2.2.2) true)]) : Option (List V × Hp))) := by
  intro q M hM w1 v1len h1z h1l h1x r h
  rcases q with _ | q
  · cases h
  have ih_segment_decode_s1_l0 := (all_segment_decode_s1 q).1
  generalize hR : (if r.1 = 0 then (some ([(.int .i64 r.2.1), (.int .i64 r.2.2.1)], [(.box [(.int .i64 0), (.int .i64 0), (.sl true [])]), (.row w1 h1z 1 (List.map (Sl.enc (V.int .u8)) h1l) h1x), (.box [(.int .i64 r.2.2.2.1), (.int .i64 r.2.2.2.2.1), (.int .i64 r.2.2.2.2.2.1), (.sl true []), (.bool r.2.2.2.2.2.2.1)])]) : Option (List V × Hp)) else (some ([(.int .i64 r.2.2.2.2.2.2.2.1), (.int .i64 r.2.2.2.2.2.2.2.2.1)], [(.box [(.int .i64 0), (.int .i64 0), (.sl true [])]), (.row w1 h1z 1 (List.map (Sl.enc (V.int .u8)) h1l) h1x), (.box [(.int .i64 r.2.2.2.2.2.2.2.2.2.1), (.int .i64 r.2.2.2.2.2.2.2.2.2.2.1), (.int .i64 r.2.2.2.2.2.2.2.2.2.2.2.1), (.vw 3 0 0 r.2.2.2.2.2.2.2.2.2.2.2.2.1 1), (.bool r.2.2.2.2.2.2.2.2.2.2.2.2.2.1)]), (.row 0 r.2.2.2.2.2.2.2.2.2.2.2.2.2.2.1 7 (List.map S_api_Record.enc r.2.2.2.2.2.2.2.2.2.2.2.2.2.2.2) true)]) : Option (List V × Hp))) = R
  rw [i_segment_reader_walk (n := M + 6)]
  rw [segment_decode_s1] at h
  rcases Classical.em (0 < v1len) with h1 | h1
  · rw [if_pos h1] at h; replace h1 := eq_true h1
    rcases h2 : h1l[0]? with _ | e1
    · rw [h2] at h; cases h
    · rw [h2, Option.bind_some] at h
      rcases h3 : segment_decode_s1_s0 q e1.z e1.l h1z h1l h1x with _ | r2
      · rw [h3] at h; cases h
      · rw [h3, Option.bind_some] at h
        replace h3 := run_segment_decode_s1_s0 q M (by omega) w1 _ _ _ _ _ _ h3
        try simp only [Ow.enc, S_api_Op.enc, S_api_Record.enc, Sl.enc, kn, simprocAttr, qa, qb, qc, qd] at h3
        rcases Classical.em (r2.1 = 0) with h4 | h4
        · rw [if_pos h4] at h; replace h4 := eq_true h4
          rcases Classical.em (1 ≤ v1len) with h5 | h5
          · rw [if_pos h5] at h; replace h5 := eq_true h5
            replace h := ih_segment_decode_s1_l0 M (by omega) (M + 6) (by omega) w1 _ _ _ _ _ _ _ _ _ _ _ h R hR
            simp (maxDischargeDepth := 12) only [A_segment_decode_s1, kn, simprocAttr, qa, qb, qc, qd, Ow.enc, S_api_Op.enc, S_api_Record.enc, Sl.enc, *]
          · rw [if_neg h5] at h; replace h5 := eq_false h5
            cases h
        · rw [if_neg h4] at h; replace h4 := eq_false h4
          cases h; subst hR; simp (maxDischargeDepth := 12) only [A_segment_decode_s1, kn, simprocAttr, qa, qb, qc, qd, Ow.enc, S_api_Op.enc, S_api_Record.enc, Sl.enc, *]
  · rw [if_neg h1] at h; replace h1 := eq_false h1
    cases h
def A_segment_decode := And.intro @kk <| And.intro @L_segment_decode <| And.intro @v_segment_footer <| And.intro @v_segment_framed <| And.intro @v_segment_reader_walk <| And.intro @v_frame_All <| And.intro @v_segment_frames <| And.intro @v_bytes_Equal <| And.intro @rr_segment_decode <| And.intro @ro_segment_decode <| @b0_segment_decode
theorem run_segment_decode : ∀ (q N : Nat), 8 * q ≤ N → ∀ (a0 : (Sl Int)), ∀ (r : S_api_Segment × (Ow (Sl Int)) × Int), segment_decode q a0 = some r → (orc T N).deep F.segment_decode [(Sl.enc (V.int .u8)) a0] = some [S_api_Segment.enc r.1, (Ow.enc 1 (Sl.enc (V.int .u8))) r.2.1, (V.int .i64) r.2.2] := by
  intro q N hM a0 r h
  rcases q with _ | q
  · cases h
  obtain ⟨M, rfl⟩ : ∃ M, N = M + 8 := ⟨N - 8, by omega⟩
  generalize hR : some [S_api_Segment.enc r.1, (Ow.enc 1 (Sl.enc (V.int .u8))) r.2.1, (V.int .i64) r.2.2] = R
  rw [orc_deep, T_segment_decode, Option.bind_some, runDeep_eq]
  rw [segment_decode] at h
  rcases h1 : frame_All q a0 with _ | r1
  · rw [h1] at h; cases h
  · rw [h1, Option.bind_some] at h
    replace h1 := run_frame_All q (M + 7) (by omega) _ _ h1
    try simp only [Ow.enc, Sl.enc, kn, simprocAttr, qa, qb, qc, qd] at h1
    rcases Classical.em (r1.2 = 0) with h2 | h2
    · rw [if_pos h2] at h; replace h2 := eq_true h2
      rcases Classical.em ((r1.1.xs.length : Int) < 2) with h3 | h3
      · rw [if_pos h3] at h; replace h3 := eq_true h3
        cases h; subst hR; simp (maxDischargeDepth := 12) only [A_segment_decode, kn, simprocAttr, qa, qb, qc, qd, Ow.enc, S_api_Op.enc, S_api_Record.enc, S_api_Segment.enc, Sl.enc, *]
      · rw [if_neg h3] at h; replace h3 := eq_false h3
        rcases Classical.em (0 ≤ (wrp .i64 ((r1.1.xs.length : Int) - 1))) with h4 | h4
        · rw [if_pos h4] at h; replace h4 := eq_true h4
          try simp only [kn, simprocAttr, qa, qb, qc, qd] at h4
          rcases Classical.em ((wrp .i64 ((r1.1.xs.length : Int) - 1)).toNat ≤ r1.1.xs.length) with h5 | h5
          · rw [if_pos h5] at h; replace h5 := eq_true h5
            try simp only [kn, simprocAttr, qa, qb, qc, qd] at h5
            rcases Classical.em (r1.1.n = true) with h6 | h6
            · rw [if_pos h6] at h; have h6' := bt1 h6; replace h6 := eq_true h6
              rcases h7 : segment_decode_s0 q ((wrp .i64 ((r1.1.xs.length : Int) - 1)).toNat) r1.1.n r1.1.xs r1.1.x with _ | r2
              · rw [h7] at h; cases h
              · rw [h7, Option.bind_some] at h
                replace h7 := run_segment_decode_s0 q M (by omega) 0 _ _ _ _ _ h7
                try simp only [Ow.enc, S_api_Op.enc, S_api_Record.enc, Sl.enc, kn, simprocAttr, qa, qb, qc, qd] at h7
                rcases Classical.em (r2.1 = 0) with h8 | h8
                · rw [if_pos h8] at h; replace h8 := eq_true h8
                  rcases Classical.em (r2.2.2.1 = 0) with h9 | h9
                  · rw [if_pos h9] at h; replace h9 := eq_true h9
                    rcases h10 : segment_frames q ⟨r1.1.n, r1.1.xs⟩ with _ | r3
                    · rw [h10] at h; cases h
                    · rw [h10, Option.bind_some] at h
                      replace h10 := run_segment_frames q (M + 7) (by omega) _ _ h10
                      try simp only [Ow.enc, Sl.enc, kn, simprocAttr, qa, qb, qc, qd] at h10
                      rcases h11 : segment_footer q ⟨r3.n, r3.xs⟩ with _ | r4
                      · rw [h11] at h; cases h
                      · rw [h11, Option.bind_some] at h
                        replace h11 := run_segment_footer q (M + 7) (by omega) _ _ h11
                        try simp only [Ow.enc, Sl.enc, kn, simprocAttr, qa, qb, qc, qd] at h11
                        rcases Classical.em ((wrp .i64 ((r1.1.xs.length : Int) - 1)).toNat < r1.1.xs.length) with h12 | h12
                        · rw [if_pos h12] at h; replace h12 := eq_true h12
                          try simp only [kn, simprocAttr, qa, qb, qc, qd] at h12
                          rcases h13 : r1.1.xs[(wrp .i64 ((r1.1.xs.length : Int) - 1)).toNat]? with _ | e5
                          · rw [h13] at h; cases h
                          · rw [h13, Option.bind_some] at h
                            rcases h14 : segment_framed q e5 with _ | r6
                            · rw [h14] at h; cases h
                            · rw [h14, Option.bind_some] at h
                              replace h14 := run_segment_framed q (M + 7) (by omega) _ _ h14
                              try simp only [Ow.enc, Sl.enc, kn, simprocAttr, qa, qb, qc, qd] at h14
                              rcases h15 : bytes_Equal q ⟨r4.n, r4.xs⟩ ⟨r6.n, r6.xs⟩ with _ | r7
                              · rw [h15] at h; cases h
                              · rw [h15, Option.bind_some] at h
                                replace h15 := run_bytes_Equal q (M + 7) (by omega) _ _ _ h15
                                try simp only [Ow.enc, Sl.enc, kn, simprocAttr, qa, qb, qc, qd] at h15
                                rcases Classical.em (r7 = true) with h16 | h16
                                · rw [if_pos h16] at h; have h16' := bt1 h16; replace h16 := eq_true h16
                                  cases h; subst hR; simp (maxDischargeDepth := 12) only [A_segment_decode, kn, simprocAttr, qa, qb, qc, qd, Ow.enc, S_api_Op.enc, S_api_Record.enc, S_api_Segment.enc, Sl.enc, *]
                                · rw [if_neg h16] at h; have h16' := bt0 h16; replace h16 := eq_false h16
                                  cases h; subst hR; simp (maxDischargeDepth := 12) only [A_segment_decode, kn, simprocAttr, qa, qb, qc, qd, Ow.enc, S_api_Op.enc, S_api_Record.enc, S_api_Segment.enc, Sl.enc, *]
                        · rw [if_neg h12] at h; replace h12 := eq_false h12
                          try simp only [kn, simprocAttr, qa, qb, qc, qd] at h12
                          cases h
                  · rw [if_neg h9] at h; replace h9 := eq_false h9
                    cases h; subst hR; simp (maxDischargeDepth := 12) only [A_segment_decode, kn, simprocAttr, qa, qb, qc, qd, Ow.enc, S_api_Op.enc, S_api_Record.enc, S_api_Segment.enc, Sl.enc, *]
                · rw [if_neg h8] at h; replace h8 := eq_false h8
                  rcases Classical.em (r2.2.2.2.2.2.2.2.2.1 = 0) with h17 | h17
                  · rw [if_pos h17] at h; replace h17 := eq_true h17
                    rcases h18 : segment_frames q ⟨r1.1.n, r1.1.xs⟩ with _ | r8
                    · rw [h18] at h; cases h
                    · rw [h18, Option.bind_some] at h
                      replace h18 := run_segment_frames q (M + 7) (by omega) _ _ h18
                      try simp only [Ow.enc, Sl.enc, kn, simprocAttr, qa, qb, qc, qd] at h18
                      rcases h19 : segment_footer q ⟨r8.n, r8.xs⟩ with _ | r9
                      · rw [h19] at h; cases h
                      · rw [h19, Option.bind_some] at h
                        replace h19 := run_segment_footer q (M + 7) (by omega) _ _ h19
                        try simp only [Ow.enc, Sl.enc, kn, simprocAttr, qa, qb, qc, qd] at h19
                        rcases Classical.em ((wrp .i64 ((r1.1.xs.length : Int) - 1)).toNat < r1.1.xs.length) with h20 | h20
                        · rw [if_pos h20] at h; replace h20 := eq_true h20
                          try simp only [kn, simprocAttr, qa, qb, qc, qd] at h20
                          rcases h21 : r1.1.xs[(wrp .i64 ((r1.1.xs.length : Int) - 1)).toNat]? with _ | e10
                          · rw [h21] at h; cases h
                          · rw [h21, Option.bind_some] at h
                            rcases h22 : segment_framed q e10 with _ | r11
                            · rw [h22] at h; cases h
                            · rw [h22, Option.bind_some] at h
                              replace h22 := run_segment_framed q (M + 7) (by omega) _ _ h22
                              try simp only [Ow.enc, Sl.enc, kn, simprocAttr, qa, qb, qc, qd] at h22
                              rcases h23 : bytes_Equal q ⟨r9.n, r9.xs⟩ ⟨r11.n, r11.xs⟩ with _ | r12
                              · rw [h23] at h; cases h
                              · rw [h23, Option.bind_some] at h
                                replace h23 := run_bytes_Equal q (M + 7) (by omega) _ _ _ h23
                                try simp only [Ow.enc, Sl.enc, kn, simprocAttr, qa, qb, qc, qd] at h23
                                rcases Classical.em (r12 = true) with h24 | h24
                                · rw [if_pos h24] at h; have h24' := bt1 h24; replace h24 := eq_true h24
                                  cases h; subst hR; simp (maxDischargeDepth := 12) only [A_segment_decode, kn, simprocAttr, qa, qb, qc, qd, Ow.enc, S_api_Op.enc, S_api_Record.enc, S_api_Segment.enc, Sl.enc, *]
                                · rw [if_neg h24] at h; have h24' := bt0 h24; replace h24 := eq_false h24
                                  cases h; subst hR; simp (maxDischargeDepth := 12) only [A_segment_decode, kn, simprocAttr, qa, qb, qc, qd, Ow.enc, S_api_Op.enc, S_api_Record.enc, S_api_Segment.enc, Sl.enc, *]
                        · rw [if_neg h20] at h; replace h20 := eq_false h20
                          try simp only [kn, simprocAttr, qa, qb, qc, qd] at h20
                          cases h
                  · rw [if_neg h17] at h; replace h17 := eq_false h17
                    cases h; subst hR; simp (maxDischargeDepth := 12) only [A_segment_decode, kn, simprocAttr, qa, qb, qc, qd, Ow.enc, S_api_Op.enc, S_api_Record.enc, S_api_Segment.enc, Sl.enc, *]
            · rw [if_neg h6] at h; have h6' := bt0 h6; replace h6 := eq_false h6
              rcases h25 : segment_decode_s1 q ((wrp .i64 ((r1.1.xs.length : Int) - 1)).toNat) r1.1.n r1.1.xs r1.1.x with _ | r13
              · rw [h25] at h; cases h
              · rw [h25, Option.bind_some] at h
                replace h25 := run_segment_decode_s1 q M (by omega) 0 _ _ _ _ _ h25
                try simp only [Ow.enc, S_api_Op.enc, S_api_Record.enc, Sl.enc, kn, simprocAttr, qa, qb, qc, qd] at h25
                rcases Classical.em (r13.1 = 0) with h26 | h26
                · rw [if_pos h26] at h; replace h26 := eq_true h26
                  rcases Classical.em (r13.2.2.1 = 0) with h27 | h27
                  · rw [if_pos h27] at h; replace h27 := eq_true h27
                    rcases h28 : segment_frames q ⟨r1.1.n, (List.take ((wrp .i64 ((r1.1.xs.length : Int) - 1)).toNat) r1.1.xs)⟩ with _ | r14
                    · rw [h28] at h; cases h
                    · rw [h28, Option.bind_some] at h
                      replace h28 := run_segment_frames q (M + 7) (by omega) _ _ h28
                      try simp only [Ow.enc, Sl.enc, kn, simprocAttr, qa, qb, qc, qd] at h28
                      rcases h29 : segment_footer q ⟨r14.n, r14.xs⟩ with _ | r15
                      · rw [h29] at h; cases h
                      · rw [h29, Option.bind_some] at h
                        replace h29 := run_segment_footer q (M + 7) (by omega) _ _ h29
                        try simp only [Ow.enc, Sl.enc, kn, simprocAttr, qa, qb, qc, qd] at h29
                        rcases Classical.em ((wrp .i64 ((r1.1.xs.length : Int) - 1)).toNat < r1.1.xs.length) with h30 | h30
                        · rw [if_pos h30] at h; replace h30 := eq_true h30
                          try simp only [kn, simprocAttr, qa, qb, qc, qd] at h30
                          rcases h31 : r1.1.xs[(wrp .i64 ((r1.1.xs.length : Int) - 1)).toNat]? with _ | e16
                          · rw [h31] at h; cases h
                          · rw [h31, Option.bind_some] at h
                            rcases h32 : segment_framed q e16 with _ | r17
                            · rw [h32] at h; cases h
                            · rw [h32, Option.bind_some] at h
                              replace h32 := run_segment_framed q (M + 7) (by omega) _ _ h32
                              try simp only [Ow.enc, Sl.enc, kn, simprocAttr, qa, qb, qc, qd] at h32
                              rcases h33 : bytes_Equal q ⟨r15.n, r15.xs⟩ ⟨r17.n, r17.xs⟩ with _ | r18
                              · rw [h33] at h; cases h
                              · rw [h33, Option.bind_some] at h
                                replace h33 := run_bytes_Equal q (M + 7) (by omega) _ _ _ h33
                                try simp only [Ow.enc, Sl.enc, kn, simprocAttr, qa, qb, qc, qd] at h33
                                rcases Classical.em (r18 = true) with h34 | h34
                                · rw [if_pos h34] at h; have h34' := bt1 h34; replace h34 := eq_true h34
                                  cases h; subst hR; simp (maxDischargeDepth := 12) only [A_segment_decode, kn, simprocAttr, qa, qb, qc, qd, Ow.enc, S_api_Op.enc, S_api_Record.enc, S_api_Segment.enc, Sl.enc, *]
                                · rw [if_neg h34] at h; have h34' := bt0 h34; replace h34 := eq_false h34
                                  cases h; subst hR; simp (maxDischargeDepth := 12) only [A_segment_decode, kn, simprocAttr, qa, qb, qc, qd, Ow.enc, S_api_Op.enc, S_api_Record.enc, S_api_Segment.enc, Sl.enc, *]
                        · rw [if_neg h30] at h; replace h30 := eq_false h30
                          try simp only [kn, simprocAttr, qa, qb, qc, qd] at h30
                          cases h
                  · rw [if_neg h27] at h; replace h27 := eq_false h27
                    cases h; subst hR; simp (maxDischargeDepth := 12) only [A_segment_decode, kn, simprocAttr, qa, qb, qc, qd, Ow.enc, S_api_Op.enc, S_api_Record.enc, S_api_Segment.enc, Sl.enc, *]
                · rw [if_neg h26] at h; replace h26 := eq_false h26
                  rcases Classical.em (r13.2.2.2.2.2.2.2.2.1 = 0) with h35 | h35
                  · rw [if_pos h35] at h; replace h35 := eq_true h35
                    rcases h36 : segment_frames q ⟨r1.1.n, (List.take ((wrp .i64 ((r1.1.xs.length : Int) - 1)).toNat) r1.1.xs)⟩ with _ | r19
                    · rw [h36] at h; cases h
                    · rw [h36, Option.bind_some] at h
                      replace h36 := run_segment_frames q (M + 7) (by omega) _ _ h36
                      try simp only [Ow.enc, Sl.enc, kn, simprocAttr, qa, qb, qc, qd] at h36
                      rcases h37 : segment_footer q ⟨r19.n, r19.xs⟩ with _ | r20
                      · rw [h37] at h; cases h
                      · rw [h37, Option.bind_some] at h
                        replace h37 := run_segment_footer q (M + 7) (by omega) _ _ h37
                        try simp only [Ow.enc, Sl.enc, kn, simprocAttr, qa, qb, qc, qd] at h37
                        rcases Classical.em ((wrp .i64 ((r1.1.xs.length : Int) - 1)).toNat < r1.1.xs.length) with h38 | h38
                        · rw [if_pos h38] at h; replace h38 := eq_true h38
                          try simp only [kn, simprocAttr, qa, qb, qc, qd] at h38
                          rcases h39 : r1.1.xs[(wrp .i64 ((r1.1.xs.length : Int) - 1)).toNat]? with _ | e21
                          · rw [h39] at h; cases h
                          · rw [h39, Option.bind_some] at h
                            rcases h40 : segment_framed q e21 with _ | r22
                            · rw [h40] at h; cases h
                            · rw [h40, Option.bind_some] at h
                              replace h40 := run_segment_framed q (M + 7) (by omega) _ _ h40
                              try simp only [Ow.enc, Sl.enc, kn, simprocAttr, qa, qb, qc, qd] at h40
                              rcases h41 : bytes_Equal q ⟨r20.n, r20.xs⟩ ⟨r22.n, r22.xs⟩ with _ | r23
                              · rw [h41] at h; cases h
                              · rw [h41, Option.bind_some] at h
                                replace h41 := run_bytes_Equal q (M + 7) (by omega) _ _ _ h41
                                try simp only [Ow.enc, Sl.enc, kn, simprocAttr, qa, qb, qc, qd] at h41
                                rcases Classical.em (r23 = true) with h42 | h42
                                · rw [if_pos h42] at h; have h42' := bt1 h42; replace h42 := eq_true h42
                                  cases h; subst hR; simp (maxDischargeDepth := 12) only [A_segment_decode, kn, simprocAttr, qa, qb, qc, qd, Ow.enc, S_api_Op.enc, S_api_Record.enc, S_api_Segment.enc, Sl.enc, *]
                                · rw [if_neg h42] at h; have h42' := bt0 h42; replace h42 := eq_false h42
                                  cases h; subst hR; simp (maxDischargeDepth := 12) only [A_segment_decode, kn, simprocAttr, qa, qb, qc, qd, Ow.enc, S_api_Op.enc, S_api_Record.enc, S_api_Segment.enc, Sl.enc, *]
                        · rw [if_neg h38] at h; replace h38 := eq_false h38
                          try simp only [kn, simprocAttr, qa, qb, qc, qd] at h38
                          cases h
                  · rw [if_neg h35] at h; replace h35 := eq_false h35
                    cases h; subst hR; simp (maxDischargeDepth := 12) only [A_segment_decode, kn, simprocAttr, qa, qb, qc, qd, Ow.enc, S_api_Op.enc, S_api_Record.enc, S_api_Segment.enc, Sl.enc, *]
          · rw [if_neg h5] at h; replace h5 := eq_false h5
            try simp only [kn, simprocAttr, qa, qb, qc, qd] at h5
            cases h
        · rw [if_neg h4] at h; replace h4 := eq_false h4
          try simp only [kn, simprocAttr, qa, qb, qc, qd] at h4
          cases h
    · rw [if_neg h2] at h; replace h2 := eq_false h2
      cases h; subst hR; simp (maxDischargeDepth := 12) only [A_segment_decode, kn, simprocAttr, qa, qb, qc, qd, Ow.enc, S_api_Op.enc, S_api_Record.enc, S_api_Segment.enc, Sl.enc, *]
def A_segment_Decode := And.intro @kk <| And.intro @L_segment_Decode <| And.intro @v_segment_decode <| And.intro @rr_segment_Decode <| And.intro @ro_segment_Decode <| @b0_segment_Decode
theorem run_segment_Decode : ∀ (q N : Nat), 8 * q ≤ N → ∀ (a0 : (Sl Int)), ∀ (r : S_api_Segment × Int), segment_Decode q a0 = some r → (orc T N).deep F.segment_Decode [(Sl.enc (V.int .u8)) a0] = some [S_api_Segment.enc r.1, (V.int .i64) r.2] := by
  intro q N hM a0 r h
  rcases q with _ | q
  · cases h
  obtain ⟨M, rfl⟩ : ∃ M, N = M + 8 := ⟨N - 8, by omega⟩
  generalize hR : some [S_api_Segment.enc r.1, (V.int .i64) r.2] = R
  rw [orc_deep, T_segment_Decode, Option.bind_some, runDeep_eq]
  rw [segment_Decode] at h
  rcases h1 : segment_decode q a0 with _ | r1
  · rw [h1] at h; cases h
  · rw [h1, Option.bind_some] at h
    replace h1 := run_segment_decode q (M + 7) (by omega) _ _ h1
    try simp only [Ow.enc, S_api_Op.enc, S_api_Record.enc, S_api_Segment.enc, Sl.enc, kn, simprocAttr, qa, qb, qc, qd] at h1
    cases h; subst hR; simp (maxDischargeDepth := 12) only [A_segment_Decode, kn, simprocAttr, qa, qb, qc, qd, Ow.enc, S_api_Op.enc, S_api_Record.enc, S_api_Segment.enc, Sl.enc, *]
def A_ferrymanlaw08_SegmentOnce := And.intro @kk <| And.intro @L_ferrymanlaw08_SegmentOnce <| And.intro @v_ferrymanlaw08_awake <| And.intro @v_segment_Encode <| And.intro @v_segment_Decode <| And.intro @rr_ferrymanlaw08_SegmentOnce <| And.intro @ro_ferrymanlaw08_SegmentOnce <| @b0_ferrymanlaw08_SegmentOnce
theorem run_ferrymanlaw08_SegmentOnce : ∀ (q N : Nat), 8 * q ≤ N → ∀ (a0 : (Sl Int)), ∀ (r : Bool), ferrymanlaw08_SegmentOnce q a0 = some r → (orc T N).deep F.ferrymanlaw08_SegmentOnce [(Sl.enc (V.int .u8)) a0] = some [V.bool r] := by
  intro q N hM a0 r h
  rcases q with _ | q
  · cases h
  obtain ⟨M, rfl⟩ : ∃ M, N = M + 8 := ⟨N - 8, by omega⟩
  generalize hR : some [V.bool r] = R
  rw [orc_deep, T_ferrymanlaw08_SegmentOnce, Option.bind_some, runDeep_eq]
  rw [ferrymanlaw08_SegmentOnce] at h
  rcases h1 : ferrymanlaw08_awake q with _ | r1
  · rw [h1] at h; cases h
  · rw [h1, Option.bind_some] at h
    replace h1 := run_ferrymanlaw08_awake q (M + 7) (by omega)  _ h1
    skip
    rcases Classical.em (5000 < (a0.l.length : Int)) with h2 | h2
    · rw [if_pos h2] at h; replace h2 := eq_true h2
      cases h; subst hR; simp (maxDischargeDepth := 12) only [A_ferrymanlaw08_SegmentOnce, kn, simprocAttr, qa, qb, qc, qd, Ow.enc, S_api_Op.enc, S_api_Record.enc, S_api_Segment.enc, Sl.enc, *]
    · rw [if_neg h2] at h; replace h2 := eq_false h2
      rcases h3 : segment_Decode q a0 with _ | r2
      · rw [h3] at h; cases h
      · rw [h3, Option.bind_some] at h
        replace h3 := run_segment_Decode q (M + 7) (by omega) _ _ h3
        try simp only [Ow.enc, S_api_Op.enc, S_api_Record.enc, S_api_Segment.enc, Sl.enc, kn, simprocAttr, qa, qb, qc, qd] at h3
        rcases Classical.em (r2.2 = 0) with h4 | h4
        · rw [if_pos h4] at h; replace h4 := eq_true h4
          rcases Classical.em ((a0.l.length : Int) < 3) with h5 | h5
          · rw [if_pos h5] at h; replace h5 := eq_true h5
            cases h; subst hR; simp (maxDischargeDepth := 12) only [A_ferrymanlaw08_SegmentOnce, kn, simprocAttr, qa, qb, qc, qd, Ow.enc, S_api_Op.enc, S_api_Record.enc, S_api_Segment.enc, Sl.enc, *]
          · rw [if_neg h5] at h; replace h5 := eq_false h5
            rcases h6 : a0.l[2]? with _ | e3
            · rw [h6] at h; cases h
            · rw [h6, Option.bind_some] at h
              rcases Classical.em (e3 = 3) with h7 | h7
              · rw [if_pos h7] at h; replace h7 := eq_true h7
                rcases h8 : segment_Encode q 3 r2.1 with _ | r4
                · rw [h8] at h; cases h
                · rw [h8, Option.bind_some] at h
                  replace h8 := run_segment_Encode q (M + 7) (by omega) _ _ _ h8
                  try simp only [Ow.enc, S_api_Op.enc, S_api_Record.enc, S_api_Segment.enc, Sl.enc, kn, simprocAttr, qa, qb, qc, qd] at h8
                  rcases Classical.em (r1 = true) with h9 | h9
                  · rw [if_pos h9] at h; have h9' := bt1 h9; replace h9 := eq_true h9
                    rcases Classical.em (r4.2 = 0) with h10 | h10
                    · rw [if_pos h10] at h; replace h10 := eq_true h10
                      cases h; subst hR; simp (maxDischargeDepth := 12) only [A_ferrymanlaw08_SegmentOnce, kn, simprocAttr, qa, qb, qc, qd, Ow.enc, S_api_Op.enc, S_api_Record.enc, S_api_Segment.enc, Sl.enc, *]
                    · rw [if_neg h10] at h; replace h10 := eq_false h10
                      cases h; subst hR; simp (maxDischargeDepth := 12) only [A_ferrymanlaw08_SegmentOnce, kn, simprocAttr, qa, qb, qc, qd, Ow.enc, S_api_Op.enc, S_api_Record.enc, S_api_Segment.enc, Sl.enc, *]
                  · rw [if_neg h9] at h; have h9' := bt0 h9; replace h9 := eq_false h9
                    cases h; subst hR; simp (maxDischargeDepth := 12) only [A_ferrymanlaw08_SegmentOnce, kn, simprocAttr, qa, qb, qc, qd, Ow.enc, S_api_Op.enc, S_api_Record.enc, S_api_Segment.enc, Sl.enc, *]
              · rw [if_neg h7] at h; replace h7 := eq_false h7
                cases h; subst hR; simp (maxDischargeDepth := 12) only [A_ferrymanlaw08_SegmentOnce, kn, simprocAttr, qa, qb, qc, qd, Ow.enc, S_api_Op.enc, S_api_Record.enc, S_api_Segment.enc, Sl.enc, *]
        · rw [if_neg h4] at h; replace h4 := eq_false h4
          cases h; subst hR; simp (maxDischargeDepth := 12) only [A_ferrymanlaw08_SegmentOnce, kn, simprocAttr, qa, qb, qc, qd, Ow.enc, S_api_Op.enc, S_api_Record.enc, S_api_Segment.enc, Sl.enc, *]
end Go.Dvm.C
