/- The machine comes to these answers: part 3. -/
import Derived.Test.YtlcndafgippgjaaQl0
import Derived.Test.YtlcndafgippgjaaQr0
import Derived.Test.YtlcndafgippgjaaQr1
set_option linter.all false
set_option maxRecDepth 100000
set_option maxHeartbeats 4000000
namespace Go.Dvm.C
open Go Go.Dvm Go.Dvm.I
def St_segment_decode_s0_s0_l0 (q : Nat) : Prop := ∀ (M : Nat) (hM : 8 * q ≤ M) (j : Nat) (hj : q ≤ j) (w1 : Nat) (v1z : Bool) (v1l : List Int) (v19 : Int) (h1z : Bool) (h1l : List (Sl Int)) (h1x : Bool) (h3_0 : Int) (h3_1 : Int) (h3_2 : Int) (r : Int × Int × Int × Int × Bool) (_ : segment_decode_s0_s0_l0 q v1z v1l v19 h1z h1l h1x h3_0 h3_1 h3_2 = some r) (R : Option (List V × Hp)) (_ : (some ([(.int .i64 r.1)], [(.box [(.int .i64 0), (.int .i64 0), (.sl true [])]), (.row w1 h1z 1 (List.map (Sl.enc (V.int .u8)) h1l) h1x), (.box [(.int .i64 r.2.1), (.int .i64 r.2.2.1), (.int .i64 r.2.2.2.1), (.sl true []), (.bool r.2.2.2.2)])]) : Option (List V × Hp)) = R) (fr : Fr) (H : Hp) (_ : canon 3 [0, 1, 5, 19] fr H = ([(0, (.ptr 2 0)), (1, (.sl v1z (List.map (V.int .u8) v1l))), (5, (.ptr 3 0)), (19, (.int .i64 v19))], [(.box [(.int .i64 0), (.int .i64 0), (.sl true [])]), (.row w1 h1z 1 (List.map (Sl.enc (V.int .u8)) h1l) h1x), (.box [(.int .i64 0), (.int .i64 0), (.int .i64 0), (.sl true []), (.bool false)]), (.box [(.int .i64 h3_0), (.int .i64 h3_1), (.int .i64 h3_2)])])), finI 3 false [.tmp 4] (unw T (orc T (M + 5)) (M + 5) 3 [.blk 0, .code c_52_39] (iter 3 [0, 1, 5, 19] (exec T (orc T (M + 5)) (M + 5) 3 c_52_24) j fr H)) = R
def A_segment_decode_s0_s0 := And.intro @kk <| And.intro @L_segment_reader_head <| And.intro @v_segment_known <| @v_num_Get
theorem step_segment_decode_s0_s0_l0 (q : Nat) (ih_segment_decode_s0_s0_l0 : St_segment_decode_s0_s0_l0 q) : St_segment_decode_s0_s0_l0 (q + 1) := by
  intro M hM j hj w1 v1z v1l v19 h1z h1l h1x h3_0 h3_1 h3_2 r h R hR fr H hc
  obtain ⟨j, rfl⟩ : ∃ i, j = i + 1 := ⟨j - 1, by omega⟩
  rw [unw_iter, hc]; clear hc
  rw [segment_decode_s0_s0_l0] at h
  replace h := br h; rcases h with ⟨h1, h⟩ | ⟨h1, h⟩
  · replace h := ob h; obtain ⟨r2, h2, h⟩ := h
    replace h2 := run_num_Get q (M + 5) (by omega) _ _ h2
    try simp only [Ow.enc, Sl.enc, kn, simprocAttr, qa, qb, qc, qd] at h2
    replace h := br h; rcases h with ⟨h3, h⟩ | ⟨h3, h⟩
    · replace h := br h; rcases h with ⟨h4, h⟩ | ⟨h4, h⟩
      · replace h := bc h; rcases h with ⟨h5, h⟩ | ⟨h5, h⟩
        · replace h := br h; rcases h with ⟨h6, h⟩ | ⟨h6, h⟩
          · cases h; subst hR; simp (maxDischargeDepth := 12) only [A_segment_decode_s0_s0, kn, simprocAttr, qa, qb, qc, qd, Ow.enc, Sl.enc, *]
          · replace h := br h; rcases h with ⟨h7, h⟩ | ⟨h7, h⟩
            · replace h := br h; rcases h with ⟨h8, h⟩ | ⟨h8, h⟩
              · replace h := ih_segment_decode_s0_s0_l0 M (by omega) j (by omega) w1 _ _ _ _ _ _ _ _ _ _ h R hR
                simp (maxDischargeDepth := 12) only [A_segment_decode_s0_s0, kn, simprocAttr, qa, qb, qc, qd, Ow.enc, Sl.enc, *]
              · cases h
            · cases h
        · replace h := bc h; rcases h with ⟨h9, h⟩ | ⟨h9, h⟩
          · replace h := br h; rcases h with ⟨h10, h⟩ | ⟨h10, h⟩
            · cases h; subst hR; simp (maxDischargeDepth := 12) only [A_segment_decode_s0_s0, kn, simprocAttr, qa, qb, qc, qd, Ow.enc, Sl.enc, *]
            · replace h := br h; rcases h with ⟨h11, h⟩ | ⟨h11, h⟩
              · replace h := br h; rcases h with ⟨h12, h⟩ | ⟨h12, h⟩
                · replace h := ih_segment_decode_s0_s0_l0 M (by omega) j (by omega) w1 _ _ _ _ _ _ _ _ _ _ h R hR
                  simp (maxDischargeDepth := 12) only [A_segment_decode_s0_s0, kn, simprocAttr, qa, qb, qc, qd, Ow.enc, Sl.enc, *]
                · cases h
              · cases h
          · replace h := bc h; rcases h with ⟨h13, h⟩ | ⟨h13, h⟩
            · replace h := br h; rcases h with ⟨h14, h⟩ | ⟨h14, h⟩
              · cases h; subst hR; simp (maxDischargeDepth := 12) only [A_segment_decode_s0_s0, kn, simprocAttr, qa, qb, qc, qd, Ow.enc, Sl.enc, *]
              · replace h := br h; rcases h with ⟨h15, h⟩ | ⟨h15, h⟩
                · replace h := br h; rcases h with ⟨h16, h⟩ | ⟨h16, h⟩
                  · replace h := ih_segment_decode_s0_s0_l0 M (by omega) j (by omega) w1 _ _ _ _ _ _ _ _ _ _ h R hR
                    simp (maxDischargeDepth := 12) only [A_segment_decode_s0_s0, kn, simprocAttr, qa, qb, qc, qd, Ow.enc, Sl.enc, *]
                  · cases h
                · cases h
            · cases h
      · cases h
    · cases h
  · replace h := br h; rcases h with ⟨h17, h⟩ | ⟨h17, h⟩
    · cases h; subst hR; simp (maxDischargeDepth := 12) only [A_segment_decode_s0_s0, kn, simprocAttr, qa, qb, qc, qd, Ow.enc, Sl.enc, *]
    · replace h := ob h; obtain ⟨r3, h18, h⟩ := h
      replace h18 := run_segment_known q (M + 5) (by omega) _ _ h18
      replace h := bb h; rcases h with ⟨h19', h19, h⟩ | ⟨h19', h19, h⟩
      · replace h := br h; rcases h with ⟨h20, h⟩ | ⟨h20, h⟩
        · cases h; subst hR; simp (maxDischargeDepth := 12) only [A_segment_decode_s0_s0, kn, simprocAttr, qa, qb, qc, qd, Ow.enc, Sl.enc, *]
        · cases h; subst hR; simp (maxDischargeDepth := 12) only [A_segment_decode_s0_s0, kn, simprocAttr, qa, qb, qc, qd, Ow.enc, Sl.enc, *]
      · cases h; subst hR; simp (maxDischargeDepth := 12) only [A_segment_decode_s0_s0, kn, simprocAttr, qa, qb, qc, qd, Ow.enc, Sl.enc, *]
theorem all_segment_decode_s0_s0 : ∀ q, St_segment_decode_s0_s0_l0 q
  | 0 => by intro M hM j hj; intros; rename_i h _ _ _ _ _; cases h
  | q + 1 => by have i0 := all_segment_decode_s0_s0 q; exact step_segment_decode_s0_s0_l0 q i0
theorem run_segment_decode_s0_s0 : ∀ (q M : Nat), 8 * q ≤ M → ∀ (w1 : Nat), ∀ (v1z : Bool), ∀ (v1l : List Int), ∀ (h1z : Bool), ∀ (h1l : List (Sl Int)), ∀ (h1x : Bool), ∀ (r : Int × Int × Int × Int × Bool), segment_decode_s0_s0 q v1z v1l h1z h1l h1x = some r → (orc T (M + 6)).inl F.segment_reader_head [(.ptr 2 0), (.sl v1z (List.map (V.int .u8) v1l))] [(.box [(.int .i64 0), (.int .i64 0), (.sl true [])]), (.row w1 h1z 1 (List.map (Sl.enc (V.int .u8)) h1l) h1x), (.box [(.int .i64 0), (.int .i64 0), (.int .i64 0), (.sl true []), (.bool false)])] = (some ([(.int .i64 r.1)], [(.box [(.int .i64 0), (.int .i64 0), (.sl true [])]), (.row w1 h1z 1 (List.map (Sl.enc (V.int .u8)) h1l) h1x), (.box [(.int .i64 r.2.1), (.int .i64 r.2.2.1), (.int .i64 r.2.2.2.1), (.sl true []), (.bool r.2.2.2.2)])]) : Option (List V × Hp)) := by
  intro q M hM w1 v1z v1l h1z h1l h1x r h
  rcases q with _ | q
  · cases h
  have ih_segment_decode_s0_s0_l0 := (all_segment_decode_s0_s0 q)
  generalize hR : (some ([(.int .i64 r.1)], [(.box [(.int .i64 0), (.int .i64 0), (.sl true [])]), (.row w1 h1z 1 (List.map (Sl.enc (V.int .u8)) h1l) h1x), (.box [(.int .i64 r.2.1), (.int .i64 r.2.2.1), (.int .i64 r.2.2.2.1), (.sl true []), (.bool r.2.2.2.2)])]) : Option (List V × Hp)) = R
  rw [i_segment_reader_head (n := M + 5)]
  rw [segment_decode_s0_s0] at h
  replace h := br h; rcases h with ⟨h1, h⟩ | ⟨h1, h⟩
  · cases h; subst hR; simp (maxDischargeDepth := 12) only [A_segment_decode_s0_s0, kn, simprocAttr, qa, qb, qc, qd, Ow.enc, Sl.enc, *]
  · replace h := ob h; obtain ⟨e1, h2, h⟩ := h
    replace h := br h; rcases h with ⟨h3, h⟩ | ⟨h3, h⟩
    · replace h := br h; rcases h with ⟨h4, h⟩ | ⟨h4, h⟩
      · replace h := ih_segment_decode_s0_s0_l0 M (by omega) (M + 5) (by omega) w1 _ _ _ _ _ _ _ _ _ _ h R hR
        simp (maxDischargeDepth := 12) only [A_segment_decode_s0_s0, kn, simprocAttr, qa, qb, qc, qd, Ow.enc, Sl.enc, *]
      · cases h
    · cases h; subst hR; simp (maxDischargeDepth := 12) only [A_segment_decode_s0_s0, kn, simprocAttr, qa, qb, qc, qd, Ow.enc, Sl.enc, *]
def St_segment_decode_s0_l0 (q : Nat) : Prop := ∀ (M : Nat) (hM : 8 * q ≤ M) (j : Nat) (hj : q ≤ j) (w1 : Nat) (v1len : Nat) (v19len : Nat) (v20 : Int) (h1z : Bool) (h1l : List (Sl Int)) (h1x : Bool) (h2_0 : Int) (h2_1 : Int) (h2_2 : Int) (h2_4 : Bool) (r : Nat × Int × Int × Int × Int × Int × Bool × Int × Int × Int × Int × Int × Nat × Bool × Bool × (List S_api_Record)) (_ : segment_decode_s0_l0 q v1len v19len v20 h1z h1l h1x h2_0 h2_1 h2_2 h2_4 = some r) (R : Option (List V × Hp)) (_ : (if r.1 = 0 then (some ([(.int .i64 r.2.1), (.int .i64 r.2.2.1)], [(.box [(.int .i64 0), (.int .i64 0), (.sl true [])]), (.row w1 h1z 1 (List.map (Sl.enc (V.int .u8)) h1l) h1x), (.box [(.int .i64 r.2.2.2.1), (.int .i64 r.2.2.2.2.1), (.int .i64 r.2.2.2.2.2.1), (.sl true []), (.bool r.2.2.2.2.2.2.1)])]) : Option (List V × Hp)) else (some ([(.int .i64 r.2.2.2.2.2.2.2.1), (.int .i64 r.2.2.2.2.2.2.2.2.1)], [(.box [(.int .i64 0), (.int .i64 0), (.sl true [])]), (.row w1 h1z 1 (List.map (Sl.enc (V.int .u8)) h1l) h1x), (.box [(.int .i64 r.2.2.2.2.2.2.2.2.2.1), (.int .i64 r.2.2.2.2.2.2.2.2.2.2.1), (.int .i64 r.2.2.2.2.2.2.2.2.2.2.2.1), (.vw 3 0 0 r.2.2.2.2.2.2.2.2.2.2.2.2.1 1), (.bool r.2.2.2.2.2.2.2.2.2.2.2.2.2.1)]), (.row 0 r.2.2.2.2.2.2.2.2.2.2.2.2.2.2.1 7 (List.map S_api_Record.enc r.2.2.2.2.2.2.2.2.2.2.2.2.2.2.2) true)]) : Option (List V × Hp))) = R) (fr : Fr) (H : Hp) (_ : canon 3 [0, 1, 19, 20, 21] fr H = ([(0, (.ptr 2 0)), (1, (.vw 1 w1 0 v1len 1)), (19, (.vw 1 w1 1 v19len 1)), (20, (.int .i64 v20)), (21, (.int .i64 0))], [(.box [(.int .i64 0), (.int .i64 0), (.sl true [])]), (.row w1 h1z 1 (List.map (Sl.enc (V.int .u8)) h1l) h1x), (.box [(.int .i64 h2_0), (.int .i64 h2_1), (.int .i64 h2_2), (.sl true []), (.bool h2_4)])])), finI 3 false [.tmp 4, .tmp 5] (unw T (orc T (M + 6)) (M + 6) 3 [.blk 0, .code c_35_23] (iter 3 [0, 1, 19, 20, 21] (exec T (orc T (M + 6)) (M + 6) 3 c_35_20) j fr H)) = R
def St_segment_decode_s0_l1 (q : Nat) : Prop := ∀ (M : Nat) (hM : 8 * q ≤ M) (j : Nat) (hj : q ≤ j) (w1 : Nat) (v1len : Nat) (v19len : Nat) (v20 : Int) (v21 : Int) (h1z : Bool) (h1l : List (Sl Int)) (h1x : Bool) (h2_0 : Int) (h2_1 : Int) (h2_2 : Int) (h2_4 : Bool) (h3z : Bool) (h3l : List S_api_Record) (r : Nat × Int × Int × Int × Int × Int × Bool × Int × Int × Int × Int × Int × Nat × Bool × Bool × (List S_api_Record)) (_ : segment_decode_s0_l1 q v1len v19len v20 v21 h1z h1l h1x h2_0 h2_1 h2_2 h2_4 h3z h3l = some r) (R : Option (List V × Hp)) (_ : (if r.1 = 0 then (some ([(.int .i64 r.2.1), (.int .i64 r.2.2.1)], [(.box [(.int .i64 0), (.int .i64 0), (.sl true [])]), (.row w1 h1z 1 (List.map (Sl.enc (V.int .u8)) h1l) h1x), (.box [(.int .i64 r.2.2.2.1), (.int .i64 r.2.2.2.2.1), (.int .i64 r.2.2.2.2.2.1), (.sl true []), (.bool r.2.2.2.2.2.2.1)])]) : Option (List V × Hp)) else (some ([(.int .i64 r.2.2.2.2.2.2.2.1), (.int .i64 r.2.2.2.2.2.2.2.2.1)], [(.box [(.int .i64 0), (.int .i64 0), (.sl true [])]), (.row w1 h1z 1 (List.map (Sl.enc (V.int .u8)) h1l) h1x), (.box [(.int .i64 r.2.2.2.2.2.2.2.2.2.1), (.int .i64 r.2.2.2.2.2.2.2.2.2.2.1), (.int .i64 r.2.2.2.2.2.2.2.2.2.2.2.1), (.vw 3 0 0 r.2.2.2.2.2.2.2.2.2.2.2.2.1 1), (.bool r.2.2.2.2.2.2.2.2.2.2.2.2.2.1)]), (.row 0 r.2.2.2.2.2.2.2.2.2.2.2.2.2.2.1 7 (List.map S_api_Record.enc r.2.2.2.2.2.2.2.2.2.2.2.2.2.2.2) true)]) : Option (List V × Hp))) = R) (fr : Fr) (H : Hp) (_ : canon 3 [0, 1, 19, 20, 21] fr H = ([(0, (.ptr 2 0)), (1, (.vw 1 w1 0 v1len 1)), (19, (.vw 1 w1 1 v19len 1)), (20, (.int .i64 v20)), (21, (.int .i64 v21))], [(.box [(.int .i64 0), (.int .i64 0), (.sl true [])]), (.row w1 h1z 1 (List.map (Sl.enc (V.int .u8)) h1l) h1x), (.box [(.int .i64 h2_0), (.int .i64 h2_1), (.int .i64 h2_2), (.vw 3 0 0 h3l.length 1), (.bool h2_4)]), (.row 0 h3z 7 (List.map S_api_Record.enc h3l) true)])), finI 3 false [.tmp 4, .tmp 5] (unw T (orc T (M + 6)) (M + 6) 3 [.blk 0, .code c_35_23] (iter 3 [0, 1, 19, 20, 21] (exec T (orc T (M + 6)) (M + 6) 3 c_35_20) j fr H)) = R
def A_segment_decode_s0 := And.intro @kk <| And.intro @L_segment_reader_walk <| And.intro @L_segment_reader_block <| And.intro @v_segment_fit <| And.intro @v_segment_reader_head <| And.intro @v_block_Decode <| And.intro @v_segment_elder <| And.intro @v_segment_reader_block <| @i_segment_reader_block
theorem step_segment_decode_s0_l0 (q : Nat) (ih_segment_decode_s0_l1 : St_segment_decode_s0_l1 q) : St_segment_decode_s0_l0 (q + 1) := by
  intro M hM j hj w1 v1len v19len v20 h1z h1l h1x h2_0 h2_1 h2_2 h2_4 r h R hR fr H hc
  obtain ⟨j, rfl⟩ : ∃ i, j = i + 1 := ⟨j - 1, by omega⟩
  rw [unw_iter, hc]; clear hc
  rw [segment_decode_s0_l0] at h
  replace h := br h; rcases h with ⟨h1, h⟩ | ⟨h1, h⟩
  · replace h := br h; rcases h with ⟨h2, h⟩ | ⟨h2, h⟩
    · replace h := ob h; obtain ⟨e3, h3, h⟩ := h
      replace h := br h; rcases h with ⟨h4, h⟩ | ⟨h4, h⟩
      · replace h := ob h; obtain ⟨r4, h5, h⟩ := h
        replace h5 := run_block_Decode q (M + 5) (by omega) _ _ h5
        try simp only [Ow.enc, S_api_Op.enc, S_api_Record.enc, Sl.enc, kn, simprocAttr, qa, qb, qc, qd] at h5
        replace h := br h; rcases h with ⟨h6, h⟩ | ⟨h6, h⟩
        · replace h := bb h; rcases h with ⟨h7', h7, h⟩ | ⟨h7', h7, h⟩
          · replace h := br h; rcases h with ⟨h8, h⟩ | ⟨h8, h⟩
            · cases h; subst hR; simp (maxDischargeDepth := 12) only [A_segment_decode_s0, kn, simprocAttr, qa, qb, qc, qd, Ow.enc, S_api_Op.enc, S_api_Record.enc, Sl.enc, *]
            · replace h := br h; rcases h with ⟨h9, h⟩ | ⟨h9, h⟩
              · cases h; subst hR; simp (maxDischargeDepth := 12) only [A_segment_decode_s0, kn, simprocAttr, qa, qb, qc, qd, Ow.enc, S_api_Op.enc, S_api_Record.enc, Sl.enc, *]
              · replace h := ob h; obtain ⟨r5, h10, h⟩ := h
                replace h10 := run_segment_fit q (M + 5) (by omega) _ _ _ h10
                try simp only [Ow.enc, S_api_Op.enc, S_api_Record.enc, Sl.enc, kn, simprocAttr, qa, qb, qc, qd] at h10
                replace h := bb h; rcases h with ⟨h11', h11, h⟩ | ⟨h11', h11, h⟩
                · replace h := br h; rcases h with ⟨h12, h⟩ | ⟨h12, h⟩
                  · try simp only [kn, simprocAttr, qa, qb, qc, qd] at h12
                    cases h; subst hR; simp (maxDischargeDepth := 12) only [A_segment_decode_s0, kn, simprocAttr, qa, qb, qc, qd, Ow.enc, S_api_Op.enc, S_api_Record.enc, Sl.enc, *]
                  · try simp only [kn, simprocAttr, qa, qb, qc, qd] at h12
                    replace h := br h; rcases h with ⟨h13, h⟩ | ⟨h13, h⟩
                    · replace h := ih_segment_decode_s0_l1 M (by omega) j (by omega) w1 _ _ _ _ _ _ _ _ _ _ _ _ _ _ h R hR
                      simp (maxDischargeDepth := 12) only [A_segment_decode_s0, kn, simprocAttr, qa, qb, qc, qd, Ow.enc, S_api_Op.enc, S_api_Record.enc, Sl.enc, *]
                    · cases h
                · cases h; subst hR; simp (maxDischargeDepth := 12) only [A_segment_decode_s0, kn, simprocAttr, qa, qb, qc, qd, Ow.enc, S_api_Op.enc, S_api_Record.enc, Sl.enc, *]
          · cases h; subst hR; simp (maxDischargeDepth := 12) only [A_segment_decode_s0, kn, simprocAttr, qa, qb, qc, qd, Ow.enc, S_api_Op.enc, S_api_Record.enc, Sl.enc, *]
        · cases h; subst hR; simp (maxDischargeDepth := 12) only [A_segment_decode_s0, kn, simprocAttr, qa, qb, qc, qd, Ow.enc, S_api_Op.enc, S_api_Record.enc, Sl.enc, *]
      · replace h := ob h; obtain ⟨r6, h14, h⟩ := h
        replace h14 := run_segment_elder q (M + 5) (by omega) _ _ _ h14
        try simp only [Ow.enc, S_api_Op.enc, S_api_Record.enc, Sl.enc, kn, simprocAttr, qa, qb, qc, qd] at h14
        replace h := bb h; rcases h with ⟨h15', h15, h⟩ | ⟨h15', h15, h⟩
        · replace h := bb h; rcases h with ⟨h16', h16, h⟩ | ⟨h16', h16, h⟩
          · replace h := br h; rcases h with ⟨h17, h⟩ | ⟨h17, h⟩
            · cases h; subst hR; simp (maxDischargeDepth := 12) only [A_segment_decode_s0, kn, simprocAttr, qa, qb, qc, qd, Ow.enc, S_api_Op.enc, S_api_Record.enc, Sl.enc, *]
            · replace h := br h; rcases h with ⟨h18, h⟩ | ⟨h18, h⟩
              · cases h; subst hR; simp (maxDischargeDepth := 12) only [A_segment_decode_s0, kn, simprocAttr, qa, qb, qc, qd, Ow.enc, S_api_Op.enc, S_api_Record.enc, Sl.enc, *]
              · replace h := ob h; obtain ⟨r7, h19, h⟩ := h
                replace h19 := run_segment_fit q (M + 5) (by omega) _ _ _ h19
                try simp only [Ow.enc, S_api_Op.enc, S_api_Record.enc, Sl.enc, kn, simprocAttr, qa, qb, qc, qd] at h19
                replace h := bb h; rcases h with ⟨h20', h20, h⟩ | ⟨h20', h20, h⟩
                · replace h := br h; rcases h with ⟨h21, h⟩ | ⟨h21, h⟩
                  · try simp only [kn, simprocAttr, qa, qb, qc, qd] at h21
                    cases h; subst hR; simp (maxDischargeDepth := 12) only [A_segment_decode_s0, kn, simprocAttr, qa, qb, qc, qd, Ow.enc, S_api_Op.enc, S_api_Record.enc, Sl.enc, *]
                  · try simp only [kn, simprocAttr, qa, qb, qc, qd] at h21
                    replace h := br h; rcases h with ⟨h22, h⟩ | ⟨h22, h⟩
                    · replace h := ih_segment_decode_s0_l1 M (by omega) j (by omega) w1 _ _ _ _ _ _ _ _ _ _ _ _ _ _ h R hR
                      simp (maxDischargeDepth := 12) only [A_segment_decode_s0, kn, simprocAttr, qa, qb, qc, qd, Ow.enc, S_api_Op.enc, S_api_Record.enc, Sl.enc, *]
                    · cases h
                · cases h; subst hR; simp (maxDischargeDepth := 12) only [A_segment_decode_s0, kn, simprocAttr, qa, qb, qc, qd, Ow.enc, S_api_Op.enc, S_api_Record.enc, Sl.enc, *]
          · cases h; subst hR; simp (maxDischargeDepth := 12) only [A_segment_decode_s0, kn, simprocAttr, qa, qb, qc, qd, Ow.enc, S_api_Op.enc, S_api_Record.enc, Sl.enc, *]
        · cases h; subst hR; simp (maxDischargeDepth := 12) only [A_segment_decode_s0, kn, simprocAttr, qa, qb, qc, qd, Ow.enc, S_api_Op.enc, S_api_Record.enc, Sl.enc, *]
    · cases h
  · cases h; subst hR; simp (maxDischargeDepth := 12) only [A_segment_decode_s0, kn, simprocAttr, qa, qb, qc, qd, Ow.enc, S_api_Op.enc, S_api_Record.enc, Sl.enc, *]
theorem step_segment_decode_s0_l1 (q : Nat) (ih_segment_decode_s0_l1 : St_segment_decode_s0_l1 q) : St_segment_decode_s0_l1 (q + 1) := by
  intro M hM j hj w1 v1len v19len v20 v21 h1z h1l h1x h2_0 h2_1 h2_2 h2_4 h3z h3l r h R hR fr H hc
  obtain ⟨j, rfl⟩ : ∃ i, j = i + 1 := ⟨j - 1, by omega⟩
  rw [unw_iter, hc]; clear hc
  rw [segment_decode_s0_l1] at h
  replace h := br h; rcases h with ⟨h1, h⟩ | ⟨h1, h⟩
  · replace h := br h; rcases h with ⟨h2, h⟩ | ⟨h2, h⟩
    · replace h := br h; rcases h with ⟨h3, h⟩ | ⟨h3, h⟩
      · replace h := ob h; obtain ⟨e8, h4, h⟩ := h
        replace h := br h; rcases h with ⟨h5, h⟩ | ⟨h5, h⟩
        · replace h := ob h; obtain ⟨r9, h6, h⟩ := h
          replace h6 := run_block_Decode q (M + 5) (by omega) _ _ h6
          try simp only [Ow.enc, S_api_Op.enc, S_api_Record.enc, Sl.enc, kn, simprocAttr, qa, qb, qc, qd] at h6
          replace h := br h; rcases h with ⟨h7, h⟩ | ⟨h7, h⟩
          · replace h := bb h; rcases h with ⟨h8', h8, h⟩ | ⟨h8', h8, h⟩
            · replace h := br h; rcases h with ⟨h9, h⟩ | ⟨h9, h⟩
              · cases h; subst hR; simp (maxDischargeDepth := 12) only [A_segment_decode_s0, kn, simprocAttr, qa, qb, qc, qd, Ow.enc, S_api_Op.enc, S_api_Record.enc, Sl.enc, *]
              · replace h := br h; rcases h with ⟨h10, h⟩ | ⟨h10, h⟩
                · cases h; subst hR; simp (maxDischargeDepth := 12) only [A_segment_decode_s0, kn, simprocAttr, qa, qb, qc, qd, Ow.enc, S_api_Op.enc, S_api_Record.enc, Sl.enc, *]
                · replace h := ob h; obtain ⟨r10, h11, h⟩ := h
                  replace h11 := run_segment_fit q (M + 5) (by omega) _ _ _ h11
                  try simp only [Ow.enc, S_api_Op.enc, S_api_Record.enc, Sl.enc, kn, simprocAttr, qa, qb, qc, qd] at h11
                  replace h := bb h; rcases h with ⟨h12', h12, h⟩ | ⟨h12', h12, h⟩
                  · replace h := br h; rcases h with ⟨h13, h⟩ | ⟨h13, h⟩
                    · try simp only [kn, simprocAttr, qa, qb, qc, qd] at h13
                      cases h; subst hR; simp (maxDischargeDepth := 12) only [A_segment_decode_s0, kn, simprocAttr, qa, qb, qc, qd, Ow.enc, S_api_Op.enc, S_api_Record.enc, Sl.enc, *]
                    · try simp only [kn, simprocAttr, qa, qb, qc, qd] at h13
                      replace h := br h; rcases h with ⟨h14, h⟩ | ⟨h14, h⟩
                      · try simp only [kn, simprocAttr, qa, qb, qc, qd] at h14
                        replace h := ih_segment_decode_s0_l1 M (by omega) j (by omega) w1 _ _ _ _ _ _ _ _ _ _ _ _ _ _ h R hR
                        simp (maxDischargeDepth := 12) only [A_segment_decode_s0, kn, simprocAttr, qa, qb, qc, qd, Ow.enc, S_api_Op.enc, S_api_Record.enc, Sl.enc, *]
                      · try simp only [kn, simprocAttr, qa, qb, qc, qd] at h14
                        cases h
                  · cases h; subst hR; simp (maxDischargeDepth := 12) only [A_segment_decode_s0, kn, simprocAttr, qa, qb, qc, qd, Ow.enc, S_api_Op.enc, S_api_Record.enc, Sl.enc, *]
            · cases h; subst hR; simp (maxDischargeDepth := 12) only [A_segment_decode_s0, kn, simprocAttr, qa, qb, qc, qd, Ow.enc, S_api_Op.enc, S_api_Record.enc, Sl.enc, *]
          · cases h; subst hR; simp (maxDischargeDepth := 12) only [A_segment_decode_s0, kn, simprocAttr, qa, qb, qc, qd, Ow.enc, S_api_Op.enc, S_api_Record.enc, Sl.enc, *]
        · replace h := ob h; obtain ⟨r11, h15, h⟩ := h
          replace h15 := run_segment_elder q (M + 5) (by omega) _ _ _ h15
          try simp only [Ow.enc, S_api_Op.enc, S_api_Record.enc, Sl.enc, kn, simprocAttr, qa, qb, qc, qd] at h15
          replace h := bb h; rcases h with ⟨h16', h16, h⟩ | ⟨h16', h16, h⟩
          · replace h := bb h; rcases h with ⟨h17', h17, h⟩ | ⟨h17', h17, h⟩
            · replace h := br h; rcases h with ⟨h18, h⟩ | ⟨h18, h⟩
              · cases h; subst hR; simp (maxDischargeDepth := 12) only [A_segment_decode_s0, kn, simprocAttr, qa, qb, qc, qd, Ow.enc, S_api_Op.enc, S_api_Record.enc, Sl.enc, *]
              · replace h := br h; rcases h with ⟨h19, h⟩ | ⟨h19, h⟩
                · cases h; subst hR; simp (maxDischargeDepth := 12) only [A_segment_decode_s0, kn, simprocAttr, qa, qb, qc, qd, Ow.enc, S_api_Op.enc, S_api_Record.enc, Sl.enc, *]
                · replace h := ob h; obtain ⟨r12, h20, h⟩ := h
                  replace h20 := run_segment_fit q (M + 5) (by omega) _ _ _ h20
                  try simp only [Ow.enc, S_api_Op.enc, S_api_Record.enc, Sl.enc, kn, simprocAttr, qa, qb, qc, qd] at h20
                  replace h := bb h; rcases h with ⟨h21', h21, h⟩ | ⟨h21', h21, h⟩
                  · replace h := br h; rcases h with ⟨h22, h⟩ | ⟨h22, h⟩
                    · try simp only [kn, simprocAttr, qa, qb, qc, qd] at h22
                      cases h; subst hR; simp (maxDischargeDepth := 12) only [A_segment_decode_s0, kn, simprocAttr, qa, qb, qc, qd, Ow.enc, S_api_Op.enc, S_api_Record.enc, Sl.enc, *]
                    · try simp only [kn, simprocAttr, qa, qb, qc, qd] at h22
                      replace h := br h; rcases h with ⟨h23, h⟩ | ⟨h23, h⟩
                      · try simp only [kn, simprocAttr, qa, qb, qc, qd] at h23
                        replace h := ih_segment_decode_s0_l1 M (by omega) j (by omega) w1 _ _ _ _ _ _ _ _ _ _ _ _ _ _ h R hR
                        simp (maxDischargeDepth := 12) only [A_segment_decode_s0, kn, simprocAttr, qa, qb, qc, qd, Ow.enc, S_api_Op.enc, S_api_Record.enc, Sl.enc, *]
                      · try simp only [kn, simprocAttr, qa, qb, qc, qd] at h23
                        cases h
                  · cases h; subst hR; simp (maxDischargeDepth := 12) only [A_segment_decode_s0, kn, simprocAttr, qa, qb, qc, qd, Ow.enc, S_api_Op.enc, S_api_Record.enc, Sl.enc, *]
            · cases h; subst hR; simp (maxDischargeDepth := 12) only [A_segment_decode_s0, kn, simprocAttr, qa, qb, qc, qd, Ow.enc, S_api_Op.enc, S_api_Record.enc, Sl.enc, *]
          · cases h; subst hR; simp (maxDischargeDepth := 12) only [A_segment_decode_s0, kn, simprocAttr, qa, qb, qc, qd, Ow.enc, S_api_Op.enc, S_api_Record.enc, Sl.enc, *]
      · cases h
    · cases h
  · cases h; subst hR; simp (maxDischargeDepth := 12) only [A_segment_decode_s0, kn, simprocAttr, qa, qb, qc, qd, Ow.enc, S_api_Op.enc, S_api_Record.enc, Sl.enc, *]
theorem all_segment_decode_s0 : ∀ q, St_segment_decode_s0_l0 q ∧ St_segment_decode_s0_l1 q
  | 0 => by refine ⟨?_, ?_⟩ <;> (intro M hM j hj; intros; rename_i h _ _ _ _ _; cases h)
  | q + 1 => by have ⟨i0, i1⟩ := all_segment_decode_s0 q; exact ⟨step_segment_decode_s0_l0 q i1, step_segment_decode_s0_l1 q i1⟩
theorem run_segment_decode_s0 : ∀ (q M : Nat), 8 * q ≤ M → ∀ (w1 : Nat), ∀ (v1len : Nat), ∀ (h1z : Bool), ∀ (h1l : List (Sl Int)), ∀ (h1x : Bool), ∀ (r : Nat × Int × Int × Int × Int × Int × Bool × Int × Int × Int × Int × Int × Nat × Bool × Bool × (List S_api_Record)), segment_decode_s0 q v1len h1z h1l h1x = some r → (orc T (M + 7)).inl F.segment_reader_walk [(.ptr 2 0), (.vw 1 w1 0 v1len 1)] [(.box [(.int .i64 0), (.int .i64 0), (.sl true [])]), (.row w1 h1z 1 (List.map (Sl.enc (V.int .u8)) h1l) h1x), (.box [(.int .i64 0), (.int .i64 0), (.int .i64 0), (.sl true []), (.bool false)])] = (if r.1 = 0 then (some ([(.int .i64 r.2.1), (.int .i64 r.2.2.1)], [(.box [(.int .i64 0), (.int .i64 0), (.sl true [])]), (.row w1 h1z 1 (List.map (Sl.enc (V.int .u8)) h1l) h1x), (.box [(.int .i64 r.2.2.2.1), (.int .i64 r.2.2.2.2.1), (.int .i64 r.2.2.2.2.2.1), (.sl true []), (.bool r.2.2.2.2.2.2.1)])]) : Option (List V × Hp)) else (some ([(.int .i64 r.2.2.2.2.2.2.2.1), (.int .i64 r.2.2.2.2.2.2.2.2.1)], [(.box [(.int .i64 0), (.int .i64 0), (.sl true [])]), (.row w1 h1z 1 (List.map (Sl.enc (V.int .u8)) h1l) h1x), (.box [(.int .i64 r.2.2.2.2.2.2.2.2.2.1), (.int .i64 r.2.2.2.2.2.2.2.2.2.2.1), (.int .i64 r.2.2.2.2.2.2.2.2.2.2.2.1), (.vw 3 0 0 r.2.2.2.2.2.2.2.2.2.2.2.2.1 1), (.bool r.2.2.2.2.2.2.2.2.2.2.2.2.2.1)]), (.row 0 r.2.2.2.2.2.2.2.2.2.2.2.2.2.2.1 7 (List.map S_api_Record.enc r.2.2.2.2.2.2.2.2.2.2.2.2.2.2.2) true)]) : Option (List V × Hp))) := by
  intro q M hM w1 v1len h1z h1l h1x r h
  rcases q with _ | q
  · cases h
  have ih_segment_decode_s0_l0 := (all_segment_decode_s0 q).1
  generalize hR : (if r.1 = 0 then (some ([(.int .i64 r.2.1), (.int .i64 r.2.2.1)], [(.box [(.int .i64 0), (.int .i64 0), (.sl true [])]), (.row w1 h1z 1 (List.map (Sl.enc (V.int .u8)) h1l) h1x), (.box [(.int .i64 r.2.2.2.1), (.int .i64 r.2.2.2.2.1), (.int .i64 r.2.2.2.2.2.1), (.sl true []), (.bool r.2.2.2.2.2.2.1)])]) : Option (List V × Hp)) else (some ([(.int .i64 r.2.2.2.2.2.2.2.1), (.int .i64 r.2.2.2.2.2.2.2.2.1)], [(.box [(.int .i64 0), (.int .i64 0), (.sl true [])]), (.row w1 h1z 1 (List.map (Sl.enc (V.int .u8)) h1l) h1x), (.box [(.int .i64 r.2.2.2.2.2.2.2.2.2.1), (.int .i64 r.2.2.2.2.2.2.2.2.2.2.1), (.int .i64 r.2.2.2.2.2.2.2.2.2.2.2.1), (.vw 3 0 0 r.2.2.2.2.2.2.2.2.2.2.2.2.1 1), (.bool r.2.2.2.2.2.2.2.2.2.2.2.2.2.1)]), (.row 0 r.2.2.2.2.2.2.2.2.2.2.2.2.2.2.1 7 (List.map S_api_Record.enc r.2.2.2.2.2.2.2.2.2.2.2.2.2.2.2) true)]) : Option (List V × Hp))) = R
  rw [i_segment_reader_walk (n := M + 6)]
  rw [segment_decode_s0] at h
  replace h := br h; rcases h with ⟨h1, h⟩ | ⟨h1, h⟩
  · replace h := ob h; obtain ⟨e1, h2, h⟩ := h
    replace h := ob h; obtain ⟨r2, h3, h⟩ := h
    replace h3 := run_segment_decode_s0_s0 q M (by omega) w1 _ _ _ _ _ _ h3
    try simp only [Ow.enc, S_api_Op.enc, S_api_Record.enc, Sl.enc, kn, simprocAttr, qa, qb, qc, qd] at h3
    replace h := br h; rcases h with ⟨h4, h⟩ | ⟨h4, h⟩
    · replace h := br h; rcases h with ⟨h5, h⟩ | ⟨h5, h⟩
      · replace h := ih_segment_decode_s0_l0 M (by omega) (M + 6) (by omega) w1 _ _ _ _ _ _ _ _ _ _ _ h R hR
        simp (maxDischargeDepth := 12) only [A_segment_decode_s0, kn, simprocAttr, qa, qb, qc, qd, Ow.enc, S_api_Op.enc, S_api_Record.enc, Sl.enc, *]
      · cases h
    · cases h; subst hR; simp (maxDischargeDepth := 12) only [A_segment_decode_s0, kn, simprocAttr, qa, qb, qc, qd, Ow.enc, S_api_Op.enc, S_api_Record.enc, Sl.enc, *]
  · cases h
def St_segment_decode_s1_s0_l0 (q : Nat) : Prop := ∀ (M : Nat) (hM : 8 * q ≤ M) (j : Nat) (hj : q ≤ j) (w1 : Nat) (v1z : Bool) (v1l : List Int) (v19 : Int) (h1z : Bool) (h1l : List (Sl Int)) (h1x : Bool) (h3_0 : Int) (h3_1 : Int) (h3_2 : Int) (r : Int × Int × Int × Int × Bool) (_ : segment_decode_s1_s0_l0 q v1z v1l v19 h1z h1l h1x h3_0 h3_1 h3_2 = some r) (R : Option (List V × Hp)) (_ : (some ([(.int .i64 r.1)], [(.box [(.int .i64 0), (.int .i64 0), (.sl true [])]), (.row w1 h1z 1 (List.map (Sl.enc (V.int .u8)) h1l) h1x), (.box [(.int .i64 r.2.1), (.int .i64 r.2.2.1), (.int .i64 r.2.2.2.1), (.sl true []), (.bool r.2.2.2.2)])]) : Option (List V × Hp)) = R) (fr : Fr) (H : Hp) (_ : canon 3 [0, 1, 5, 19] fr H = ([(0, (.ptr 2 0)), (1, (.sl v1z (List.map (V.int .u8) v1l))), (5, (.ptr 3 0)), (19, (.int .i64 v19))], [(.box [(.int .i64 0), (.int .i64 0), (.sl true [])]), (.row w1 h1z 1 (List.map (Sl.enc (V.int .u8)) h1l) h1x), (.box [(.int .i64 0), (.int .i64 0), (.int .i64 0), (.sl true []), (.bool false)]), (.box [(.int .i64 h3_0), (.int .i64 h3_1), (.int .i64 h3_2)])])), finI 3 false [.tmp 4] (unw T (orc T (M + 5)) (M + 5) 3 [.blk 0, .code c_52_39] (iter 3 [0, 1, 5, 19] (exec T (orc T (M + 5)) (M + 5) 3 c_52_24) j fr H)) = R
def A_segment_decode_s1_s0 := And.intro @kk <| And.intro @L_segment_reader_head <| And.intro @v_segment_known <| @v_num_Get
theorem step_segment_decode_s1_s0_l0 (q : Nat) (ih_segment_decode_s1_s0_l0 : St_segment_decode_s1_s0_l0 q) : St_segment_decode_s1_s0_l0 (q + 1) := by
  intro M hM j hj w1 v1z v1l v19 h1z h1l h1x h3_0 h3_1 h3_2 r h R hR fr H hc
  obtain ⟨j, rfl⟩ : ∃ i, j = i + 1 := ⟨j - 1, by omega⟩
  rw [unw_iter, hc]; clear hc
  rw [segment_decode_s1_s0_l0] at h
  replace h := br h; rcases h with ⟨h1, h⟩ | ⟨h1, h⟩
  · replace h := ob h; obtain ⟨r2, h2, h⟩ := h
    replace h2 := run_num_Get q (M + 5) (by omega) _ _ h2
    try simp only [Ow.enc, Sl.enc, kn, simprocAttr, qa, qb, qc, qd] at h2
    replace h := br h; rcases h with ⟨h3, h⟩ | ⟨h3, h⟩
    · replace h := br h; rcases h with ⟨h4, h⟩ | ⟨h4, h⟩
      · replace h := bc h; rcases h with ⟨h5, h⟩ | ⟨h5, h⟩
        · replace h := br h; rcases h with ⟨h6, h⟩ | ⟨h6, h⟩
          · cases h; subst hR; simp (maxDischargeDepth := 12) only [A_segment_decode_s1_s0, kn, simprocAttr, qa, qb, qc, qd, Ow.enc, Sl.enc, *]
          · replace h := br h; rcases h with ⟨h7, h⟩ | ⟨h7, h⟩
            · replace h := br h; rcases h with ⟨h8, h⟩ | ⟨h8, h⟩
              · replace h := ih_segment_decode_s1_s0_l0 M (by omega) j (by omega) w1 _ _ _ _ _ _ _ _ _ _ h R hR
                simp (maxDischargeDepth := 12) only [A_segment_decode_s1_s0, kn, simprocAttr, qa, qb, qc, qd, Ow.enc, Sl.enc, *]
              · cases h
            · cases h
        · replace h := bc h; rcases h with ⟨h9, h⟩ | ⟨h9, h⟩
          · replace h := br h; rcases h with ⟨h10, h⟩ | ⟨h10, h⟩
            · cases h; subst hR; simp (maxDischargeDepth := 12) only [A_segment_decode_s1_s0, kn, simprocAttr, qa, qb, qc, qd, Ow.enc, Sl.enc, *]
            · replace h := br h; rcases h with ⟨h11, h⟩ | ⟨h11, h⟩
              · replace h := br h; rcases h with ⟨h12, h⟩ | ⟨h12, h⟩
                · replace h := ih_segment_decode_s1_s0_l0 M (by omega) j (by omega) w1 _ _ _ _ _ _ _ _ _ _ h R hR
                  simp (maxDischargeDepth := 12) only [A_segment_decode_s1_s0, kn, simprocAttr, qa, qb, qc, qd, Ow.enc, Sl.enc, *]
                · cases h
              · cases h
          · replace h := bc h; rcases h with ⟨h13, h⟩ | ⟨h13, h⟩
            · replace h := br h; rcases h with ⟨h14, h⟩ | ⟨h14, h⟩
              · cases h; subst hR; simp (maxDischargeDepth := 12) only [A_segment_decode_s1_s0, kn, simprocAttr, qa, qb, qc, qd, Ow.enc, Sl.enc, *]
              · replace h := br h; rcases h with ⟨h15, h⟩ | ⟨h15, h⟩
                · replace h := br h; rcases h with ⟨h16, h⟩ | ⟨h16, h⟩
                  · replace h := ih_segment_decode_s1_s0_l0 M (by omega) j (by omega) w1 _ _ _ _ _ _ _ _ _ _ h R hR
                    simp (maxDischargeDepth := 12) only [A_segment_decode_s1_s0, kn, simprocAttr, qa, qb, qc, qd, Ow.enc, Sl.enc, *]
                  · cases h
                · cases h
            · cases h
      · cases h
    · cases h
  · replace h := br h; rcases h with ⟨h17, h⟩ | ⟨h17, h⟩
    · cases h; subst hR; simp (maxDischargeDepth := 12) only [A_segment_decode_s1_s0, kn, simprocAttr, qa, qb, qc, qd, Ow.enc, Sl.enc, *]
    · replace h := ob h; obtain ⟨r3, h18, h⟩ := h
      replace h18 := run_segment_known q (M + 5) (by omega) _ _ h18
      replace h := bb h; rcases h with ⟨h19', h19, h⟩ | ⟨h19', h19, h⟩
      · replace h := br h; rcases h with ⟨h20, h⟩ | ⟨h20, h⟩
        · cases h; subst hR; simp (maxDischargeDepth := 12) only [A_segment_decode_s1_s0, kn, simprocAttr, qa, qb, qc, qd, Ow.enc, Sl.enc, *]
        · cases h; subst hR; simp (maxDischargeDepth := 12) only [A_segment_decode_s1_s0, kn, simprocAttr, qa, qb, qc, qd, Ow.enc, Sl.enc, *]
      · cases h; subst hR; simp (maxDischargeDepth := 12) only [A_segment_decode_s1_s0, kn, simprocAttr, qa, qb, qc, qd, Ow.enc, Sl.enc, *]
theorem all_segment_decode_s1_s0 : ∀ q, St_segment_decode_s1_s0_l0 q
  | 0 => by intro M hM j hj; intros; rename_i h _ _ _ _ _; cases h
  | q + 1 => by have i0 := all_segment_decode_s1_s0 q; exact step_segment_decode_s1_s0_l0 q i0
theorem run_segment_decode_s1_s0 : ∀ (q M : Nat), 8 * q ≤ M → ∀ (w1 : Nat), ∀ (v1z : Bool), ∀ (v1l : List Int), ∀ (h1z : Bool), ∀ (h1l : List (Sl Int)), ∀ (h1x : Bool), ∀ (r : Int × Int × Int × Int × Bool), segment_decode_s1_s0 q v1z v1l h1z h1l h1x = some r → (orc T (M + 6)).inl F.segment_reader_head [(.ptr 2 0), (.sl v1z (List.map (V.int .u8) v1l))] [(.box [(.int .i64 0), (.int .i64 0), (.sl true [])]), (.row w1 h1z 1 (List.map (Sl.enc (V.int .u8)) h1l) h1x), (.box [(.int .i64 0), (.int .i64 0), (.int .i64 0), (.sl true []), (.bool false)])] = (some ([(.int .i64 r.1)], [(.box [(.int .i64 0), (.int .i64 0), (.sl true [])]), (.row w1 h1z 1 (List.map (Sl.enc (V.int .u8)) h1l) h1x), (.box [(.int .i64 r.2.1), (.int .i64 r.2.2.1), (.int .i64 r.2.2.2.1), (.sl true []), (.bool r.2.2.2.2)])]) : Option (List V × Hp)) := by
  intro q M hM w1 v1z v1l h1z h1l h1x r h
  rcases q with _ | q
  · cases h
  have ih_segment_decode_s1_s0_l0 := (all_segment_decode_s1_s0 q)
  generalize hR : (some ([(.int .i64 r.1)], [(.box [(.int .i64 0), (.int .i64 0), (.sl true [])]), (.row w1 h1z 1 (List.map (Sl.enc (V.int .u8)) h1l) h1x), (.box [(.int .i64 r.2.1), (.int .i64 r.2.2.1), (.int .i64 r.2.2.2.1), (.sl true []), (.bool r.2.2.2.2)])]) : Option (List V × Hp)) = R
  rw [i_segment_reader_head (n := M + 5)]
  rw [segment_decode_s1_s0] at h
  replace h := br h; rcases h with ⟨h1, h⟩ | ⟨h1, h⟩
  · cases h; subst hR; simp (maxDischargeDepth := 12) only [A_segment_decode_s1_s0, kn, simprocAttr, qa, qb, qc, qd, Ow.enc, Sl.enc, *]
  · replace h := ob h; obtain ⟨e1, h2, h⟩ := h
    replace h := br h; rcases h with ⟨h3, h⟩ | ⟨h3, h⟩
    · replace h := br h; rcases h with ⟨h4, h⟩ | ⟨h4, h⟩
      · replace h := ih_segment_decode_s1_s0_l0 M (by omega) (M + 5) (by omega) w1 _ _ _ _ _ _ _ _ _ _ h R hR
        simp (maxDischargeDepth := 12) only [A_segment_decode_s1_s0, kn, simprocAttr, qa, qb, qc, qd, Ow.enc, Sl.enc, *]
      · cases h
    · cases h; subst hR; simp (maxDischargeDepth := 12) only [A_segment_decode_s1_s0, kn, simprocAttr, qa, qb, qc, qd, Ow.enc, Sl.enc, *]
def St_segment_decode_s1_l0 (q : Nat) : Prop := ∀ (M : Nat) (hM : 8 * q ≤ M) (j : Nat) (hj : q ≤ j) (w1 : Nat) (v1len : Nat) (v19len : Nat) (v20 : Int) (h1z : Bool) (h1l : List (Sl Int)) (h1x : Bool) (h2_0 : Int) (h2_1 : Int) (h2_2 : Int) (h2_4 : Bool) (r : Nat × Int × Int × Int × Int × Int × Bool × Int × Int × Int × Int × Int × Nat × Bool × Bool × (List S_api_Record)) (_ : segment_decode_s1_l0 q v1len v19len v20 h1z h1l h1x h2_0 h2_1 h2_2 h2_4 = some r) (R : Option (List V × Hp)) (_ : (if r.1 = 0 then (some ([(.int .i64 r.2.1), (.int .i64 r.2.2.1)], [(.box [(.int .i64 0), (.int .i64 0), (.sl true [])]), (.row w1 h1z 1 (List.map (Sl.enc (V.int .u8)) h1l) h1x), (.box [(.int .i64 r.2.2.2.1), (.int .i64 r.2.2.2.2.1), (.int .i64 r.2.2.2.2.2.1), (.sl true []), (.bool r.2.2.2.2.2.2.1)])]) : Option (List V × Hp)) else (some ([(.int .i64 r.2.2.2.2.2.2.2.1), (.int .i64 r.2.2.2.2.2.2.2.2.1)], [(.box [(.int .i64 0), (.int .i64 0), (.sl true [])]), (.row w1 h1z 1 (List.map (Sl.enc (V.int .u8)) h1l) h1x), (.box [(.int .i64 r.2.2.2.2.2.2.2.2.2.1), (.int .i64 r.2.2.2.2.2.2.2.2.2.2.1), (.int .i64 r.2.2.2.2.2.2.2.2.2.2.2.1), (.vw 3 0 0 r.2.2.2.2.2.2.2.2.2.2.2.2.1 1), (.bool r.2.2.2.2.2.2.2.2.2.2.2.2.2.1)]), (.row 0 r.2.2.2.2.2.2.2.2.2.2.2.2.2.2.1 7 (List.map S_api_Record.enc r.2.2.2.2.2.2.2.2.2.2.2.2.2.2.2) true)]) : Option (List V × Hp))) = R) (fr : Fr) (H : Hp) (_ : canon 3 [0, 1, 19, 20, 21] fr H = ([(0, (.ptr 2 0)), (1, (.vw 1 w1 0 v1len 0)), (19, (.vw 1 w1 1 v19len 0)), (20, (.int .i64 v20)), (21, (.int .i64 0))], [(.box [(.int .i64 0), (.int .i64 0), (.sl true [])]), (.row w1 h1z 1 (List.map (Sl.enc (V.int .u8)) h1l) h1x), (.box [(.int .i64 h2_0), (.int .i64 h2_1), (.int .i64 h2_2), (.sl true []), (.bool h2_4)])])), finI 3 false [.tmp 4, .tmp 5] (unw T (orc T (M + 6)) (M + 6) 3 [.blk 0, .code c_35_23] (iter 3 [0, 1, 19, 20, 21] (exec T (orc T (M + 6)) (M + 6) 3 c_35_20) j fr H)) = R
def St_segment_decode_s1_l1 (q : Nat) : Prop := ∀ (M : Nat) (hM : 8 * q ≤ M) (j : Nat) (hj : q ≤ j) (w1 : Nat) (v1len : Nat) (v19len : Nat) (v20 : Int) (v21 : Int) (h1z : Bool) (h1l : List (Sl Int)) (h1x : Bool) (h2_0 : Int) (h2_1 : Int) (h2_2 : Int) (h2_4 : Bool) (h3z : Bool) (h3l : List S_api_Record) (r : Nat × Int × Int × Int × Int × Int × Bool × Int × Int × Int × Int × Int × Nat × Bool × Bool × (List S_api_Record)) (_ : segment_decode_s1_l1 q v1len v19len v20 v21 h1z h1l h1x h2_0 h2_1 h2_2 h2_4 h3z h3l = some r) (R : Option (List V × Hp)) (_ : (if r.1 = 0 then (some ([(.int .i64 r.2.1), (.int .i64 r.2.2.1)], [(.box [(.int .i64 0), (.int .i64 0), (.sl true [])]), (.row w1 h1z 1 (List.map (Sl.enc (V.int .u8)) h1l) h1x), (.box [(.int .i64 r.2.2.2.1), (.int .i64 r.2.2.2.2.1), (.int .i64 r.2.2.2.2.2.1), (.sl true []), (.bool r.2.2.2.2.2.2.1)])]) : Option (List V × Hp)) else (some ([(.int .i64 r.2.2.2.2.2.2.2.1), (.int .i64 r.2.2.2.2.2.2.2.2.1)], [(.box [(.int .i64 0), (.int .i64 0), (.sl true [])]), (.row w1 h1z 1 (List.map (Sl.enc (V.int .u8)) h1l) h1x), (.box [(.int .i64 r.2.2.2.2.2.2.2.2.2.1), (.int .i64 r.2.2.2.2.2.2.2.2.2.2.1), (.int .i64 r.2.2.2.2.2.2.2.2.2.2.2.1), (.vw 3 0 0 r.2.2.2.2.2.2.2.2.2.2.2.2.1 1), (.bool r.2.2.2.2.2.2.2.2.2.2.2.2.2.1)]), (.row 0 r.2.2.2.2.2.2.2.2.2.2.2.2.2.2.1 7 (List.map S_api_Record.enc r.2.2.2.2.2.2.2.2.2.2.2.2.2.2.2) true)]) : Option (List V × Hp))) = R) (fr : Fr) (H : Hp) (_ : canon 3 [0, 1, 19, 20, 21] fr H = ([(0, (.ptr 2 0)), (1, (.vw 1 w1 0 v1len 0)), (19, (.vw 1 w1 1 v19len 0)), (20, (.int .i64 v20)), (21, (.int .i64 v21))], [(.box [(.int .i64 0), (.int .i64 0), (.sl true [])]), (.row w1 h1z 1 (List.map (Sl.enc (V.int .u8)) h1l) h1x), (.box [(.int .i64 h2_0), (.int .i64 h2_1), (.int .i64 h2_2), (.vw 3 0 0 h3l.length 1), (.bool h2_4)]), (.row 0 h3z 7 (List.map S_api_Record.enc h3l) true)])), finI 3 false [.tmp 4, .tmp 5] (unw T (orc T (M + 6)) (M + 6) 3 [.blk 0, .code c_35_23] (iter 3 [0, 1, 19, 20, 21] (exec T (orc T (M + 6)) (M + 6) 3 c_35_20) j fr H)) = R
def A_segment_decode_s1 := And.intro @kk <| And.intro @L_segment_reader_walk <| And.intro @L_segment_reader_block <| And.intro @v_segment_fit <| And.intro @v_segment_reader_head <| And.intro @v_block_Decode <| And.intro @v_segment_elder <| And.intro @v_segment_reader_block <| @i_segment_reader_block
theorem step_segment_decode_s1_l0 (q : Nat) (ih_segment_decode_s1_l1 : St_segment_decode_s1_l1 q) : St_segment_decode_s1_l0 (q + 1) := by
  intro M hM j hj w1 v1len v19len v20 h1z h1l h1x h2_0 h2_1 h2_2 h2_4 r h R hR fr H hc
  obtain ⟨j, rfl⟩ : ∃ i, j = i + 1 := ⟨j - 1, by omega⟩
  rw [unw_iter, hc]; clear hc
  rw [segment_decode_s1_l0] at h
  replace h := br h; rcases h with ⟨h1, h⟩ | ⟨h1, h⟩
  · replace h := br h; rcases h with ⟨h2, h⟩ | ⟨h2, h⟩
    · replace h := ob h; obtain ⟨e3, h3, h⟩ := h
      replace h := br h; rcases h with ⟨h4, h⟩ | ⟨h4, h⟩
      · replace h := ob h; obtain ⟨r4, h5, h⟩ := h
        replace h5 := run_block_Decode q (M + 5) (by omega) _ _ h5
        try simp only [Ow.enc, S_api_Op.enc, S_api_Record.enc, Sl.enc, kn, simprocAttr, qa, qb, qc, qd] at h5
        replace h := br h; rcases h with ⟨h6, h⟩ | ⟨h6, h⟩
        · replace h := bb h; rcases h with ⟨h7', h7, h⟩ | ⟨h7', h7, h⟩
          · replace h := br h; rcases h with ⟨h8, h⟩ | ⟨h8, h⟩
            · cases h; subst hR; simp (maxDischargeDepth := 12) only [A_segment_decode_s1, kn, simprocAttr, qa, qb, qc, qd, Ow.enc, S_api_Op.enc, S_api_Record.enc, Sl.enc, *]
            · replace h := br h; rcases h with ⟨h9, h⟩ | ⟨h9, h⟩
              · cases h; subst hR; simp (maxDischargeDepth := 12) only [A_segment_decode_s1, kn, simprocAttr, qa, qb, qc, qd, Ow.enc, S_api_Op.enc, S_api_Record.enc, Sl.enc, *]
              · replace h := ob h; obtain ⟨r5, h10, h⟩ := h
                replace h10 := run_segment_fit q (M + 5) (by omega) _ _ _ h10
                try simp only [Ow.enc, S_api_Op.enc, S_api_Record.enc, Sl.enc, kn, simprocAttr, qa, qb, qc, qd] at h10
                replace h := bb h; rcases h with ⟨h11', h11, h⟩ | ⟨h11', h11, h⟩
                · replace h := br h; rcases h with ⟨h12, h⟩ | ⟨h12, h⟩
                  · try simp only [kn, simprocAttr, qa, qb, qc, qd] at h12
                    cases h; subst hR; simp (maxDischargeDepth := 12) only [A_segment_decode_s1, kn, simprocAttr, qa, qb, qc, qd, Ow.enc, S_api_Op.enc, S_api_Record.enc, Sl.enc, *]
                  · try simp only [kn, simprocAttr, qa, qb, qc, qd] at h12
                    replace h := br h; rcases h with ⟨h13, h⟩ | ⟨h13, h⟩
                    · replace h := ih_segment_decode_s1_l1 M (by omega) j (by omega) w1 _ _ _ _ _ _ _ _ _ _ _ _ _ _ h R hR
                      simp (maxDischargeDepth := 12) only [A_segment_decode_s1, kn, simprocAttr, qa, qb, qc, qd, Ow.enc, S_api_Op.enc, S_api_Record.enc, Sl.enc, *]
                    · cases h
                · cases h; subst hR; simp (maxDischargeDepth := 12) only [A_segment_decode_s1, kn, simprocAttr, qa, qb, qc, qd, Ow.enc, S_api_Op.enc, S_api_Record.enc, Sl.enc, *]
          · cases h; subst hR; simp (maxDischargeDepth := 12) only [A_segment_decode_s1, kn, simprocAttr, qa, qb, qc, qd, Ow.enc, S_api_Op.enc, S_api_Record.enc, Sl.enc, *]
        · cases h; subst hR; simp (maxDischargeDepth := 12) only [A_segment_decode_s1, kn, simprocAttr, qa, qb, qc, qd, Ow.enc, S_api_Op.enc, S_api_Record.enc, Sl.enc, *]
      · replace h := ob h; obtain ⟨r6, h14, h⟩ := h
        replace h14 := run_segment_elder q (M + 5) (by omega) _ _ _ h14
        try simp only [Ow.enc, S_api_Op.enc, S_api_Record.enc, Sl.enc, kn, simprocAttr, qa, qb, qc, qd] at h14
        replace h := bb h; rcases h with ⟨h15', h15, h⟩ | ⟨h15', h15, h⟩
        · replace h := bb h; rcases h with ⟨h16', h16, h⟩ | ⟨h16', h16, h⟩
          · replace h := br h; rcases h with ⟨h17, h⟩ | ⟨h17, h⟩
            · cases h; subst hR; simp (maxDischargeDepth := 12) only [A_segment_decode_s1, kn, simprocAttr, qa, qb, qc, qd, Ow.enc, S_api_Op.enc, S_api_Record.enc, Sl.enc, *]
            · replace h := br h; rcases h with ⟨h18, h⟩ | ⟨h18, h⟩
              · cases h; subst hR; simp (maxDischargeDepth := 12) only [A_segment_decode_s1, kn, simprocAttr, qa, qb, qc, qd, Ow.enc, S_api_Op.enc, S_api_Record.enc, Sl.enc, *]
              · replace h := ob h; obtain ⟨r7, h19, h⟩ := h
                replace h19 := run_segment_fit q (M + 5) (by omega) _ _ _ h19
                try simp only [Ow.enc, S_api_Op.enc, S_api_Record.enc, Sl.enc, kn, simprocAttr, qa, qb, qc, qd] at h19
                replace h := bb h; rcases h with ⟨h20', h20, h⟩ | ⟨h20', h20, h⟩
                · replace h := br h; rcases h with ⟨h21, h⟩ | ⟨h21, h⟩
                  · try simp only [kn, simprocAttr, qa, qb, qc, qd] at h21
                    cases h; subst hR; simp (maxDischargeDepth := 12) only [A_segment_decode_s1, kn, simprocAttr, qa, qb, qc, qd, Ow.enc, S_api_Op.enc, S_api_Record.enc, Sl.enc, *]
                  · try simp only [kn, simprocAttr, qa, qb, qc, qd] at h21
                    replace h := br h; rcases h with ⟨h22, h⟩ | ⟨h22, h⟩
                    · replace h := ih_segment_decode_s1_l1 M (by omega) j (by omega) w1 _ _ _ _ _ _ _ _ _ _ _ _ _ _ h R hR
                      simp (maxDischargeDepth := 12) only [A_segment_decode_s1, kn, simprocAttr, qa, qb, qc, qd, Ow.enc, S_api_Op.enc, S_api_Record.enc, Sl.enc, *]
                    · cases h
                · cases h; subst hR; simp (maxDischargeDepth := 12) only [A_segment_decode_s1, kn, simprocAttr, qa, qb, qc, qd, Ow.enc, S_api_Op.enc, S_api_Record.enc, Sl.enc, *]
          · cases h; subst hR; simp (maxDischargeDepth := 12) only [A_segment_decode_s1, kn, simprocAttr, qa, qb, qc, qd, Ow.enc, S_api_Op.enc, S_api_Record.enc, Sl.enc, *]
        · cases h; subst hR; simp (maxDischargeDepth := 12) only [A_segment_decode_s1, kn, simprocAttr, qa, qb, qc, qd, Ow.enc, S_api_Op.enc, S_api_Record.enc, Sl.enc, *]
    · cases h
  · cases h; subst hR; simp (maxDischargeDepth := 12) only [A_segment_decode_s1, kn, simprocAttr, qa, qb, qc, qd, Ow.enc, S_api_Op.enc, S_api_Record.enc, Sl.enc, *]
theorem step_segment_decode_s1_l1 (q : Nat) (ih_segment_decode_s1_l1 : St_segment_decode_s1_l1 q) : St_segment_decode_s1_l1 (q + 1) := by
  intro M hM j hj w1 v1len v19len v20 v21 h1z h1l h1x h2_0 h2_1 h2_2 h2_4 h3z h3l r h R hR fr H hc
  obtain ⟨j, rfl⟩ : ∃ i, j = i + 1 := ⟨j - 1, by omega⟩
  rw [unw_iter, hc]; clear hc
  rw [segment_decode_s1_l1] at h
  replace h := br h; rcases h with ⟨h1, h⟩ | ⟨h1, h⟩
  · replace h := br h; rcases h with ⟨h2, h⟩ | ⟨h2, h⟩
    · replace h := br h; rcases h with ⟨h3, h⟩ | ⟨h3, h⟩
      · replace h := ob h; obtain ⟨e8, h4, h⟩ := h
        replace h := br h; rcases h with ⟨h5, h⟩ | ⟨h5, h⟩
        · replace h := ob h; obtain ⟨r9, h6, h⟩ := h
          replace h6 := run_block_Decode q (M + 5) (by omega) _ _ h6
          try simp only [Ow.enc, S_api_Op.enc, S_api_Record.enc, Sl.enc, kn, simprocAttr, qa, qb, qc, qd] at h6
          replace h := br h; rcases h with ⟨h7, h⟩ | ⟨h7, h⟩
          · replace h := bb h; rcases h with ⟨h8', h8, h⟩ | ⟨h8', h8, h⟩
            · replace h := br h; rcases h with ⟨h9, h⟩ | ⟨h9, h⟩
              · cases h; subst hR; simp (maxDischargeDepth := 12) only [A_segment_decode_s1, kn, simprocAttr, qa, qb, qc, qd, Ow.enc, S_api_Op.enc, S_api_Record.enc, Sl.enc, *]
              · replace h := br h; rcases h with ⟨h10, h⟩ | ⟨h10, h⟩
                · cases h; subst hR; simp (maxDischargeDepth := 12) only [A_segment_decode_s1, kn, simprocAttr, qa, qb, qc, qd, Ow.enc, S_api_Op.enc, S_api_Record.enc, Sl.enc, *]
                · replace h := ob h; obtain ⟨r10, h11, h⟩ := h
                  replace h11 := run_segment_fit q (M + 5) (by omega) _ _ _ h11
                  try simp only [Ow.enc, S_api_Op.enc, S_api_Record.enc, Sl.enc, kn, simprocAttr, qa, qb, qc, qd] at h11
                  replace h := bb h; rcases h with ⟨h12', h12, h⟩ | ⟨h12', h12, h⟩
                  · replace h := br h; rcases h with ⟨h13, h⟩ | ⟨h13, h⟩
                    · try simp only [kn, simprocAttr, qa, qb, qc, qd] at h13
                      cases h; subst hR; simp (maxDischargeDepth := 12) only [A_segment_decode_s1, kn, simprocAttr, qa, qb, qc, qd, Ow.enc, S_api_Op.enc, S_api_Record.enc, Sl.enc, *]
                    · try simp only [kn, simprocAttr, qa, qb, qc, qd] at h13
                      replace h := br h; rcases h with ⟨h14, h⟩ | ⟨h14, h⟩
                      · try simp only [kn, simprocAttr, qa, qb, qc, qd] at h14
                        replace h := ih_segment_decode_s1_l1 M (by omega) j (by omega) w1 _ _ _ _ _ _ _ _ _ _ _ _ _ _ h R hR
                        simp (maxDischargeDepth := 12) only [A_segment_decode_s1, kn, simprocAttr, qa, qb, qc, qd, Ow.enc, S_api_Op.enc, S_api_Record.enc, Sl.enc, *]
                      · try simp only [kn, simprocAttr, qa, qb, qc, qd] at h14
                        cases h
                  · cases h; subst hR; simp (maxDischargeDepth := 12) only [A_segment_decode_s1, kn, simprocAttr, qa, qb, qc, qd, Ow.enc, S_api_Op.enc, S_api_Record.enc, Sl.enc, *]
            · cases h; subst hR; simp (maxDischargeDepth := 12) only [A_segment_decode_s1, kn, simprocAttr, qa, qb, qc, qd, Ow.enc, S_api_Op.enc, S_api_Record.enc, Sl.enc, *]
          · cases h; subst hR; simp (maxDischargeDepth := 12) only [A_segment_decode_s1, kn, simprocAttr, qa, qb, qc, qd, Ow.enc, S_api_Op.enc, S_api_Record.enc, Sl.enc, *]
        · replace h := ob h; obtain ⟨r11, h15, h⟩ := h
          replace h15 := run_segment_elder q (M + 5) (by omega) _ _ _ h15
          try simp only [Ow.enc, S_api_Op.enc, S_api_Record.enc, Sl.enc, kn, simprocAttr, qa, qb, qc, qd] at h15
          replace h := bb h; rcases h with ⟨h16', h16, h⟩ | ⟨h16', h16, h⟩
          · replace h := bb h; rcases h with ⟨h17', h17, h⟩ | ⟨h17', h17, h⟩
            · replace h := br h; rcases h with ⟨h18, h⟩ | ⟨h18, h⟩
              · cases h; subst hR; simp (maxDischargeDepth := 12) only [A_segment_decode_s1, kn, simprocAttr, qa, qb, qc, qd, Ow.enc, S_api_Op.enc, S_api_Record.enc, Sl.enc, *]
              · replace h := br h; rcases h with ⟨h19, h⟩ | ⟨h19, h⟩
                · cases h; subst hR; simp (maxDischargeDepth := 12) only [A_segment_decode_s1, kn, simprocAttr, qa, qb, qc, qd, Ow.enc, S_api_Op.enc, S_api_Record.enc, Sl.enc, *]
                · replace h := ob h; obtain ⟨r12, h20, h⟩ := h
                  replace h20 := run_segment_fit q (M + 5) (by omega) _ _ _ h20
                  try simp only [Ow.enc, S_api_Op.enc, S_api_Record.enc, Sl.enc, kn, simprocAttr, qa, qb, qc, qd] at h20
                  replace h := bb h; rcases h with ⟨h21', h21, h⟩ | ⟨h21', h21, h⟩
                  · replace h := br h; rcases h with ⟨h22, h⟩ | ⟨h22, h⟩
                    · try simp only [kn, simprocAttr, qa, qb, qc, qd] at h22
                      cases h; subst hR; simp (maxDischargeDepth := 12) only [A_segment_decode_s1, kn, simprocAttr, qa, qb, qc, qd, Ow.enc, S_api_Op.enc, S_api_Record.enc, Sl.enc, *]
                    · try simp only [kn, simprocAttr, qa, qb, qc, qd] at h22
                      replace h := br h; rcases h with ⟨h23, h⟩ | ⟨h23, h⟩
                      · try simp only [kn, simprocAttr, qa, qb, qc, qd] at h23
                        replace h := ih_segment_decode_s1_l1 M (by omega) j (by omega) w1 _ _ _ _ _ _ _ _ _ _ _ _ _ _ h R hR
                        simp (maxDischargeDepth := 12) only [A_segment_decode_s1, kn, simprocAttr, qa, qb, qc, qd, Ow.enc, S_api_Op.enc, S_api_Record.enc, Sl.enc, *]
                      · try simp only [kn, simprocAttr, qa, qb, qc, qd] at h23
                        cases h
                  · cases h; subst hR; simp (maxDischargeDepth := 12) only [A_segment_decode_s1, kn, simprocAttr, qa, qb, qc, qd, Ow.enc, S_api_Op.enc, S_api_Record.enc, Sl.enc, *]
            · cases h; subst hR; simp (maxDischargeDepth := 12) only [A_segment_decode_s1, kn, simprocAttr, qa, qb, qc, qd, Ow.enc, S_api_Op.enc, S_api_Record.enc, Sl.enc, *]
          · cases h; subst hR; simp (maxDischargeDepth := 12) only [A_segment_decode_s1, kn, simprocAttr, qa, qb, qc, qd, Ow.enc, S_api_Op.enc, S_api_Record.enc, Sl.enc, *]
      · cases h
    · cases h
  · cases h; subst hR; simp (maxDischargeDepth := 12) only [A_segment_decode_s1, kn, simprocAttr, qa, qb, qc, qd, Ow.enc, S_api_Op.enc, S_api_Record.enc, Sl.enc, *]
theorem all_segment_decode_s1 : ∀ q, St_segment_decode_s1_l0 q ∧ St_segment_decode_s1_l1 q
  | 0 => by refine ⟨?_, ?_⟩ <;> (intro M hM j hj; intros; rename_i h _ _ _ _ _; cases h)
  | q + 1 => by have ⟨i0, i1⟩ := all_segment_decode_s1 q; exact ⟨step_segment_decode_s1_l0 q i1, step_segment_decode_s1_l1 q i1⟩
theorem run_segment_decode_s1 : ∀ (q M : Nat), 8 * q ≤ M → ∀ (w1 : Nat), ∀ (v1len : Nat), ∀ (h1z : Bool), ∀ (h1l : List (Sl Int)), ∀ (h1x : Bool), ∀ (r : Nat × Int × Int × Int × Int × Int × Bool × Int × Int × Int × Int × Int × Nat × Bool × Bool × (List S_api_Record)), segment_decode_s1 q v1len h1z h1l h1x = some r → (orc T (M + 7)).inl F.segment_reader_walk [(.ptr 2 0), (.vw 1 w1 0 v1len 0)] [(.box [(.int .i64 0), (.int .i64 0), (.sl true [])]), (.row w1 h1z 1 (List.map (Sl.enc (V.int .u8)) h1l) h1x), (.box [(.int .i64 0), (.int .i64 0), (.int .i64 0), (.sl true []), (.bool false)])] = (if r.1 = 0 then (some ([(.int .i64 r.2.1), (.int .i64 r.2.2.1)], [(.box [(.int .i64 0), (.int .i64 0), (.sl true [])]), (.row w1 h1z 1 (List.map (Sl.enc (V.int .u8)) h1l) h1x), (.box [(.int .i64 r.2.2.2.1), (.int .i64 r.2.2.2.2.1), (.int .i64 r.2.2.2.2.2.1), (.sl true []), (.bool r.2.2.2.2.2.2.1)])]) : Option (List V × Hp)) else (some ([(.int .i64 r.2.2.2.2.2.2.2.1), (.int .i64 r.2.2.2.2.2.2.2.2.1)], [(.box [(.int .i64 0), (.int .i64 0), (.sl true [])]), (.row w1 h1z 1 (List.map (Sl.enc (V.int .u8)) h1l) h1x), (.box [(.int .i64 r.2.2.2.2.2.2.2.2.2.1), (.int .i64 r.2.2.2.2.2.2.2.2.2.2.1), (.int .i64 r.2.2.2.2.2.2.2.2.2.2.2.1), (.vw 3 0 0 r.2.2.2.2.2.2.2.2.2.2.2.2.1 1), (.bool r.2.2.2.2.2.2.2.2.2.2.2.2.2.1)]), (.row 0 r.2.2.2.2.2.2.2.2.2.2.2.2.2.2.1 7 (List.map S_api_Record.enc r.2.2.2.2.2.2.2.2.2.2.2.2.2.2.2) true)]) : Option (List V × Hp))) := by
  intro q M hM w1 v1len h1z h1l h1x r h
  rcases q with _ | q
  · cases h
  have ih_segment_decode_s1_l0 := (all_segment_decode_s1 q).1
  generalize hR : (if r.1 = 0 then (some ([(.int .i64 r.2.1), (.int .i64 r.2.2.1)], [(.box [(.int .i64 0), (.int .i64 0), (.sl true [])]), (.row w1 h1z 1 (List.map (Sl.enc (V.int .u8)) h1l) h1x), (.box [(.int .i64 r.2.2.2.1), (.int .i64 r.2.2.2.2.1), (.int .i64 r.2.2.2.2.2.1), (.sl true []), (.bool r.2.2.2.2.2.2.1)])]) : Option (List V × Hp)) else (some ([(.int .i64 r.2.2.2.2.2.2.2.1), (.int .i64 r.2.2.2.2.2.2.2.2.1)], [(.box [(.int .i64 0), (.int .i64 0), (.sl true [])]), (.row w1 h1z 1 (List.map (Sl.enc (V.int .u8)) h1l) h1x), (.box [(.int .i64 r.2.2.2.2.2.2.2.2.2.1), (.int .i64 r.2.2.2.2.2.2.2.2.2.2.1), (.int .i64 r.2.2.2.2.2.2.2.2.2.2.2.1), (.vw 3 0 0 r.2.2.2.2.2.2.2.2.2.2.2.2.1 1), (.bool r.2.2.2.2.2.2.2.2.2.2.2.2.2.1)]), (.row 0 r.2.2.2.2.2.2.2.2.2.2.2.2.2.2.1 7 (List.map S_api_Record.enc r.2.2.2.2.2.2.2.2.2.2.2.2.2.2.2) true)]) : Option (List V × Hp))) = R
  rw [i_segment_reader_walk (n := M + 6)]
  rw [segment_decode_s1] at h
  replace h := br h; rcases h with ⟨h1, h⟩ | ⟨h1, h⟩
  · replace h := ob h; obtain ⟨e1, h2, h⟩ := h
    replace h := ob h; obtain ⟨r2, h3, h⟩ := h
    replace h3 := run_segment_decode_s1_s0 q M (by omega) w1 _ _ _ _ _ _ h3
    try simp only [Ow.enc, S_api_Op.enc, S_api_Record.enc, Sl.enc, kn, simprocAttr, qa, qb, qc, qd] at h3
    replace h := br h; rcases h with ⟨h4, h⟩ | ⟨h4, h⟩
    · replace h := br h; rcases h with ⟨h5, h⟩ | ⟨h5, h⟩
      · replace h := ih_segment_decode_s1_l0 M (by omega) (M + 6) (by omega) w1 _ _ _ _ _ _ _ _ _ _ _ h R hR
        simp (maxDischargeDepth := 12) only [A_segment_decode_s1, kn, simprocAttr, qa, qb, qc, qd, Ow.enc, S_api_Op.enc, S_api_Record.enc, Sl.enc, *]
      · cases h
    · cases h; subst hR; simp (maxDischargeDepth := 12) only [A_segment_decode_s1, kn, simprocAttr, qa, qb, qc, qd, Ow.enc, S_api_Op.enc, S_api_Record.enc, Sl.enc, *]
  · cases h
def A_segment_decode := And.intro @kk <| And.intro @L_segment_decode <| And.intro @v_segment_footer <| And.intro @v_segment_framed <| And.intro @v_segment_reader_walk <| And.intro @v_frame_All <| And.intro @v_segment_frames <| And.intro @v_bytes_Equal <| And.intro @rr_segment_decode <| And.intro @ro_segment_decode <| @b0_segment_decode
theorem run_segment_decode : ∀ (q N : Nat), 8 * q ≤ N → ∀ (a0 : (Sl Int)), ∀ (r : S_api_Segment × (Ow (Sl Int)) × Int), segment_decode q a0 = some r → (orc T N).deep F.segment_decode [(Sl.enc (V.int .u8)) a0] = some [S_api_Segment.enc r.1, (Ow.enc 1 (Sl.enc (V.int .u8))) r.2.1, (V.int .i64) r.2.2] := by
  intro q N hM a0 r h
  rcases q with _ | q
  · cases h
  obtain ⟨M, rfl⟩ : ∃ M, N = M + 8 := ⟨N - 8, by omega⟩
  generalize hR : some [S_api_Segment.enc r.1, (Ow.enc 1 (Sl.enc (V.int .u8))) r.2.1, (V.int .i64) r.2.2] = R
  rw [orc_deep, T_segment_decode, Option.bind_some, runDeep_eq]
  rw [segment_decode] at h
  replace h := ob h; obtain ⟨r1, h1, h⟩ := h
  replace h1 := run_frame_All q (M + 7) (by omega) _ _ h1
  try simp only [Ow.enc, Sl.enc, kn, simprocAttr, qa, qb, qc, qd] at h1
  replace h := br h; rcases h with ⟨h2, h⟩ | ⟨h2, h⟩
  · replace h := br h; rcases h with ⟨h3, h⟩ | ⟨h3, h⟩
    · cases h; subst hR; simp (maxDischargeDepth := 12) only [A_segment_decode, kn, simprocAttr, qa, qb, qc, qd, Ow.enc, S_api_Op.enc, S_api_Record.enc, S_api_Segment.enc, Sl.enc, *]
    · replace h := br h; rcases h with ⟨h4, h⟩ | ⟨h4, h⟩
      · try simp only [kn, simprocAttr, qa, qb, qc, qd] at h4
        replace h := br h; rcases h with ⟨h5, h⟩ | ⟨h5, h⟩
        · try simp only [kn, simprocAttr, qa, qb, qc, qd] at h5
          replace h := bb h; rcases h with ⟨h6', h6, h⟩ | ⟨h6', h6, h⟩
          · replace h := ob h; obtain ⟨r2, h7, h⟩ := h
            replace h7 := run_segment_decode_s0 q M (by omega) 0 _ _ _ _ _ h7
            try simp only [Ow.enc, S_api_Op.enc, S_api_Record.enc, Sl.enc, kn, simprocAttr, qa, qb, qc, qd] at h7
            replace h := br h; rcases h with ⟨h8, h⟩ | ⟨h8, h⟩
            · replace h := br h; rcases h with ⟨h9, h⟩ | ⟨h9, h⟩
              · replace h := ob h; obtain ⟨r3, h10, h⟩ := h
                replace h10 := run_segment_frames q (M + 7) (by omega) _ _ h10
                try simp only [Ow.enc, Sl.enc, kn, simprocAttr, qa, qb, qc, qd] at h10
                replace h := ob h; obtain ⟨r4, h11, h⟩ := h
                replace h11 := run_segment_footer q (M + 7) (by omega) _ _ h11
                try simp only [Ow.enc, Sl.enc, kn, simprocAttr, qa, qb, qc, qd] at h11
                replace h := br h; rcases h with ⟨h12, h⟩ | ⟨h12, h⟩
                · try simp only [kn, simprocAttr, qa, qb, qc, qd] at h12
                  replace h := ob h; obtain ⟨e5, h13, h⟩ := h
                  replace h := ob h; obtain ⟨r6, h14, h⟩ := h
                  replace h14 := run_segment_framed q (M + 7) (by omega) _ _ h14
                  try simp only [Ow.enc, Sl.enc, kn, simprocAttr, qa, qb, qc, qd] at h14
                  replace h := ob h; obtain ⟨r7, h15, h⟩ := h
                  replace h15 := run_bytes_Equal q (M + 7) (by omega) _ _ _ h15
                  try simp only [Ow.enc, Sl.enc, kn, simprocAttr, qa, qb, qc, qd] at h15
                  replace h := bb h; rcases h with ⟨h16', h16, h⟩ | ⟨h16', h16, h⟩
                  · cases h; subst hR; simp (maxDischargeDepth := 12) only [A_segment_decode, kn, simprocAttr, qa, qb, qc, qd, Ow.enc, S_api_Op.enc, S_api_Record.enc, S_api_Segment.enc, Sl.enc, *]
                  · cases h; subst hR; simp (maxDischargeDepth := 12) only [A_segment_decode, kn, simprocAttr, qa, qb, qc, qd, Ow.enc, S_api_Op.enc, S_api_Record.enc, S_api_Segment.enc, Sl.enc, *]
                · try simp only [kn, simprocAttr, qa, qb, qc, qd] at h12
                  cases h
              · cases h; subst hR; simp (maxDischargeDepth := 12) only [A_segment_decode, kn, simprocAttr, qa, qb, qc, qd, Ow.enc, S_api_Op.enc, S_api_Record.enc, S_api_Segment.enc, Sl.enc, *]
            · replace h := br h; rcases h with ⟨h17, h⟩ | ⟨h17, h⟩
              · replace h := ob h; obtain ⟨r8, h18, h⟩ := h
                replace h18 := run_segment_frames q (M + 7) (by omega) _ _ h18
                try simp only [Ow.enc, Sl.enc, kn, simprocAttr, qa, qb, qc, qd] at h18
                replace h := ob h; obtain ⟨r9, h19, h⟩ := h
                replace h19 := run_segment_footer q (M + 7) (by omega) _ _ h19
                try simp only [Ow.enc, Sl.enc, kn, simprocAttr, qa, qb, qc, qd] at h19
                replace h := br h; rcases h with ⟨h20, h⟩ | ⟨h20, h⟩
                · try simp only [kn, simprocAttr, qa, qb, qc, qd] at h20
                  replace h := ob h; obtain ⟨e10, h21, h⟩ := h
                  replace h := ob h; obtain ⟨r11, h22, h⟩ := h
                  replace h22 := run_segment_framed q (M + 7) (by omega) _ _ h22
                  try simp only [Ow.enc, Sl.enc, kn, simprocAttr, qa, qb, qc, qd] at h22
                  replace h := ob h; obtain ⟨r12, h23, h⟩ := h
                  replace h23 := run_bytes_Equal q (M + 7) (by omega) _ _ _ h23
                  try simp only [Ow.enc, Sl.enc, kn, simprocAttr, qa, qb, qc, qd] at h23
                  replace h := bb h; rcases h with ⟨h24', h24, h⟩ | ⟨h24', h24, h⟩
                  · cases h; subst hR; simp (maxDischargeDepth := 12) only [A_segment_decode, kn, simprocAttr, qa, qb, qc, qd, Ow.enc, S_api_Op.enc, S_api_Record.enc, S_api_Segment.enc, Sl.enc, *]
                  · cases h; subst hR; simp (maxDischargeDepth := 12) only [A_segment_decode, kn, simprocAttr, qa, qb, qc, qd, Ow.enc, S_api_Op.enc, S_api_Record.enc, S_api_Segment.enc, Sl.enc, *]
                · try simp only [kn, simprocAttr, qa, qb, qc, qd] at h20
                  cases h
              · cases h; subst hR; simp (maxDischargeDepth := 12) only [A_segment_decode, kn, simprocAttr, qa, qb, qc, qd, Ow.enc, S_api_Op.enc, S_api_Record.enc, S_api_Segment.enc, Sl.enc, *]
          · replace h := ob h; obtain ⟨r13, h25, h⟩ := h
            replace h25 := run_segment_decode_s1 q M (by omega) 0 _ _ _ _ _ h25
            try simp only [Ow.enc, S_api_Op.enc, S_api_Record.enc, Sl.enc, kn, simprocAttr, qa, qb, qc, qd] at h25
            replace h := br h; rcases h with ⟨h26, h⟩ | ⟨h26, h⟩
            · replace h := br h; rcases h with ⟨h27, h⟩ | ⟨h27, h⟩
              · replace h := ob h; obtain ⟨r14, h28, h⟩ := h
                replace h28 := run_segment_frames q (M + 7) (by omega) _ _ h28
                try simp only [Ow.enc, Sl.enc, kn, simprocAttr, qa, qb, qc, qd] at h28
                replace h := ob h; obtain ⟨r15, h29, h⟩ := h
                replace h29 := run_segment_footer q (M + 7) (by omega) _ _ h29
                try simp only [Ow.enc, Sl.enc, kn, simprocAttr, qa, qb, qc, qd] at h29
                replace h := br h; rcases h with ⟨h30, h⟩ | ⟨h30, h⟩
                · try simp only [kn, simprocAttr, qa, qb, qc, qd] at h30
                  replace h := ob h; obtain ⟨e16, h31, h⟩ := h
                  replace h := ob h; obtain ⟨r17, h32, h⟩ := h
                  replace h32 := run_segment_framed q (M + 7) (by omega) _ _ h32
                  try simp only [Ow.enc, Sl.enc, kn, simprocAttr, qa, qb, qc, qd] at h32
                  replace h := ob h; obtain ⟨r18, h33, h⟩ := h
                  replace h33 := run_bytes_Equal q (M + 7) (by omega) _ _ _ h33
                  try simp only [Ow.enc, Sl.enc, kn, simprocAttr, qa, qb, qc, qd] at h33
                  replace h := bb h; rcases h with ⟨h34', h34, h⟩ | ⟨h34', h34, h⟩
                  · cases h; subst hR; simp (maxDischargeDepth := 12) only [A_segment_decode, kn, simprocAttr, qa, qb, qc, qd, Ow.enc, S_api_Op.enc, S_api_Record.enc, S_api_Segment.enc, Sl.enc, *]
                  · cases h; subst hR; simp (maxDischargeDepth := 12) only [A_segment_decode, kn, simprocAttr, qa, qb, qc, qd, Ow.enc, S_api_Op.enc, S_api_Record.enc, S_api_Segment.enc, Sl.enc, *]
                · try simp only [kn, simprocAttr, qa, qb, qc, qd] at h30
                  cases h
              · cases h; subst hR; simp (maxDischargeDepth := 12) only [A_segment_decode, kn, simprocAttr, qa, qb, qc, qd, Ow.enc, S_api_Op.enc, S_api_Record.enc, S_api_Segment.enc, Sl.enc, *]
            · replace h := br h; rcases h with ⟨h35, h⟩ | ⟨h35, h⟩
              · replace h := ob h; obtain ⟨r19, h36, h⟩ := h
                replace h36 := run_segment_frames q (M + 7) (by omega) _ _ h36
                try simp only [Ow.enc, Sl.enc, kn, simprocAttr, qa, qb, qc, qd] at h36
                replace h := ob h; obtain ⟨r20, h37, h⟩ := h
                replace h37 := run_segment_footer q (M + 7) (by omega) _ _ h37
                try simp only [Ow.enc, Sl.enc, kn, simprocAttr, qa, qb, qc, qd] at h37
                replace h := br h; rcases h with ⟨h38, h⟩ | ⟨h38, h⟩
                · try simp only [kn, simprocAttr, qa, qb, qc, qd] at h38
                  replace h := ob h; obtain ⟨e21, h39, h⟩ := h
                  replace h := ob h; obtain ⟨r22, h40, h⟩ := h
                  replace h40 := run_segment_framed q (M + 7) (by omega) _ _ h40
                  try simp only [Ow.enc, Sl.enc, kn, simprocAttr, qa, qb, qc, qd] at h40
                  replace h := ob h; obtain ⟨r23, h41, h⟩ := h
                  replace h41 := run_bytes_Equal q (M + 7) (by omega) _ _ _ h41
                  try simp only [Ow.enc, Sl.enc, kn, simprocAttr, qa, qb, qc, qd] at h41
                  replace h := bb h; rcases h with ⟨h42', h42, h⟩ | ⟨h42', h42, h⟩
                  · cases h; subst hR; simp (maxDischargeDepth := 12) only [A_segment_decode, kn, simprocAttr, qa, qb, qc, qd, Ow.enc, S_api_Op.enc, S_api_Record.enc, S_api_Segment.enc, Sl.enc, *]
                  · cases h; subst hR; simp (maxDischargeDepth := 12) only [A_segment_decode, kn, simprocAttr, qa, qb, qc, qd, Ow.enc, S_api_Op.enc, S_api_Record.enc, S_api_Segment.enc, Sl.enc, *]
                · try simp only [kn, simprocAttr, qa, qb, qc, qd] at h38
                  cases h
              · cases h; subst hR; simp (maxDischargeDepth := 12) only [A_segment_decode, kn, simprocAttr, qa, qb, qc, qd, Ow.enc, S_api_Op.enc, S_api_Record.enc, S_api_Segment.enc, Sl.enc, *]
        · try simp only [kn, simprocAttr, qa, qb, qc, qd] at h5
          cases h
      · try simp only [kn, simprocAttr, qa, qb, qc, qd] at h4
        cases h
  · cases h; subst hR; simp (maxDischargeDepth := 12) only [A_segment_decode, kn, simprocAttr, qa, qb, qc, qd, Ow.enc, S_api_Op.enc, S_api_Record.enc, S_api_Segment.enc, Sl.enc, *]
def A_segment_Decode := And.intro @kk <| And.intro @L_segment_Decode <| And.intro @v_segment_decode <| And.intro @rr_segment_Decode <| And.intro @ro_segment_Decode <| @b0_segment_Decode
theorem run_segment_Decode : ∀ (q N : Nat), 8 * q ≤ N → ∀ (a0 : (Sl Int)), ∀ (r : S_api_Segment × Int), segment_Decode q a0 = some r → (orc T N).deep F.segment_Decode [(Sl.enc (V.int .u8)) a0] = some [S_api_Segment.enc r.1, (V.int .i64) r.2] := by
  intro q N hM a0 r h
  rcases q with _ | q
  · cases h
  obtain ⟨M, rfl⟩ : ∃ M, N = M + 8 := ⟨N - 8, by omega⟩
  generalize hR : some [S_api_Segment.enc r.1, (V.int .i64) r.2] = R
  rw [orc_deep, T_segment_Decode, Option.bind_some, runDeep_eq]
  rw [segment_Decode] at h
  replace h := ob h; obtain ⟨r1, h1, h⟩ := h
  replace h1 := run_segment_decode q (M + 7) (by omega) _ _ h1
  try simp only [Ow.enc, S_api_Op.enc, S_api_Record.enc, S_api_Segment.enc, Sl.enc, kn, simprocAttr, qa, qb, qc, qd] at h1
  cases h; subst hR; simp (maxDischargeDepth := 12) only [A_segment_Decode, kn, simprocAttr, qa, qb, qc, qd, Ow.enc, S_api_Op.enc, S_api_Record.enc, S_api_Segment.enc, Sl.enc, *]
def A_ferrymanlaw08_SegmentBack := And.intro @kk <| And.intro @L_ferrymanlaw08_SegmentBack <| And.intro @v_ferrymanlaw08_awake <| And.intro @v_segment_Encode <| And.intro @v_ferrymanref08_Same <| And.intro @v_ferrymanref08_Upgraded <| And.intro @v_segment_Decode <| And.intro @rr_ferrymanlaw08_SegmentBack <| And.intro @ro_ferrymanlaw08_SegmentBack <| @b0_ferrymanlaw08_SegmentBack
theorem run_ferrymanlaw08_SegmentBack : ∀ (q N : Nat), 8 * q ≤ N → ∀ (a0 : Int) (a1 : S_api_Segment), ∀ (r : Bool), ferrymanlaw08_SegmentBack q a0 a1 = some r → (orc T N).deep F.ferrymanlaw08_SegmentBack [(V.int .i64) a0, S_api_Segment.enc a1] = some [V.bool r] := by
  intro q N hM a0 a1 r h
  rcases q with _ | q
  · cases h
  obtain ⟨M, rfl⟩ : ∃ M, N = M + 8 := ⟨N - 8, by omega⟩
  generalize hR : some [V.bool r] = R
  rw [orc_deep, T_ferrymanlaw08_SegmentBack, Option.bind_some, runDeep_eq]
  rw [ferrymanlaw08_SegmentBack] at h
  replace h := ob h; obtain ⟨r1, h1, h⟩ := h
  replace h1 := run_ferrymanlaw08_awake q (M + 7) (by omega)  _ h1
  replace h := bb h; rcases h with ⟨h2', h2, h⟩ | ⟨h2', h2, h⟩
  · replace h := br h; rcases h with ⟨h3, h⟩ | ⟨h3, h⟩
    · cases h; subst hR; simp (maxDischargeDepth := 12) only [A_ferrymanlaw08_SegmentBack, kn, simprocAttr, qa, qb, qc, qd, Ow.enc, S_api_Op.enc, S_api_Record.enc, S_api_Segment.enc, Sl.enc, *]
    · replace h := ob h; obtain ⟨r2, h4, h⟩ := h
      replace h4 := run_segment_Encode q (M + 7) (by omega) _ _ _ h4
      try simp only [Ow.enc, S_api_Op.enc, S_api_Record.enc, S_api_Segment.enc, Sl.enc, kn, simprocAttr, qa, qb, qc, qd] at h4
      replace h := br h; rcases h with ⟨h5, h⟩ | ⟨h5, h⟩
      · replace h := ob h; obtain ⟨r3, h6, h⟩ := h
        replace h6 := run_segment_Decode q (M + 7) (by omega) _ _ h6
        try simp only [Ow.enc, S_api_Op.enc, S_api_Record.enc, S_api_Segment.enc, Sl.enc, kn, simprocAttr, qa, qb, qc, qd] at h6
        replace h := ob h; obtain ⟨r4, h7, h⟩ := h
        replace h7 := run_ferrymanref08_Upgraded q (M + 7) (by omega) _ _ _ h7
        try simp only [Ow.enc, S_api_Op.enc, S_api_Record.enc, S_api_Segment.enc, Sl.enc, kn, simprocAttr, qa, qb, qc, qd] at h7
        replace h := ob h; obtain ⟨r5, h8, h⟩ := h
        replace h8 := run_ferrymanref08_Same q (M + 7) (by omega) _ _ _ h8
        try simp only [Ow.enc, S_api_Op.enc, S_api_Record.enc, S_api_Segment.enc, Sl.enc, kn, simprocAttr, qa, qb, qc, qd] at h8
        replace h := br h; rcases h with ⟨h9, h⟩ | ⟨h9, h⟩
        · cases h; subst hR; simp (maxDischargeDepth := 12) only [A_ferrymanlaw08_SegmentBack, kn, simprocAttr, qa, qb, qc, qd, Ow.enc, S_api_Op.enc, S_api_Record.enc, S_api_Segment.enc, Sl.enc, *]
        · cases h; subst hR; simp (maxDischargeDepth := 12) only [A_ferrymanlaw08_SegmentBack, kn, simprocAttr, qa, qb, qc, qd, Ow.enc, S_api_Op.enc, S_api_Record.enc, S_api_Segment.enc, Sl.enc, *]
      · cases h; subst hR; simp (maxDischargeDepth := 12) only [A_ferrymanlaw08_SegmentBack, kn, simprocAttr, qa, qb, qc, qd, Ow.enc, S_api_Op.enc, S_api_Record.enc, S_api_Segment.enc, Sl.enc, *]
  · cases h; subst hR; simp (maxDischargeDepth := 12) only [A_ferrymanlaw08_SegmentBack, kn, simprocAttr, qa, qb, qc, qd, Ow.enc, S_api_Op.enc, S_api_Record.enc, S_api_Segment.enc, Sl.enc, *]
end Go.Dvm.C
