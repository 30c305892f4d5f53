/- Plain laws of the functions. -/
import Derived.Test.YtnmceljcgioomaaQpPuI
set_option linter.all false
set_option maxRecDepth 100000
namespace Go.Dvm.I
open Go Go.Dvm

/-! Signed numbers, read. -/
def zag (u : Nat) : Int := if u % 2 = 0 then ((u / 2 : Nat) : Int) else -((u / 2 : Nat) : Int) - 1
theorem zag_zig (n : Int) : zag (zig n) = n := by unfold zag zig; split <;> split <;> omega
theorem zig_zag (u : Nat) : zig (zag u) = u := by unfold zag zig; split <;> split <;> omega
theorem ixor0 {x : Int} (h1 : 0 ≤ x) (h2 : x < 9223372036854775808) : ibits .xor .i64 x 0 = x := by
  have e : ibits .xor .i64 x 0 = IntKind.wrap .i64 (((BitVec.ofInt 64 x ^^^ 0#64 : BitVec 64).toNat : Nat) : Int) := by unfold ibits; rfl
  rw [e, BitVec.xor_zero, BitVec.toNat_ofInt, wrp_def, wrp_i64] <;> omega
theorem wrp_i64' {x : Int} (h1 : 9223372036854775808 ≤ x) (h2 : x < 18446744073709551616) : wrp .i64 x = x - 18446744073709551616 := by
  unfold wrp; simp [IntKind.wrap, IntKind.min, IntKind.max, IntKind.signed, IntKind.bits] <;> omega
theorem ixor1 {x : Int} (h1 : 0 ≤ x) (h2 : x < 9223372036854775808) : ibits .xor .i64 x (-1) = -x - 1 := by
  have e : ibits .xor .i64 x (-1) = IntKind.wrap .i64 (((BitVec.ofInt 64 x ^^^ BitVec.allOnes 64 : BitVec 64).toNat : Nat) : Int) := by unfold ibits; rfl
  rw [e, BitVec.xor_allOnes, BitVec.toNat_not, BitVec.toNat_ofInt, wrp_def, wrp_i64'] <;> omega
theorem and1u {u : Nat} (h : u < 18446744073709551616) : ibits .and .u64 (u : Int) 1 = ((u % 2 : Nat) : Int) := by
  have e : ibits .and .u64 (u : Int) 1 = IntKind.wrap .u64 (((BitVec.ofInt 64 (u : Int) &&& 1#64 : BitVec 64).toNat : Nat) : Int) := by unfold ibits; rfl
  have e1 : (BitVec.ofInt 64 (u : Int)).toNat = u := by rw [BitVec.toNat_ofInt]; omega
  rw [e, BitVec.toNat_and, e1, show (1#64 : BitVec 64).toNat = 1 from rfl, Nat.and_one_is_mod, wrp_def, wrp_u64 (by omega) (by omega)]
theorem ishr1 {x : Int} (h1 : 0 ≤ x) : ishr .u64 x 1 = x / 2 := by
  unfold ishr; simp [IntKind.bits]
  rw [Int.fdiv_eq_ediv_of_nonneg]; omega
theorem num_Zag_ev {u : Nat} (h : u < 18446744073709551616) : Ev (fun q => num_Zag q (u : Int)) (zag u) := by
  refine Ev.succ (Ev.ret' ?_) (fun q => rfl)
  rw [ishr1 (by omega), and1u h, wrp_i64 (by omega) (by omega)]
  unfold zag
  split
  · rename_i e
    rw [e, show wrp .i64 ((0 : Nat) : Int) = 0 from wrp_i64 (by omega) (by omega), show wrp .i64 (0 - 0) = 0 from wrp_i64 (by omega) (by omega), ixor0 (by omega) (by omega)]; omega
  · rename_i e
    rw [show u % 2 = 1 by omega, show wrp .i64 ((1 : Nat) : Int) = 1 from wrp_i64 (by omega) (by omega), show wrp .i64 (0 - 1) = -1 from wrp_i64 (by omega) (by omega), ixor1 (by omega) (by omega)]; omega

theorem rd_lt : ∀ {l : List Int} {i : Nat} {p : Nat × Nat}, isB l → i ≤ 9 → rd i l = some p → p.1 < 2 ^ (64 - 7 * i)
  | [], i, p, hb, hi, h => by simp [rd] at h
  | c :: l, i, p, hb, hi, h => by
    obtain ⟨b1, b2⟩ := hb c List.mem_cons_self
    simp only [rd] at h
    split at h
    · cases h
    · split at h
      · cases h
      · rename_i h9
        split at h
        · cases h
        · split at h
          · simp at h; subst h
            simp only
            by_cases e : i = 9
            · subst e; simp; omega
            · have : 2 ^ 7 ≤ 2 ^ (64 - 7 * i) := Nat.pow_le_pow_right (by omega) (by omega)
              omega
          · cases hr : rd (i + 1) l with
            | none => simp [hr] at h
            | some r =>
              simp [hr] at h; subst h
              by_cases e : i = 9
              · exfalso; subst e; exact h9 ⟨rfl, by omega⟩
              · have := rd_lt (fun c hc => hb c (List.mem_cons_of_mem _ hc)) (by omega) hr
                have e2 : 2 ^ (64 - 7 * i) = 128 * 2 ^ (64 - 7 * (i + 1)) := by rw [show 64 - 7 * i = 7 + (64 - 7 * (i + 1)) by omega, Nat.pow_add]
                simp only
                rw [e2]; omega
def getS (l : List Int) : Int × Int := match rd 0 l with
  | none => (0, 0)
  | some p => (zag p.1, (p.2 : Int))
theorem num_GetSigned_ev (s : Sl Int) (hb : isB s.l) : Ev (fun q => num_GetSigned q s) (getS s.l) := by
  refine Ev.succ (Ev.bind (num_read_ev s hb) ?_) (fun q => rfl)
  unfold getS
  cases h : rd 0 s.l with
  | none => exact Ev.pos (by simp [resN]) (Ev.ret _)
  | some p =>
    have h1 := rd_len h
    have h2 := rd_lt hb (by omega) h
    simp only [resN]
    exact Ev.neg (by simp; omega) (Ev.bind (num_Zag_ev (by simpa using h2)) (Ev.ret _))
theorem getS_len {l : List Int} : 0 ≤ (getS l).2 ∧ (getS l).2 ≤ l.length ∧ (getS l).2 ≤ 10 := by
  unfold getS
  cases h : rd 0 l with
  | none => simp
  | some p =>
    have := rd_len h
    simp only; omega

/-- The operation that bytes begin with. -/
def getO (l : List Int) : S_api_Op × Int :=
  let x := getN l
  let y := getS (l.drop x.2.toNat)
  let z := getS ((l.drop x.2.toNat).drop y.2.toNat)
  if 0 < x.2 ∧ 0 < y.2 ∧ 0 < z.2 ∧ fitsOp ⟨x.1, y.1, z.1⟩ = true then (⟨x.1, y.1, z.1⟩, x.2 + y.2 + z.2) else (⟨0, 0, 0⟩, 0)
theorem isB_dr {l : List Int} (h : isB l) (n : Nat) : isB (l.drop n) := fun c hc => h c (List.mem_of_mem_drop hc)
theorem codec_GetOp_ev (s : Sl Int) (hb : isB s.l) (hl : s.l.length ≤ 4294967296) : Ev (fun q => codec_GetOp q s) (getO s.l) := by
  have hx := getN_len (l := s.l)
  have hy := getS_len (l := s.l.drop (getN s.l).2.toNat)
  have hz := getS_len (l := (s.l.drop (getN s.l).2.toNat).drop (getS (s.l.drop (getN s.l).2.toNat)).2.toNat)
  simp only [List.length_drop] at hy hz
  refine Ev.succ (Ev.bind (num_Get_ev s hb) (Ev.pos hx.1 (Ev.pos hx.2.1 (Ev.bind (num_GetSigned_ev _ (isB_dr hb _)) ?_)))) (fun q => rfl)
  unfold getO
  refine Ev.ite (fun h1 => Ev.pos hy.1 (Ev.pos hy.2.1 (Ev.bind (num_GetSigned_ev _ (isB_dr (isB_dr hb _) _)) ?_))) fun h1 => Ev.pos hy.1 (Ev.pos hy.2.1 (Ev.bind (num_GetSigned_ev _ (isB_dr (isB_dr hb _) _)) ?_))
  · refine Ev.ite (fun h2 => Ev.pos hz.1 (Ev.pos hz.2.1 ?_)) fun h2 => Ev.pos hz.1 (Ev.pos hz.2.1 ?_)
    · refine Ev.ite (fun h3 => Ev.bind (objs_Fits_ev _) (Ev.ite (fun h4 => Ev.ret' ?_) fun h4 => Ev.ret' ?_)) fun h3 => Ev.ret' ?_
      · rw [if_pos ⟨h1, h2, h3, h4⟩, wrp_i64 (by omega) (by omega)]
        congr 1; dsimp only; dsimp only at h1 h2 h3; omega
      · rw [if_neg (fun h => h4 h.2.2.2)]
      · rw [if_neg (fun h => h3 h.2.2.1)]
    · refine Ev.ret' ?_
      rw [if_neg (fun h => h2 h.2.1)]
  · refine Ev.pos hz.1 (Ev.pos hz.2.1 (Ev.ret' ?_))
    rw [if_neg (fun h => h1 h.1)]
theorem getO_len {l : List Int} : 0 ≤ (getO l).2 ∧ (getO l).2 ≤ l.length ∧ (getO l).2 ≤ 30 := by
  have hx := getN_len (l := l)
  have hy := getS_len (l := l.drop (getN l).2.toNat)
  have hz := getS_len (l := (l.drop (getN l).2.toNat).drop (getS (l.drop (getN l).2.toNat)).2.toNat)
  simp only [List.length_drop] at hy hz
  simp only [getO]
  split
  · simp only; omega
  · simp

/-- How many bytes a strange field has. -/
def passN (l : List Int) : Int := if (getN l).2 = 0 then 0 else if (l.length : Int) - (getN l).2 < (getN l).1 then 0 else (getN l).2 + (getN l).1
theorem schema_pass_ev (s : Sl Int) (hb : isB s.l) (hl : s.l.length ≤ 4294967296) : Ev (fun q => schema_pass q s) (passN s.l) := by
  have hx := getN_len (l := s.l)
  refine Ev.succ (Ev.bind (num_Get_ev s hb) ?_) (fun q => rfl)
  unfold passN
  refine Ev.ite (fun h => ?_) fun h => ?_
  · rw [if_pos h]; exact Ev.ret _
  · rw [if_neg h]
    have hw : wrp .i64 ((s.l.length : Int) - (getN s.l).2) = (s.l.length : Int) - (getN s.l).2 := wrp_i64 (by omega) (by omega)
    refine Ev.ite (fun h2 => ?_) fun h2 => ?_
    · rw [hw] at h2; rw [if_pos h2]; exact Ev.ret _
    · rw [hw] at h2; rw [if_neg h2, wrp_i64 (by omega) (by omega)]; exact Ev.ret _
theorem passN_len {l : List Int} : 0 ≤ passN l ∧ passN l ≤ l.length := by
  have hx := getN_len (l := l)
  unfold passN
  split
  · simp
  · split
    · simp
    · omega

/-! Lists of fields -/
theorem Clone_int_ev (s : Sl Int) (hz : s.z = false) (hl : s.l.length ≤ 4294967296) : Ev (fun q => slices_Clone_int_int q s) ⟨false, true, s.l⟩ :=
  Ev.succ (Ev.neg (by simp [hz]) (Ev.pos hl (Ev.ret _))) (fun q => rfl)
theorem Delete_ev {l : List Int} {i : Int} (h0 : 0 ≤ i) (h1 : i < l.length) (hl : l.length ≤ 1000000) : Ev (fun q => slices_Delete_int_int q ⟨false, true, l⟩ i (i + 1)) ⟨false, true, l.eraseIdx i.toNat⟩ := by
  have ht : (i + 1).toNat = i.toNat + 1 := by omega
  refine Ev.succ ?_ (fun q => rfl)
  refine Ev.pos h0 ?_
  refine Ev.pos (by omega) ?_
  refine Ev.pos (by simp only; omega) ?_
  refine Ev.neg (by omega) ?_
  refine Ev.pos (by simp only; omega) ?_
  refine Ev.neg (by simp) ?_
  refine Ev.pos (by omega) ?_
  refine Ev.pos (by simp only; omega) ?_
  refine Ev.pos (by simp only; omega) ?_
  refine Ev.pos rfl ?_
  refine Ev.pos (by simp only; omega) ?_
  refine Ev.pos (by simp only; omega) ?_
  refine Ev.ret' ?_
  congr 1
  simp only [ht]
  have hm : (l.take i.toNat).length = i.toNat := by simp; omega
  have hd : (l.drop (i.toNat + 1)).length = l.length - (i.toNat + 1) := by simp
  rw [List.eraseIdx_eq_take_drop_succ]
  generalize l.take i.toNat = A at *
  generalize l.drop (i.toNat + 1) = B at *
  have hAB : i.toNat + (l.length - (i.toNat + 1)) = (A ++ B).length := by simp; omega
  rw [hAB]
  have e1 : ∀ C : List Int, List.take (A ++ B).length (A ++ B ++ C) = A ++ B := fun C => List.take_left' rfl
  rw [e1, List.append_assoc, e1]
end Go.Dvm.I
