/- Plain laws of the functions. -/
import Derived.Test.YtnmceljcgioomaaQpPuF
set_option linter.all false
set_option maxRecDepth 100000
namespace Go.Dvm.I
open Go Go.Dvm

/-- The number that bytes begin with, from the i-th group on. -/
def rd : Nat → List Int → Option (Nat × Nat)
  | _, [] => none
  | i, c :: l => if 10 ≤ i then none else if i = 9 ∧ 1 < c then none else if c = 0 ∧ 0 < i then none else if c < 128 then some (c.toNat, 1) else (rd (i + 1) l).map fun p => ((c % 128).toNat + 128 * p.1, p.2 + 1)
def resN : Option (Nat × Nat) → Int × Int
  | none => (0, 0)
  | some p => (p.1, p.2)
theorem and127 {x : Int} (h1 : 0 ≤ x) (h2 : x < 256) : ibits .and .u8 x 127 = x % 128 := by
  obtain ⟨n, rfl⟩ := Int.eq_ofNat_of_zero_le h1
  have hn : n < 256 := by omega
  have : ∀ m : Fin 256, ibits .and .u8 (m.val : Int) 127 = (m.val : Int) % 128 := by unfold ibits; decide +kernel
  exact this ⟨n, hn⟩
theorem or64 {a b : Nat} (ha : a < 18446744073709551616) (hb : b < 18446744073709551616) : ibits .or .u64 (a : Int) (b : Int) = ((a ||| b : Nat) : Int) := by
  have e : ibits .or .u64 (a : Int) (b : Int) = IntKind.wrap .u64 (((BitVec.ofInt 64 (a : Int) ||| BitVec.ofInt 64 (b : Int) : BitVec 64).toNat : Nat) : Int) := by unfold ibits; rfl
  have e1 : (BitVec.ofInt 64 (a : Int)).toNat = a := by rw [BitVec.toNat_ofInt]; omega
  have e2 : (BitVec.ofInt 64 (b : Int)).toNat = b := by rw [BitVec.toNat_ofInt]; omega
  have e3 : a ||| b < 2 ^ 64 := Nat.or_lt_two_pow (by omega) (by omega)
  rw [e, BitVec.toNat_or, e1, e2, wrp_def, wrp_u64 (by omega) (by omega)]
theorem ishl64 {x k : Nat} (hk : k ≤ 64) : ishl .u64 (x : Int) (k : Int) = ((x * 2 ^ k % 18446744073709551616 : Nat) : Int) := by
  unfold ishl
  simp only [IntKind.bits, Int.toNat_natCast, Nat.min_eq_left hk]
  rw [wrp_def, wrp_u64m]
  have : ((x : Int) * 2 ^ k) = ((x * 2 ^ k : Nat) : Int) := by rw [Int.natCast_mul, Int.natCast_pow]; rfl
  rw [this]
  exact (Int.natCast_emod _ _).symm
theorem group_or {acc i : Nat} {c : Int} (hi : i ≤ 9) (h1 : 0 ≤ c) (h2 : c < 256) (ha : acc < 2 ^ (7 * i)) (h9 : i = 9 → c ≤ 1) :
    ibits .or .u64 (acc : Int) (ishl .u64 (wrp .u64 (ibits .and .u8 c 127)) (wrp .i64 (7 * (i : Int)))) = ((acc + (c % 128).toNat * 2 ^ (7 * i) : Nat) : Int) ∧ acc + (c % 128).toNat * 2 ^ (7 * i) < 18446744073709551616 ∧ acc + (c % 128).toNat * 2 ^ (7 * i) < 2 ^ (7 * (i + 1)) := by
  have hm : (c % 128).toNat < 128 := by omega
  have hp : 2 ^ (7 * i) ≤ 2 ^ 63 := Nat.pow_le_pow_right (by omega) (by omega)
  have hp1 : 2 ^ (7 * (i + 1)) = 128 * 2 ^ (7 * i) := by rw [show 7 * (i + 1) = 7 + 7 * i by omega, Nat.pow_add]
  have h4 : acc + (c % 128).toNat * 2 ^ (7 * i) < 2 ^ (7 * (i + 1)) := by
    rw [hp1]
    have : ((c % 128).toNat + 1) * 2 ^ (7 * i) ≤ 128 * 2 ^ (7 * i) := Nat.mul_le_mul_right _ (by omega)
    rw [Nat.add_mul] at this; omega
  have h5 : acc + (c % 128).toNat * 2 ^ (7 * i) < 18446744073709551616 := by
    by_cases e : i = 9
    · have hc := h9 e
      have : (c % 128).toNat ≤ 1 := by omega
      subst e
      have h6 : (c % 128).toNat * 2 ^ (7 * 9) ≤ 1 * 2 ^ (7 * 9) := Nat.mul_le_mul_right _ this
      simp only [Nat.reduceMul, Nat.reducePow] at ha h6 ⊢
      omega
    · have : 2 ^ (7 * (i + 1)) ≤ 2 ^ 63 := Nat.pow_le_pow_right (by omega) (by omega)
      simp only [Nat.reducePow] at this
      omega
  refine ⟨?_, h5, h4⟩
  rw [and127 h1 h2, wrp_u64 (by omega) (by omega), wrp_i64 (by omega) (by omega), show (7 * (i : Int)) = ((7 * i : Nat) : Int) by omega, show (c % 128) = (((c % 128).toNat : Nat) : Int) by omega, ishl64 (by omega)]
  have h6 : (c % 128).toNat * 2 ^ (7 * i) < 18446744073709551616 := by omega
  simp only [Int.toNat_natCast]
  rw [Nat.mod_eq_of_lt h6, or64 (by omega) h6]
  congr 1
  have := Nat.two_pow_add_eq_or_of_lt ha (c % 128).toNat
  rw [Nat.or_comm, Nat.mul_comm, ← this]; omega
theorem num_read_l0_ev (z : Bool) (L : List Int) (hb : isB L) (m : Nat) (hm : m = min 10 L.length) : ∀ (k i acc : Nat), m = i + k → acc < 2 ^ (7 * i) →
    Ev (fun q => num_read_l0 q z L (acc : Int) (m : Int) (i : Int)) (match rd i (L.drop i) with | none => (0, 0) | some p => (((acc + p.1 * 2 ^ (7 * i) : Nat) : Int), ((i + p.2 : Nat) : Int)))
  | 0, i, acc, hk, ha => by
    refine Ev.succ (Ev.neg (by omega) (Ev.ret' ?_)) (fun q => rfl)
    have : rd i (L.drop i) = none := by
      cases h : L.drop i with
      | nil => rfl
      | cons c l =>
        have : (L.drop i).length = l.length + 1 := by rw [h]; rfl
        rw [List.length_drop] at this
        simp only [rd]; rw [if_pos (by omega)]
    rw [this]
  | k + 1, i, acc, hk, ha => by
    have hi : i < L.length := by omega
    have hi9 : i ≤ 9 := by omega
    have hg : L[(i : Int).toNat]? = some L[i] := by simpa using List.getElem?_eq_getElem hi
    obtain ⟨b1, b2⟩ := hb L[i] (List.getElem_mem hi)
    have w7 : wrp .i64 (7 * (i : Int)) = 7 * (i : Int) := wrp_i64 (by omega) (by omega)
    have wi : wrp .i64 ((i : Int) + 1) = ((i + 1 : Nat) : Int) := by rw [wrp_i64 (by omega) (by omega)]; omega
    rw [List.drop_eq_getElem_cons hi]
    simp only [rd]
    rw [if_neg (by omega)]
    generalize hc : L[i] = c at hg b1 b2
    -- the ends
    have done : (i = 9 → c ≤ 1) → c < 128 → (((ibits .or .u64 (acc : Int) (ishl .u64 (wrp .u64 (ibits .and .u8 c 127)) (wrp .i64 (7 * (i : Int))))), (wrp .i64 ((i : Int) + 1))) : Int × Int) = (((acc + c.toNat * 2 ^ (7 * i) : Nat) : Int), ((i + 1 : Nat) : Int)) := by
      intro h9 h128
      rw [(group_or hi9 b1 b2 ha h9).1, wi, show (c % 128).toNat = c.toNat by omega]
    have rest : i ≠ 9 → ¬ c < 128 → Ev (fun q => num_read_l0 q z L (ibits .or .u64 (acc : Int) (ishl .u64 (wrp .u64 (ibits .and .u8 c 127)) (wrp .i64 (7 * (i : Int))))) (m : Int) (wrp .i64 ((i : Int) + 1))) (match (rd (i + 1) (L.drop (i + 1))).map (fun p => ((c % 128).toNat + 128 * p.1, p.2 + 1)) with | none => (0, 0) | some p => (((acc + p.1 * 2 ^ (7 * i) : Nat) : Int), ((i + p.2 : Nat) : Int))) := by
      intro h9 h128
      obtain ⟨g1, g2, g3⟩ := group_or hi9 b1 b2 ha (fun e => absurd e h9)
      rw [g1, wi]
      refine (num_read_l0_ev z L hb m hm k (i + 1) _ (by omega) g3).cast ?_
      cases rd (i + 1) (L.drop (i + 1)) with
      | none => rfl
      | some p =>
        simp only [Option.map_some]
        have : 2 ^ (7 * (i + 1)) = 128 * 2 ^ (7 * i) := by rw [show 7 * (i + 1) = 7 + 7 * i by omega, Nat.pow_add]
        rw [this]
        congr 2
        · rw [Nat.add_mul, Nat.mul_assoc 128, Nat.mul_left_comm p.1 128]; omega
        · omega
    refine Ev.succ (Ev.pos (by omega) (Ev.pos (by omega) (Ev.opt hg (Ev.neg (by rw [w7]; omega) ?_)))) (fun q => rfl)
    refine Ev.ite (fun h9 => Ev.ite (fun h1 => ?_) fun h1 => Ev.ite (fun h0 => Ev.pos (by omega) ?_) fun h0 => Ev.pos (by omega) ?_) fun h9 => Ev.ite (fun h0 => Ev.ite (fun hp => ?_) fun hp => Ev.pos (by omega) ?_) fun h0 => Ev.ite (fun h128 => ?_) fun h128 => ?_
    · rw [if_pos ⟨by omega, h1⟩]; exact Ev.ret _
    · rw [if_neg (by omega), if_pos ⟨h0, by omega⟩]; exact Ev.ret _
    · rw [if_neg (by omega), if_neg (by omega), if_pos (by omega)]; exact Ev.ret' (done (by omega) (by omega))
    · rw [if_neg (by omega), if_pos ⟨h0, by omega⟩]; exact Ev.ret _
    · rw [if_neg (by omega), if_neg (by omega), if_pos (by omega)]; exact Ev.ret' (done (by omega) (by omega))
    · rw [if_neg (by omega), if_neg (by omega), if_pos h128]; exact Ev.ret' (done (by omega) h128)
    · rw [if_neg (by omega), if_neg (by omega), if_neg h128]; exact rest (by omega) h128
theorem num_read_ev (s : Sl Int) (hb : isB s.l) : Ev (fun q => num_read q s) (resN (rd 0 s.l)) := by
  have h := num_read_l0_ev s.z s.l hb (min 10 s.l.length) rfl (min 10 s.l.length) 0 0 (by omega) (by simp)
  have e : (if 10 < (s.l.length : Int) then 10 else (s.l.length : Int)) = ((min 10 s.l.length : Nat) : Int) := by split <;> omega
  refine Ev.succ (g := fun q => num_read_l0 q s.z s.l 0 (if 10 < (s.l.length : Int) then 10 else (s.l.length : Int)) 0) ?_ (fun q => rfl)
  rw [e]
  refine h.cast ?_
  rw [List.drop_zero]
  cases rd 0 s.l with
  | none => rfl
  | some p => simp [resN]
def getN (l : List Int) : Int × Int := match rd 0 l with
  | none => (0, 0)
  | some p => if 4611686018427387904 ≤ p.1 then (0, 0) else ((p.1 : Int), (p.2 : Int))
theorem num_Get_ev (s : Sl Int) (hb : isB s.l) : Ev (fun q => num_Get q s) (getN s.l) := by
  refine Ev.succ (Ev.bind (num_read_ev s hb) ?_) (fun q => rfl)
  unfold getN
  cases rd 0 s.l with
  | none => exact Ev.neg (by simp [resN]) (Ev.ret' (by rw [wrp_i64] <;> simp [resN]))
  | some p =>
    simp only [resN]
    refine Ev.ite (fun h => ?_) fun h => ?_
    · rw [if_pos (by omega)]; exact Ev.ret _
    · rw [if_neg (by omega), wrp_i64 (by omega) (by omega)]; exact Ev.ret _
theorem rd_len : ∀ {l : List Int} {i : Nat} {p : Nat × Nat}, rd i l = some p → 1 ≤ p.2 ∧ p.2 ≤ l.length ∧ i + p.2 ≤ 10
  | [], i, p, h => by simp [rd] at h
  | c :: l, i, p, h => by
    simp only [rd] at h
    split at h
    · cases h
    · split at h
      · cases h
      · split at h
        · cases h
        · split at h
          · simp at h; subst h; simp; omega
          · cases hr : rd (i + 1) l with
            | none => simp [hr] at h
            | some r =>
              simp [hr] at h; subst h
              have := rd_len hr
              simp; omega
theorem getN_len {l : List Int} : 0 ≤ (getN l).2 ∧ (getN l).2 ≤ l.length ∧ (getN l).2 ≤ 10 ∧ 0 ≤ (getN l).1 ∧ (getN l).1 < 4611686018427387904 := by
  unfold getN
  cases h : rd 0 l with
  | none => simp
  | some p =>
    have := rd_len h
    simp only
    split <;> simp <;> omega
/-- What was put is read. -/
theorem rd_grp : ∀ {n : Nat} {i : Nat} {x : List Int}, n < 2 ^ (64 - 7 * i) → i ≤ 9 → (0 < i → n ≠ 0) → rd i (grp n ++ x) = some (n, (grp n).length) := by
  intro n
  induction n using Nat.strongRecOn with
  | ind n ih =>
    intro i x h hi h0
    by_cases hn : n < 128
    · rw [grp_lt hn]
      simp only [List.cons_append, List.nil_append, rd, List.length_cons, List.length_nil]
      rw [if_neg (by omega), if_neg ?_, if_neg (by omega), if_pos (by omega)]
      · simp
      · rintro ⟨rfl, h1⟩
        simp at h; omega
    · rw [grp_ge hn]
      simp only [List.cons_append, rd, List.length_cons]
      have hi8 : i ≠ 9 := by rintro rfl; simp at h; omega
      rw [if_neg (by omega), if_neg (by omega), if_neg (by omega), if_neg (by omega)]
      have hd : n / 128 < 2 ^ (64 - 7 * (i + 1)) := by
        rw [Nat.div_lt_iff_lt_mul (by omega), show (128 : Nat) = 2 ^ 7 from rfl, ← Nat.pow_add]
        by_cases e : i ≤ 8
        · rw [show 64 - 7 * (i + 1) + 7 = 64 - 7 * i by omega]; exact h
        · omega
      rw [ih (n / 128) (by omega) hd (by omega) (by omega)]
      simp only [Option.map_some, Option.some.injEq, Prod.mk.injEq, and_true]
      omega
end Go.Dvm.I
