/- Plain laws of the functions. -/
import Derived.Test.YtnmceljcgioomaaQpPuJ
set_option linter.all false
set_option maxRecDepth 100000
namespace Go.Dvm.I
open Go Go.Dvm

theorem ref_open_l0_ev (z : Bool) (L : List Int) (hL : L.length ≤ 1099511627776) : ∀ (k i : Nat), L.length = i + k → Ev (fun q => ferrymanref03_open_l0 q z L (i : Int)) (decide (L.length < 10 ∧ allHi (L.drop i)))
  | 0, i, hk => by
    refine Ev.succ (Ev.neg (by omega) (Ev.ret' ?_)) (fun q => rfl)
    rw [List.drop_of_length_le (by omega), decide_eq_decide]
    simp [allHi]; omega
  | k + 1, i, hk => by
    have hi : i < L.length := by omega
    have hg : L[(i : Int).toNat]? = some L[i] := by simpa using List.getElem?_eq_getElem hi
    refine Ev.succ (Ev.pos (by omega) (Ev.pos (by omega) (Ev.opt hg ?_))) (fun q => rfl)
    rw [List.drop_eq_getElem_cons hi]
    refine Ev.ite (fun h => Ev.ret' ?_) fun h => ?_
    · symm; rw [decide_eq_false_iff_not]
      rintro ⟨_, h1⟩
      have := h1 _ List.mem_cons_self; omega
    · rw [wrp_i64 (by omega) (by omega), show ((i : Int) + 1) = ((i + 1 : Nat) : Int) by omega]
      refine (ref_open_l0_ev z L hL k (i + 1) (by omega)).cast ?_
      rw [decide_eq_decide]
      constructor
      · rintro ⟨h1, h2⟩
        refine ⟨h1, fun c hc => ?_⟩
        rcases List.mem_cons.1 hc with rfl | hc
        · omega
        · exact h2 c hc
      · rintro ⟨h1, h2⟩; exact ⟨h1, fun c hc => h2 c (List.mem_cons_of_mem _ hc)⟩
theorem ref_open_ev (s : Sl Int) (hL : s.l.length ≤ 1099511627776) : Ev (fun q => ferrymanref03_open q s) (openB s.l) := by
  have := ref_open_l0_ev s.z s.l hL s.l.length 0 (by omega)
  rw [List.drop_zero] at this
  exact Ev.succ this (fun q => rfl)

theorem ref_read_l0_ev (z : Bool) (L : List Int) (hb : isB L) (hL : L.length ≤ 1099511627776) : ∀ (k i acc : Nat), 10 = i + k → i ≤ L.length → acc < 2 ^ (7 * i) → ∀ one : Int, (i ≤ 9 → one = ((2 ^ (7 * i) : Nat) : Int)) →
    Ev (fun q => ferrymanref01_read_l0 q z L (acc : Int) one (i : Int)) (match rd i (L.drop i) with | none => (0, 0) | some p => (((acc + p.1 * 2 ^ (7 * i) : Nat) : Int), ((i + p.2 : Nat) : Int)))
  | 0, i, acc, hk, hi, ha, one, ho => by
    have hi10 : i = 10 := by omega
    have : rd i (L.drop i) = none := by
      cases h : L.drop i with
      | nil => rfl
      | cons c l => simp only [rd]; rw [if_pos (by omega)]
    rw [this]
    exact Ev.succ (Ev.ite (fun h => Ev.neg (by omega) (Ev.ret _)) fun h => Ev.ret _) (fun q => rfl)
  | k + 1, i, acc, hk, hi, ha, one, ho => by
    have hi9 : i ≤ 9 := by omega
    have ho' := ho hi9
    by_cases hlt : i < L.length
    · have hg : L[(i : Int).toNat]? = some L[i] := by simpa using List.getElem?_eq_getElem hlt
      obtain ⟨b1, b2⟩ := hb L[i] (List.getElem_mem hlt)
      have wi : wrp .i64 ((i : Int) + 1) = ((i + 1 : Nat) : Int) := by rw [wrp_i64 (by omega) (by omega)]; omega
      rw [List.drop_eq_getElem_cons hlt]
      simp only [rd]
      rw [if_neg (by omega)]
      generalize hc : L[i] = c at hg b1 b2
      have em : Int.tmod c 128 = c % 128 := Int.tmod_eq_emod_of_nonneg b1
      have wm : wrp .u64 (Int.tmod c 128) = c % 128 := by rw [em]; exact wrp_u64 (by omega) (by omega)
      have hm : (c % 128).toNat < 128 := by omega
      -- the value
      have val : (i = 9 → c % 128 ≤ 1) → wrp .u64 ((acc : Int) + wrp .u64 (c % 128 * one)) = ((acc + (c % 128).toNat * 2 ^ (7 * i) : Nat) : Int) ∧ acc + (c % 128).toNat * 2 ^ (7 * i) < 2 ^ (7 * (i + 1)) := by
        intro h9
        have hp1 : 2 ^ (7 * (i + 1)) = 128 * 2 ^ (7 * i) := by rw [show 7 * (i + 1) = 7 + 7 * i by omega, Nat.pow_add]
        have h4 : acc + (c % 128).toNat * 2 ^ (7 * i) < 2 ^ (7 * (i + 1)) := by
          rw [hp1]
          have : ((c % 128).toNat + 1) * 2 ^ (7 * i) ≤ 128 * 2 ^ (7 * i) := Nat.mul_le_mul_right _ (by omega)
          rw [Nat.add_mul] at this; omega
        have h5 : acc + (c % 128).toNat * 2 ^ (7 * i) < 18446744073709551616 := by
          by_cases e : i = 9
          · have hc := h9 e
            have : (c % 128).toNat ≤ 1 := by omega
            subst e
            have h6 : (c % 128).toNat * 2 ^ (7 * 9) ≤ 1 * 2 ^ (7 * 9) := Nat.mul_le_mul_right _ this
            simp only [Nat.reduceMul, Nat.reducePow] at ha h6 ⊢
            omega
          · have : 2 ^ (7 * (i + 1)) ≤ 2 ^ 63 := Nat.pow_le_pow_right (by omega) (by omega)
            simp only [Nat.reducePow] at this
            omega
        refine ⟨?_, h4⟩
        have hmul : c % 128 * one = (((c % 128).toNat * 2 ^ (7 * i) : Nat) : Int) := by
          rw [ho', Int.natCast_mul]; congr 1; omega
        rw [hmul]
        generalize (c % 128).toNat * 2 ^ (7 * i) = X at h5
        rw [wrp_u64 (x := (X : Int)) (by omega) (by omega), wrp_u64 (by omega) (by omega)]; omega
      refine Ev.succ (Ev.pos (by omega) (Ev.pos (by omega) (Ev.pos (by omega) (Ev.opt hg ?_)))) (fun q => rfl)
      rw [wm]
      have rest : (i = 9 → c % 128 ≤ 1) → ¬ c < 128 → Ev (fun q => ferrymanref01_read_l0 q z L (wrp .u64 ((acc : Int) + wrp .u64 (c % 128 * one))) (wrp .u64 (one * 128)) (wrp .i64 ((i : Int) + 1))) (match (rd (i + 1) (L.drop (i + 1))).map (fun p => ((c % 128).toNat + 128 * p.1, p.2 + 1)) with | none => (0, 0) | some p => (((acc + p.1 * 2 ^ (7 * i) : Nat) : Int), ((i + p.2 : Nat) : Int))) := by
        intro h9 h128
        obtain ⟨v1, v2⟩ := val h9
        rw [v1, wi]
        refine (ref_read_l0_ev z L hb hL k (i + 1) _ (by omega) (by omega) v2 (wrp .u64 (one * 128)) (fun h10 => ?_)).cast ?_
        · have hp1 : 2 ^ (7 * (i + 1)) = 2 ^ (7 * i) * 128 := by rw [show 7 * (i + 1) = 7 * i + 7 by omega, Nat.pow_add]
          have hlt : 2 ^ (7 * (i + 1)) ≤ 2 ^ 63 := Nat.pow_le_pow_right (by omega) (by omega)
          have e : one * 128 = ((2 ^ (7 * (i + 1)) : Nat) : Int) := by rw [ho', hp1, Int.natCast_mul]; rfl
          rw [e]
          generalize 2 ^ (7 * (i + 1)) = X at hlt
          simp only [Nat.reducePow] at hlt
          exact wrp_u64 (by omega) (by omega)
        · cases rd (i + 1) (L.drop (i + 1)) with
          | none => rfl
          | some p =>
            simp only [Option.map_some]
            have : 2 ^ (7 * (i + 1)) = 128 * 2 ^ (7 * i) := by rw [show 7 * (i + 1) = 7 + 7 * i by omega, Nat.pow_add]
            rw [this]
            congr 2
            · rw [Nat.add_mul, Nat.mul_assoc 128, Nat.mul_left_comm p.1 128]; omega
            · omega
      have done : (i = 9 → c ≤ 1) → c < 128 → ((wrp .u64 ((acc : Int) + wrp .u64 (c % 128 * one)), wrp .i64 ((i : Int) + 1)) : Int × Int) = (((acc + c.toNat * 2 ^ (7 * i) : Nat) : Int), ((i + 1 : Nat) : Int)) := by
        intro h9 h128
        rw [(val (by omega)).1, wi, show (c % 128).toNat = c.toNat by omega]
      refine Ev.ite (fun h9 => Ev.ite (fun h1 => ?_) fun h1 => Ev.ite (fun h128 => Ev.pos (by omega) (Ev.ite (fun h0 => ?_) fun h0 => ?_)) fun h128 => ?_) fun h9 => Ev.ite (fun h128 => Ev.ite (fun hp => Ev.ite (fun h0 => ?_) fun h0 => ?_) fun hp => ?_) fun h128 => ?_
      · rw [if_pos ⟨by omega, by omega⟩]; exact Ev.ret _
      · rw [if_neg (by omega), if_pos ⟨by omega, by omega⟩]; exact Ev.ret _
      · rw [if_neg (by omega), if_neg (by omega), if_pos h128]; exact Ev.ret' (done (by omega) h128)
      · -- the tenth, and it goes on
        rw [if_pos ⟨by omega, by omega⟩]
        obtain ⟨v1, v2⟩ := val (by omega)
        rw [v1, wi]
        have hk0 : k = 0 := by omega
        subst hk0
        refine (ref_read_l0_ev z L hb hL 0 (i + 1) _ (by omega) (by omega) v2 (wrp .u64 (one * 128)) (fun h10 => by omega)).cast ?_
        have : rd (i + 1) (L.drop (i + 1)) = none := by
          cases h : L.drop (i + 1) with
          | nil => rfl
          | cons c l => simp only [rd]; rw [if_pos (by omega)]
        rw [this]
      · rw [if_neg (by omega), if_pos ⟨by omega, by omega⟩]; exact Ev.ret _
      · rw [if_neg (by omega), if_neg (by omega), if_pos h128]; exact Ev.ret' (done (by omega) h128)
      · rw [if_neg (by omega), if_neg (by omega), if_pos h128]; exact Ev.ret' (done (by omega) h128)
      · rw [if_neg (by omega), if_neg (by omega), if_neg h128]; exact rest (by omega) h128
    · rw [List.drop_of_length_le (by omega)]
      exact Ev.succ (Ev.neg (by omega) (Ev.ret _)) (fun q => rfl)
theorem ref_read_ev (s : Sl Int) (hb : isB s.l) (hL : s.l.length ≤ 1099511627776) : Ev (fun q => ferrymanref01_read q s) (resN (rd 0 s.l)) := by
  have h := ref_read_l0_ev s.z s.l hb hL 10 0 0 (by omega) (by omega) (by simp) 1 (by simp)
  refine Ev.succ (g := fun q => ferrymanref01_read_l0 q s.z s.l 0 1 0) ?_ (fun q => rfl)
  refine h.cast ?_
  rw [List.drop_zero]
  cases rd 0 s.l with
  | none => rfl
  | some p => simp [resN]
theorem ref_Get_ev (s : Sl Int) (hb : isB s.l) (hL : s.l.length ≤ 1099511627776) : Ev (fun q => ferrymanref01_Get q s) (getN s.l) := by
  refine Ev.succ (Ev.bind (ref_read_ev s hb hL) ?_) (fun q => rfl)
  unfold getN
  cases h : rd 0 s.l with
  | none => exact Ev.pos (by simp [resN]) (Ev.ret' rfl)
  | some p =>
    have := rd_len h
    simp only [resN]
    refine Ev.neg (by omega) (Ev.ite (fun h => ?_) fun h => ?_)
    · rw [if_pos (by omega)]; exact Ev.ret _
    · rw [if_neg (by omega), wrp_i64 (by omega) (by omega)]; exact Ev.ret _

/-- The number of bytes, the lowest first. -/
def numB : List Int → Nat
  | [] => 0
  | c :: l => c.toNat + 256 * numB l
theorem numB_lt : ∀ {l : List Int}, isB l → numB l < 256 ^ l.length
  | [], _ => by simp [numB]
  | c :: l, h => by
    have h1 := h c List.mem_cons_self
    have h2 := numB_lt (l := l) fun c hc => h c (List.mem_cons_of_mem _ hc)
    simp only [numB, List.length_cons, Nat.pow_succ]
    generalize 256 ^ l.length = X at h2
    omega
theorem Fixed_l0_ev (z : Bool) (L : List Int) (hb : isB L) (hL : L.length ≤ 8) : ∀ (k : Nat), k ≤ 8 → Ev (fun q => ferrymanref01_Fixed_l0 q z L ((numB (L.drop k) : Nat) : Int) ((k : Int) - 1)) ((numB L : Nat) : Int)
  | 0, hk => Ev.succ (Ev.neg (by omega) (Ev.ret' (by simp))) (fun q => rfl)
  | k + 1, hk => by
    have e : ((k + 1 : Nat) : Int) - 1 = (k : Int) := by omega
    rw [e]
    have wi : wrp .i64 ((k : Int) - 1) = (k : Int) - 1 := wrp_i64 (by omega) (by omega)
    have ih := Fixed_l0_ev z L hb hL k (by omega)
    by_cases hi : k < L.length
    · have hg : L[(k : Int).toNat]? = some L[k] := by simpa using List.getElem?_eq_getElem hi
      obtain ⟨b1, b2⟩ := hb L[k] (List.getElem_mem hi)
      have hlt := numB_lt (l := L.drop (k + 1)) (isB_drop hb _)
      have hle : 256 ^ (L.drop (k + 1)).length ≤ 256 ^ 7 := Nat.pow_le_pow_right (by omega) (by rw [List.length_drop]; omega)
      have hlt2 : numB (L.drop (k + 1)) < 256 ^ 7 := Nat.lt_of_lt_of_le hlt hle
      rw [List.drop_eq_getElem_cons hi] at ih
      simp only [numB] at ih
      generalize numB (L.drop (k + 1)) = X at hlt2 ih ⊢
      generalize L[k] = c at hg b1 b2 ih
      simp only [Nat.reducePow] at hlt2
      refine Ev.succ (Ev.pos (by omega) (Ev.pos (by omega) (Ev.opt hg ?_))) (fun q => rfl)
      rw [wrp_u64 (x := (X : Int) * 256) (by omega) (by omega), wrp_u64 (x := c) (by omega) (by omega), wrp_u64 (by omega) (by omega), wi]
      rw [show ((c.toNat + 256 * X : Nat) : Int) = (X : Int) * 256 + c by omega] at ih
      exact ih
    · rw [List.drop_of_length_le (by omega)] at ih ⊢
      refine Ev.succ (Ev.pos (by omega) (Ev.neg (by omega) ?_)) (fun q => rfl)
      rw [wi]; exact ih
theorem Fixed_ev (s : Sl Int) (hb : isB s.l) (hL : s.l.length ≤ 8) : Ev (fun q => ferrymanref01_Fixed q s) ((numB s.l : Nat) : Int) := by
  have := Fixed_l0_ev s.z s.l hb hL 8 (by omega)
  rw [List.drop_of_length_le hL] at this
  exact Ev.succ (g := fun q => ferrymanref01_Fixed_l0 q s.z s.l 0 7) this (fun q => rfl)
theorem numB_fix4 {l : List Int} {v : Nat} (hb : isB l) (hl : l.length = 4) (hv : v < 4294967296) : numB l = v ↔ l = fix4 v := by
  match l, hl with
  | [a, b, c, d], _ =>
    have h1 := hb a (by simp); have h2 := hb b (by simp); have h3 := hb c (by simp); have h4 := hb d (by simp)
    simp only [numB, fix4, List.cons.injEq, and_true]
    constructor
    · intro h; refine ⟨?_, ?_, ?_, ?_⟩ <;> omega
    · rintro ⟨e1, e2, e3, e4⟩; omega
end Go.Dvm.I
