/- Plain laws of the functions. -/
import Derived.Test.YtnmceljcgioomaaQpPuC
set_option linter.all false
namespace Go.Dvm.I
open Go Go.Dvm

theorem ref01_groups_l0_ev : ∀ (n : Nat) (z : Bool) (l : List Int), n < 18446744073709551616 → l.length + (grp n).length ≤ 4294967296 → Ev (fun q => ferrymanref01_groups_l0 q (n : Int) z l) ⟨false, true, l ++ grp n⟩ := by
  intro n
  induction n using Nat.strongRecOn with
  | ind n ih =>
    intro z l hb hl
    refine Ev.succ ?_ (fun q => rfl)
    by_cases hn : n < 128
    · rw [grp_lt hn] at hl ⊢
      refine Ev.neg (by omega) (Ev.pos (by simpa using hl) (Ev.ret' ?_))
      rw [wrp_u8]; congr 3; omega
    · rw [grp_ge hn] at hl ⊢
      simp only [List.length_cons] at hl
      refine Ev.pos (by omega) (Ev.pos (by omega) ?_)
      have e1 : Int.tdiv (n : Int) 128 = ((n / 128 : Nat) : Int) := by rw [Int.tdiv_eq_ediv_of_nonneg (by omega)]; omega
      have e2 : Int.tmod (n : Int) 128 = ((n % 128 : Nat) : Int) := by rw [Int.tmod_eq_emod_of_nonneg (by omega)]; omega
      rw [e1, e2, wrp_u64 (by omega) (by omega), wrp_u64 (by omega) (by omega), wrp_u8]
      have := ih (n / 128) (by omega) false (l ++ [((n % 128 + 128 : Nat) : Int)]) (by omega) (by simp; omega)
      rw [show (((n % 128 : Nat) : Int) + 128) % 256 = ((n % 128 + 128 : Nat) : Int) by omega]
      simpa using this
theorem ref01_groups_ev {u : Int} (h1 : 0 ≤ u) (h2 : u < 18446744073709551616) : Ev (fun q => ferrymanref01_groups q u) ⟨false, true, grp u.toNat⟩ := by
  have hg := grp_len10 (n := u.toNat) (by omega)
  have := ref01_groups_l0_ev u.toNat true [] (by omega) (by simp; omega)
  rw [Int.toNat_of_nonneg h1] at this
  exact Ev.succ this (fun q => rfl)
theorem grp_ne (n : Nat) : decide ((grp n).length = 0) = false := by have := grp_pos n; simp; intro h; rw [h] at this; simp at this
theorem ref01_Put_ev {n : Int} (s : Sl Int) (h1 : 0 ≤ n) (h2 : n < 4611686018427387904) (hl : s.l.length + 10 ≤ 4294967296) : Ev (fun q => ferrymanref01_Put q s n) ⟨false, true, s.l ++ put n⟩ := by
  have hg := grp_len10 (n := n.toNat) (by omega)
  refine Ev.succ (Ev.pos (by omega) (Ev.neg (by omega) (Ev.neg (by omega) ?_))) (fun q => rfl)
  rw [wrp_u64 h1 (by omega), put_ok h1 h2]
  refine Ev.bind (ref01_groups_ev h1 (by omega)) (Ev.pos (by simp only; omega) (Ev.ret' ?_))
  simp only [grp_ne, Bool.and_false]
theorem ref01_Zig_ev {n : Int} (h : inR .i64 n) : Ev (fun q => ferrymanref01_Zig q n) ((zig n : Nat) : Int) := by
  have hr := inR64 h
  refine Ev.succ (Ev.ite (fun h0 => Ev.ret' ?_) fun h0 => Ev.ret' ?_) (fun q => rfl)
  · rw [wrp_u64 h0 (by omega), wrp_u64 (by omega) (by omega)]
    unfold zig; rw [if_pos h0]; omega
  · rw [wrp_i64 (x := n + 1) (by omega) (by omega), wrp_i64 (by omega) (by omega), wrp_u64 (x := 0 - (n + 1)) (by omega) (by omega), wrp_u64 (x := (0 - (n + 1)) * 2) (by omega) (by omega), wrp_u64 (by omega) (by omega)]
    unfold zig; rw [if_neg h0]; omega
theorem ref01_PutSigned_ev {n : Int} (s : Sl Int) (h : inR .i64 n) (hl : s.l.length + 10 ≤ 4294967296) : Ev (fun q => ferrymanref01_PutSigned q s n) ⟨false, true, s.l ++ putS n⟩ := by
  have hz := zig_lt h
  have hg := grp_len10 hz
  refine Ev.succ (Ev.pos (by omega) (Ev.bind (ref01_Zig_ev h) (Ev.bind (ref01_groups_ev (by omega) (by omega)) (Ev.pos ?_ (Ev.ret' ?_))))) (fun q => rfl)
  · simp only [Int.toNat_natCast]; omega
  · simp only [grp_ne, Bool.and_false, Int.toNat_natCast]; rfl
theorem ref05_PutOp_ev {o : S_api_Op} (s : Sl Int) (h : fitsOp o = true) (hl : s.l.length + 30 ≤ 4294967296) : Ev (fun q => ferrymanref05_PutOp q s o) (⟨false, true, s.l ++ opB o⟩, 0) := by
  obtain ⟨h1, h2, h3, h4⟩ := fitsOp_iff.1 h
  have := put_len o.Code
  have hA : inR .i64 o.A := inR_i64 (by omega) (by omega)
  have hB : inR .i64 o.B := inR_i64 (by omega) (by omega)
  have := putS_len hA
  have := putS_len hB
  have e0 := ref01_Put_ev (n := o.Code) ⟨decide (s.l.length = 0), s.l⟩ h1 (by omega) (by simp only; omega)
  have e1 := ref01_PutSigned_ev ⟨false, s.l ++ put o.Code⟩ hA (by simp; omega)
  have e2 := ref01_PutSigned_ev ⟨false, s.l ++ put o.Code ++ putS o.A⟩ hB (by simp; omega)
  refine Ev.succ (Ev.pos (by omega) (Ev.bind (ref04_Fits_ev o) (Ev.pos h ?_))) (fun q => rfl)
  refine Ev.bind e0 ?_
  refine Ev.bind e1 ?_
  refine Ev.bind e2 ?_
  refine Ev.ret' ?_
  simp [opB]

def hasB (v f : Int) : Bool := decide (f = 1) || (decide (f = 2) || (decide (f = 4) || ((decide (f = 3) && decide (2 ≤ v)) || (decide (f = 5) && decide (v = 3)))))
theorem ref06_has_ev (v f : Int) : Ev (fun q => ferrymanref06_has q v f) (hasB v f) := by
  refine Ev.succ (Ev.ite (fun h => Ev.ret' ?_) fun h => Ev.ite (fun h1 => Ev.ret' ?_) fun h1 => Ev.ite (fun h2 => Ev.ret' ?_) fun h2 => Ev.ite (fun h3 => Ev.ite (fun h4 => Ev.ret' ?_) fun h4 => Ev.ite (fun h5 => Ev.ret' ?_) fun h5 => Ev.ret' ?_) fun h3 => Ev.ite (fun h5 => Ev.ret' ?_) fun h5 => Ev.ret' ?_) (fun q => rfl) <;> first | (simp [hasB, *]; done) | (simp [hasB, *]; omega)
def restK (v : Int) : Nat → List Int
  | 0 => []
  | k + 1 => if hasB v (5 - k) = true then (5 - k : Int) :: restK v k else restK v k
theorem restK_5 {v : Int} (h1 : 1 ≤ v) (h2 : v ≤ 3) : restK v 5 = fieldsOf v := by
  have : v = 1 ∨ v = 2 ∨ v = 3 := by omega
  rcases this with rfl | rfl | rfl <;> decide
theorem ref06_Encode_l0_ev {v : Int} {r : S_api_Record} (h : FitsR r) : ∀ (k : Nat) (f : Int) (l : List Int), f = 6 - k → k ≤ 5 → l.length + 40 * k ≤ 4294967296 →
    Ev (fun q => ferrymanref06_Encode_l0 q v f r.Index r.Proc r.Seq r.Op.Code r.Op.A r.Op.B r.Resp false l true) (⟨false, true, l ++ fieldsB r (restK v k)⟩, 0)
  | 0, f, l, hf, hk, hl => Ev.succ (Ev.neg (by omega) (Ev.ret' (by simp [restK, fieldsB]))) (fun q => rfl)
  | k + 1, f, l, hf, hk, hl => by
    have hf2 : f = 5 - (k : Int) := by omega
    obtain ⟨k1, k2, k3, k4, k5, k6, k7, k8, k9⟩ := h
    have hvl := valB_len (f := f) (r := r) ⟨k1, k2, k3, k4, k5, k6, k7, k8, k9⟩
    have hpl := put_len f
    have next := fun (l : List Int) hl => ref06_Encode_l0_ev (v := v) (r := r) ⟨k1, k2, k3, k4, k5, k6, k7, k8, k9⟩ k (f + 1) l (by omega) (by omega) hl
    refine Ev.succ (Ev.pos (by omega) (Ev.bind (ref06_has_ev v f) ?_)) (fun q => rfl)
    simp only [restK]
    rw [← hf2]
    rw [wrp_i64 (by omega) (by omega)]
    refine Ev.ite (fun hh => ?_) fun hh => ?_
    · rw [if_pos hh]
      have hn := next (l ++ (put f ++ valB f r)) (by simp only [List.length_append]; omega)
      refine Ev.bind (ref01_Put_ev _ (by omega) (by omega) (by simp only; omega)) ?_
      have fin : ∀ {g : Nat → Option (Ow Int × Int)}, Ev g (⟨false, true, (l ++ (put f ++ valB f r)) ++ fieldsB r (restK v k)⟩, 0) → Ev g (⟨false, true, l ++ fieldsB r (f :: restK v k)⟩, 0) := fun h => h.cast (by simp [fieldsB])
      refine fin ?_
      unfold valB at hn hvl ⊢
      refine Ev.ite (fun e => ?_) fun e => Ev.ite (fun e1 => ?_) fun e1 => Ev.ite (fun e2 => ?_) fun e2 => Ev.ite (fun e3 => ?_) fun e3 => Ev.pos (by omega) ?_
      · rw [if_pos e] at hn hvl ⊢
        exact Ev.bind (ref01_Put_ev _ k1 k2 (by simp; omega)) (by simpa using hn)
      · rw [if_neg e, if_pos e1] at hn hvl ⊢
        exact Ev.bind (ref01_Put_ev _ k3 (by omega) (by simp; omega)) (by simpa using hn)
      · rw [if_neg e, if_neg e1, if_pos e2] at hn hvl ⊢
        exact Ev.bind (ref01_Put_ev _ k5 k6 (by simp; omega)) (by simpa using hn)
      · rw [if_neg e, if_neg e1, if_neg e2, if_pos e3] at hn hvl ⊢
        exact Ev.bind (ref05_PutOp_ev _ k7 (by simp; omega)) (by simpa using hn)
      · rw [if_neg e, if_neg e1, if_neg e2, if_neg e3] at hn hvl ⊢
        exact Ev.bind (ref01_PutSigned_ev _ (inR_i64 (by omega) (by omega)) (by simp; omega)) (by simpa using hn)
    · rw [if_neg hh]
      exact next l (by omega)
theorem ref06_Encode_ev (v : Int) (r : S_api_Record) : Ev (fun q => ferrymanref06_Encode q v r) (if v < 1 ∨ 3 < v then (⟨true, true, []⟩, 6) else if FitsR r then (⟨false, true, recB v r⟩, 0) else (⟨true, true, []⟩, 1)) := by
  refine Ev.succ ?_ (fun q => rfl)
  by_cases h1 : v < 1
  · rw [if_pos (.inl h1)]; exact Ev.pos h1 (Ev.ret _)
  · by_cases h2 : 3 < v
    · rw [if_pos (.inr h2)]; exact Ev.neg h1 (Ev.pos h2 (Ev.ret _))
    · rw [if_neg (by omega)]
      refine Ev.neg h1 (Ev.neg h2 (Ev.bind (ref06_Fits_ev r) ?_))
      by_cases hf : FitsR r
      · rw [if_pos hf]
        refine Ev.pos (by simpa using hf) (Ev.bind (ref01_Put_ev _ (by omega) (by omega) (by simp)) ?_)
        have hp := put_len v
        have := ref06_Encode_l0_ev (v := v) hf 5 1 (put v) (by omega) (by omega) (by omega)
        rw [restK_5 (by omega) (by omega)] at this
        simpa [recB] using this
      · rw [if_neg hf]; exact Ev.neg (by simpa using hf) (Ev.ret _)
theorem ref06_Upgrade_ev (v : Int) (r : S_api_Record) : Ev (fun q => ferrymanref06_Upgrade q v r) (if v < 1 ∨ 3 < v then (noR, 6) else (upR v r, 0)) := by
  refine Ev.succ (Ev.ite (fun h => ?_) fun h => Ev.ite (fun h1 => ?_) fun h1 => ?_) (fun q => rfl)
  · rw [if_pos (.inl h)]; exact Ev.ret _
  · rw [if_pos (.inr h1)]; exact Ev.ret _
  · rw [if_neg (show ¬ (v < 1 ∨ 3 < v) by omega)]
    refine Ev.ite (fun h2 => Ev.ite (fun h3 => Ev.ret' ?_) fun h3 => Ev.ret' ?_) fun h2 => Ev.ite (fun h3 => Ev.ret' ?_) fun h3 => Ev.ret' ?_ <;> simp [upR, h2, h3]
theorem ferrymanlaw06_SchemaEncodes_true : ∀ (a0 : Int) (a1 : S_api_Record), inR .i64 a0 → S_api_Record.ok a1 → ∃ q, ferrymanlaw06_SchemaEncodes q a0 a1 = some true := by
  intro v a _ _
  refine Ev.get (f := fun q => ferrymanlaw06_SchemaEncodes q v a) ?_
  refine Ev.succ (Ev.bind awake06_ev (Ev.bind (schema_Encode_ev v a) (Ev.bind (ref06_Encode_ev v a) (Ev.bind (schema_Upgrade_ev v a) (Ev.bind (ref06_Upgrade_ev v a) (Ev.pos rfl (Ev.pos rfl (Ev.pos rfl (Ev.pos rfl (Ev.pos rfl (Ev.pos rfl (Ev.pos rfl (Ev.pos rfl (Ev.pos rfl (Ev.pos rfl (Ev.pos rfl (Ev.bind (schema_Fits_ev a) ?_)))))))))))))))) ) (fun q => rfl)
  refine Ev.bind (ref06_Fits_ev a) ?_
  refine Ev.ret' ?_
  simp
end Go.Dvm.I
