/- Plain laws of the functions. -/
import Derived.Test.YtnmceljcgioomaaQpPuA
set_option linter.all false
namespace Go.Dvm.I
open Go Go.Dvm

theorem inR64 {x : Int} (h : inR .i64 x) : -9223372036854775808 ≤ x ∧ x ≤ 9223372036854775807 := by
  simp [inR, IntKind.min, IntKind.max, IntKind.signed, IntKind.bits] at h; omega
def cutI (n : Int) : Int := if n < -1099511627776 then -1099511627776 else if 1099511627776 < n then 1099511627776 else n
theorem objs_cut_ev (n : Int) : Ev (fun q => objs_cut q n) (cutI n) := by
  refine Ev.succ (Ev.ret' ?_) (fun q => rfl)
  unfold cutI; split <;> split <;> split <;> (try split) <;> omega
theorem ref04_cut_ev (n : Int) : Ev (fun q => ferrymanref04_cut q n) (cutI n) := by
  refine Ev.succ ?_ (fun q => rfl)
  unfold cutI
  refine Ev.ite (fun h => ?_) fun h => Ev.ite (fun h1 => ?_) fun h1 => ?_
  · rw [if_pos h]; exact Ev.ret _
  · rw [if_neg h, if_pos h1]; exact Ev.ret _
  · rw [if_neg h, if_neg h1]; exact Ev.ret _
def fitsOp (o : S_api_Op) : Bool := decide (0 ≤ o.Code) && (decide (o.Code ≤ 10) && (decide (o.A = cutI o.A) && decide (o.B = cutI o.B)))
theorem objs_Fits_ev (o : S_api_Op) : Ev (fun q => objs_Fits q o) (fitsOp o) := by
  refine Ev.succ ?_ (fun q => rfl)
  unfold fitsOp
  refine Ev.ite (fun h => Ev.ite (fun h1 => Ev.bind (objs_cut_ev _) (Ev.ite (fun h2 => Ev.bind (objs_cut_ev _) (Ev.ret' ?_)) fun h2 => Ev.ret' ?_)) fun h1 => Ev.ret' ?_) fun h => Ev.ret' ?_
  · rw [decide_eq_true h, decide_eq_true h1, decide_eq_true h2]; rfl
  · rw [decide_eq_true h, decide_eq_true h1, decide_eq_false h2]; rfl
  · rw [decide_eq_true h, decide_eq_false h1]; rfl
  · rw [decide_eq_false h]; rfl
theorem ref04_Fits_ev (o : S_api_Op) : Ev (fun q => ferrymanref04_Fits q o) (fitsOp o) := by
  refine Ev.succ ?_ (fun q => rfl)
  unfold fitsOp
  refine Ev.ite (fun h => Ev.ite (fun h1 => Ev.bind (ref04_cut_ev _) (Ev.ite (fun h2 => Ev.bind (ref04_cut_ev _) (Ev.ret' ?_)) fun h2 => Ev.ret' ?_)) fun h1 => Ev.ret' ?_) fun h => Ev.ret' ?_
  · rw [decide_eq_true h, decide_eq_true h1, decide_eq_true h2]; rfl
  · rw [decide_eq_true h, decide_eq_true h1, decide_eq_false h2]; rfl
  · rw [decide_eq_true h, decide_eq_false h1]; rfl
  · rw [decide_eq_false h]; rfl
theorem cutI_iff {n : Int} : n = cutI n ↔ -1099511627776 ≤ n ∧ n ≤ 1099511627776 := by
  unfold cutI
  by_cases h1 : n < -1099511627776
  · rw [if_pos h1]; omega
  · rw [if_neg h1]
    by_cases h2 : 1099511627776 < n
    · rw [if_pos h2]; omega
    · rw [if_neg h2]; omega
theorem fitsOp_iff {o : S_api_Op} : fitsOp o = true ↔ 0 ≤ o.Code ∧ o.Code ≤ 10 ∧ (-1099511627776 ≤ o.A ∧ o.A ≤ 1099511627776) ∧ (-1099511627776 ≤ o.B ∧ o.B ≤ 1099511627776) := by
  simp only [fitsOp, Bool.and_eq_true, decide_eq_true_eq, cutI_iff]

def FitsR (r : S_api_Record) : Prop := 0 ≤ r.Index ∧ r.Index < 4611686018427387904 ∧ 0 ≤ r.Proc ∧ r.Proc ≤ 64 ∧ 0 ≤ r.Seq ∧ r.Seq < 4611686018427387904 ∧ fitsOp r.Op = true ∧ -1125899906842624 ≤ r.Resp ∧ r.Resp ≤ 1125899906842624
instance (r : S_api_Record) : Decidable (FitsR r) := by unfold FitsR; infer_instance
theorem schema_Fits_ev (r : S_api_Record) : Ev (fun q => schema_Fits q r) (decide (FitsR r)) := by
  refine Ev.succ ?_ (fun q => rfl)
  refine Ev.ite (fun h1 => Ev.ite (fun h2 => Ev.ite (fun h3 => Ev.ite (fun h4 => Ev.ite (fun h5 => Ev.ite (fun h6 => Ev.bind (objs_Fits_ev _) (Ev.ite (fun h7 => Ev.ite (fun h8 => Ev.ret' ?_) fun h8 => Ev.ret' ?_) fun h7 => Ev.ret' ?_)) fun h6 => Ev.ret' ?_) fun h5 => Ev.ret' ?_) fun h4 => Ev.ret' ?_) fun h3 => Ev.ret' ?_) fun h2 => Ev.ret' ?_) fun h1 => Ev.ret' ?_ <;> simp only [FitsR, *] <;> simp
theorem ref06_Fits_ev (r : S_api_Record) : Ev (fun q => ferrymanref06_Fits q r) (decide (FitsR r)) := by
  refine Ev.succ ?_ (fun q => rfl)
  refine Ev.bind (ref04_Fits_ev _) (Ev.ite (fun h1 => Ev.ite (fun h2 => Ev.ite (fun h3 => Ev.ite (fun h4 => Ev.ite (fun h5 => Ev.ite (fun h6 => Ev.ite (fun h7 => Ev.ite (fun h8 => Ev.ret' ?_) fun h8 => Ev.ret' ?_) fun h7 => Ev.ret' ?_) fun h6 => Ev.ret' ?_) fun h5 => Ev.ret' ?_) fun h4 => Ev.ret' ?_) fun h3 => Ev.ret' ?_) fun h2 => Ev.ret' ?_) fun h1 => Ev.ret' ?_) <;> simp only [FitsR, *] <;> simp

def opB (o : S_api_Op) : List Int := put o.Code ++ (putS o.A ++ putS o.B)
theorem putS_len {n : Int} (h : inR .i64 n) : (putS n).length ≤ 10 := grp_len10 (zig_lt h)
theorem inR_i64 {n : Int} (h1 : -9223372036854775808 ≤ n) (h2 : n ≤ 9223372036854775807) : inR .i64 n := by
  simp [inR, IntKind.min, IntKind.max, IntKind.signed, IntKind.bits]; omega
theorem opB_len {o : S_api_Op} (h : fitsOp o = true) : (opB o).length ≤ 30 := by
  obtain ⟨h1, h2, h3, h4⟩ := fitsOp_iff.1 h
  have := put_len o.Code
  have := putS_len (n := o.A) (inR_i64 (by omega) (by omega))
  have := putS_len (n := o.B) (inR_i64 (by omega) (by omega))
  simp only [opB, List.length_append]; omega
theorem codec_PutOp_ev {o : S_api_Op} (b : Ow Int) (h : fitsOp o = true) (hl : b.xs.length + 30 ≤ 4294967296) : Ev (fun q => codec_PutOp q b o) (⟨false, b.x, b.xs ++ opB o⟩, 0) := by
  obtain ⟨h1, h2, h3, h4⟩ := fitsOp_iff.1 h
  refine Ev.succ ?_ (fun q => rfl)
  have := put_len o.Code
  have hA : inR .i64 o.A := inR_i64 (by omega) (by omega)
  have hB : inR .i64 o.B := inR_i64 (by omega) (by omega)
  have := putS_len hA
  have := putS_len hB
  refine Ev.bind (objs_Fits_ev o) (Ev.pos h (Ev.bind (num_Put_ev b h1 (by omega) (by omega)) (Ev.bind (num_PutSigned_ev _ hA (by simp; omega)) (Ev.bind (num_PutSigned_ev _ hB (by simp; omega)) (Ev.ret' ?_)))))
  simp [opB]

/-- A field of a record, as bytes. -/
def valB (f : Int) (r : S_api_Record) : List Int := if f = 1 then put r.Index else if f = 2 then put r.Proc else if f = 3 then put r.Seq else if f = 4 then opB r.Op else putS r.Resp
theorem valB_len {f : Int} {r : S_api_Record} (h : FitsR r) : (valB f r).length ≤ 30 := by
  obtain ⟨h1, h2, h3, h4, h5, h6, h7, h8, h9⟩ := h
  unfold valB
  have := put_len r.Index; have := put_len r.Proc; have := put_len r.Seq; have := opB_len h7
  have := putS_len (n := r.Resp) (inR_i64 (by omega) (by omega))
  split; omega; split; omega; split; omega; split <;> omega
theorem schema_put_ev {f : Int} {r : S_api_Record} (b : Ow Int) (h : FitsR r) (h1 : 1 ≤ f) (h2 : f ≤ 5) (hl : b.xs.length + 40 ≤ 4294967296) : Ev (fun q => schema_put q b f r) ⟨false, b.x, b.xs ++ (put f ++ valB f r)⟩ := by
  obtain ⟨k1, k2, k3, k4, k5, k6, k7, k8, k9⟩ := h
  refine Ev.succ ?_ (fun q => rfl)
  have := put_len f
  refine Ev.bind (num_Put_ev b (by omega) (by omega) (by omega)) ?_
  unfold valB
  refine Ev.ite (fun e => ?_) fun e => Ev.ite (fun e1 => ?_) fun e1 => Ev.ite (fun e2 => ?_) fun e2 => Ev.ite (fun e3 => ?_) fun e3 => ?_
  · rw [if_pos e]
    exact Ev.bind (num_Put_ev _ k1 k2 (by simp; omega)) (Ev.ret' (by simp))
  · rw [if_neg e, if_pos e1]
    exact Ev.bind (num_Put_ev _ k3 (by omega) (by simp; omega)) (Ev.ret' (by simp))
  · rw [if_neg e, if_neg e1, if_pos e2]
    exact Ev.bind (num_Put_ev _ k5 k6 (by simp; omega)) (Ev.ret' (by simp))
  · rw [if_neg e, if_neg e1, if_neg e2, if_pos e3]
    exact Ev.bind (codec_PutOp_ev _ k7 (by simp; omega)) (Ev.ret' (by simp))
  · rw [if_neg e, if_neg e1, if_neg e2, if_neg e3]
    exact Ev.bind (num_PutSigned_ev _ (inR_i64 (by omega) (by omega)) (by simp; omega)) (Ev.ret' (by simp))

def fieldsB (r : S_api_Record) : List Int → List Int
  | [] => []
  | f :: l => (put f ++ valB f r) ++ fieldsB r l
theorem schema_Encode_l0_ev {r : S_api_Record} (h : FitsR r) (L : List Int) (z2 x2 : Bool) (hL : ∀ f ∈ L, 1 ≤ f ∧ f ≤ 5) (hn : L.length ≤ 5) : ∀ (k i : Nat) (l : List Int) (x : Bool), L.length = i + k → l.length + 40 * k ≤ 4294967296 →
    Ev (fun q => schema_Encode_l0 q (L.length : Int) (i : Int) r.Index r.Proc r.Seq r.Op.Code r.Op.A r.Op.B r.Resp false l x z2 L x2) (⟨false, x, l ++ fieldsB r (L.drop i)⟩, 0)
  | 0, i, l, x, hk, hl => by
    refine Ev.succ (Ev.neg (by omega) (Ev.ret' ?_)) (fun q => rfl)
    rw [List.drop_of_length_le (by omega)]; simp [fieldsB]
  | k + 1, i, l, x, hk, hl => by
    have hi : i < L.length := by omega
    have hg : L[(i : Int).toNat]? = some L[i] := by simpa using List.getElem?_eq_getElem hi
    obtain ⟨f1, f2⟩ := hL L[i] (List.getElem_mem hi)
    refine Ev.succ ?_ (fun q => rfl)
    refine Ev.pos (by omega) (Ev.pos (by omega) (Ev.pos (by simpa using hi) (Ev.opt hg ?_)))
    refine Ev.bind (schema_put_ev (r := r) ⟨false, x, l⟩ h f1 f2 (by simp; omega)) ?_
    have hlen : (put L[i] ++ valB L[i] r).length ≤ 40 := by
      have := put_len L[i]; have := valB_len (f := L[i]) h; simp; omega
    have := schema_Encode_l0_ev h L z2 x2 hL hn k (i + 1) (l ++ (put L[i] ++ valB L[i] r)) x (by omega) (by simp only [List.length_append] at hlen ⊢; omega)
    rw [wrp_i64 (by omega) (by omega)]
    rw [show ((i : Int) + 1) = ((i + 1 : Nat) : Int) by omega]
    refine this.cast ?_
    rw [List.drop_eq_getElem_cons hi]
    simp [fieldsB]

def fieldsOf (v : Int) : List Int := if v = 1 then [1, 2, 4] else if v = 2 then [1, 2, 3, 4] else [1, 2, 3, 4, 5]
theorem schema_fields_no {v : Int} (h : v < 1 ∨ 3 < v) : Ev (fun q => schema_fields q v) ⟨true, true, []⟩ := by
  refine Ev.succ (Ev.ite (fun h => Ev.ret _) fun h1 => Ev.pos (by omega) (Ev.ret _)) (fun q => rfl)
theorem schema_fields_ev {v : Int} (h1 : 1 ≤ v) (h2 : v ≤ 3) : Ev (fun q => schema_fields q v) ⟨false, true, fieldsOf v⟩ := by
  refine Ev.succ (Ev.neg (by omega) (Ev.neg (by omega) (Ev.pos (by omega) (Ev.pos (by omega) (Ev.neg (by omega) ?_))))) (fun q => rfl)
  unfold fieldsOf
  refine Ev.ite (fun h => ?_) fun h => Ev.ite (fun h1 => ?_) fun h1 => Ev.pos (by omega) ?_
  · rw [if_pos (by omega)]; exact Ev.ret _
  · rw [if_neg (by omega), if_pos (by omega)]; exact Ev.ret _
  · rw [if_neg (by omega), if_neg (by omega)]; exact Ev.ret _
theorem fieldsOf_mem {v : Int} : (∀ f ∈ fieldsOf v, 1 ≤ f ∧ f ≤ 5) ∧ (fieldsOf v).length ≤ 5 := by
  unfold fieldsOf; split
  · simp
  · split <;> simp

def recB (v : Int) (r : S_api_Record) : List Int := put v ++ fieldsB r (fieldsOf v)
theorem schema_Encode_ev (v : Int) (r : S_api_Record) : Ev (fun q => schema_Encode q v r) (if v < 1 ∨ 3 < v then (⟨true, true, []⟩, 6) else if FitsR r then (⟨false, true, recB v r⟩, 0) else (⟨true, true, []⟩, 1)) := by
  refine Ev.succ ?_ (fun q => rfl)
  by_cases hv : v < 1 ∨ 3 < v
  · rw [if_pos hv]; exact Ev.bind (schema_fields_no hv) (Ev.pos rfl (Ev.ret _))
  · rw [if_neg hv]
    refine Ev.bind (schema_fields_ev (by omega) (by omega)) (Ev.neg (by simp) (Ev.bind (schema_Fits_ev r) ?_))
    by_cases hf : FitsR r
    · rw [if_pos hf]
      refine Ev.pos (by simpa using hf) (Ev.bind (num_Put_ev _ (by omega) (by omega) (by simp)) ?_)
      have := schema_Encode_l0_ev hf (fieldsOf v) false true fieldsOf_mem.1 fieldsOf_mem.2 (fieldsOf v).length 0 (put v) true (by simp) (by
        have := put_len v; have := (fieldsOf_mem (v := v)).2; omega)
      simpa [recB] using this
    · rw [if_neg hf]; exact Ev.neg (by simpa using hf) (Ev.ret _)
end Go.Dvm.I
