/- Plain laws of the functions. -/
import Derived.Test.YtnmceljcgioomaaQpPuP
set_option linter.all false
set_option maxRecDepth 100000
namespace Go.Dvm.I
open Go Go.Dvm

theorem idxI_shift (x : Int) : ∀ (l : List Int) (i : Nat), x ∈ l → idxI x l i = (i : Int) + idxI x l 0 ∧ idxI x l i < i + l.length
  | [], i, h => by simp at h
  | a :: l, i, h => by
    simp only [idxI]
    by_cases e : x = a
    · rw [if_pos e, if_pos e]; simp; omega
    · rw [if_neg e, if_neg e]
      have hm : x ∈ l := by
        rcases List.mem_cons.1 h with h | h
        · exact absurd h e
        · exact h
      have h1 := idxI_shift x l (i + 1) hm
      have h2 := idxI_shift x l (0 + 1) hm
      simp only [List.length_cons]
      omega
theorem idxI_erase (x : Int) : ∀ (l : List Int), x ∈ l → l.eraseIdx (idxI x l 0).toNat = l.erase x
  | [], h => by simp at h
  | a :: l, h => by
    simp only [idxI]
    by_cases e : x = a
    · rw [if_pos e]; subst e; simp
    · rw [if_neg e]
      have hm : x ∈ l := by
        rcases List.mem_cons.1 h with h | h
        · exact absurd h e
        · exact h
      have h2 := idxI_shift x l (0 + 1) hm
      have h3 := (idxI_nn (x := x) (l := l) (i := 0)).2 hm
      rw [show (idxI x l (0 + 1)).toNat = (idxI x l 0).toNat + 1 by omega, List.eraseIdx_cons_succ, idxI_erase x l hm, List.erase_cons_tail (by simpa using fun h => e h.symm)]

/-- A field's value, taken into a record. -/
def rdVal (f : Int) (r : S_api_Record) (b : List Int) : S_api_Record × Int :=
  if f = 1 then (⟨(getN b).1, r.Proc, r.Seq, r.Op, r.Resp⟩, (getN b).2)
  else if f = 2 then (⟨r.Index, (getN b).1, r.Seq, r.Op, r.Resp⟩, (getN b).2)
  else if f = 3 then (⟨r.Index, r.Proc, (getN b).1, r.Op, r.Resp⟩, (getN b).2)
  else if f = 4 then (⟨r.Index, r.Proc, r.Seq, (getO b).1, r.Resp⟩, (getO b).2)
  else (⟨r.Index, r.Proc, r.Seq, r.Op, (getS b).1⟩, (getS b).2)
theorem rdVal_len (f : Int) (r : S_api_Record) (b : List Int) : 0 ≤ (rdVal f r b).2 ∧ (rdVal f r b).2 ≤ b.length := by
  have h1 := getN_len (l := b)
  have h2 := getO_len (l := b)
  have h3 := getS_len (l := b)
  unfold rdVal
  split
  · exact ⟨h1.1, h1.2.1⟩
  · split
    · exact ⟨h1.1, h1.2.1⟩
    · split
      · exact ⟨h1.1, h1.2.1⟩
      · split
        · exact ⟨h2.1, h2.2.1⟩
        · exact ⟨h3.1, h3.2.1⟩

/-- The fields of bytes. -/
def rdR (v : Int) : Nat → List Int → Int → S_api_Record → List Int → S_api_Record × Int
  | 0, _, _, r, _ => (r, 3)
  | k + 1, b, last, r, l =>
    if b.length = 0 then (if l.length = 0 then (if FitsR r then (r, 0) else (r, 1)) else (r, 7))
    else if (getN b).2 = 0 ∨ (getN b).1 ≤ last then (r, 3)
    else if (getN b).1 ∈ l then
      (if (rdVal (getN b).1 r (b.drop (getN b).2.toNat)).2 = 0 then ((rdVal (getN b).1 r (b.drop (getN b).2.toNat)).1, 3)
      else rdR v k ((b.drop (getN b).2.toNat).drop (rdVal (getN b).1 r (b.drop (getN b).2.toNat)).2.toNat) (getN b).1 (rdVal (getN b).1 r (b.drop (getN b).2.toNat)).1 (l.erase (getN b).1))
    else if (getN b).1 < 16 ∨ v = 3 then (r, 7)
    else if passN (b.drop (getN b).2.toNat) = 0 then (r, 3)
    else rdR v k ((b.drop (getN b).2.toNat).drop (passN (b.drop (getN b).2.toNat)).toNat) (getN b).1 r l

theorem schema_read_l0_ev (v : Int) (z : Bool) : ∀ (k : Nat) (b : List Int) (last : Int) (r : S_api_Record) (l : List Int), b.length < k → isB b → b.length ≤ 4294967296 → l.length ≤ 1000000 → (∀ f ∈ l, 1 ≤ f ∧ f ≤ 5) →
    Ev (fun q => schema_read_l0 q v z b last r.Index r.Proc r.Seq r.Op.Code r.Op.A r.Op.B r.Resp false l true) (rdR v k b last r l)
  | 0, b, last, r, l, hk, hb, hl, hll, hf => by omega
  | k + 1, b, last, r, l, hk, hb, hl, hll, hf => by
    refine Ev.succ ?_ (fun q => rfl)
    simp only [rdR]
    refine Ev.ite (fun h0 => ?_) fun h0 => ?_
    · rw [if_neg (by omega)]
      have hg := getN_len (l := b)
      refine Ev.bind (num_Get_ev ⟨z, b⟩ hb) ?_
      have hb1 := isB_dr hb (getN b).2.toNat
      have hl1 : (b.drop (getN b).2.toNat).length = b.length - (getN b).2.toNat := by simp
      refine Ev.ite (fun h1 => ?_) fun h1 => Ev.ite (fun h2 => ?_) fun h2 => Ev.pos hg.1 (Ev.pos hg.2.1 (Ev.bind (slices_Index_ev ⟨false, l⟩ (getN b).1 hll) ?_))
      · rw [if_pos (.inl h1)]; exact Ev.ret _
      · rw [if_pos (.inr h2)]; exact Ev.ret _
      · rw [if_neg (by rintro (h | h) <;> contradiction)]
        dsimp only at h1 h2 ⊢
        refine Ev.ite (fun h3 => ?_) fun h3 => ?_
        · have hm := (idxI_nn (x := (getN b).1)).1 h3
          have hsh := idxI_shift (getN b).1 l 0 hm
          have hfm := hf _ hm
          rw [if_pos hm, show wrp .i64 (idxI (getN b).1 l 0 + 1) = idxI (getN b).1 l 0 + 1 from wrp_i64 (by omega) (by omega)]
          refine Ev.bind (Delete_ev h3 (by omega) hll) ?_
          rw [idxI_erase _ _ hm]
          have hle := List.length_erase_le (a := (getN b).1) (l := l)
          have hfe : ∀ f ∈ l.erase (getN b).1, 1 ≤ f ∧ f ≤ 5 := fun f h => hf f (List.mem_of_mem_erase h)
          generalize l.erase (getN b).1 = l' at *
          generalize hB : b.drop (getN b).2.toNat = B at *
          have hB2 : B.length < k := by omega
          refine Ev.ite (fun e => ?_) fun e => Ev.ite (fun e2 => ?_) fun e2 => Ev.ite (fun e3 => ?_) fun e3 => Ev.ite (fun e4 => ?_) fun e4 => Ev.pos (by omega) ?_
          · have hx := getN_len (l := B)
            have hr : rdVal (getN b).1 r B = (⟨(getN B).1, r.Proc, r.Seq, r.Op, r.Resp⟩, (getN B).2) := by rw [rdVal, if_pos e]
            rw [hr]
            refine Ev.bind (num_Get_ev ⟨z, B⟩ hb1) (Ev.ite (fun h => ?_) fun h => Ev.pos hx.1 (Ev.pos (by simp only [hl1] at hx ⊢; omega) ?_))
            · rw [if_pos h]; exact Ev.ret _
            · rw [if_neg h]; exact schema_read_l0_ev v z k (B.drop (getN B).2.toNat) (getN b).1 ⟨(getN B).1, r.Proc, r.Seq, r.Op, r.Resp⟩ l' (by simp; omega) (isB_dr hb1 _) (by simp; omega) (by omega) hfe
          · have hx := getN_len (l := B)
            have hr : rdVal (getN b).1 r B = (⟨r.Index, (getN B).1, r.Seq, r.Op, r.Resp⟩, (getN B).2) := by rw [rdVal, if_neg e, if_pos e2]
            rw [hr]
            refine Ev.bind (num_Get_ev ⟨z, B⟩ hb1) (Ev.ite (fun h => ?_) fun h => Ev.pos hx.1 (Ev.pos (by simp only [hl1] at hx ⊢; omega) ?_))
            · rw [if_pos h]; exact Ev.ret _
            · rw [if_neg h]; exact schema_read_l0_ev v z k (B.drop (getN B).2.toNat) (getN b).1 ⟨r.Index, (getN B).1, r.Seq, r.Op, r.Resp⟩ l' (by simp; omega) (isB_dr hb1 _) (by simp; omega) (by omega) hfe
          · have hx := getN_len (l := B)
            have hr : rdVal (getN b).1 r B = (⟨r.Index, r.Proc, (getN B).1, r.Op, r.Resp⟩, (getN B).2) := by rw [rdVal, if_neg e, if_neg e2, if_pos e3]
            rw [hr]
            refine Ev.bind (num_Get_ev ⟨z, B⟩ hb1) (Ev.ite (fun h => ?_) fun h => Ev.pos hx.1 (Ev.pos (by simp only [hl1] at hx ⊢; omega) ?_))
            · rw [if_pos h]; exact Ev.ret _
            · rw [if_neg h]; exact schema_read_l0_ev v z k (B.drop (getN B).2.toNat) (getN b).1 ⟨r.Index, r.Proc, (getN B).1, r.Op, r.Resp⟩ l' (by simp; omega) (isB_dr hb1 _) (by simp; omega) (by omega) hfe
          · have hx := getO_len (l := B)
            have hr : rdVal (getN b).1 r B = (⟨r.Index, r.Proc, r.Seq, (getO B).1, r.Resp⟩, (getO B).2) := by rw [rdVal, if_neg e, if_neg e2, if_neg e3, if_pos e4]
            rw [hr]
            refine Ev.bind (codec_GetOp_ev ⟨z, B⟩ hb1 (by simp only; omega)) (Ev.ite (fun h => ?_) fun h => Ev.pos hx.1 (Ev.pos (by simp only [hl1] at hx ⊢; omega) ?_))
            · rw [if_pos h]; exact Ev.ret _
            · rw [if_neg h]; exact schema_read_l0_ev v z k (B.drop (getO B).2.toNat) (getN b).1 ⟨r.Index, r.Proc, r.Seq, (getO B).1, r.Resp⟩ l' (by simp; omega) (isB_dr hb1 _) (by simp; omega) (by omega) hfe
          · have hx := getS_len (l := B)
            have hr : rdVal (getN b).1 r B = (⟨r.Index, r.Proc, r.Seq, r.Op, (getS B).1⟩, (getS B).2) := by rw [rdVal, if_neg e, if_neg e2, if_neg e3, if_neg e4]
            rw [hr]
            refine Ev.bind (num_GetSigned_ev ⟨z, B⟩ hb1) (Ev.ite (fun h => ?_) fun h => Ev.pos hx.1 (Ev.pos (by simp only [hl1] at hx ⊢; omega) ?_))
            · rw [if_pos h]; exact Ev.ret _
            · rw [if_neg h]; exact schema_read_l0_ev v z k (B.drop (getS B).2.toNat) (getN b).1 ⟨r.Index, r.Proc, r.Seq, r.Op, (getS B).1⟩ l' (by simp; omega) (isB_dr hb1 _) (by simp; omega) (by omega) hfe
        · have hm : ¬ (getN b).1 ∈ l := fun h => h3 (idxI_nn.2 h)
          rw [if_neg hm]
          generalize hB : b.drop (getN b).2.toNat = B at *
          have hx := passN_len (l := B)
          refine Ev.ite (fun e => ?_) fun e => Ev.ite (fun e2 => ?_) fun e2 => Ev.bind (schema_pass_ev ⟨z, B⟩ hb1 (by simp only; omega)) (Ev.ite (fun h => ?_) fun h => Ev.pos hx.1 (Ev.pos (by dsimp only; omega) ?_))
          · rw [if_pos (.inl e)]; exact Ev.ret _
          · rw [if_pos (.inr e2)]; exact Ev.ret _
          · rw [if_neg (by rintro (h | h) <;> contradiction), if_pos h]; exact Ev.ret _
          · rw [if_neg (by rintro (h | h) <;> contradiction), if_neg h]
            exact schema_read_l0_ev v z k (B.drop (passN B).toNat) (getN b).1 r l (by simp; omega) (isB_dr hb1 _) (by simp; omega) hll hf
    · rw [if_pos (by omega)]
      refine Ev.ite (fun h1 => ?_) fun h1 => Ev.bind (schema_Fits_ev r) ?_
      · rw [if_neg (by omega)]; exact Ev.ret _
      · rw [if_pos (show l.length = 0 by omega)]
        refine Ev.ite (fun h => ?_) fun h => ?_
        · rw [if_pos (by simpa using h)]; exact Ev.ret _
        · rw [if_neg (by simpa using h)]; exact Ev.ret _

/-- The record of bytes. -/
def decR (b : List Int) : S_api_Record × Int :=
  if b.length = 0 then (noR, 2) else if (getN b).2 = 0 then (noR, 3) else if (getN b).1 < 1 ∨ 3 < (getN b).1 then (noR, 6)
  else if (rdR (getN b).1 (b.length + 1) (b.drop (getN b).2.toNat) (-1) noR (fieldsOf (getN b).1)).2 = 0 then ((rdR (getN b).1 (b.length + 1) (b.drop (getN b).2.toNat) (-1) noR (fieldsOf (getN b).1)).1, 0)
  else (noR, (rdR (getN b).1 (b.length + 1) (b.drop (getN b).2.toNat) (-1) noR (fieldsOf (getN b).1)).2)
theorem schema_Decode_ev (s : Sl Int) (hb : isB s.l) (hl : s.l.length ≤ 4294967296) : Ev (fun q => schema_Decode q s) (decR s.l) := by
  refine Ev.succ ?_ (fun q => rfl)
  unfold decR
  refine Ev.ite (fun h => ?_) fun h => ?_
  · rw [if_pos (by omega)]; exact Ev.ret _
  · rw [if_neg (by omega)]
    have hg := getN_len (l := s.l)
    refine Ev.bind (num_Get_ev s hb) (Ev.ite (fun h1 => ?_) fun h1 => ?_)
    · rw [if_pos h1]; exact Ev.ret _
    · rw [if_neg h1]
      by_cases hv : (getN s.l).1 < 1 ∨ 3 < (getN s.l).1
      · rw [if_pos hv]; exact Ev.bind (schema_fields_no hv) (Ev.pos rfl (Ev.ret _))
      · rw [if_neg hv]
        have hm := fieldsOf_mem (v := (getN s.l).1)
        refine Ev.bind (schema_fields_ev (by omega) (by omega)) (Ev.neg (by simp) (Ev.pos hg.1 (Ev.pos hg.2.1 ?_)))
        have hr : Ev (fun q => schema_read q (getN s.l).1 ⟨s.z, s.l.drop (getN s.l).2.toNat⟩) (rdR (getN s.l).1 (s.l.length + 1) (s.l.drop (getN s.l).2.toNat) (-1) noR (fieldsOf (getN s.l).1)) := by
          refine Ev.succ (Ev.bind (schema_fields_ev (by omega) (by omega)) (Ev.bind (Clone_int_ev ⟨false, fieldsOf (getN s.l).1⟩ rfl (by simp only; omega)) ?_)) (fun q => rfl)
          exact schema_read_l0_ev (getN s.l).1 s.z (s.l.length + 1) (s.l.drop (getN s.l).2.toNat) (-1) noR (fieldsOf (getN s.l).1) (by simp; omega) (isB_dr hb _) (by simp; omega) (by omega) hm.1
        refine Ev.bind hr (Ev.ite (fun h => ?_) fun h => ?_)
        · rw [if_pos h]; exact Ev.ret _
        · rw [if_neg h]; exact Ev.ret _
end Go.Dvm.I
