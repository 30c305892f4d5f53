/- Plain laws of the functions. -/
import Derived.Test.YtnmceljcgioomaaQpPuS
set_option linter.all false
set_option maxRecDepth 100000
namespace Go.Dvm.I
open Go Go.Dvm

theorem getN_inv {l : List Int} (hb : isB l) (h : (getN l).2 ≠ 0) : l.take (getN l).2.toNat = put (getN l).1 := by
  unfold getN at h ⊢
  cases e : rd 0 l with
  | none => simp [e] at h
  | some p =>
    simp only [e] at h ⊢
    split
    · rename_i h2; rw [if_pos h2] at h; simp at h
    · rename_i h2
      have := (rd_inv hb (show rd 0 l = some (p.1, p.2) from e)).1
      simp only [Int.toNat_natCast]
      rw [this, put_ok (by omega) (by omega), Int.toNat_natCast]
theorem getS_inv {l : List Int} (hb : isB l) (h : (getS l).2 ≠ 0) : l.take (getS l).2.toNat = putS (getS l).1 := by
  unfold getS at h ⊢
  cases e : rd 0 l with
  | none => simp [e] at h
  | some p =>
    have := (rd_inv hb (show rd 0 l = some (p.1, p.2) from e)).1
    simp only [Int.toNat_natCast]
    rw [this, putS, zig_zag]
theorem getO_inv {l : List Int} (hb : isB l) (h : (getO l).2 ≠ 0) : l.take (getO l).2.toNat = opB (getO l).1 := by
  have hx := getN_len (l := l)
  simp only [getO] at h ⊢
  split
  · rename_i h2
    obtain ⟨x0, y0, z0, ho⟩ := h2
    have ix := getN_inv hb (by omega)
    have iy := getS_inv (isB_dr hb (getN l).2.toNat) (by omega)
    have iz := getS_inv (isB_dr (isB_dr hb (getN l).2.toNat) (getS (l.drop (getN l).2.toNat)).2.toNat) (by omega)
    simp only
    rw [show ((getN l).2 + (getS (l.drop (getN l).2.toNat)).2 + (getS ((l.drop (getN l).2.toNat).drop (getS (l.drop (getN l).2.toNat)).2.toNat)).2).toNat = (getN l).2.toNat + ((getS (l.drop (getN l).2.toNat)).2.toNat + (getS ((l.drop (getN l).2.toNat).drop (getS (l.drop (getN l).2.toNat)).2.toNat)).2.toNat) by omega]
    rw [List.take_add, List.take_add, ix, iy, iz]; rfl
  · rename_i h2; rw [if_neg h2] at h; simp at h
theorem rdVal_inv {f : Int} {r0 : S_api_Record} {b : List Int} (hb : isB b) (h : (rdVal f r0 b).2 ≠ 0) : b.take (rdVal f r0 b).2.toNat = valB f (rdVal f r0 b).1 := by
  unfold rdVal at h ⊢
  unfold valB
  by_cases e1 : f = 1
  · simp only [if_pos e1] at h ⊢; exact getN_inv hb h
  · simp only [if_neg e1] at h ⊢
    by_cases e2 : f = 2
    · simp only [if_pos e2] at h ⊢; exact getN_inv hb h
    · simp only [if_neg e2] at h ⊢
      by_cases e3 : f = 3
      · simp only [if_pos e3] at h ⊢; exact getN_inv hb h
      · simp only [if_neg e3] at h ⊢
        by_cases e4 : f = 4
        · simp only [if_pos e4] at h ⊢; exact getO_inv hb h
        · simp only [if_neg e4] at h ⊢; exact getS_inv hb h
theorem rdVal_else {f g : Int} {r0 : S_api_Record} {b : List Int} (hg : g ≠ f) (f1 : 1 ≤ f) (f5 : f ≤ 5) (g1 : 1 ≤ g) (g5 : g ≤ 5) : valB g (rdVal f r0 b).1 = valB g r0 := by
  have hf : f = 1 ∨ f = 2 ∨ f = 3 ∨ f = 4 ∨ f = 5 := by omega
  have hg' : g = 1 ∨ g = 2 ∨ g = 3 ∨ g = 4 ∨ g = 5 := by omega
  rcases hf with rfl | rfl | rfl | rfl | rfl <;> rcases hg' with rfl | rfl | rfl | rfl | rfl <;> first | exact absurd rfl hg | simp [rdVal, valB]
theorem rdR_stuck {v : Int} : ∀ (k : Nat) (b : List Int) (last : Int) (r : S_api_Record) (l : List Int), (∃ h ∈ l, h ≤ last) → (rdR v k b last r l).2 ≠ 0
  | 0, b, last, r, l, h => by simp [rdR]
  | k + 1, b, last, r, l, ⟨h, hm, hl⟩ => by
    have hlen : l.length ≠ 0 := by intro e; rw [List.eq_nil_of_length_eq_zero e] at hm; simp at hm
    simp only [rdR]
    split
    · first | (rw [if_neg hlen]; simp) | simp
    · split
      · simp
      · rename_i h1
        have hlt : last < (getN b).1 := by omega
        split
        · split
          · simp
          · exact rdR_stuck k _ _ _ _ ⟨h, (List.mem_erase_of_ne (by omega)).2 hm, by omega⟩
        · split
          · simp
          · split
            · simp
            · exact rdR_stuck k _ _ _ _ ⟨h, hm, by omega⟩
theorem rdR_fits {v : Int} : ∀ (k : Nat) (b : List Int) (last : Int) (r0 : S_api_Record) (l : List Int), (rdR v k b last r0 l).2 = 0 → FitsR (rdR v k b last r0 l).1
  | 0, b, last, r, l, h => by simp [rdR] at h
  | k + 1, b, last, r, l, h => by
    simp only [rdR] at h ⊢
    split
    · rename_i h0
      rw [if_pos h0] at h
      split
      · rename_i h1
        rw [if_pos h1] at h
        split
        · assumption
        · rename_i h2; rw [if_neg h2] at h; simp at h
      · rename_i h1; rw [if_neg h1] at h; simp at h
    · rename_i h0
      rw [if_neg h0] at h
      split
      · rename_i h1; rw [if_pos h1] at h; simp at h
      · rename_i h1
        rw [if_neg h1] at h
        split
        · rename_i h2
          rw [if_pos h2] at h
          split
          · rename_i h3; rw [if_pos h3] at h; simp at h
          · rename_i h3; rw [if_neg h3] at h; exact rdR_fits k _ _ _ _ h
        · rename_i h2
          rw [if_neg h2] at h
          split
          · rename_i h3; rw [if_pos h3] at h; simp at h
          · rename_i h3
            rw [if_neg h3] at h
            split
            · rename_i h4; rw [if_pos h4] at h; simp at h
            · rename_i h4; rw [if_neg h4] at h; exact rdR_fits k _ _ _ _ h
theorem rdR_once : ∀ (k : Nat) (b : List Int) (last : Int) (r0 : S_api_Record) (l : List Int), isB b → l.Pairwise (· < ·) → (∀ f ∈ l, 1 ≤ f ∧ f ≤ 5 ∧ last < f) → (rdR 3 k b last r0 l).2 = 0 →
    b = fieldsB (rdR 3 k b last r0 l).1 l ∧ ∀ f, 1 ≤ f → f ≤ 5 → f ∉ l → valB f (rdR 3 k b last r0 l).1 = valB f r0
  | 0, b, last, r0, l, hb, hp, hl, h => by simp [rdR] at h
  | k + 1, b, last, r0, l, hb, hp, hl, h => by
    simp only [rdR] at h ⊢
    by_cases h0 : b.length = 0
    · rw [if_pos h0] at h ⊢
      by_cases h1 : l.length = 0
      · rw [if_pos h1] at h ⊢
        by_cases h2 : FitsR r0
        · rw [if_pos h2] at h ⊢
          rw [List.eq_nil_of_length_eq_zero h0, List.eq_nil_of_length_eq_zero h1]
          exact ⟨rfl, fun _ _ _ _ => rfl⟩
        · rw [if_neg h2] at h; simp at h
      · rw [if_neg h1] at h; simp at h
    · rw [if_neg h0] at h ⊢
      by_cases h1 : (getN b).2 = 0 ∨ (getN b).1 ≤ last
      · rw [if_pos h1] at h; simp at h
      · rw [if_neg h1] at h ⊢
        by_cases h2 : (getN b).1 ∈ l
        · rw [if_pos h2] at h ⊢
          by_cases h3 : (rdVal (getN b).1 r0 (b.drop (getN b).2.toNat)).2 = 0
          · rw [if_pos h3] at h; simp at h
          · rw [if_neg h3] at h ⊢
            cases l with
            | nil => simp at h2
            | cons g l =>
              rw [List.pairwise_cons] at hp
              by_cases hg : (getN b).1 = g
              · have i1 := getN_inv hb (show (getN b).2 ≠ 0 from fun e => h1 (.inl e))
                have i2 := rdVal_inv (isB_dr hb _) h3
                have hgl := hl g List.mem_cons_self
                rw [hg] at h h3 i1 i2 ⊢
                rw [List.erase_cons_head] at h ⊢
                generalize hB : b.drop (getN b).2.toNat = B at *
                generalize hR : rdVal g r0 B = R at *
                have ih := rdR_once k (B.drop R.2.toNat) g R.1 l (isB_dr (hB ▸ isB_dr hb _) _) hp.2 (fun f hf => ⟨(hl f (List.mem_cons_of_mem _ hf)).1, (hl f (List.mem_cons_of_mem _ hf)).2.1, hp.1 f hf⟩) h
                have hgn : g ∉ l := fun hm => by have := hp.1 g hm; omega
                refine ⟨?_, fun f f1 f5 hf => ?_⟩
                · simp only [fieldsB]
                  rw [ih.2 g hgl.1 hgl.2.1 hgn, ← i2, ← i1, List.append_assoc]
                  rw [← ih.1, List.take_append_drop, ← hB, List.take_append_drop]
                · rw [List.mem_cons, not_or] at hf
                  rw [ih.2 f f1 f5 hf.2, ← hR]
                  exact rdVal_else hf.1 hgl.1 hgl.2.1 f1 f5
              · exfalso
                have hgm : (getN b).1 ∈ l := by
                  rcases List.mem_cons.1 h2 with e | e
                  · exact absurd e hg
                  · exact e
                exact rdR_stuck k _ _ _ _ ⟨g, (List.mem_erase_of_ne (fun e => hg e.symm)).2 List.mem_cons_self, by have := hp.1 _ hgm; omega⟩ h
        · rw [if_neg h2] at h
          rw [if_pos (.inr trivial)] at h; simp at h
theorem decR_no {b : List Int} (h : (decR b).2 ≠ 0) : (decR b).1 = noR := by
  unfold decR at h ⊢
  split
  · rfl
  · split
    · rfl
    · split
      · rfl
      · split
        · rename_i h1 h2 h3 h4; rw [if_neg h1, if_neg h2, if_neg h3, if_pos h4] at h; simp at h
        · rfl
theorem decR_fits {b : List Int} (h : (decR b).2 = 0) : FitsR (decR b).1 := by
  unfold decR at h ⊢
  split
  · rename_i h1; rw [if_pos h1] at h; simp at h
  · rename_i h1
    rw [if_neg h1] at h
    split
    · rename_i h2; rw [if_pos h2] at h; simp at h
    · rename_i h2
      rw [if_neg h2] at h
      split
      · rename_i h3; rw [if_pos h3] at h; simp at h
      · rename_i h3
        rw [if_neg h3] at h
        split
        · rename_i h4; exact rdR_fits _ _ _ _ _ h4
        · rename_i h4; rw [if_neg h4] at h; exact absurd h h4
theorem decR_once {l : List Int} (hb : isB (3 :: l)) (h : (decR (3 :: l)).2 = 0) : recB 3 (decR (3 :: l)).1 = 3 :: l := by
  have e1 : getN (3 :: l) = (3, 1) := by
    have := getN_put (n := 3) (x := l) (by omega) (by omega)
    rw [put1 (by omega) (by omega)] at this
    simpa using this
  unfold decR at h ⊢
  simp only [e1, show (1 : Int).toNat = 1 from rfl, show (3 :: l).drop 1 = l from rfl] at h ⊢
  rw [if_neg (by simp), if_neg (by omega), if_neg (by omega)] at h ⊢
  by_cases h4 : (rdR 3 ((3 :: l).length + 1) l (-1) noR (fieldsOf 3)).2 = 0
  · rw [if_pos h4]
    have := (rdR_once _ l (-1) noR (fieldsOf 3) (isB_dr hb 1) fieldsOf_sorted.1 fieldsOf_sorted.2 h4).1
    simp only
    unfold recB
    rw [← this, put1 (by omega) (by omega)]; rfl
  · rw [if_neg h4] at h; exact absurd h h4
theorem ferrymanlaw06_SchemaOnce_true : ∀ (a0 : Sl Int), okSl (fun x => inR .u8 x) a0 → ∃ q, ferrymanlaw06_SchemaOnce q a0 = some true := by
  intro s hs
  have hb := isB_of hs
  apply Ev.get
  refine Ev.succ (Ev.bind awake06_ev (Ev.ite (fun _ => Ev.ret _) fun hl => Ev.bind (schema_Decode_ev s hb (by omega)) ?_)) (fun q => rfl)
  refine Ev.ite (fun h => ?_) fun h => Ev.pos rfl (Ev.ret' ?_)
  · have hf := decR_fits h
    have he := schema_Encode_ev 3 (decR s.l).1
    rw [if_neg (by omega), if_pos hf] at he
    refine Ev.bind he (Ev.pos rfl (Ev.pos rfl (Ev.bind (schema_Fits_ev _) (Ev.pos (by simpa using hf) ?_))))
    obtain ⟨z, l⟩ := s
    cases l with
    | nil => rw [decR_nil] at h; simp at h
    | cons c l =>
      refine Ev.opt (s := c) rfl (Ev.ite (fun hc => Ev.ret' ?_) fun _ => Ev.ret _)
      subst hc
      simpa using decR_once hb h
  · rw [decR_no h]; simp [noR]
end Go.Dvm.I
