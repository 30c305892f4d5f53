/- Plain laws of the functions. -/
import Derived.Test.YtnmceljcgioomaaQpPuR
set_option linter.all false
set_option maxRecDepth 100000
namespace Go.Dvm.I
open Go Go.Dvm

/-! What was cut is refused. -/
theorem rd_cut : ∀ (n i : Nat) (y w : List Int), grp n = y ++ w → w ≠ [] → rd i y = none := by
  intro n
  induction n using Nat.strongRecOn with
  | ind n ih =>
    intro i y w h hw
    by_cases hn : n < 128
    · rw [grp_lt hn] at h
      cases y with
      | nil => rfl
      | cons c y =>
        simp only [List.cons_append, List.cons.injEq] at h
        have := h.2.symm
        simp at this
        exact absurd this.2 hw
    · rw [grp_ge hn] at h
      cases y with
      | nil => rfl
      | cons c y =>
        simp only [List.cons_append, List.cons.injEq] at h
        obtain ⟨h1, h2⟩ := h
        simp only [rd]
        split
        · rfl
        · split
          · rfl
          · split
            · rfl
            · rw [if_neg (by omega), ih (n / 128) (by omega) (i + 1) y w h2 hw]; rfl
theorem getN_cut {n : Int} {y w : List Int} (h1 : 0 ≤ n) (h2 : n < 4611686018427387904) (h : put n = y ++ w) (hw : w ≠ []) : getN y = (0, 0) := by
  rw [put_ok h1 h2] at h
  unfold getN; rw [rd_cut _ 0 y w h hw]
theorem getS_cut {n : Int} {y w : List Int} (h : putS n = y ++ w) (hw : w ≠ []) : getS y = (0, 0) := by
  unfold getS; rw [rd_cut _ 0 y w h hw]
theorem split2 {a b y w : List Int} (h : a ++ b = y ++ w) : (∃ c, c ≠ [] ∧ a = y ++ c) ∨ (∃ y', y = a ++ y' ∧ b = y' ++ w) := by
  rcases List.append_eq_append_iff.1 h with ⟨c, h1, h2⟩ | ⟨c, h1, h2⟩
  · exact .inr ⟨c, h1, h2⟩
  · by_cases hc : c = []
    · subst hc; exact .inr ⟨[], by simpa using h1.symm, by simpa using h2.symm⟩
    · exact .inl ⟨c, hc, h1⟩
theorem getO_cut {o : S_api_Op} {y w : List Int} (ho : fitsOp o = true) (h : opB o = y ++ w) (hw : w ≠ []) : (getO y).2 = 0 := by
  obtain ⟨c1, c2, ⟨a1, a2⟩, b1, b2⟩ := fitsOp_iff.1 ho
  unfold opB at h
  rcases split2 h with ⟨c, hc, e⟩ | ⟨y1, rfl, h'⟩
  · have := getN_cut c1 (by omega) e hc
    simp only [getO, this]
    rw [if_neg (by omega)]
  · have e1 := getN_put (n := o.Code) (x := y1) c1 (by omega)
    have d1 : (put o.Code ++ y1).drop (put o.Code).length = y1 := List.drop_left' rfl
    rcases split2 h' with ⟨c, hc, e⟩ | ⟨y2, rfl, h''⟩
    · have := getS_cut e hc
      simp only [getO, e1, Int.toNat_natCast, d1, this]
      rw [if_neg (by omega)]
    · have hA : inR .i64 o.A := inR_i64 (by omega) (by omega)
      have e2 := getS_putS (x := y2) hA
      have d2 : (putS o.A ++ y2).drop (putS o.A).length = y2 := List.drop_left' rfl
      have := getS_cut h'' hw
      simp only [getO, e1, Int.toNat_natCast, d1, e2, d2, this]
      rw [if_neg (by omega)]
theorem rdVal_cut {f : Int} {r r0 : S_api_Record} {y w : List Int} (hr : FitsR r) (h : valB f r = y ++ w) (hw : w ≠ []) : (rdVal f r0 y).2 = 0 := by
  obtain ⟨h1, h2, h3, h4, h5, h6, h7, h8, h9⟩ := hr
  unfold valB at h
  unfold rdVal
  by_cases e1 : f = 1
  · rw [if_pos e1] at h ⊢; simp only [getN_cut h1 h2 h hw]
  · rw [if_neg e1] at h ⊢
    by_cases e2 : f = 2
    · rw [if_pos e2] at h ⊢; simp only [getN_cut h3 (by omega) h hw]
    · rw [if_neg e2] at h ⊢
      by_cases e3 : f = 3
      · rw [if_pos e3] at h ⊢; simp only [getN_cut h5 h6 h hw]
      · rw [if_neg e3] at h ⊢
        by_cases e4 : f = 4
        · rw [if_pos e4] at h ⊢; exact getO_cut h7 h hw
        · rw [if_neg e4] at h ⊢; simp only [getS_cut h hw]
theorem rdR_cut {v : Int} {r : S_api_Record} (hr : FitsR r) : ∀ (L : List Int) (k : Nat) (y w : List Int) (last : Int) (r0 : S_api_Record), (∀ f ∈ L, 1 ≤ f ∧ f ≤ 5 ∧ last < f) → L.Pairwise (· < ·) → fieldsB r L = y ++ w → w ≠ [] → y.length < k → (rdR v k y last r0 L).2 ≠ 0
  | [], k, y, w, last, r0, hL, hp, h, hw, hk => by
    simp [fieldsB] at h
    exact absurd h.2 hw
  | f :: L, 0, y, w, last, r0, hL, hp, h, hw, hk => by omega
  | f :: L, k + 1, y, w, last, r0, hL, hp, h, hw, hk => by
    obtain ⟨f1, f5, fl⟩ := hL f List.mem_cons_self
    have pf : put f = [f] := put1 (by omega) (by omega)
    simp only [fieldsB] at h
    rw [List.append_assoc] at h
    rcases split2 h with ⟨c, hc, e⟩ | ⟨y1, rfl, h'⟩
    · have hy : y = [] := by
        rw [pf] at e
        cases y with
        | nil => rfl
        | cons a y =>
          simp only [List.cons_append, List.cons.injEq] at e
          have := e.2.symm
          simp at this
          exact absurd this.2 hc
      subst hy
      simp [rdR]
    · rcases split2 h' with ⟨c, hc, e⟩ | ⟨y2, rfl, h''⟩
      · have e1 := getN_put (n := f) (x := y1) (by omega) (by omega)
        have d1 : (put f ++ y1).drop (put f).length = y1 := List.drop_left' rfl
        have p1 : (put f).length = 1 := by rw [pf]; rfl
        simp only [rdR, e1, Int.toNat_natCast, d1, rdVal_cut hr e hc]
        rw [if_neg (by simp only [List.length_append]; omega), if_neg (by omega), if_pos List.mem_cons_self, if_pos trivial]
        simp
      · have := rdR_step (v := v) (k := k) (r0 := r0) (x := y2) (last := last) (l := f :: L) hr f1 f5 fl List.mem_cons_self
        rw [List.append_assoc] at this
        rw [this, List.erase_cons_head]
        rw [List.pairwise_cons] at hp
        refine rdR_cut hr L k y2 w f _ (fun g hg => ?_) hp.2 h'' hw ?_
        · have := hL g (List.mem_cons_of_mem _ hg)
          exact ⟨this.1, this.2.1, hp.1 g hg⟩
        · have p1 : (put f).length = 1 := by rw [pf]; rfl
          simp only [List.length_append] at hk; omega
theorem fieldsOf_sorted {v : Int} : (fieldsOf v).Pairwise (· < ·) ∧ ∀ f ∈ fieldsOf v, 1 ≤ f ∧ f ≤ 5 ∧ -1 < f := by
  unfold fieldsOf
  split
  · decide
  · split <;> decide
theorem decR_cut {v : Int} {r : S_api_Record} {y w : List Int} (h1 : 1 ≤ v) (h3 : v ≤ 3) (hr : FitsR r) (h : recB v r = y ++ w) (hw : w ≠ []) : (decR y).2 ≠ 0 := by
  have pv : put v = [v] := put1 (by omega) (by omega)
  unfold recB at h
  rcases split2 h with ⟨c, hc, e⟩ | ⟨y1, rfl, h'⟩
  · have hy : y = [] := by
      rw [pv] at e
      cases y with
      | nil => rfl
      | cons a y =>
        simp only [List.cons_append, List.cons.injEq] at e
        have := e.2.symm
        simp at this
        exact absurd this.2 hc
    subst hy
    simp [decR]
  · have e1 := getN_put (n := v) (x := y1) (by omega) (by omega)
    have d1 : (put v ++ y1).drop (put v).length = y1 := List.drop_left' rfl
    have p1 : (put v).length = 1 := by rw [pv]; rfl
    have hc := rdR_cut (v := v) hr (fieldsOf v) ((put v ++ y1).length + 1) y1 w (-1) noR fieldsOf_sorted.2 fieldsOf_sorted.1 h' hw (by simp only [List.length_append]; omega)
    unfold decR
    simp only [e1, Int.toNat_natCast, d1]
    rw [if_neg (by simp only [List.length_append]; omega), if_neg (by omega), if_neg (by omega), if_neg hc]
    exact hc
/-- Version 3 has nothing behind it. -/
theorem decR_more {r : S_api_Record} {x : List Int} (hr : FitsR r) (hx : x ≠ []) : (decR (recB 3 r ++ x)).2 ≠ 0 := by
  rw [decR_rec (by omega) (by omega) hr]
  have hl : x.length ≠ 0 := by simpa using hx
  have : (rdR 3 (x.length + 1) x (lastF 3) (upR 3 r) []).2 ≠ 0 := by
    simp only [rdR]
    rw [if_neg hl]
    split
    · simp
    · rw [if_neg (by simp), if_pos (.inr trivial)]; simp
  rw [if_neg this]
  exact this

theorem ferrymanlaw06_SchemaCuts_true : ∀ (a0 : Int) (a1 : S_api_Record) (a2 : Int) (a3 : Sl Int), inR .i64 a0 → S_api_Record.ok a1 → inR .i64 a2 → okSl (fun x => inR .u8 x) a3 → ∃ q, ferrymanlaw06_SchemaCuts q a0 a1 a2 a3 = some true := by
  intro v r cut more hv hr hcut hmore
  have hbm := isB_of hmore
  apply Ev.get
  refine Ev.succ (Ev.bind awake06_ev (Ev.bind (schema_Encode_ev v r) (Ev.pos rfl ?_))) (fun q => rfl)
  by_cases h : v < 1 ∨ 3 < v
  · rw [if_pos h]; exact Ev.neg (by simp) (Ev.ret _)
  · rw [if_neg h]
    by_cases hf : FitsR r
    · rw [if_pos hf]
      have hlen := recB_len (v := v) hf
      refine Ev.pos rfl (Ev.ite (fun _ => Ev.ret _) fun hm => ?_)
      have happ : ∀ {a b : List Int}, isB a → isB b → isB (a ++ b) := fun ha hb c hc => (List.mem_append.1 hc).elim (ha c) (hb c)
      have tail : Ev (fun q => if v = 3 then (if (more.l.length : Int) = 0 then (some true) else (if (recB v r).length ≤ 4294967296 then (if ((recB v r).length + more.l.length) ≤ 4294967296 then ((schema_Decode q ⟨((decide ((recB v r).length = 0)) && (decide (more.l.length = 0))), (recB v r ++ more.l)⟩).bind fun r7 => (some (!(decide (r7.2 = 0))))) else none) else none)) else (some true)) true := by
        refine Ev.ite (fun h3 => Ev.ite (fun _ => Ev.ret _) fun h0 => ?_) fun _ => Ev.ret _
        subst h3
        refine Ev.pos (by omega) (Ev.pos (by omega) ?_)
        refine Ev.bind (schema_Decode_ev ⟨_, recB 3 r ++ more.l⟩ (happ recB_isB hbm) (by simp only [List.length_append]; omega)) (Ev.ret' ?_)
        have := decR_more (x := more.l) hf (by intro e; rw [e] at h0; simp at h0)
        simpa using this
      refine Ev.ite (fun c0 => Ev.ite (fun c1 => ?_) fun _ => tail) fun _ => tail
      refine Ev.pos (by simp only at c1 ⊢; omega) (Ev.neg (by simp) ?_)
      simp only at c1
      refine Ev.bind (schema_Decode_ev ⟨false, (recB v r).take cut.toNat⟩ (fun c hc => recB_isB c (List.mem_of_mem_take hc)) (by simp only [List.length_take]; omega)) (Ev.neg ?_ tail)
      exact decR_cut (by omega) (by omega) hf (List.take_append_drop cut.toNat (recB v r)).symm (by intro e; have := congrArg List.length e; simp at this; omega)
    · rw [if_neg hf]; exact Ev.neg (by simp) (Ev.ret _)

/-! A strange field -/
theorem decR_strange {v : Int} {r : S_api_Record} {f : Int} {data : List Int} (h1 : 1 ≤ v) (h3 : v ≤ 3) (hr : FitsR r) (f1 : 16 ≤ f) (f2 : f ≤ 127) (hd : data.length ≤ 100) :
    decR (recB v r ++ (f :: (data.length : Int) :: data)) = if v = 3 then (noR, 7) else (upR v r, 0) := by
  rw [decR_rec h1 h3 hr]
  have e1 : getN (f :: (data.length : Int) :: data) = (f, 1) := by
    have := getN_put (n := f) (x := (data.length : Int) :: data) (by omega) (by omega)
    rw [put1 (by omega) (by omega)] at this
    simpa using this
  have e2 : getN ((data.length : Int) :: data) = ((data.length : Int), 1) := by
    have := getN_put (n := (data.length : Int)) (x := data) (by omega) (by omega)
    rw [put1 (by omega) (by omega)] at this
    simpa using this
  have hlast : lastF v < f := by unfold lastF; split <;> omega
  have hp : passN ((data.length : Int) :: data) = 1 + data.length := by
    unfold passN; rw [e2]
    simp only [List.length_cons]
    rw [if_neg (by omega), if_neg (by omega)]
  by_cases e : v = 3
  · subst e
    have : rdR 3 ((f :: (data.length : Int) :: data).length + 1) (f :: (data.length : Int) :: data) (lastF 3) (upR 3 r) [] = (upR 3 r, 7) := by
      simp only [rdR, e1]
      rw [if_neg (by simp), if_neg (by omega), if_neg (by simp), if_pos (.inr trivial)]
    rw [this]; simp
  · have : rdR v ((f :: (data.length : Int) :: data).length + 1) (f :: (data.length : Int) :: data) (lastF v) (upR v r) [] = (upR v r, 0) := by
      have d1 : (f :: (data.length : Int) :: data).drop 1 = (data.length : Int) :: data := rfl
      have d2 : ((data.length : Int) :: data).drop (1 + (data.length : Int)).toNat = [] := List.drop_of_length_le (by simp only [List.length_cons]; omega)
      simp only [rdR, e1, show (1 : Int).toNat = 1 from rfl, d1, hp, d2, List.length_cons, List.length_nil]
      rw [if_neg (by omega), if_neg (by omega), if_neg (by simp), if_neg (by omega), if_neg (by omega), if_pos trivial, if_pos trivial, if_pos (upR_fits hr)]
    rw [this]; simp [e]
theorem ferrymanlaw06_SchemaStrange_true : ∀ (a0 : Int) (a1 : S_api_Record) (a2 : Int) (a3 : Sl Int), inR .i64 a0 → S_api_Record.ok a1 → inR .i64 a2 → okSl (fun x => inR .u8 x) a3 → ∃ q, ferrymanlaw06_SchemaStrange q a0 a1 a2 a3 = some true := by
  intro v r f data hv hr hcut hmore
  have hbm := isB_of hmore
  apply Ev.get
  refine Ev.succ (Ev.bind awake06_ev (Ev.bind (schema_Encode_ev v r) (Ev.pos rfl ?_))) (fun q => rfl)
  by_cases h : v < 1 ∨ 3 < v
  · rw [if_pos h]; exact Ev.neg (by simp) (Ev.ret _)
  · rw [if_neg h]
    by_cases hf : FitsR r
    · rw [if_pos hf]
      have hlen := recB_len (v := v) hf
      refine Ev.pos rfl (Ev.ite (fun _ => Ev.ret _) fun f1 => Ev.ite (fun _ => Ev.ret _) fun f2 => Ev.ite (fun _ => Ev.ret _) fun f3 => ?_)
      refine Ev.pos (by simp only; omega) (Ev.pos (by simp only; omega) (Ev.pos (by simp only; omega) ?_))
      have w1 : wrp .u8 f = f := by rw [wrp_u8]; omega
      have w2 : wrp .u8 (data.l.length : Int) = data.l.length := by rw [wrp_u8]; omega
      simp only [w1, w2]
      have el : ((recB v r ++ [f]) ++ [(data.l.length : Int)]) ++ data.l = recB v r ++ (f :: (data.l.length : Int) :: data.l) := by simp
      have hb : isB (recB v r ++ (f :: (data.l.length : Int) :: data.l)) := by
        intro c hc
        rcases List.mem_append.1 hc with h | h
        · exact recB_isB c h
        · rcases List.mem_cons.1 h with h | h
          · omega
          · rcases List.mem_cons.1 h with h | h
            · omega
            · exact hbm c h
      rw [el]
      have hd := schema_Decode_ev ⟨false, recB v r ++ (f :: (data.l.length : Int) :: data.l)⟩ hb (by simp only [List.length_append, List.length_cons]; omega)
      rw [decR_strange (by omega) (by omega) hf (by omega) (by omega) (by omega)] at hd
      have hu := schema_Upgrade_ev v r
      rw [if_neg h] at hu
      refine Ev.bind hd (Ev.bind hu ?_)
      refine Ev.ite (fun e => ?_) fun e => ?_
      · rw [if_pos e]; exact Ev.ret _
      · rw [if_neg e]; exact Ev.pos rfl (Ev.pos rfl (Ev.ret' (by simp)))
    · rw [if_neg hf]; exact Ev.neg (by simp) (Ev.ret _)
end Go.Dvm.I
