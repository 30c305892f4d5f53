/- Plain laws of the functions. -/
import Derived.Test.YtnmceljcgioomaaQpPuT
import Derived.Test.YtnmceljcgioomaaQpPuK
set_option linter.all false
set_option maxRecDepth 100000
namespace Go.Dvm.I
open Go Go.Dvm

theorem ref_Zag_ev {u : Nat} (h : u < 18446744073709551616) : Ev (fun q => ferrymanref01_Zag q (u : Int)) (zag u) := by
  have e1 : Int.tmod (u : Int) 2 = ((u % 2 : Nat) : Int) := by rw [Int.tmod_eq_emod_of_nonneg (by omega)]; omega
  have e2 : Int.tdiv (u : Int) 2 = ((u / 2 : Nat) : Int) := by rw [Int.tdiv_eq_ediv_of_nonneg (by omega)]; omega
  have e3 : wrp .i64 (wrp .u64 ((u / 2 : Nat) : Int)) = ((u / 2 : Nat) : Int) := by rw [wrp_u64 (by omega) (by omega), wrp_i64 (by omega) (by omega)]
  refine Ev.succ (g := fun _ => if (Int.tmod (u : Int) 2) = 0 then (some (wrp .i64 (wrp .u64 (Int.tdiv (u : Int) 2)))) else (some (wrp .i64 ((wrp .i64 (0 - (wrp .i64 (wrp .u64 (Int.tdiv (u : Int) 2))))) - 1)))) ?_ (fun q => rfl)
  simp only [e1, e2, e3]
  unfold zag
  refine Ev.ite (fun h => Ev.ret' ?_) fun h => Ev.ret' ?_
  · rw [if_pos (by omega)]
  · rw [if_neg (by omega), wrp_i64 (x := 0 - ((u / 2 : Nat) : Int)) (by omega) (by omega), wrp_i64 (by omega) (by omega)]; omega
theorem ref_GetSigned_ev (s : Sl Int) (hb : isB s.l) (hL : s.l.length ≤ 1099511627776) : Ev (fun q => ferrymanref01_GetSigned q s) (getS s.l) := by
  refine Ev.succ (Ev.bind (ref_read_ev s hb hL) ?_) (fun q => rfl)
  unfold getS
  cases h : rd 0 s.l with
  | none => exact Ev.pos (by simp [resN]) (Ev.ret _)
  | some p =>
    have h1 := rd_len h
    have h2 := rd_lt hb (by omega) h
    simp only [resN]
    exact Ev.neg (by simp; omega) (Ev.bind (ref_Zag_ev (by simpa using h2)) (Ev.ret _))
theorem ref_GetOp_ev (s : Sl Int) (hb : isB s.l) (hl : s.l.length ≤ 4294967296) : Ev (fun q => ferrymanref05_GetOp q s) (getO s.l) := by
  have hx := getN_len (l := s.l)
  have hy := getS_len (l := s.l.drop (getN s.l).2.toNat)
  have hz := getS_len (l := (s.l.drop (getN s.l).2.toNat).drop (getS (s.l.drop (getN s.l).2.toNat)).2.toNat)
  simp only [List.length_drop] at hy hz
  have hw : wrp .i64 ((getN s.l).2 + (getS (s.l.drop (getN s.l).2.toNat)).2) = (getN s.l).2 + (getS (s.l.drop (getN s.l).2.toNat)).2 := wrp_i64 (by omega) (by omega)
  have hdd : s.l.drop ((getN s.l).2 + (getS (s.l.drop (getN s.l).2.toNat)).2).toNat = (s.l.drop (getN s.l).2.toNat).drop (getS (s.l.drop (getN s.l).2.toNat)).2.toNat := by
    rw [List.drop_drop]; congr 1; omega
  refine Ev.succ (Ev.bind (ref_Get_ev s hb (by omega)) (Ev.pos hx.1 (Ev.pos hx.2.1 (Ev.bind (ref_GetSigned_ev _ (isB_dr hb _) (by simp only [List.length_drop]; omega)) ?_)))) (fun q => rfl)
  simp only [hw, hdd]
  refine Ev.pos (by omega) (Ev.pos (by omega) (Ev.bind (ref_GetSigned_ev _ (isB_dr (isB_dr hb _) _) (by simp only [List.length_drop]; omega)) (Ev.bind (ref04_Fits_ev _) ?_)))
  simp only [getO]
  refine Ev.ite (fun h => ?_) fun h => Ev.ite (fun h2 => ?_) fun h2 => Ev.ite (fun h3 => ?_) fun h3 => Ev.ite (fun h4 => ?_) fun h4 => ?_
  · rw [if_neg (by omega)]; exact Ev.ret _
  · rw [if_neg (by omega)]; exact Ev.ret _
  · rw [if_neg (by omega)]; exact Ev.ret _
  · rw [if_pos ⟨by omega, by omega, by omega, h4⟩, wrp_i64 (by omega) (by omega)]; exact Ev.ret _
  · rw [if_neg (fun h => h4 h.2.2.2)]; exact Ev.ret _
theorem ref_value_ev {f : Int} {r : S_api_Record} (s : Sl Int) (hb : isB s.l) (hl : s.l.length ≤ 4294967296) (f1 : 1 ≤ f) (f5 : f ≤ 5) : Ev (fun q => ferrymanref06_value q r f s) (rdVal f r s.l) := by
  refine Ev.succ (Ev.bind (ref_Get_ev s hb (by omega)) ?_) (fun q => rfl)
  unfold rdVal
  refine Ev.ite (fun e => ?_) fun e => Ev.ite (fun e2 => ?_) fun e2 => Ev.ite (fun e3 => ?_) fun e3 => Ev.ite (fun e4 => ?_) fun e4 => Ev.pos (by omega) ?_
  · rw [if_pos e]; exact Ev.ret _
  · rw [if_neg e, if_pos e2]; exact Ev.ret _
  · rw [if_neg e, if_neg e2, if_pos e3]; exact Ev.ret _
  · rw [if_neg e, if_neg e2, if_neg e3, if_pos e4]
    exact Ev.bind (ref_GetOp_ev s hb hl) (Ev.ret _)
  · rw [if_neg e, if_neg e2, if_neg e3, if_neg e4]
    exact Ev.bind (ref_GetSigned_ev s hb (by omega)) (Ev.ret _)
def finR (x : S_api_Record × Int) : S_api_Record × Int := if x.2 = 0 then x else (noR, x.2)
theorem hasB_iff {v f : Int} : hasB v f = true ↔ f = 1 ∨ f = 2 ∨ f = 4 ∨ (f = 3 ∧ 2 ≤ v) ∨ (f = 5 ∧ v = 3) := by simp [hasB]
theorem ref06_Decode_l0_ev {v : Int} (z : Bool) (L : List Int) (hb : isB L) (hL : L.length ≤ 4294967296) (v1 : 1 ≤ v) (v3 : v ≤ 3) : ∀ (k : Nat) (at_ : Nat) (last found : Int) (r : S_api_Record) (l : List Int), L.length - at_ < k → at_ ≤ L.length → (∀ f, last < f → (f ∈ l ↔ hasB v f = true)) → found + l.length = v + 2 → 0 ≤ found →
    Ev (fun q => ferrymanref06_Decode_l0 q z L v (at_ : Int) last found r.Index r.Proc r.Seq r.Op.Code r.Op.A r.Op.B r.Resp) (finR (rdR v k (L.drop at_) last r l))
  | 0, at_, last, found, r, l, hk, ha, hf, hn, h0 => by omega
  | k + 1, at_, last, found, r, l, hk, ha, hf, hn, hn0 => by
    refine Ev.succ ?_ (fun q => rfl)
    have hdl : (L.drop at_).length = L.length - at_ := by simp
    have hbd := isB_dr hb at_
    simp only [rdR]
    refine Ev.ite (fun h0 => Ev.pos (by omega) (Ev.pos (by omega) ?_)) fun h0 => ?_
    · rw [if_neg (by omega)]
      simp only [Int.toNat_natCast]
      have hg := getN_len (l := L.drop at_)
      refine Ev.bind (ref_Get_ev ⟨z, L.drop at_⟩ hbd (by simp only [hdl]; omega)) ?_
      have hw : wrp .i64 ((at_ : Int) + (getN (L.drop at_)).2) = ((at_ + (getN (L.drop at_)).2.toNat : Nat) : Int) := by rw [wrp_i64 (by omega) (by omega)]; omega
      have hdd : L.drop (at_ + (getN (L.drop at_)).2.toNat) = (L.drop at_).drop (getN (L.drop at_)).2.toNat := by rw [List.drop_drop]
      refine Ev.ite (fun h1 => ?_) fun h1 => Ev.ite (fun h2 => ?_) fun h2 => Ev.bind (ref06_has_ev v (getN (L.drop at_)).1) ?_
      · rw [if_pos (.inl h1)]; exact Ev.ret _
      · rw [if_pos (.inr h2)]; exact Ev.ret _
      · rw [if_neg (by rintro (h | h) <;> contradiction)]
        dsimp only at h1 h2 ⊢
        have hiff := hf (getN (L.drop at_)).1 (by omega)
        simp only [hw, Int.toNat_natCast, hdd]
        have hb1 := isB_dr hbd (getN (L.drop at_)).2.toNat
        have hl1 : ((L.drop at_).drop (getN (L.drop at_)).2.toNat).length = L.length - at_ - (getN (L.drop at_)).2.toNat := by simp; omega
        refine Ev.ite (fun h3 => ?_) fun h3 => ?_
        · have hm := hiff.2 h3
          rw [if_pos hm]
          have hfr := hasB_iff.1 h3
          have hle := List.length_erase_of_mem hm
          have hpos : 0 < l.length := List.length_pos_of_mem hm
          have hvl := rdVal_len (getN (L.drop at_)).1 r ((L.drop at_).drop (getN (L.drop at_)).2.toNat)
          refine Ev.pos (by omega) (Ev.pos (by omega) (Ev.bind (ref_value_ev ⟨z, (L.drop at_).drop (getN (L.drop at_)).2.toNat⟩ hb1 (by simp only [hl1]; omega) (by omega) (by omega)) ?_))
          refine Ev.ite (fun h4 => ?_) fun h4 => ?_
          · rw [if_pos h4]; exact Ev.ret _
          · rw [if_neg h4]
            have hw2 : wrp .i64 (((at_ + (getN (L.drop at_)).2.toNat : Nat) : Int) + (rdVal (getN (L.drop at_)).1 r ((L.drop at_).drop (getN (L.drop at_)).2.toNat)).2) = ((at_ + (getN (L.drop at_)).2.toNat + (rdVal (getN (L.drop at_)).1 r ((L.drop at_).drop (getN (L.drop at_)).2.toNat)).2.toNat : Nat) : Int) := by rw [wrp_i64 (by omega) (by omega)]; omega
            have hdd2 : ((L.drop at_).drop (getN (L.drop at_)).2.toNat).drop (rdVal (getN (L.drop at_)).1 r ((L.drop at_).drop (getN (L.drop at_)).2.toNat)).2.toNat = L.drop (at_ + (getN (L.drop at_)).2.toNat + (rdVal (getN (L.drop at_)).1 r ((L.drop at_).drop (getN (L.drop at_)).2.toNat)).2.toNat) := by rw [← hdd, List.drop_drop]
            simp only [hw2, show wrp .i64 (found + 1) = found + 1 from wrp_i64 (by omega) (by omega), hdd2]
            refine ref06_Decode_l0_ev z L hb hL v1 v3 k _ _ (found + 1) _ (l.erase (getN (L.drop at_)).1) (by omega) (by omega) (fun g hg2 => ?_) (by omega) (by omega)
            rw [List.mem_erase_of_ne (by omega)]
            exact hf g (by omega)
        · have hm : ¬ (getN (L.drop at_)).1 ∈ l := fun h => h3 (hiff.1 h)
          rw [if_neg hm]
          refine Ev.ite (fun e => ?_) fun e => Ev.ite (fun e2 => ?_) fun e2 => Ev.pos (by omega) (Ev.pos (by omega) (Ev.bind (ref_Get_ev ⟨z, (L.drop at_).drop (getN (L.drop at_)).2.toNat⟩ hb1 (by simp only [hl1]; omega)) ?_))
          · rw [if_pos (.inl e)]; exact Ev.ret _
          · rw [if_pos (.inr e2)]; exact Ev.ret _
          · rw [if_neg (by rintro (h | h) <;> contradiction)]
            generalize hB : (L.drop at_).drop (getN (L.drop at_)).2.toNat = B at *
            have hgB := getN_len (l := B)
            dsimp only
            unfold passN
            refine Ev.ite (fun h4 => ?_) fun h4 => ?_
            · rw [if_pos h4, if_pos rfl]; exact Ev.ret _
            · rw [if_neg h4]
              have hw3 : wrp .i64 (wrp .i64 ((L.length : Int) - ((at_ + (getN (L.drop at_)).2.toNat : Nat) : Int)) - (getN B).2) = (B.length : Int) - (getN B).2 := by
                rw [wrp_i64 (x := (L.length : Int) - ((at_ + (getN (L.drop at_)).2.toNat : Nat) : Int)) (by omega) (by omega), wrp_i64 (by omega) (by omega)]; omega
              rw [hw3]
              refine Ev.ite (fun h5 => ?_) fun h5 => ?_
              · rw [if_pos h5, if_pos rfl]; exact Ev.ret _
              · rw [if_neg h5, if_neg (by omega)]
                have hw4 : wrp .i64 (wrp .i64 (((at_ + (getN (L.drop at_)).2.toNat : Nat) : Int) + (getN B).2) + (getN B).1) = ((at_ + (getN (L.drop at_)).2.toNat + ((getN B).2 + (getN B).1).toNat : Nat) : Int) := by
                  rw [wrp_i64 (x := ((at_ + (getN (L.drop at_)).2.toNat : Nat) : Int) + (getN B).2) (by omega) (by omega), wrp_i64 (by omega) (by omega)]; omega
                have hdd3 : B.drop ((getN B).2 + (getN B).1).toNat = L.drop (at_ + (getN (L.drop at_)).2.toNat + ((getN B).2 + (getN B).1).toNat) := by rw [← List.drop_drop, hdd]
                rw [hw4, hdd3]
                exact ref06_Decode_l0_ev z L hb hL v1 v3 k _ _ found r l (by omega) (by omega) (fun g hg2 => hf g (by omega)) hn hn0
    · rw [if_pos (by omega), show wrp .i64 (v + 2) = v + 2 from wrp_i64 (by omega) (by omega)]
      refine Ev.ite (fun h1 => Ev.bind (ref06_Fits_ev r) ?_) fun h1 => ?_
      · rw [if_pos (show l.length = 0 by omega)]
        refine Ev.ite (fun h => ?_) fun h => ?_
        · rw [if_pos (by simpa using h)]; exact Ev.ret _
        · rw [if_neg (by simpa using h)]; exact Ev.ret _
      · rw [if_neg (show ¬ l.length = 0 by omega)]; exact Ev.ret _
theorem fieldsOf_has {v f : Int} (v1 : 1 ≤ v) (v3 : v ≤ 3) : f ∈ fieldsOf v ↔ hasB v f = true := by
  rw [hasB_iff]
  have : v = 1 ∨ v = 2 ∨ v = 3 := by omega
  rcases this with rfl | rfl | rfl <;> simp [fieldsOf] <;> omega
theorem fieldsOf_len {v : Int} (v1 : 1 ≤ v) (v3 : v ≤ 3) : ((fieldsOf v).length : Int) = v + 2 := by
  have : v = 1 ∨ v = 2 ∨ v = 3 := by omega
  rcases this with rfl | rfl | rfl <;> simp [fieldsOf]
theorem ref06_Decode_ev (s : Sl Int) (hb : isB s.l) (hl : s.l.length ≤ 4294967296) : Ev (fun q => ferrymanref06_Decode q s) (decR s.l) := by
  refine Ev.succ ?_ (fun q => rfl)
  unfold decR
  refine Ev.ite (fun h => ?_) fun h => ?_
  · rw [if_pos (by omega)]; exact Ev.ret _
  · rw [if_neg (by omega)]
    have hg := getN_len (l := s.l)
    refine Ev.bind (ref_Get_ev s hb (by omega)) (Ev.ite (fun h1 => ?_) fun h1 => Ev.ite (fun h2 => ?_) fun h2 => Ev.ite (fun h3 => ?_) fun h3 => ?_)
    · rw [if_pos h1]; exact Ev.ret _
    · rw [if_neg h1, if_pos (.inl h2)]; exact Ev.ret _
    · rw [if_neg h1, if_pos (.inr h3)]; exact Ev.ret _
    · rw [if_neg h1, if_neg (by omega)]
      have hfl := fieldsOf_len (v := (getN s.l).1) (by omega) (by omega)
      have := ref06_Decode_l0_ev s.z s.l hb hl (show 1 ≤ (getN s.l).1 by omega) (by omega) (s.l.length + 1) (getN s.l).2.toNat (-1) 0 noR (fieldsOf (getN s.l).1) (by omega) (by omega) (fun f _ => fieldsOf_has (by omega) (by omega)) (by omega) (by omega)
      have hc : (((getN s.l).2.toNat : Nat) : Int) = (getN s.l).2 := by omega
      rw [hc] at this
      refine Ev.cast this ?_
      unfold finR
      split
      · rename_i h4; rw [← h4]
      · rfl
theorem ferrymanlaw06_SchemaDecodes_true : ∀ (a0 : Sl Int), okSl (fun x => inR .u8 x) a0 → ∃ q, ferrymanlaw06_SchemaDecodes q a0 = some true := by
  intro s hs
  have hb := isB_of hs
  apply Ev.get
  refine Ev.succ (Ev.bind awake06_ev (Ev.ite (fun _ => Ev.ret _) fun hl => Ev.bind (schema_Decode_ev s hb (by omega)) (Ev.bind (ref06_Decode_ev s hb (by omega)) ?_))) (fun q => rfl)
  exact Ev.pos rfl (Ev.pos rfl (Ev.pos rfl (Ev.pos rfl (Ev.pos rfl (Ev.pos rfl (Ev.pos rfl (Ev.pos rfl (Ev.ret' (by simp)))))))))
end Go.Dvm.I
