/- Plain laws of the functions. -/
import Derived.Test.YtnmceljcgioomaaQpPuK
set_option linter.all false
set_option maxRecDepth 100000
namespace Go.Dvm.I
open Go Go.Dvm

theorem ref_Decode_ev (s : Sl Int) (hb : isB s.l) (hl : s.l.length ≤ 4294967296) : ∃ z, Ev (fun q => ferrymanref03_Decode q s) (⟨z, true, (decF s.l).1⟩, (decF s.l).2.1, (decF s.l).2.2) := by
  unfold decF
  have hop := ref_open_ev s (by omega)
  have hget := ref_Get_ev s hb (by omega)
  by_cases h1 : openB s.l = true
  · rw [if_pos h1]
    exact ⟨true, Ev.succ (Ev.bind hop (Ev.pos h1 (Ev.ret _))) (fun q => rfl)⟩
  rw [if_neg h1]
  by_cases h2 : (getN s.l).2 = 0
  · rw [if_pos h2]
    exact ⟨true, Ev.succ (Ev.bind hop (Ev.neg h1 (Ev.bind hget (Ev.pos h2 (Ev.ret _))))) (fun q => rfl)⟩
  rw [if_neg h2]
  by_cases h3 : 1048576 < (getN s.l).1
  · rw [if_pos h3]
    exact ⟨true, Ev.succ (Ev.bind hop (Ev.neg h1 (Ev.bind hget (Ev.neg h2 (Ev.pos h3 (Ev.ret _)))))) (fun q => rfl)⟩
  rw [if_neg h3]
  obtain ⟨g1, g2, g3, g4, g5⟩ := getN_len (l := s.l)
  generalize hk : (getN s.l).2 = k at *
  generalize hn : (getN s.l).1 = n at *
  have hg : getN s.l = (n, k) := by rw [← hk, ← hn]
  rw [hg] at hget
  have w1 : wrp .i64 (k + 4) = k + 4 := wrp_i64 (by omega) (by omega)
  have w2 : wrp .i64 (k + 4 + n) = k + 4 + n := wrp_i64 (by omega) (by omega)
  have w3 : wrp .i64 (k + n) = k + n := wrp_i64 (by omega) (by omega)
  have w4 : wrp .i64 (k + n + 4) = k + n + 4 := wrp_i64 (by omega) (by omega)
  by_cases h4 : (s.l.length : Int) < k + 4 + n
  · rw [if_pos h4]
    exact ⟨true, Ev.succ (Ev.bind hop (Ev.neg h1 (Ev.bind hget (Ev.neg h2 (Ev.neg h3 (Ev.pos (by simp only; rw [w1, w2]; exact h4) (Ev.ret _))))))) (fun q => rfl)⟩
  rw [if_neg h4]
  have hsum := ref02_Sum_ev ⟨s.z, List.take (k + n).toNat s.l⟩ (isB_take hb _) (by simp; omega)
  have hd : List.drop (k + n).toNat (List.take (k + n + 4).toNat s.l) = List.take 4 (List.drop (k + n).toNat s.l) := by
    rw [List.drop_take]; congr 1; omega
  have h4l : (List.take 4 (List.drop (k + n).toNat s.l)).length = 4 := by simp; omega
  have hfix := Fixed_ev ⟨s.z, List.take 4 (List.drop (k + n).toNat s.l)⟩ (isB_take (isB_drop hb _) _) (by simp only; omega)
  have hw : wrp .u64 (u (bsum (List.take (k + n).toNat s.l))) = (((bsum (List.take (k + n).toNat s.l)).toNat : Nat) : Int) := by
    rw [wrp_u64 (u_nn _) (by have := u_lt (bsum (List.take (k + n).toNat s.l)); omega)]; rfl
  have heq := numB_fix4 (isB_take (isB_drop hb (k + n).toNat) 4) h4l (v := (bsum (List.take (k + n).toNat s.l)).toNat) (by have := (bsum (List.take (k + n).toNat s.l)).isLt; omega)
  have pre : ∀ {r : Ow Int × Int × Int}, Ev (fun q => (if ((numB (List.take 4 (List.drop (k + n).toNat s.l)) : Nat) : Int) = (((bsum (List.take (k + n).toNat s.l)).toNat : Nat) : Int) then (if ((min ((k + n).toNat) s.l.length) - k.toNat) ≤ 4294967296 then (some ((⟨(decide (((min ((k + n).toNat) s.l.length) - k.toNat) = 0)), true, (List.drop k.toNat (List.take ((k + n).toNat) s.l))⟩, k + 4 + n, 0) : Ow Int × Int × Int)) else none) else (some (⟨true, true, []⟩, 0, 4)))) r → Ev (fun q => ferrymanref03_Decode q s) r := by
    intro r h
    refine Ev.succ (Ev.bind hop (Ev.neg h1 (Ev.bind hget (Ev.neg h2 (Ev.neg h3 ?_))))) (fun q => rfl)
    simp only [w1, w2, w3, w4]
    refine Ev.neg h4 (Ev.pos (by omega) (Ev.pos (by omega) (Ev.pos (by omega) (Ev.pos (by omega) (Ev.bind hsum (Ev.pos (by omega) (Ev.pos (by omega) (Ev.bind (by rw [hd]; exact hfix) ?_))))))))
    rw [hw]
    exact h
  by_cases h5 : List.take 4 (List.drop (k + n).toNat s.l) = fix4 (bsum (List.take (k + n).toNat s.l)).toNat
  · rw [if_pos h5]
    refine ⟨decide (((min ((k + n).toNat) s.l.length) - k.toNat) = 0), pre (Ev.pos ?_ (Ev.pos (by omega) (Ev.ret' ?_)))⟩
    · have := heq.2 h5; rw [this]
    · rw [show k + 4 + n = k + n + 4 by omega]
  · rw [if_neg h5]
    refine ⟨true, pre (Ev.neg ?_ (Ev.ret _))⟩
    intro e; exact h5 (heq.1 (by omega))

/-- The frames that bytes begin with, how many bytes these have, and what ends them. -/
def walkF : Nat → List Int → List (List Int) × Nat × Int
  | 0, _ => ([], 0, 0)
  | f + 1, l => if l = [] then ([], 0, 0) else if (decF l).2.2 = 0 then let w := walkF f (l.drop (decF l).2.1.toNat); ((decF l).1 :: w.1, (decF l).2.1.toNat + w.2.1, w.2.2) else ([], 0, (decF l).2.2)
theorem decF_ok' {l : List Int} (hb : isB l) (h : (decF l).2.2 = 0) : 5 ≤ (decF l).2.1 ∧ (decF l).2.1.toNat ≤ l.length := by
  generalize hr : decF l = r at h
  obtain ⟨x, n, e⟩ := r
  simp only at h; subst h
  obtain ⟨k1, k2, k3, k4, k5⟩ := decF_ok hb hr
  exact ⟨k4, k3⟩
/-- A loop over frames, whoever decodes. -/
theorem walk_ev {D : Nat → Sl Int → Option (Ow Int × Int × Int)} {W : Nat → Bool → List Int → Int → Bool → List (Sl Int) → Option (Ow (Sl Int) × Int × Int)}
    (hW : ∀ q z L i z2 h, W (q + 1) z L i z2 h = if i < (L.length : Int) then (if 0 ≤ i then (if i ≤ (L.length : Int) then ((D q ⟨z, (List.drop i.toNat L)⟩).bind fun r1 => (if r1.2.2 = 0 then (if (h.length + 1) ≤ 4294967296 then (W q z L (wrp .i64 (i + r1.2.1)) false (h ++ [⟨r1.1.n, r1.1.xs⟩])) else none) else (some (⟨z2, true, h⟩, i, r1.2.2)))) else none) else none) else (some (⟨z2, true, h⟩, i, 0)))
    (z : Bool) (L : List Int) (hb : isB L) (hL : L.length ≤ 4294967296)
    (hD : ∀ i : Nat, i < L.length → ∃ z', Ev (fun q => D q ⟨z, L.drop i⟩) (⟨z', true, (decF (L.drop i)).1⟩, (decF (L.drop i)).2.1, (decF (L.drop i)).2.2)) :
    ∀ (f i : Nat) (z2 : Bool) (h : List (Sl Int)), i ≤ L.length → L.length - i < f → h.length ≤ i → ∃ z3 X, Ev (fun q => W q z L (i : Int) z2 h) (⟨z3, true, h ++ X⟩, ((i + (walkF f (L.drop i)).2.1 : Nat) : Int), (walkF f (L.drop i)).2.2) ∧ X.map (·.l) = (walkF f (L.drop i)).1
  | 0, i, z2, h, hi, hf, hh => by omega
  | f + 1, i, z2, h, hi, hf, hh => by
    by_cases hlt : i < L.length
    · have hne : L.drop i ≠ [] := by intro e; have := congrArg List.length e; simp at this; omega
      obtain ⟨z', hd⟩ := hD i hlt
      simp only [walkF]
      rw [if_neg hne]
      by_cases he : (decF (L.drop i)).2.2 = 0
      · rw [if_pos he]
        obtain ⟨k1, k2⟩ := decF_ok' (isB_drop hb i) he
        rw [List.length_drop] at k2
        obtain ⟨z3, X, hx, hm⟩ := walk_ev hW z L hb hL hD f (i + (decF (L.drop i)).2.1.toNat) false (h ++ [⟨z', (decF (L.drop i)).1⟩]) (by omega) (by omega) (by simp; omega)
        rw [← List.drop_drop] at hx hm
        refine ⟨z3, ⟨z', (decF (L.drop i)).1⟩ :: X, ?_, ?_⟩
        · refine Ev.succ (Ev.pos (by omega) (Ev.pos (by omega) (Ev.pos (by omega) (Ev.bind hd (Ev.pos he (Ev.pos (by omega) ?_)))))) (fun q => hW q _ _ _ _ _)
          have wi : wrp .i64 ((i : Int) + (decF (L.drop i)).2.1) = ((i + (decF (L.drop i)).2.1.toNat : Nat) : Int) := by
            rw [wrp_i64 (by omega) (by omega)]; omega
          simp only [wi]
          refine hx.cast ?_
          simp only [List.append_assoc, List.cons_append, List.nil_append, Nat.add_assoc]
        · simp [hm]
      · rw [if_neg he]
        refine ⟨z2, [], Ev.succ (Ev.pos (by omega) (Ev.pos (by omega) (Ev.pos (by omega) (Ev.bind hd (Ev.neg he (Ev.ret' (by simp))))))) (fun q => hW q _ _ _ _ _), rfl⟩
    · rw [List.drop_of_length_le (by omega)]
      simp only [walkF, if_true]
      exact ⟨z2, [], Ev.succ (Ev.neg (by omega) (Ev.ret' (by simp))) (fun q => hW q _ _ _ _ _), rfl⟩
def allF (l : List Int) : List (List Int) × Nat × Int := walkF (l.length + 1) l
theorem frame_walk_ev (s : Sl Int) (hz : s.z = true → s.l = []) (hb : isB s.l) (hl : s.l.length ≤ 4294967296) : ∃ z X, Ev (fun q => frame_walk q s) (⟨z, true, X⟩, (((allF s.l).2.1 : Nat) : Int), (allF s.l).2.2) ∧ X.map (·.l) = (allF s.l).1 := by
  obtain ⟨z, X, h, hm⟩ := walk_ev (D := fun q s => frame_Decode q s) (W := frame_walk_l0) (fun q z L i z2 h => rfl) s.z s.l hb hl (fun i hi => frame_Decode_ev ⟨s.z, s.l.drop i⟩ (fun h => by rw [hz h]; simp) (isB_drop hb i) (by simp; omega)) (s.l.length + 1) 0 true [] (by omega) (by omega) (by simp)
  rw [List.drop_zero] at h hm
  refine ⟨z, X, Ev.succ h (fun q => rfl) |>.cast ?_, hm⟩
  simp [allF]
theorem ref_Whole_ev (s : Sl Int) (hb : isB s.l) (hl : s.l.length ≤ 4294967296) : ∃ z X, Ev (fun q => ferrymanref03_Whole q s) (⟨z, true, X⟩, (((allF s.l).2.1 : Nat) : Int), (allF s.l).2.2) ∧ X.map (·.l) = (allF s.l).1 := by
  obtain ⟨z, X, h, hm⟩ := walk_ev (D := fun q s => ferrymanref03_Decode q s) (W := ferrymanref03_Whole_l0) (fun q z L i z2 h => rfl) s.z s.l hb hl (fun i hi => ref_Decode_ev ⟨s.z, s.l.drop i⟩ (isB_drop hb i) (by simp; omega)) (s.l.length + 1) 0 true [] (by omega) (by omega) (by simp)
  rw [List.drop_zero] at h hm
  refine ⟨z, X, Ev.succ h (fun q => rfl) |>.cast ?_, hm⟩
  simp [allF]
def allE (l : List Int) : List (List Int) × Int := if (allF l).2.2 = 0 then ((allF l).1, 0) else ([], (allF l).2.2)
theorem frame_All_ev (s : Sl Int) (hz : s.z = true → s.l = []) (hb : isB s.l) (hl : s.l.length ≤ 4294967296) : ∃ z X, Ev (fun q => frame_All q s) (⟨z, true, X⟩, (allE s.l).2) ∧ X.map (·.l) = (allE s.l).1 := by
  obtain ⟨z, X, h, hm⟩ := frame_walk_ev s hz hb hl
  unfold allE
  by_cases he : (allF s.l).2.2 = 0
  · rw [if_pos he]; exact ⟨z, X, Ev.succ (Ev.bind h (Ev.pos he (Ev.ret _))) (fun q => rfl), hm⟩
  · rw [if_neg he]; exact ⟨true, [], Ev.succ (Ev.bind h (Ev.neg he (Ev.ret _))) (fun q => rfl), rfl⟩
theorem ref_All_ev (s : Sl Int) (hb : isB s.l) (hl : s.l.length ≤ 4294967296) : ∃ z X, Ev (fun q => ferrymanref03_All q s) (⟨z, true, X⟩, (allE s.l).2) ∧ X.map (·.l) = (allE s.l).1 := by
  obtain ⟨z, X, h, hm⟩ := ref_Whole_ev s hb hl
  unfold allE
  by_cases he : (allF s.l).2.2 = 0
  · rw [if_pos he]; exact ⟨z, X, Ev.succ (Ev.bind h (Ev.pos he (Ev.ret _))) (fun q => rfl), hm⟩
  · rw [if_neg he]; exact ⟨true, [], Ev.succ (Ev.bind h (Ev.neg he (Ev.ret _))) (fun q => rfl), rfl⟩
theorem frame_Whole_ev (s : Sl Int) (hz : s.z = true → s.l = []) (hb : isB s.l) (hl : s.l.length ≤ 4294967296) : ∃ z X, Ev (fun q => frame_Whole q s) (⟨z, true, X⟩, (((allF s.l).2.1 : Nat) : Int)) ∧ X.map (·.l) = (allF s.l).1 := by
  obtain ⟨z, X, h, hm⟩ := frame_walk_ev s hz hb hl
  exact ⟨z, X, Ev.succ (Ev.bind h (Ev.ret _)) (fun q => rfl), hm⟩
theorem Same_l0_ev (z z2 : Bool) (A B : List (Sl Int)) (hl : A.length = B.length) (hL : A.length ≤ 1099511627776) : ∀ (k i : Nat), A.length = i + k → Ev (fun q => ferrymanref03_Same_l0 q z A z2 B (i : Int)) (decide ((A.drop i).map (·.l) = (B.drop i).map (·.l)))
  | 0, i, hk => by
    refine Ev.succ (Ev.neg (by omega) (Ev.ret' ?_)) (fun q => rfl)
    rw [List.drop_of_length_le (by omega), List.drop_of_length_le (by omega)]; simp
  | k + 1, i, hk => by
    have hi : i < A.length := by omega
    have hi2 : i < B.length := by omega
    have hg : A[(i : Int).toNat]? = some A[i] := by simpa using List.getElem?_eq_getElem hi
    have hg2 : B[(i : Int).toNat]? = some B[i] := by simpa using List.getElem?_eq_getElem hi2
    refine Ev.succ (Ev.pos (by omega) (Ev.pos (by omega) (Ev.opt hg (Ev.opt hg2 ?_)))) (fun q => rfl)
    rw [List.drop_eq_getElem_cons hi, List.drop_eq_getElem_cons hi2, List.map_cons, List.map_cons]
    refine Ev.ite (fun h => ?_) fun h => Ev.ret' (by symm; rw [decide_eq_false_iff_not]; intro e; exact h (List.cons.inj e).1)
    rw [wrp_i64 (by omega) (by omega), show ((i : Int) + 1) = ((i + 1 : Nat) : Int) by omega]
    refine (Same_l0_ev z z2 A B hl hL k (i + 1) (by omega)).cast ?_
    rw [decide_eq_decide, List.cons.injEq]; simp only [h, true_and]
theorem Same_ev (a b : Sl (Sl Int)) (hL : a.l.length ≤ 1099511627776) : Ev (fun q => ferrymanref03_Same q a b) (decide (a.l.map (·.l) = b.l.map (·.l))) := by
  refine Ev.succ (Ev.ite (fun h => ?_) fun h => Ev.ret' ?_) (fun q => rfl)
  · have := Same_l0_ev a.z b.z a.l b.l (by omega) hL a.l.length 0 (by omega)
    rw [List.drop_zero, List.drop_zero] at this; exact this
  · symm; rw [decide_eq_false_iff_not]; intro e
    have := congrArg List.length e
    simp at this; omega
theorem walkF_len : ∀ {f : Nat} {l : List Int}, isB l → (walkF f l).1.length ≤ l.length
  | 0, l, hb => by simp [walkF]
  | f + 1, l, hb => by
    simp only [walkF]
    split
    · simp
    · split
      · rename_i h1 h2
        obtain ⟨k1, k2⟩ := decF_ok' hb h2
        have := walkF_len (f := f) (isB_drop hb (decF l).2.1.toNat)
        simp only [List.length_cons]
        rw [List.length_drop] at this
        omega
      · simp
theorem ferrymanlaw03_FrameDecodes_true : ∀ (a0 : (Sl Int)), okSl (fun x => inR .u8 x) a0 → ∃ q, ferrymanlaw03_FrameDecodes q a0 = some true := by
  intro s hs
  refine Ev.get (f := fun q => ferrymanlaw03_FrameDecodes q s) ?_
  have hb := isB_of hs
  refine Ev.succ (Ev.bind awake03_ev (Ev.ite (fun h1 => Ev.ret _) fun h1 => ?_)) (fun q => rfl)
  obtain ⟨z1, e1⟩ := frame_Decode_ev s hs.1 hb (by omega)
  obtain ⟨z2, e2⟩ := ref_Decode_ev s hb (by omega)
  obtain ⟨z3, X3, e3, m3⟩ := frame_All_ev s hs.1 hb (by omega)
  obtain ⟨z4, X4, e4, m4⟩ := ref_All_ev s hb (by omega)
  obtain ⟨z5, X5, e5, m5⟩ := frame_Whole_ev s hs.1 hb (by omega)
  obtain ⟨z6, X6, e6, m6⟩ := ref_Whole_ev s hb (by omega)
  have l5 : X5.length ≤ s.l.length := by
    have := congrArg List.length m5; rw [List.length_map] at this; rw [this]; exact walkF_len hb
  have l3 : X3.length ≤ s.l.length := by
    have := congrArg List.length m3; rw [List.length_map] at this; rw [this]
    unfold allE; split
    · exact walkF_len hb
    · simp
  have s1 := Same_ev ⟨z3, X3⟩ ⟨z4, X4⟩ (by simp only; omega)
  have s2 := Same_ev ⟨z5, X5⟩ ⟨z6, X6⟩ (by simp only; omega)
  simp only [m3, m4, m5, m6, decide_true] at s1 s2
  refine Ev.bind e1 (Ev.bind e2 (Ev.bind e3 (Ev.bind e4 (Ev.bind e5 (Ev.bind e6 (Ev.bind s1 (Ev.bind s2 (Ev.pos rfl (Ev.pos rfl (Ev.pos rfl (Ev.pos rfl (Ev.pos rfl (Ev.pos rfl (Ev.pos rfl ?_))))))))))))))
  exact Ev.ret' (by simp)
end Go.Dvm.I
