/- Plain laws of the functions. -/
import Derived.Test.YtnmceljcgioomaaQpPuG
set_option linter.all false
set_option maxRecDepth 100000
namespace Go.Dvm.I
open Go Go.Dvm

/-- Where the first byte below 128 stands. -/
def idxLow : List Int → Nat → Int
  | [], _ => -1
  | a :: l, i => if a < 128 then (i : Int) else idxLow l (i + 1)
def allHi (l : List Int) : Prop := ∀ c ∈ l, 128 ≤ c
instance (l : List Int) : Decidable (allHi l) := by unfold allHi; infer_instance
theorem idxLow_neg : ∀ {l : List Int} {i : Nat}, ¬ 0 ≤ idxLow l i ↔ allHi l
  | [], i => by simp [idxLow, allHi]
  | a :: l, i => by
    have ih := idxLow_neg (l := l) (i := i + 1)
    simp only [idxLow, allHi, List.mem_cons, forall_eq_or_imp] at ih ⊢
    by_cases h : a < 128
    · rw [if_pos h]; constructor
      · intro h'; omega
      · rintro ⟨h1, _⟩; omega
    · rw [if_neg h, ih]
      constructor
      · intro h'; exact ⟨by omega, h'⟩
      · exact fun h' => h'.2
theorem open_s0_l0_ev (z : Bool) (L : List Int) (hL : L.length ≤ 1099511627776) : ∀ (k i : Nat), L.length = i + k → Ev (fun q => frame_open_s0_l0 q z L (L.length : Int) (i : Int)) (idxLow (L.drop i) i)
  | 0, i, hk => by
    refine Ev.succ (Ev.neg (by omega) (Ev.ret' ?_)) (fun q => rfl)
    rw [List.drop_of_length_le (by omega)]; rfl
  | k + 1, i, hk => by
    have hi : i < L.length := by omega
    have hg : L[(i : Int).toNat]? = some L[i] := by simpa using List.getElem?_eq_getElem hi
    have h1 : Ev (fun q => frame_open_1 q L[i]) (decide (L[i] < 128)) := Ev.succ (Ev.ret _) (fun q => rfl)
    refine Ev.succ (Ev.pos (by omega) (Ev.pos (by omega) (Ev.opt hg (Ev.bind h1 ?_)))) (fun q => rfl)
    rw [List.drop_eq_getElem_cons hi]
    simp only [idxLow]
    refine Ev.ite (fun h => ?_) fun h => ?_
    · rw [if_pos (by simpa using h)]; exact Ev.ret _
    · rw [if_neg (by simpa using h), wrp_i64 (by omega) (by omega), show ((i : Int) + 1) = ((i + 1 : Nat) : Int) by omega]
      exact open_s0_l0_ev z L hL k (i + 1) (by omega)
def openB (l : List Int) : Bool := decide (l.length < 10 ∧ allHi l)
theorem frame_open_ev (s : Sl Int) : Ev (fun q => frame_open q s) (openB s.l) := by
  refine Ev.succ (Ev.ite (fun h => ?_) fun h => Ev.ret' ?_) (fun q => rfl)
  · have := open_s0_l0_ev s.z s.l (by omega) s.l.length 0 (by omega)
    rw [List.drop_zero] at this
    refine Ev.bind (Ev.succ this (fun q => rfl)) (Ev.ret' ?_)
    unfold openB
    rw [← decide_not, decide_eq_decide, idxLow_neg]
    exact ⟨fun h1 => ⟨by omega, h1⟩, fun h1 => h1.2⟩
  · unfold openB
    symm; rw [decide_eq_false_iff_not]; omega
theorem Equal_l0_ev (z z2 : Bool) (A B : List Int) (hl : A.length = B.length) (hL : A.length ≤ 1099511627776) : ∀ (k i : Nat), A.length = i + k → Ev (fun q => slices_Equal_byte_byte_l0 q z A z2 B (A.length : Int) (i : Int)) (decide (A.drop i = B.drop i))
  | 0, i, hk => by
    refine Ev.succ (Ev.neg (by omega) (Ev.ret' ?_)) (fun q => rfl)
    rw [List.drop_of_length_le (by omega), List.drop_of_length_le (by omega)]; simp
  | k + 1, i, hk => by
    have hi : i < A.length := by omega
    have hi2 : i < B.length := by omega
    have hg : A[(i : Int).toNat]? = some A[i] := by simpa using List.getElem?_eq_getElem hi
    have hg2 : B[(i : Int).toNat]? = some B[i] := by simpa using List.getElem?_eq_getElem hi2
    refine Ev.succ (Ev.pos (by omega) (Ev.pos (by omega) (Ev.opt hg (Ev.opt hg2 ?_)))) (fun q => rfl)
    rw [List.drop_eq_getElem_cons hi, List.drop_eq_getElem_cons hi2]
    refine Ev.ite (fun h => ?_) fun h => Ev.ret' (by symm; rw [decide_eq_false_iff_not]; intro e; exact h (List.cons.inj e).1)
    rw [wrp_i64 (by omega) (by omega), show ((i : Int) + 1) = ((i + 1 : Nat) : Int) by omega]
    refine (Equal_l0_ev z z2 A B hl hL k (i + 1) (by omega)).cast ?_
    rw [decide_eq_decide, List.cons.injEq]; simp only [h, true_and]
theorem Equal_ev (a b : Sl Int) (hL : a.l.length ≤ 1099511627776) : Ev (fun q => slices_Equal_byte_byte q a b) (decide (a.l = b.l)) := by
  refine Ev.succ (Ev.ite (fun h => ?_) fun h => Ev.ret' ?_) (fun q => rfl)
  · have := Equal_l0_ev a.z b.z a.l b.l (by omega) hL a.l.length 0 (by omega)
    rw [List.drop_zero, List.drop_zero] at this; exact this
  · symm; rw [decide_eq_false_iff_not]; intro e; rw [e] at h; exact h rfl

/-- The data of the frame that bytes begin with, how many bytes it has, and the error. -/
def decF (l : List Int) : List Int × Int × Int :=
  if openB l = true then ([], 0, 2) else if (getN l).2 = 0 then ([], 0, 3) else if 1048576 < (getN l).1 then ([], 0, 5) else if (l.length : Int) < (getN l).2 + 4 + (getN l).1 then ([], 0, 2)
  else if (l.drop ((getN l).2 + (getN l).1).toNat).take 4 = fix4 (bsum (l.take ((getN l).2 + (getN l).1).toNat)).toNat then ((l.take ((getN l).2 + (getN l).1).toNat).drop (getN l).2.toNat, (getN l).2 + (getN l).1 + 4, 0) else ([], 0, 4)
theorem isB_take {l : List Int} (h : isB l) (n : Nat) : isB (l.take n) := fun c hc => h c (List.mem_of_mem_take hc)
theorem isB_drop {l : List Int} (h : isB l) (n : Nat) : isB (l.drop n) := fun c hc => h c (List.mem_of_mem_drop hc)
theorem frame_Decode_ev (s : Sl Int) (hz : s.z = true → s.l = []) (hb : isB s.l) (hl : s.l.length ≤ 4294967296) : ∃ z, Ev (fun q => frame_Decode q s) (⟨z, true, (decF s.l).1⟩, (decF s.l).2.1, (decF s.l).2.2) := by
  unfold decF
  by_cases h1 : openB s.l = true
  · rw [if_pos h1]
    exact ⟨true, Ev.succ (Ev.bind (frame_open_ev s) (Ev.pos h1 (Ev.ret _))) (fun q => rfl)⟩
  rw [if_neg h1]
  by_cases h2 : (getN s.l).2 = 0
  · rw [if_pos h2]
    exact ⟨true, Ev.succ (Ev.bind (frame_open_ev s) (Ev.neg h1 (Ev.bind (num_Get_ev s hb) (Ev.pos h2 (Ev.ret _))))) (fun q => rfl)⟩
  rw [if_neg h2]
  by_cases h3 : 1048576 < (getN s.l).1
  · rw [if_pos h3]
    exact ⟨true, Ev.succ (Ev.bind (frame_open_ev s) (Ev.neg h1 (Ev.bind (num_Get_ev s hb) (Ev.neg h2 (Ev.pos h3 (Ev.ret _)))))) (fun q => rfl)⟩
  rw [if_neg h3]
  obtain ⟨g1, g2, g3, g4, g5⟩ := getN_len (l := s.l)
  generalize hk : (getN s.l).2 = k at *
  generalize hn : (getN s.l).1 = n at *
  have hg : getN s.l = (n, k) := by rw [← hk, ← hn]
  have hget := num_Get_ev s hb
  rw [hg] at hget
  have w1 : wrp .i64 (k + 4) = k + 4 := wrp_i64 (by omega) (by omega)
  have w2 : wrp .i64 (k + 4 + n) = k + 4 + n := wrp_i64 (by omega) (by omega)
  have w3 : wrp .i64 (k + n) = k + n := wrp_i64 (by omega) (by omega)
  have w4 : wrp .i64 (k + n + 4) = k + n + 4 := wrp_i64 (by omega) (by omega)
  by_cases h4 : (s.l.length : Int) < k + 4 + n
  · rw [if_pos h4]
    exact ⟨true, Ev.succ (Ev.bind (frame_open_ev s) (Ev.neg h1 (Ev.bind hget (Ev.neg h2 (Ev.neg h3 (Ev.pos (by simp only; rw [w1, w2]; exact h4) (Ev.ret _))))))) (fun q => rfl)⟩
  rw [if_neg h4]
  have hzf : s.z = false := by
    cases hz' : s.z
    · rfl
    · have := hz hz'; rw [this] at h4; simp at h4; omega
  have hsum := frame_sum_ev ⟨s.z, List.take k.toNat s.l⟩ ⟨s.z, List.drop k.toNat (List.take (k + n).toNat s.l)⟩ (isB_take hb _) (isB_drop (isB_take hb _) _) (by simp; omega) (by simp; omega)
  have heq := Equal_ev ⟨s.z, List.drop (k + n).toNat (List.take (k + n + 4).toNat s.l)⟩ ⟨false, fix4 (bsum (List.take k.toNat s.l ++ List.drop k.toNat (List.take (k + n).toNat s.l))).toNat⟩ (by simp; omega)
  have hcl : Ev (fun q => slices_Clone_byte_byte q ⟨s.z, List.drop k.toNat (List.take (k + n).toNat s.l)⟩) ⟨false, true, List.drop k.toNat (List.take (k + n).toNat s.l)⟩ :=
    Ev.succ (Ev.neg (by simp [hzf]) (Ev.pos (by simp; omega) (Ev.ret _))) (fun q => rfl)
  have ht : List.take k.toNat s.l ++ List.drop k.toNat (List.take (k + n).toNat s.l) = List.take (k + n).toNat s.l := by
    have := List.take_append_drop k.toNat (List.take (k + n).toNat s.l)
    rw [List.take_take, Nat.min_eq_left (by omega)] at this; exact this
  rw [ht] at heq hsum
  have hd : List.drop (k + n).toNat (List.take (k + n + 4).toNat s.l) = List.take 4 (List.drop (k + n).toNat s.l) := by
    rw [List.drop_take]; congr 1; omega
  rw [hd] at heq
  have pre : ∀ {r : Ow Int × Int × Int}, Ev (fun q => (slices_Equal_byte_byte q ⟨s.z, List.take 4 (List.drop (k + n).toNat s.l)⟩ ⟨false, fix4 (bsum (List.take (k + n).toNat s.l)).toNat⟩).bind fun r4 => (if r4 = true then ((slices_Clone_byte_byte q ⟨s.z, (List.drop k.toNat (List.take (k + n).toNat s.l))⟩).bind fun r5 => (some (r5, k + n + 4, 0))) else (some (⟨true, true, []⟩, 0, 4)))) r → Ev (fun q => frame_Decode q s) r := by
    intro r h
    refine Ev.succ (Ev.bind (frame_open_ev s) (Ev.neg h1 (Ev.bind hget (Ev.neg h2 (Ev.neg h3 ?_))))) (fun q => rfl)
    simp only [w1, w2, w3, w4]
    refine Ev.neg h4 (Ev.pos (by omega) (Ev.pos (by omega) (Ev.pos (by omega) (Ev.pos (by omega) (Ev.pos (by omega) (Ev.pos (by omega) (Ev.pos (by omega) (Ev.pos (by omega) (Ev.pos (by omega) (Ev.bind hsum ?_))))))))))
    rw [hd]
    exact h
  by_cases h5 : List.take 4 (List.drop (k + n).toNat s.l) = fix4 (bsum (List.take (k + n).toNat s.l)).toNat
  · rw [if_pos h5]
    exact ⟨false, pre (Ev.bind heq (Ev.pos (by simpa using h5) (Ev.bind hcl (Ev.ret _))))⟩
  · rw [if_neg h5]
    exact ⟨true, pre (Ev.bind heq (Ev.neg (by simpa using h5) (Ev.ret _)))⟩

theorem rd_put {n : Int} {x : List Int} (h1 : 0 ≤ n) (h2 : n < 4611686018427387904) : rd 0 (put n ++ x) = some (n.toNat, (put n).length) := by
  rw [put_ok h1 h2]; exact rd_grp (by simp; omega) (by omega) (by omega)
theorem getN_put {n : Int} {x : List Int} (h1 : 0 ≤ n) (h2 : n < 4611686018427387904) : getN (put n ++ x) = (n, ((put n).length : Int)) := by
  unfold getN; rw [rd_put h1 h2]; simp only; rw [if_neg (by omega)]; simp; omega
theorem grp_low : ∀ n, ∃ c ∈ grp n, c < 128 := by
  intro n
  induction n using Nat.strongRecOn with
  | ind n ih =>
    by_cases h : n < 128
    · rw [grp_lt h]; exact ⟨_, List.mem_cons_self, by omega⟩
    · rw [grp_ge h]
      obtain ⟨c, h1, h2⟩ := ih (n / 128) (by omega)
      exact ⟨c, List.mem_cons_of_mem _ h1, h2⟩
theorem openB_put {n : Int} {x : List Int} (h1 : 0 ≤ n) (h2 : n < 4611686018427387904) : openB (put n ++ x) = false := by
  unfold openB; rw [decide_eq_false_iff_not]
  rintro ⟨_, h⟩
  obtain ⟨c, hc, hl⟩ := grp_low n.toNat
  rw [put_ok h1 h2] at h
  have := h c (List.mem_append.2 (.inl hc)); omega
/-- A frame is decoded as what was framed. -/
theorem decF_encF {l x : List Int} (hl : l.length ≤ 1048576) : decF (encF l ++ x) = (l, ((encF l).length : Int), 0) := by
  have hp := put_len (l.length : Int)
  unfold decF
  have e : encF l ++ x = put (l.length : Int) ++ (l ++ (fix4 (bsum (put (l.length : Int) ++ l)).toNat ++ x)) := by simp [encF]
  rw [e, openB_put (by omega) (by omega), getN_put (by omega) (by omega)]
  have ht : List.take (((put (l.length : Int)).length : Int) + (l.length : Int)).toNat (put (l.length : Int) ++ (l ++ (fix4 (bsum (put (l.length : Int) ++ l)).toNat ++ x))) = put (l.length : Int) ++ l := by
    rw [← List.append_assoc, List.take_left' (by simp; omega)]
  have hd : List.drop (((put (l.length : Int)).length : Int) + (l.length : Int)).toNat (put (l.length : Int) ++ (l ++ (fix4 (bsum (put (l.length : Int) ++ l)).toNat ++ x))) = fix4 (bsum (put (l.length : Int) ++ l)).toNat ++ x := by
    rw [← List.append_assoc, List.drop_left' (by simp; omega)]
  have hg := grp_pos l.length
  have hpp : 1 ≤ (put (l.length : Int)).length := by rw [put_ok (by omega) (by omega)]; simpa using hg
  simp only [ht, hd]
  rw [if_neg (by simp), if_neg (by omega), if_neg (by omega), if_neg (by simp [fix4]; omega), if_pos (by simp [fix4])]
  simp [encF, fix4]
  omega

theorem encF_nil : encF [] = [0, 81, 83, 125, 82] := by
  have hp : put ((([] : List Int).length : Nat) : Int) = [0] := by
    rw [put_ok (by simp) (by simp)]; exact grp_lt (by simp)
  have : fix4 (bsum [0]).toNat = [81, 83, 125, 82] := by decide +kernel
  simp only [encF, hp, List.append_nil, this, List.nil_append, List.cons_append]
theorem awake03_ev : Ev (fun q => ferrymanlaw03_awake q) true := by
  obtain ⟨z1, h1⟩ := frame_Encode_ev ⟨true, []⟩ (by intro c hc; simp at hc) (by simp)
  obtain ⟨z2, h2⟩ := frame_Decode_ev ⟨false, [128]⟩ (by simp) (by intro c hc; simp at hc; omega) (by simp)
  obtain ⟨z3, h3⟩ := frame_Decode_ev ⟨false, List.replicate 5 0⟩ (by simp) (by intro c hc; simp at hc; omega) (by simp)
  have d2 : decF [128] = ([], 0, 2) := by decide +kernel
  have d3 : decF (List.replicate 5 0) = ([], 0, 4) := by decide +kernel
  have h4 := frame_Size_ev 0
  have e4 : sizeF 0 = 5 := by
    have : put 0 = [0] := by rw [put_ok (by omega) (by omega)]; exact grp_lt (by simp)
    simp [sizeF, this]
  rw [e4] at h4
  simp only [encF_nil] at h1
  simp only [d2] at h2
  simp only [d3] at h3
  refine Ev.succ (Ev.bind h1 (Ev.bind h2 (Ev.bind h3 (Ev.pos rfl (Ev.pos rfl (Ev.pos rfl (Ev.pos rfl ?_))))))) (fun q => rfl)
  refine Ev.bind h4 ?_
  exact Ev.ret' (by decide)
end Go.Dvm.I
