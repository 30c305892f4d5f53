/- Plain laws of the functions. -/
import Derived.Test.YtnmceljcgioomaaQpPuH
set_option linter.all false
set_option maxRecDepth 100000
namespace Go.Dvm.I
open Go Go.Dvm

theorem grp_mono : ∀ {a b : Nat}, a ≤ b → (grp a).length ≤ (grp b).length := by
  intro a
  induction a using Nat.strongRecOn with
  | ind a ih =>
    intro b h
    by_cases ha : a < 128
    · rw [grp_lt ha]; exact grp_pos b
    · rw [grp_ge ha, grp_ge (n := b) (by omega)]
      have := ih (a / 128) (by omega) (b := b / 128) (Nat.div_le_div_right h)
      simp; omega
theorem sizeF_pos {n : Int} (h1 : 0 ≤ n) (h2 : n ≤ 1048576) : sizeF n = (grp n.toNat).length + 4 + n := by
  unfold sizeF; rw [if_neg (by omega), if_neg (by omega), put_ok h1 (by omega)]
theorem ferrymanlaw03_FrameSizes_true : ∀ (a0 : Int) (a1 : Int), inR .i64 a0 → inR .i64 a1 → ∃ q, ferrymanlaw03_FrameSizes q a0 a1 = some true := by
  intro n m _ _
  refine Ev.get (f := fun q => ferrymanlaw03_FrameSizes q n m) ?_
  refine Ev.succ (Ev.bind awake03_ev (Ev.ite (fun h1 => Ev.ret _) fun h1 => Ev.ite (fun h2 => Ev.ret _) fun h2 => Ev.ite (fun h3 => Ev.ret _) fun h3 => Ev.ite (fun h4 => Ev.ret _) fun h4 => Ev.bind (frame_Size_ev n) (Ev.pos rfl ?_))) (fun q => rfl)
  have g1 := grp_pos n.toNat
  have g2 : (grp n.toNat).length ≤ 3 := grp_len 2 (by omega)
  have w : wrp .i64 (sizeF n - n) = (grp n.toNat).length + 4 := by
    rw [sizeF_pos (by omega) (by omega), wrp_i64] <;> omega
  have w2 : wrp .i64 (n + m) = n + m := wrp_i64 (by omega) (by omega)
  simp only [w, w2]
  refine Ev.pos (by omega) (Ev.pos (by omega) (Ev.ite (fun h5 => Ev.bind (frame_Size_ev (n + m)) (Ev.pos ?_ (Ev.ret _))) fun h5 => Ev.bind (frame_Size_ev (n + m)) (Ev.ret' ?_)))
  · unfold sizeF; rw [if_neg (by omega), if_pos (by omega)]
  · rw [decide_eq_true_eq, sizeF_pos (by omega) (by omega), sizeF_pos (by omega) (by omega)]
    have := grp_mono (a := n.toNat) (b := (n + m).toNat) (by omega)
    omega

theorem isB_of {s : Sl Int} (h : okSl (fun x => inR .u8 x) s) : isB s.l := fun c hc => by
  have := h.2.2 c hc
  simp [inR, IntKind.min, IntKind.max, IntKind.signed, IntKind.bits] at this; omega
theorem FrameBack_l0_ev (z : Bool) (l : List Int) (z2 : Bool) (B : List Int) {r : Ow Int × Int × Int} (hd : Ev (fun q => frame_Decode q ⟨z2, B⟩) r) (he : r.2.2 = 0) (hx : r.1.xs = l) : ∀ (k i : Nat) (z3 : Bool) (m : List Int), m.length = i + k → m.length ≤ 1099511627776 → Ev (fun q => ferrymanlaw03_FrameBack_l0 q z l true (i : Int) z2 B z3 m true) true
  | 0, i, z3, m, hk, hm => Ev.succ (Ev.neg (by omega) (Ev.bind hd (Ev.pos rfl (Ev.pos he (Ev.ret' (by simp [hx])))))) (fun q => rfl)
  | k + 1, i, z3, m, hk, hm => by
    have hi : i < m.length := by omega
    have hg : m[(i : Int).toNat]? = some m[i] := by simpa using List.getElem?_eq_getElem hi
    refine Ev.succ (Ev.pos (by omega) (Ev.pos (by omega) (Ev.pos (by simpa using hi) (Ev.opt hg (Ev.pos rfl ?_))))) (fun q => rfl)
    rw [wrp_i64 (by omega) (by omega), show ((i : Int) + 1) = ((i + 1 : Nat) : Int) by omega]
    exact FrameBack_l0_ev z l z2 B hd he hx k (i + 1) z3 _ (by simp; omega) (by simpa using hm)
theorem ferrymanlaw03_FrameBack_true : ∀ (a0 : (Sl Int)) (a1 : (Sl Int)), okSl (fun x => inR .u8 x) a0 → okSl (fun x => inR .u8 x) a1 → ∃ q, ferrymanlaw03_FrameBack q a0 a1 = some true := by
  intro s t hs ht
  refine Ev.get (f := fun q => ferrymanlaw03_FrameBack q s t) ?_
  refine Ev.succ (Ev.bind awake03_ev (Ev.ite (fun h1 => Ev.ret _) fun h1 => Ev.ite (fun h2 => Ev.ret _) fun h2 => ?_)) (fun q => rfl)
  obtain ⟨z, he⟩ := frame_Encode_ev s (isB_of hs) (by omega)
  have hp := put_len (s.l.length : Int)
  have hlen : (encF s.l).length ≤ 5014 := by simp [encF, fix4]; omega
  have hbF : isB (encF s.l) := by
    unfold encF
    refine isB_app.2 ⟨put_isB _, isB_app.2 ⟨isB_of hs, ?_⟩⟩
    intro c hc; simp [fix4] at hc; omega
  have hz : ((decide ((encF s.l).length = 0)) && (decide (t.l.length = 0))) = true → encF s.l ++ t.l = [] := by
    intro h
    simp only [Bool.and_eq_true, decide_eq_true_eq] at h
    rw [List.eq_nil_of_length_eq_zero h.1, List.eq_nil_of_length_eq_zero h.2]; rfl
  obtain ⟨z2, hd⟩ := frame_Decode_ev ⟨((decide ((encF s.l).length = 0)) && (decide (t.l.length = 0))), encF s.l ++ t.l⟩ hz (isB_app.2 ⟨hbF, isB_of ht⟩) (by simp; omega)
  have hdec : decF (encF s.l ++ t.l) = (s.l, ((encF s.l).length : Int), 0) := decF_encF (by omega)
  simp only [hdec] at hd
  refine Ev.bind he (Ev.pos (by simp only; omega) (Ev.pos (by simp only; omega) (Ev.bind hd (Ev.pos rfl (Ev.pos rfl (Ev.pos rfl (Ev.pos rfl ?_)))))))
  exact FrameBack_l0_ev _ _ _ _ hd rfl rfl s.l.length 0 z2 s.l (by omega) (by omega)

theorem rd_inv : ∀ {l : List Int} {i v k : Nat}, isB l → rd i l = some (v, k) → l.take k = grp v ∧ (0 < i → v ≠ 0)
  | [], i, v, k, hb, h => by simp [rd] at h
  | c :: l, i, v, k, hb, h => by
    obtain ⟨b1, b2⟩ := hb c List.mem_cons_self
    simp only [rd] at h
    split at h
    · cases h
    · split at h
      · cases h
      · split at h
        · cases h
        · rename_i h1 h2 h3
          split at h
          · simp at h; obtain ⟨rfl, rfl⟩ := h
            refine ⟨?_, fun hi e => h3 ⟨by omega, hi⟩⟩
            rw [grp_lt (by omega)]; simp; omega
          · cases hr : rd (i + 1) l with
            | none => simp [hr] at h
            | some r =>
              obtain ⟨v', k'⟩ := r
              simp [hr] at h
              obtain ⟨rfl, rfl⟩ := h
              obtain ⟨e1, e2⟩ := rd_inv (fun c hc => hb c (List.mem_cons_of_mem _ hc)) hr
              have hv := e2 (by omega)
              refine ⟨?_, fun _ => by omega⟩
              rw [grp_ge (by omega), List.take_succ_cons, e1]
              congr 1
              · omega
              · congr 1; omega
theorem decF_ok {l x : List Int} {n : Int} (hb : isB l) (h : decF l = (x, n, 0)) : x.length ≤ 1048576 ∧ 0 ≤ n ∧ n.toNat ≤ l.length ∧ 5 ≤ n ∧ encF x = l.take n.toNat := by
  unfold decF at h
  split at h
  · simp at h
  split at h
  · simp at h
  split at h
  · simp at h
  split at h
  · simp at h
  split at h
  · rename_i h1 h2 h3 h4 h5
    obtain ⟨g1, g2, g3, g4, g5⟩ := getN_len (l := l)
    have hrd : rd 0 l = some ((getN l).1.toNat, (getN l).2.toNat) := by
      unfold getN at h2 ⊢
      cases hr : rd 0 l with
      | none => rw [hr] at h2; simp at h2
      | some p =>
        rw [hr] at h2; simp only at h2 ⊢
        split at h2
        · simp at h2
        · rename_i hlt; rw [if_neg hlt]; simp
    obtain ⟨e1, _⟩ := rd_inv hb hrd
    generalize (getN l).2 = k at *
    generalize (getN l).1 = m at *
    simp only [Prod.mk.injEq, and_true] at h
    obtain ⟨hx, hn⟩ := h
    have hlx : x.length = m.toNat := by rw [← hx]; simp; omega
    refine ⟨by omega, by omega, by omega, by omega, ?_⟩
    have hput : put (x.length : Int) = l.take k.toNat := by
      rw [put_ok (by omega) (by omega), e1]; congr 1
    have hcat : l.take k.toNat ++ x = l.take (k + m).toNat := by
      rw [← hx]
      have := List.take_append_drop k.toNat (List.take (k + m).toNat l)
      rw [List.take_take, Nat.min_eq_left (by omega)] at this; exact this
    unfold encF
    rw [hput, hcat, ← h5, ← List.append_assoc, hcat, ← hn, show (k + m + 4).toNat = (k + m).toNat + 4 by omega, List.take_add]
  · simp at h
theorem decF_no {l x : List Int} {n e : Int} (h : decF l = (x, n, e)) (he : e ≠ 0) : x = [] ∧ n = 0 := by
  unfold decF at h
  split at h
  · simp_all
  split at h
  · simp_all
  split at h
  · simp_all
  split at h
  · simp_all
  split at h
  · simp at h; omega
  · simp_all
theorem decF_isB {l : List Int} (hb : isB l) : isB (decF l).1 := by
  have nil : isB [] := fun c hc => by simp at hc
  unfold decF
  split; exact nil
  split; exact nil
  split; exact nil
  split; exact nil
  split
  · exact isB_drop (isB_take hb _) _
  · exact nil
theorem ferrymanlaw03_FrameOnce_true : ∀ (a0 : (Sl Int)), okSl (fun x => inR .u8 x) a0 → ∃ q, ferrymanlaw03_FrameOnce q a0 = some true := by
  intro s hs
  refine Ev.get (f := fun q => ferrymanlaw03_FrameOnce q s) ?_
  refine Ev.succ (Ev.bind awake03_ev (Ev.ite (fun h1 => Ev.ret _) fun h1 => ?_)) (fun q => rfl)
  obtain ⟨z, hd⟩ := frame_Decode_ev s hs.1 (isB_of hs) (by omega)
  have hB := decF_isB (isB_of hs)
  generalize hr : decF s.l = r at hd hB
  obtain ⟨x, n, e⟩ := r
  by_cases he : e = 0
  · subst he
    obtain ⟨k1, k2, k3, k4, k5⟩ := decF_ok (isB_of hs) hr
    obtain ⟨z2, h2⟩ := frame_Encode_ev ⟨z, x⟩ hB k1
    refine Ev.bind hd (Ev.pos rfl (Ev.bind h2 (Ev.pos rfl (Ev.pos rfl (Ev.pos (by simp only; omega) (Ev.pos k2 (Ev.pos k3 (Ev.ret' ?_))))))))
    simp [k5]
  · obtain ⟨rfl, rfl⟩ := decF_no hr he
    exact Ev.bind hd (Ev.neg he (Ev.pos rfl (Ev.pos rfl (Ev.ret' (by simp)))))
end Go.Dvm.I
