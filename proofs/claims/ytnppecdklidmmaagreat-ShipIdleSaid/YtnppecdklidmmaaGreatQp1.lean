/- Plain laws of the functions: part 2. -/
import Derived.Test.YtnppecdklidmmaaGreatQp0
set_option linter.all false
set_option maxRecDepth 100000
namespace Go.Dvm.I
open Go Go.Dvm
theorem zcl7 (s : zkk) (hz : s.L.z = true → s.L.l = []) (hL : s.L.l.length ≤ 1000000) (h2 : s.L.l.length % 2 = 0) (o : zkn) : Comes zlc s o (stoV s.L.l o) := by
 have hH := has_ev s.L o.A hL h2
 have hF := zcl4 s.L o.A hL h2
 have hp := zcl1 o.A s.L.l h2
 have hP := put_ev s.L hz o.A (cutI o.B) hL h2
 -- what is done where the operation is to put
 have put : ∀ {K : Nat → Option (zkk × Int)}, K = (fun q => (zku q o.B).bind fun r5 => ((zlb q s.L o.A r5).bind fun r6 => (if r6.2 = true then (some ((⟨s.Kind, r6.1, s.Sealed, s.To⟩ : zkk), hasL o.A s.L.l)) else (some (s, (-2)))))) →
   ∃ z, (z = true → (if putOk o.A s.L.l = true then (putL o.A (cutI o.B) s.L.l, hasL o.A s.L.l) else (s.L.l, -2)).1 = []) ∧ Ev K (wS s z (if putOk o.A s.L.l = true then (putL o.A (cutI o.B) s.L.l, hasL o.A s.L.l) else (s.L.l, -2)).1, (if putOk o.A s.L.l = true then (putL o.A (cutI o.B) s.L.l, hasL o.A s.L.l) else (s.L.l, -2)).2) := by
  rintro K rfl
  by_cases c : putOk o.A s.L.l = true
  ·rw [if_pos c] at hP ⊢
   refine ⟨false, fun h => (by cases h), Ev.bind (zcf0 _) (Ev.bind hP (Ev.pos rfl ?_))⟩
   exact Ev.ret' rfl
  ·rw [if_neg c] at hP ⊢
   refine ⟨s.L.z, hz, Ev.bind (zcf0 _) (Ev.bind hP (Ev.neg (by simp) ?_))⟩
   exact Ev.ret' rfl
 have del : isL o.A s.L.l = true → ∀ {K : Nat → Option (zkk × Int)}, K = (fun q => (zk4 q s.L).bind fun r3 => ((zk5 q r3 (findN o.A s.L.l : Int) (wrp .i64 ((findN o.A s.L.l : Int) + 2))).bind fun r4 => (some ((⟨s.Kind, ⟨r4.n, r4.xs⟩, s.Sealed, s.To⟩ : zkk), hasL o.A s.L.l)))) →
   Ev K (wS s false (delL o.A s.L.l), hasL o.A s.L.l) := by
  intro c K hK
  subst hK
  have h1 := hp.2.1 c
  have hs : s.L.z = false := by
   by_cases e : s.L.z = true
   ·rw [hz e] at h1; simp at h1
   ·simpa using e
  have w : wrp .i64 ((findN o.A s.L.l : Int) + 2) = ((findN o.A s.L.l + 2 : Nat) : Int) := by rw [zcfl (by omega) (by omega)]; omega
  have hD := zclz (l := s.L.l) (i := (findN o.A s.L.l : Int)) (j := ((findN o.A s.L.l + 2 : Nat) : Int)) (by omega) (by omega) (by omega) hL
  rw [y27, y27, del_is o.A s.L.l h2 c] at hD
  rw [w]
  refine Ev.bind (zch6 s.L hs (by omega)) ?_
  exact Ev.bind hD (Ev.ret' rfl)
 unfold Comes stoV
 by_cases c7 : o.Code = 7
 ·rw [if_pos (.inl c7)]
  by_cases a0 : o.A < 0
  ·rw [if_pos (.inl a0)]
   exact ⟨s.L.z, hz, Ev.succ (Ev.pos c7 (Ev.pos a0 (Ev.ret _))) (fun q => rfl)⟩
  ·by_cases a1 : 255 < o.A
   ·rw [if_pos (.inr a1)]
    exact ⟨s.L.z, hz, Ev.succ (Ev.pos c7 (Ev.neg a0 (Ev.pos a1 (Ev.ret _)))) (fun q => rfl)⟩
   ·rw [if_neg (by omega), if_neg (fun h => by omega), if_neg (by omega)]
    refine ⟨s.L.z, hz, Ev.succ (Ev.pos c7 (Ev.neg a0 (Ev.neg a1 (Ev.bind hH (Ev.bind hF (Ev.ne (Ev.neg (by omega) ?_))))))) (fun q => rfl)⟩
    exact Ev.ret' rfl
 ·by_cases c6 : o.Code = 6
  ·rw [if_pos (.inr (.inl c6))]
   by_cases a0 : o.A < 0
   ·rw [if_pos (.inl a0)]
    exact ⟨s.L.z, hz, Ev.succ (Ev.neg c7 (Ev.pos c6 (Ev.pos a0 (Ev.ret _)))) (fun q => rfl)⟩
   ·by_cases a1 : 255 < o.A
    ·rw [if_pos (.inr a1)]
     exact ⟨s.L.z, hz, Ev.succ (Ev.neg c7 (Ev.pos c6 (Ev.neg a0 (Ev.pos a1 (Ev.ret _))))) (fun q => rfl)⟩
    ·rw [if_neg (show ¬ (o.A < 0 ∨ 255 < o.A) by omega)]
     by_cases d : isL o.A s.L.l = true
     ·rw [if_pos ⟨c6, d⟩]
      refine ⟨false, fun h => (by cases h), Ev.succ (Ev.neg c7 (Ev.pos c6 (Ev.neg a0 (Ev.neg a1 (Ev.bind hH (Ev.bind hF (Ev.pos d ?_))))))) (fun q => rfl)⟩
      exact del d rfl
     ·rw [if_neg (fun h => d h.2), if_neg (by omega)]
      refine ⟨s.L.z, hz, Ev.succ (Ev.neg c7 (Ev.pos c6 (Ev.neg a0 (Ev.neg a1 (Ev.bind hH (Ev.bind hF (Ev.neg d (Ev.neg (by omega) ?_)))))))) (fun q => rfl)⟩
      exact Ev.ret' rfl
  ·by_cases c5 : o.Code = 5
   ·rw [if_pos (.inr (.inr c5))]
    by_cases a0 : o.A < 0
    ·rw [if_pos (.inl a0)]
     exact ⟨s.L.z, hz, Ev.succ (Ev.neg c7 (Ev.neg c6 (Ev.pos c5 (Ev.pos a0 (Ev.ret _))))) (fun q => rfl)⟩
    ·by_cases a1 : 255 < o.A
     ·rw [if_pos (.inr a1)]
      exact ⟨s.L.z, hz, Ev.succ (Ev.neg c7 (Ev.neg c6 (Ev.pos c5 (Ev.neg a0 (Ev.pos a1 (Ev.ret _)))))) (fun q => rfl)⟩
     ·rw [if_neg (show ¬ (o.A < 0 ∨ 255 < o.A) by omega), if_neg (fun h => by omega), if_pos c5]
      obtain ⟨z, h3, h4⟩ := put rfl
      refine ⟨z, h3, Ev.succ (Ev.neg c7 (Ev.neg c6 (Ev.pos c5 (Ev.neg a0 (Ev.neg a1 (Ev.bind hH (Ev.bind hF ?_))))))) (fun q => rfl)⟩
      exact h4
   ·rw [if_neg (by omega)]
    exact ⟨s.L.z, hz, Ev.succ (Ev.neg c7 (Ev.neg c6 (Ev.neg c5 (Ev.ret _)))) (fun q => rfl)⟩
theorem zcl8 (s : zkk) (hz : s.L.z = true → s.L.l = []) (hL : s.L.l.length ≤ 900000) (h2 : s.L.l.length % 2 = 0) (o : zkn) : Comes zld s o (movV s.L.l o) := by
 unfold Comes movV
 by_cases a0 : o.A < 0
 ·rw [if_pos (.inl a0)]
  exact ⟨s.L.z, hz, Ev.succ (Ev.pos a0 (Ev.ret _)) (fun q => rfl)⟩
 by_cases a1 : 65536 ≤ o.A
 ·rw [if_pos (.inr (.inl a1))]
  exact ⟨s.L.z, hz, Ev.succ (Ev.neg a0 (Ev.pos a1 (Ev.ret _))) (fun q => rfl)⟩
 by_cases b0 : o.B < 0
 ·rw [if_pos (.inr (.inr b0))]
  exact ⟨s.L.z, hz, Ev.succ (Ev.neg a0 (Ev.neg a1 (Ev.pos b0 (Ev.ret _)))) (fun q => rfl)⟩
 rw [if_neg (show ¬ (o.A < 0 ∨ 65536 ≤ o.A ∨ o.B < 0) by omega)]
 generalize hf : wrp .i64 (Int.tdiv o.A 256) = f
 generalize ht : Int.tmod o.A 256 = t
 have start : ∀ {r : zkk × Int}, Ev (fun q => (if hasL f s.L.l < o.B then (some (s, 0)) else (if f = t then (some (s, 1)) else ((zlb q s.L t (wrp .i64 (nz (hasL t s.L.l) + o.B))).bind fun r3 => (if r3.2 = true then (if 1099511627776 < (wrp .i64 (nz (hasL t s.L.l) + o.B)) then (some (s, 0)) else ((zlb q r3.1 f (wrp .i64 (hasL f s.L.l - o.B))).bind fun r4 => (some ((⟨s.Kind, r4.1, s.Sealed, s.To⟩ : zkk), 1)))) else (some (s, 0))))))) r → Ev (fun q => zld q s o) r := fun h => by
  have hf' := has_ev s.L f (by omega) h2
  have ht' := has_ev s.L t (by omega) h2
  subst hf; subst ht
  refine Ev.succ (Ev.neg a0 (Ev.neg a1 (Ev.neg b0 (Ev.bind hf' (Ev.bind ht' ?_))))) (fun q => rfl)
  exact h
 by_cases c1 : hasL f s.L.l < o.B
 ·rw [if_pos c1]
  exact ⟨s.L.z, hz, start (Ev.pos c1 (Ev.ret _))⟩
 rw [if_neg c1]
 by_cases c2 : f = t
 ·rw [if_pos c2]
  exact ⟨s.L.z, hz, start (Ev.neg c1 (Ev.pos c2 (Ev.ret _)))⟩
 rw [if_neg c2]
 have hP := put_ev s.L hz t (wrp .i64 (nz (hasL t s.L.l) + o.B)) (by omega) h2
 generalize wrp .i64 (nz (hasL t s.L.l) + o.B) = n at hP start ⊢
 by_cases c3 : putOk t s.L.l = true
 ·rw [if_pos c3] at hP ⊢
  by_cases c4 : 1099511627776 < n
  ·rw [if_pos c4]
   refine ⟨s.L.z, hz, start (Ev.neg c1 (Ev.neg c2 (Ev.bind hP (Ev.pos rfl (Ev.pos c4 ?_)))))⟩
   exact Ev.ret _
  ·rw [if_neg c4]
   have hl := zcl2 t n s.L.l h2
   have he : (putL t n s.L.l).length % 2 = 0 := by rw [hl]; split <;> omega
   have hl2 : (putL t n s.L.l).length ≤ 1000000 := by rw [hl]; split <;> omega
   have hQ := put_ev ⟨false, putL t n s.L.l⟩ (fun h => by cases h) f (wrp .i64 (hasL f s.L.l - o.B)) hl2 he
   simp only at hQ
   by_cases c5 : putOk f (putL t n s.L.l) = true
   ·rw [if_pos c5] at hQ ⊢
    refine ⟨false, fun h => (by cases h), start (Ev.neg c1 (Ev.neg c2 (Ev.bind hP (Ev.pos rfl (Ev.neg c4 ?_)))))⟩
    exact Ev.bind hQ (Ev.ret' rfl)
   ·rw [if_neg c5] at hQ ⊢
    refine ⟨false, fun h => (by cases h), start (Ev.neg c1 (Ev.neg c2 (Ev.bind hP (Ev.pos rfl (Ev.neg c4 ?_)))))⟩
    exact Ev.bind hQ (Ev.ret' rfl)
 ·rw [if_neg c3] at hP ⊢
  refine ⟨s.L.z, hz, start (Ev.neg c1 (Ev.neg c2 (Ev.bind hP (Ev.neg (by simp) ?_))))⟩
  exact Ev.ret _
theorem zcl9 (s : zkk) (hz : s.L.z = true → s.L.l = []) (hL : s.L.l.length ≤ 900000) (h2 : s.L.l.length % 2 = 0) (o : zkn) : Comes zle s o (ledV s.L.l o) := by
 unfold ledV
 by_cases c9 : o.Code = 9
 ·rw [if_pos c9]
  obtain ⟨z, h1, h3⟩ := zcl8 s hz hL h2 o
  refine ⟨z, h1, Ev.succ (Ev.pos c9 (Ev.bind h3 ?_)) (fun q => rfl)⟩
  exact Ev.ret' rfl
 unfold Comes
 rw [if_neg c9]
 have hH := has_ev s.L o.A (by omega) h2
 by_cases c7 : o.Code = 7
 ·rw [if_pos c7]
  by_cases a0 : o.A < 0
  ·rw [if_pos (.inl a0)]
   exact ⟨s.L.z, hz, Ev.succ (Ev.neg c9 (Ev.pos c7 (Ev.pos a0 (Ev.ret _)))) (fun q => rfl)⟩
  ·by_cases a1 : 255 < o.A
   ·rw [if_pos (.inr a1)]
    exact ⟨s.L.z, hz, Ev.succ (Ev.neg c9 (Ev.pos c7 (Ev.neg a0 (Ev.pos a1 (Ev.ret _))))) (fun q => rfl)⟩
   ·rw [if_neg (by omega)]
    refine ⟨s.L.z, hz, Ev.succ (Ev.neg c9 (Ev.pos c7 (Ev.neg a0 (Ev.neg a1 (Ev.bind hH ?_))))) (fun q => rfl)⟩
    exact Ev.ret' rfl
 ·rw [if_neg c7]
  by_cases c8 : o.Code = 8
  ·rw [if_pos c8]
   by_cases a0 : o.A < 0
   ·rw [if_pos (.inl a0)]
    exact ⟨s.L.z, hz, Ev.succ (Ev.neg c9 (Ev.neg c7 (Ev.pos c8 (Ev.pos a0 (Ev.ret _))))) (fun q => rfl)⟩
   ·by_cases a1 : 255 < o.A
    ·rw [if_pos (.inr (.inl a1))]
     exact ⟨s.L.z, hz, Ev.succ (Ev.neg c9 (Ev.neg c7 (Ev.pos c8 (Ev.neg a0 (Ev.pos a1 (Ev.ret _)))))) (fun q => rfl)⟩
    ·by_cases b0 : o.B < 0
     ·rw [if_pos (.inr (.inr b0))]
      exact ⟨s.L.z, hz, Ev.succ (Ev.neg c9 (Ev.neg c7 (Ev.pos c8 (Ev.neg a0 (Ev.neg a1 (Ev.pos b0 (Ev.ret _))))))) (fun q => rfl)⟩
     ·rw [if_neg (show ¬ (o.A < 0 ∨ 255 < o.A ∨ o.B < 0) by omega)]
      have hP := put_ev s.L hz o.A (cutI (wrp .i64 (nz (hasL o.A s.L.l) + cutI o.B))) (by omega) h2
      by_cases d : putOk o.A s.L.l = true
      ·rw [if_pos d] at hP ⊢
       refine ⟨false, fun h => (by cases h), Ev.succ (Ev.neg c9 (Ev.neg c7 (Ev.pos c8 (Ev.neg a0 (Ev.neg a1 (Ev.neg b0 (Ev.bind hH (Ev.bind (zcf0 o.B) (Ev.bind (zcf0 _) ?_))))))))) (fun q => rfl)⟩
       refine Ev.bind hP (Ev.pos rfl ?_)
       exact Ev.ret' rfl
      ·rw [if_neg d] at hP ⊢
       refine ⟨s.L.z, hz, Ev.succ (Ev.neg c9 (Ev.neg c7 (Ev.pos c8 (Ev.neg a0 (Ev.neg a1 (Ev.neg b0 (Ev.bind hH (Ev.bind (zcf0 o.B) (Ev.bind (zcf0 _) ?_))))))))) (fun q => rfl)⟩
       refine Ev.bind hP (Ev.neg (by simp) ?_)
       exact Ev.ret' rfl
  ·rw [if_neg c8]
   exact ⟨s.L.z, hz, Ev.succ (Ev.neg c9 (Ev.neg c7 (Ev.neg c8 (Ev.ret _)))) (fun q => rfl)⟩
theorem zcma {k : Int} {l : List Int} (h : kindOk k l = true) (h0 : ¬ (k = 0 ∨ k = 1)) (h2 : ¬ (k = 2 ∨ k = 3)) : l.length % 2 = 0 := by
 unfold kindOk at h
 rw [if_neg h0, if_neg h2] at h
 split at h
 ·simp only [pairsOk, y5, decide_eq_true_eq] at h; exact h.2.1
 ·split at h
  ·simp only [pairsOk, y5, decide_eq_true_eq] at h; exact h.2.1
  ·cases h
theorem zcmb {k : Int} {l : List Int} (h : kindOk k l = true) (h0 : k = 0 ∨ k = 1) : l.length = 1 := by
 unfold kindOk at h
 rw [if_pos h0, decide_eq_true_eq] at h; exact h.1
def stV (s : zkk) (z : Bool) (r : (List Int × Bool × Int) × Int) : zkk × Int := (⟨s.Kind, ⟨z, r.1.1⟩, r.1.2.1, r.1.2.2⟩, r.2)
theorem zcmc (s : zkk) (hz : s.L.z = true → s.L.l = []) (hL : s.L.l.length ≤ 900000) (o : zkn) : ∃ z, (z = true → (stepV s o).1.1 = []) ∧ Ev (fun q => zlf q s o) (stV s z (stepV s o)) := by
 have hM := zcjq s (by omega)
 unfold stepV stV
 by_cases m : mayS s = true
 ·rw [if_pos m]
  rw [m] at hM
  have hk := (zcj2 m).2.2.2
  by_cases hs : s.Sealed = true
  ·rw [if_pos hs]
   exact ⟨s.L.z, hz, Ev.succ (Ev.bind hM (Ev.pos rfl (Ev.pos hs (Ev.ret _)))) (fun q => rfl)⟩
  rw [if_neg hs]
  by_cases c : o.Code = 10
  ·rw [if_pos c]
   refine ⟨s.L.z, hz, Ev.succ (Ev.bind hM (Ev.pos rfl (Ev.neg hs (Ev.pos c (Ev.ite (fun a0 => Ev.ite (fun a1 => Ev.ret' ?_) fun a1 => Ev.ret' ?_) fun a0 => Ev.ret' ?_))))) (fun q => rfl)⟩
   ·rw [if_pos ⟨a0, a1⟩]
   ·rw [if_neg (fun h => a1 h.2)]
   ·rw [if_neg (fun h => a0 h.1)]
  rw [if_neg c]
  by_cases k0 : s.Kind = 0
  ·obtain ⟨z, h1, h3⟩ := zcl5 s hz (zcmb hk (.inl k0)) o
   rw [if_pos (show s.Kind = 0 ∨ s.Kind = 1 from .inl k0)]
   refine ⟨z, h1, Ev.succ (Ev.bind hM (Ev.pos rfl (Ev.neg hs (Ev.neg c (Ev.pos k0 (Ev.bind h3 ?_)))))) (fun q => rfl)⟩
   exact Ev.ret' rfl
  by_cases k1 : s.Kind = 1
  ·obtain ⟨z, h1, h3⟩ := zcl5 s hz (zcmb hk (.inr k1)) o
   rw [if_pos (show s.Kind = 0 ∨ s.Kind = 1 from .inr k1)]
   refine ⟨z, h1, Ev.succ (Ev.bind hM (Ev.pos rfl (Ev.neg hs (Ev.neg c (Ev.neg k0 (Ev.pos k1 (Ev.bind h3 ?_))))))) (fun q => rfl)⟩
   exact Ev.ret' rfl
  rw [if_neg (show ¬ (s.Kind = 0 ∨ s.Kind = 1) by omega)]
  by_cases k2 : s.Kind = 2
  ·obtain ⟨z, h1, h3⟩ := zcl6 s hz (by omega) o
   rw [if_pos (show s.Kind = 2 ∨ s.Kind = 3 from .inl k2)]
   refine ⟨z, h1, Ev.succ (Ev.bind hM (Ev.pos rfl (Ev.neg hs (Ev.neg c (Ev.neg k0 (Ev.neg k1 (Ev.pos k2 (Ev.bind h3 ?_)))))))) (fun q => rfl)⟩
   exact Ev.ret' rfl
  by_cases k3 : s.Kind = 3
  ·obtain ⟨z, h1, h3⟩ := zcl6 s hz (by omega) o
   rw [if_pos (show s.Kind = 2 ∨ s.Kind = 3 from .inr k3)]
   refine ⟨z, h1, Ev.succ (Ev.bind hM (Ev.pos rfl (Ev.neg hs (Ev.neg c (Ev.neg k0 (Ev.neg k1 (Ev.neg k2 (Ev.pos k3 (Ev.bind h3 ?_))))))))) (fun q => rfl)⟩
   exact Ev.ret' rfl
  rw [if_neg (show ¬ (s.Kind = 2 ∨ s.Kind = 3) by omega)]
  have h2 := zcma hk (by omega) (by omega)
  by_cases k4 : s.Kind = 4
  ·obtain ⟨z, h1, h3⟩ := zcl7 s hz (by omega) h2 o
   rw [if_pos k4]
   refine ⟨z, h1, Ev.succ (Ev.bind hM (Ev.pos rfl (Ev.neg hs (Ev.neg c (Ev.neg k0 (Ev.neg k1 (Ev.neg k2 (Ev.neg k3 (Ev.pos k4 (Ev.bind h3 ?_)))))))))) (fun q => rfl)⟩
   exact Ev.ret' rfl
  ·obtain ⟨z, h1, h3⟩ := zcl9 s hz hL h2 o
   rw [if_neg k4]
   refine ⟨z, h1, Ev.succ (Ev.bind hM (Ev.pos rfl (Ev.neg hs (Ev.neg c (Ev.neg k0 (Ev.neg k1 (Ev.neg k2 (Ev.neg k3 (Ev.neg k4 (Ev.bind h3 ?_)))))))))) (fun q => rfl)⟩
   exact Ev.ret' rfl
 ·rw [if_neg m]
  rw [show mayS s = false by simpa using m] at hM
  exact ⟨s.L.z, hz, Ev.succ (Ev.bind hM (Ev.neg (by simp) (Ev.ret _))) (fun q => rfl)⟩
theorem zcmd (key n : Int) : ∀ l : List Int, (putL key n l).length ≤ l.length + 2
 | [] => by simp [putL]
 | [a] => by simp [putL]
 | a :: b :: l => by
  have := zcmd key n l
  simp only [putL]
  split
  ·simp only [y20]; omega
  ·split <;> simp only [y20] <;> omega
theorem zcme (key : Int) : ∀ l : List Int, (delL key l).length ≤ l.length
 | [] => by simp [delL]
 | [a] => by simp [delL]
 | a :: b :: l => by
  have := zcme key l
  simp only [delL]
  split
  ·simp only [y20]; omega
  ·split <;> simp only [y20] <;> omega
theorem zcmf (k : Int) (l : List Int) (o : zkn) : (numV k l o).1.length ≤ l.length + 4 := by
 unfold numV; split <;> (try split) <;> (try split) <;> simp only [List.length_singleton] <;> omega
theorem zcmg (k : Int) (l : List Int) (o : zkn) : (linV k l o).1.length ≤ l.length + 4 := by
 unfold linV
 split
 ·simp only; omega
 ·split
  ·split <;> simp only [y9, List.length_singleton] <;> omega
  ·split
   ·split
    ·simp only; omega
    ·split <;> simp only [y12, y19] <;> omega
   ·simp only; omega
theorem zcmh (l : List Int) (o : zkn) : (stoV l o).1.length ≤ l.length + 4 := by
 have h1 := zcmd o.A (cutI o.B) l
 have h2 := zcme o.A l
 unfold stoV
 split
 ·split
  ·simp only; omega
  ·split
   ·simp only; omega
   ·split
    ·split <;> simp only <;> omega
    ·simp only; omega
 ·simp only; omega
theorem zcmi (l : List Int) (o : zkn) : (movV l o).1.length ≤ l.length + 4 := by
 unfold movV
 generalize wrp .i64 (Int.tdiv o.A 256) = f
 generalize Int.tmod o.A 256 = t
 have h1 := zcmd t (wrp .i64 (nz (hasL t l) + o.B)) l
 have h2 := zcmd f (wrp .i64 (hasL f l - o.B)) (putL t (wrp .i64 (nz (hasL t l) + o.B)) l)
 split
 ·simp only; omega
 ·split
  ·simp only; omega
  ·split
   ·simp only; omega
   ·split
    ·split
     ·simp only; omega
     ·split <;> simp only <;> omega
    ·simp only; omega
theorem zcmj (l : List Int) (o : zkn) : (ledV l o).1.length ≤ l.length + 4 := by
 have h0 := zcmi l o
 have h1 := zcmd o.A (cutI (wrp .i64 (nz (hasL o.A l) + cutI o.B))) l
 unfold ledV
 split
 ·exact h0
 ·split
  ·split <;> simp only <;> omega
  ·split
   ·split
    ·simp only; omega
    ·split <;> simp only <;> omega
   ·simp only; omega
theorem zcmk (s : zkk) (o : zkn) : (stepV s o).1.1.length ≤ s.L.l.length + 4 := by
 unfold stepV
 split
 ·split
  ·simp only; omega
  ·split
   ·simp only; omega
   ·split
    ·exact zcmf _ _ _
    ·split
     ·exact zcmg _ _ _
     ·split
      ·exact zcmh _ _
      ·exact zcmj _ _
 ·simp only; omega
def nextS (s : zkk) (o : zkn) : zkk := ⟨s.Kind, ⟨false, (stepV s o).1.1⟩, (stepV s o).1.2.1, (stepV s o).1.2.2⟩
def setZ (z z' : Bool) (x : zkm) : zkm := ⟨x.Index, ⟨x.State.Kind, ⟨z, x.State.L.l⟩, x.State.Sealed, x.State.To⟩, ⟨z', x.Table.l⟩⟩
def noTN : zkm := ⟨0, ⟨0, ⟨false, []⟩, false, 0⟩, ⟨false, []⟩⟩
def nextN (s : zkm) (r : zko) : zkm := ⟨wrp .i64 (s.Index + 1), nextS s.State r.Op, ⟨false, noteL s.Table.l r.Proc r.Seq (stepV s.State r.Op).2⟩⟩
/-- A snapshot behind records. -/
def takeV : zkm → List zko → zkm × Int
 | s, [] => (setZ false false s, 0)
 | s, r :: l => if r.Index = s.Index then (if FitsR r then takeV (nextN s r) l else (noTN, 1)) else (noTN, 15)
theorem zcml (z z' : Bool) (s : zkm) (l : List zko) : takeV (setZ z z' s) l = takeV s l := by
 cases l <;> rfl
theorem zcmm (s : zkm) (r : zko) (l : List zko) : takeV s (r :: l) = if r.Index = s.Index then (if FitsR r then takeV (nextN s r) l else (noTN, 1)) else (noTN, 15) := rfl
theorem zcmn {s : zkm} {r : zko} {l : List zko} (h : (takeV s (r :: l)).2 = 0) : r.Index = s.Index ∧ FitsR r ∧ takeV s (r :: l) = takeV (nextN s r) l := by
 rw [zcmm] at h ⊢
 split at h
 ·rename_i c
  split at h
  ·rename_i d; exact ⟨c, d, by rw [if_pos c, if_pos d]⟩
  ·cases h
 ·cases h
def zOk (z z' : Bool) (x : zkm) : Prop := (z = true → x.State.L.l = []) ∧ (z' = true → x.Table.l = [])
theorem zcmo (zz : Bool) (L : List zko) (hL : L.length ≤ 5000) : ∀ (k i : Nat) (s : zkm), L.length = i + k → zOk s.State.L.z s.Table.z s → s.State.L.l.length + 4 * k ≤ 900000 → s.Table.l.length + k ≤ 900000 →
  ∃ z z', zOk z z' (takeV s (L.drop i)).1 ∧ Ev (fun q => zlp q zz L (L.length : Int) (i : Int) s.Index s.State.Kind s.State.L.z s.State.L.l s.State.Sealed s.State.To s.Table.z s.Table.l true) (setZ z z' (takeV s (L.drop i)).1, (takeV s (L.drop i)).2)
 | 0, i, s, hk, hz, h1, h2 => by
  rw [y11 (by omega)]
  exact ⟨s.State.L.z, s.Table.z, hz, Ev.succ (Ev.ne (Ev.ret _)) (fun q => rfl)⟩
 | k + 1, i, s, hk, hz, h1, h2 => by
  have hi : i < L.length := by omega
  have he : L[((i : Int)).toNat]? = some L[i] := by simp [hi]
  rw [y8 hi]
  simp only [takeV]
  have w : wrp .i64 ((i : Int) + 1) = ((i + 1 : Nat) : Int) := by rw [zcfl (by omega) (by omega)]; omega
  by_cases c : L[i].Index = s.Index
  ·rw [if_pos c]
   by_cases d : FitsR L[i]
   ·rw [if_pos d]
    obtain ⟨z, hz1, hS⟩ := zcmc s.State hz.1 (by omega) L[i].Op
    have hN := zcly s.Table hz.2 (by omega) ⟨L[i].Index, L[i].Proc, L[i].Seq, L[i].Op, (stepV s.State L[i].Op).2⟩
    have hl := zcmk s.State L[i].Op
    have hn := zclq s.Table.l L[i].Proc L[i].Seq (stepV s.State L[i].Op).2
    have key := zcml z false (nextN s L[i]) (L.drop (i + 1))
    obtain ⟨y, y', hy, ih⟩ := zcmo zz L hL k (i + 1) (setZ z false (nextN s L[i])) (by omega) ⟨hz1, fun h => by cases h⟩ (by simp only [setZ, nextN, nextS]; omega) (by simp only [setZ, nextN, nextS]; omega)
    rw [key] at hy ih
    rw [← w] at ih
    refine ⟨y, y', hy, Ev.succ (Ev.po (Ev.po (Ev.opt he (Ev.pos c (Ev.bind (zcf4 _) (Ev.pos (by simpa using d) (Ev.bind hS (Ev.bind hN ?_)))))))) (fun q => rfl)⟩
    exact ih
   ·rw [if_neg d]
    refine ⟨true, true, ⟨fun _ => rfl, fun _ => rfl⟩, Ev.succ (Ev.po (Ev.po (Ev.opt he (Ev.pos c (Ev.bind (zcf4 _) (Ev.neg (by simpa using d) ?_)))))) (fun q => rfl)⟩
    exact Ev.ret _
  ·rw [if_neg c]
   refine ⟨true, true, ⟨fun _ => rfl, fun _ => rfl⟩, Ev.succ (Ev.po (Ev.po (Ev.opt he (Ev.neg c ?_)))) (fun q => rfl)⟩
   exact Ev.ret _
theorem zcmp (s : zkm) (r : Sl zko) (hr : r.l.length ≤ 5000) (hz : zOk s.State.L.z s.Table.z s) (h1 : s.State.L.l.length ≤ 800000) (h2 : s.Table.l.length ≤ 800000) :
  ∃ z z', zOk z z' (takeV s r.l).1 ∧ Ev (fun q => zlr q s r) (setZ z z' (takeV s r.l).1, (takeV s r.l).2) := by
 suffices h : ∃ z z', zOk z z' (takeV s r.l).1 ∧ Ev (fun q => zlq q r.z r.l (r.l.length : Int) s.Index s.State.Kind s.State.L.z s.State.L.l s.State.Sealed s.State.To s.Table.z s.Table.l) (setZ z z' (takeV s r.l).1, (takeV s r.l).2) by
  obtain ⟨z, z', h, h3⟩ := h
  exact ⟨z, z', h, Ev.succ h3 (fun q => rfl)⟩
 by_cases h0 : r.l.length = 0
 ·have hT : takeV s r.l = (setZ false false s, 0) := by rw [y34 h0]; rfl
  rw [hT]
  exact ⟨s.State.L.z, s.Table.z, hz, Ev.succ (Ev.ne (Ev.ret _)) (fun q => rfl)⟩
 ·have hi : 0 < r.l.length := by omega
  have he : r.l[0]? = some r.l[0] := y6 hi
  have hd : r.l = r.l[0] :: r.l.drop 1 := by
   have := y8 hi
   rwa [y37] at this
  have hT : takeV s r.l = if r.l[0].Index = s.Index then (if FitsR r.l[0] then takeV (nextN s r.l[0]) (r.l.drop 1) else (noTN, 1)) else (noTN, 15) := by
   have := congrArg (takeV s) hd
   exact this
  rw [hT]
  have w : wrp .i64 1 = ((1 : Nat) : Int) := by rw [zcfl (by omega) (by omega)]; rfl
  generalize r.l[0] = e at he hT ⊢
  by_cases c : e.Index = s.Index
  ·rw [if_pos c]
   by_cases d : FitsR e
   ·rw [if_pos d]
    obtain ⟨z, hz1, hS⟩ := zcmc s.State hz.1 (by omega) e.Op
    have hN := zcly s.Table hz.2 (by omega) ⟨e.Index, e.Proc, e.Seq, e.Op, (stepV s.State e.Op).2⟩
    have hl := zcmk s.State e.Op
    have hn := zclq s.Table.l e.Proc e.Seq (stepV s.State e.Op).2
    have key := zcml z false (nextN s e) (r.l.drop 1)
    obtain ⟨y, y', hy, ih⟩ := zcmo r.z r.l hr (r.l.length - 1) 1 (setZ z false (nextN s e)) (by omega) ⟨hz1, fun h => by cases h⟩ (by simp only [setZ, nextN, nextS]; omega) (by simp only [setZ, nextN, nextS]; omega)
    rw [key] at hy ih
    rw [← w] at ih
    refine ⟨y, y', hy, Ev.succ (Ev.po (Ev.opt he (Ev.pos c (Ev.bind (zcf4 _) (Ev.pos (by simpa using d) (Ev.bind hS (Ev.bind hN ?_))))))) (fun q => rfl)⟩
    exact ih
   ·rw [if_neg d]
    refine ⟨true, true, ⟨fun _ => rfl, fun _ => rfl⟩, Ev.succ (Ev.po (Ev.opt he (Ev.pos c (Ev.bind (zcf4 _) (Ev.neg (by simpa using d) ?_))))) (fun q => rfl)⟩
    exact Ev.ret _
  ·rw [if_neg c]
   refine ⟨true, true, ⟨fun _ => rfl, fun _ => rfl⟩, Ev.succ (Ev.po (Ev.opt he (Ev.neg c ?_))) (fun q => rfl)⟩
   exact Ev.ret _
theorem zcmq : ∀ (l : List zko) (s : zkm), (takeV s l).1.State.L.l.length ≤ s.State.L.l.length + 4 * l.length ∧ (takeV s l).1.Table.l.length ≤ s.Table.l.length + l.length
 | [], s => by simp [takeV, setZ]
 | r :: l, s => by
  rw [zcmm]
  split
  ·split
   ·have h := zcmq l (nextN s r)
    have h1 := zcmk s.State r.Op
    have h2 := zclq s.Table.l r.Proc r.Seq (stepV s.State r.Op).2
    simp only [nextN, nextS, y20] at h ⊢
    omega
   ·simp [noTN]
  ·simp [noTN]
def foldV : zkk → List zkn → zkk
 | s, [] => ⟨s.Kind, ⟨false, s.L.l⟩, s.Sealed, s.To⟩
 | s, o :: l => foldV (nextS s o) l
theorem zcmr : ∀ (l : List zko) (s : zkm), (takeV s l).2 = 0 → (takeV s l).1.State = foldV s.State (l.map (·.Op)) ∧ (takeV s l).1.Index = s.Index + (l.length : Int) ∧ (l ≠ [] → 0 ≤ s.Index ∧ s.Index < 4611686018427387904)
 | [], s, h => ⟨rfl, by simp [takeV, setZ], fun e => absurd rfl e⟩
 | r :: l, s, h => by
  obtain ⟨c, d, e⟩ := zcmn h
  rw [e] at h ⊢
  obtain ⟨h1, h2, _⟩ := zcmr l (nextN s r) h
  have hb := d
  unfold FitsR at hb
  have hi : 0 ≤ s.Index ∧ s.Index < 4611686018427387904 := by omega
  refine ⟨h1, ?_, fun _ => hi⟩
  rw [h2, show (nextN s r).Index = wrp .i64 (s.Index + 1) from rfl, zcfl (by omega) (by omega), y20]; omega
theorem zcms (s : Sl zkl) (hz : s.z = true → s.l = []) (hl : s.l.length ≤ 4294967296) : ∃ z, (z = true → s.l = []) ∧ Ev (fun q => zlg q s) ⟨z, true, s.l⟩ := by
 by_cases c : s.z = true
 ·exact ⟨true, fun _ => hz c, Ev.succ (Ev.pos c (Ev.ret' (by rw [hz c]))) (fun q => rfl)⟩
 ·exact ⟨false, (fun h => by cases h), Ev.succ (Ev.neg c (Ev.pos hl (Ev.ret _))) (fun q => rfl)⟩
theorem zcmt (s : Sl Int) (hz : s.z = true → s.l = []) (hl : s.l.length ≤ 4294967296) : ∃ z, (z = true → s.l = []) ∧ Ev (fun q => zk4 q s) ⟨z, true, s.l⟩ := by
 by_cases c : s.z = true
 ·exact ⟨true, fun _ => hz c, Ev.succ (Ev.pos c (Ev.ret' (by rw [hz c]))) (fun q => rfl)⟩
 ·exact ⟨false, (fun h => by cases h), Ev.succ (Ev.neg c (Ev.pos hl (Ev.ret _))) (fun q => rfl)⟩
theorem zcmu {v f : Int} : ∀ {D : List (List Int)} {i : Nat} {acc : List zko} {full : Bool}, acc.length ≤ 4096 → (walkS v f D i acc full).2.2.1.length ≤ 4096
 | [], i, acc, full, ha => ha
 | d :: D, i, acc, full, ha => by
  simp only [walkS]
  split
  ·exact ha
  ·rename_i l _
   split
   ·rename_i h0
    have := zci4 h0
    exact zcmu (by rw [y9]; omega)
   ·exact ha
/-- What is decoded is small. -/
theorem zcmv {b : List Int} (h : (segD b).2.2 = 0) : 0 ≤ (segD b).1.2.1 ∧ (segD b).1.2.1 < 4611686018427387904 ∧ (segD b).1.2.2.length ≤ 4096 := by
 have key : ∀ M : List (List Int), (walkA M).2.1 = 0 → 0 ≤ (walkA M).2.2.2.2.1 ∧ (walkA M).2.2.2.2.1 < 4611686018427387904 ∧ (walkA M).2.2.2.2.2.length ≤ 4096 := fun M hM => by
  cases M with
  | nil => simp [walkA]
  | cons d D =>
   simp only [walkA] at hM ⊢
   by_cases c : (headR d).1 = 0
   ·rw [if_pos c]
    have := zci5 c
    exact ⟨this.2.2.2.2.1, this.2.2.2.2.2.1, zcmu (by simp)⟩
   ·rw [if_neg c] at hM; exact absurd hM c
 unfold segD at h ⊢
 by_cases c : (allE b).2 = 0
 ·rw [if_pos c] at h ⊢
  by_cases c2 : (allE b).1.length < 2
  ·rw [if_pos c2]; simp
  ·rw [if_neg c2] at h ⊢
   by_cases c3 : (walkA ((allE b).1.take ((allE b).1.length - 1))).2.1 = 0
   ·rw [if_pos c3] at h ⊢
    split
    ·exact key _ c3
    ·simp
   ·rw [if_neg c3]; simp
 ·rw [if_neg c]; simp
theorem snD_z (b : List Int) : zOk (snD b).1.State.L.z (snD b).1.Table.z (snD b).1 := by
 have hn : zOk noN.State.L.z noN.Table.z noN := ⟨fun _ => rfl, fun _ => rfl⟩
 have hst : ∀ w, (stD w).1.L.z = true → (stD w).1.L.l = [] := fun w => by
  simp only [stD]
  repeat' split
  all_goals first | (intro _; rfl) | skip
  all_goals (intro h; simpa [stR] using h)
 have hw : ∀ w, (whD w).1.1.L.z = true → (whD w).1.1.L.l = [] := fun w => by
  unfold whD
  repeat' split
  all_goals first | exact fun _ => rfl | exact hst _
 unfold snD
 repeat' split
 all_goals first | exact hn | skip
 refine ⟨hw _, fun h => ?_⟩
 simpa [mkN] using h
theorem zcmw : ∀ (l : List zko) (s : zkm), (takeV s l).2 = 0 → s.Index ≤ 4611686018427387904 → (takeV s l).1.Index ≤ 4611686018427387904
 | [], s, h, hi => hi
 | r :: l, s, h, hi => by
  obtain ⟨c, d, e⟩ := zcmn h
  rw [e] at h ⊢
  have h1 := d.1
  have h2 := d.2.1
  have w : (nextN s r).Index = s.Index + 1 := by
   show wrp .i64 (s.Index + 1) = _
   rw [zcfl (by omega) (by omega)]
  exact zcmw l (nextN s r) h (by rw [w]; omega)
/-- What a follower knows behind so many messages. -/
def Inv (n : Nat) (s : zkm) : Prop := zOk s.State.L.z s.Table.z s ∧ 0 ≤ s.Index ∧ s.Index ≤ 4611686018427387904 ∧ s.State.L.l.length ≤ 200 + 16384 * n ∧ s.Table.l.length ≤ 200 + 4096 * n
theorem invUp {n : Nat} {s : zkm} (h : Inv n s) : Inv (n + 1) s := ⟨h.1, h.2.1, h.2.2.1, by have := h.2.2.2.1; omega, by have := h.2.2.2.2; omega⟩
theorem zcmx {R : Type} {res : R} {stay : Nat → Option R} {new : Nat → zkm × Int → Option R} (s : zkm) (b : Sl Int) (kd : Int) (hz : b.z = true → b.l = []) (hb : isB b.l) (hl : b.l.length ≤ 3000) {n : Nat} (hn : n ≤ 41) (hi : Inv n s)
  (h1 : Ev stay res) (h2 : ∀ s', Inv (n + 1) s' → s.Index ≤ s'.Index → Ev (fun q => new q (s', 0)) res) :
  Ev (fun q => (zn8 q b).bind fun r4 => (if r4.2 = 0 then (if r4.1.Kind = kd then (if s.Index < r4.1.First then stay q else (if 0 ≤ (if (r4.1.Records.l.length : Int) < (wrp .i64 (s.Index - r4.1.First)) then (r4.1.Records.l.length : Int) else (wrp .i64 (s.Index - r4.1.First))) then (if (if (r4.1.Records.l.length : Int) < (wrp .i64 (s.Index - r4.1.First)) then (r4.1.Records.l.length : Int) else (wrp .i64 (s.Index - r4.1.First))) ≤ (r4.1.Records.l.length : Int) then ((zlr q s ⟨r4.1.Records.z, (List.drop ((if (r4.1.Records.l.length : Int) < (wrp .i64 (s.Index - r4.1.First)) then (r4.1.Records.l.length : Int) else (wrp .i64 (s.Index - r4.1.First))).toNat) r4.1.Records.l)⟩).bind fun r5 => (if r5.2 = 0 then new q r5 else stay q)) else none) else none)) else stay q) else stay q)) res := by
 obtain ⟨sz, hD⟩ := zcjj b hz hb (by omega)
 refine Ev.bind hD (Ev.ite (fun c => ?_) fun c => h1)
 obtain ⟨f0, f1, f2⟩ := zcmv c
 obtain ⟨i1, i2, i3, i4, i5⟩ := hi
 refine Ev.ite (fun c2 => Ev.ite (fun c3 => h1) fun c3 => ?_) fun c2 => h1
 simp only at c3
 have w : wrp .i64 (s.Index - (segD b.l).1.2.1) = s.Index - (segD b.l).1.2.1 := zcfl (by omega) (by omega)
 simp only [w]
 generalize (segD b.l).1.2.2 = L at f2 ⊢
 have hm : ∃ m : Int, m = (if (L.length : Int) < s.Index - (segD b.l).1.2.1 then (L.length : Int) else s.Index - (segD b.l).1.2.1) ∧ 0 ≤ m ∧ m ≤ (L.length : Int) := by
  refine ⟨_, rfl, ?_⟩; split <;> omega
 obtain ⟨m, hm, m0, m1⟩ := hm
 rw [← hm]
 have hd : (L.drop m.toNat).length ≤ 4096 := by rw [y12]; omega
 obtain ⟨z, z', hzz, hT⟩ := zcmp s ⟨sz, L.drop m.toNat⟩ (by simp only; omega) i1 (by omega) (by omega)
 refine Ev.pos m0 (Ev.pos m1 (Ev.bind hT (Ev.ite (fun c4 => ?_) fun c4 => h1)))
 have c4 : (takeV s (L.drop m.toNat)).2 = 0 := c4
 have hf := zcmr _ _ c4
 have hx := zcmw _ _ c4 i3
 have hn := zcmq (L.drop m.toNat) s
 have h := h2 (setZ z z' (takeV s (L.drop m.toNat)).1) ⟨hzz, (by show 0 ≤ (takeV s (L.drop m.toNat)).1.Index; omega), hx, (by show (takeV s (L.drop m.toNat)).1.State.L.l.length ≤ _; omega), (by show (takeV s (L.drop m.toNat)).1.Table.l.length ≤ _; omega)⟩ (by show s.Index ≤ (takeV s (L.drop m.toNat)).1.Index; omega)
 have e : ((setZ z z' (takeV s (L.drop m.toNat)).1, (takeV s (L.drop m.toNat)).2) : zkm × Int) = (setZ z z' (takeV s (L.drop m.toNat)).1, 0) := by rw [c4]
 rw [← e] at h; exact h
theorem zcmy {R : Type} {res : R} {stay same : Nat → Option R} {new : Nat → zkm × Int → Option R} (s : zkm) (b : Sl Int) (kd : Int) (hz : b.z = true → b.l = []) (hb : isB b.l) (hl : b.l.length ≤ 3000) {n : Nat}
  (h0 : Ev stay res) (h1 : Ev same res) (h2 : ∀ s', Inv (n + 1) s' → s.Index ≤ s'.Index → Ev (fun q => new q (s', 0)) res) :
  Ev (fun q => (zol q b).bind fun r6 => (if r6.2 = 0 then (if r6.1.State.Kind = kd then (if s.Index < r6.1.Index then new q r6 else same q) else stay q) else stay q)) res := by
 refine Ev.bind (zclm b hz hb (by omega)) (Ev.ite (fun c => Ev.ite (fun c2 => Ev.ite (fun c3 => ?_) fun c3 => h1) fun c2 => h0) fun c => h0)
 have hm := (zck1 hb c).1
 have hm2 := zcj4 hm
 have hk := zcj1 (zcj2 hm2.2.2.1).2.2.2
 have ht := zcj5 hm2.2.2.2 (by omega)
 have h := h2 (snD b.l).1 ⟨snD_z _, hm2.1, by omega, by omega, by rcases ht with h | h; omega; rw [h]; simp⟩ (by omega)
 have e : snD b.l = ((snD b.l).1, 0) := by rw [← c]
 rw [e]; exact h
theorem zcmz (k : Int) : ∃ st, Ev (fun q => zm1 q k) st ∧ (st.L.z = true → st.L.l = []) ∧ st.L.l.length ≤ 1 := by
 have h : ∀ r : zkk, Ev (fun _ => some r) r := fun r => Ev.ret r
 by_cases c0 : k = 0
 ·exact ⟨_, Ev.succ (Ev.pos c0 (h _)) (fun q => rfl), by simp, by simp⟩
 by_cases c1 : k = 1
 ·exact ⟨_, Ev.succ (Ev.neg c0 (Ev.pos c1 (h _))) (fun q => rfl), by simp, by simp⟩
 by_cases c2 : k = 2
 ·exact ⟨_, Ev.succ (Ev.neg c0 (Ev.neg c1 (Ev.pos c2 (h _)))) (fun q => rfl), by simp, by simp⟩
 by_cases c3 : k = 3
 ·exact ⟨_, Ev.succ (Ev.neg c0 (Ev.neg c1 (Ev.neg c2 (Ev.pos c3 (h _))))) (fun q => rfl), by simp, by simp⟩
 by_cases c4 : k = 4
 ·exact ⟨_, Ev.succ (Ev.neg c0 (Ev.neg c1 (Ev.neg c2 (Ev.neg c3 (Ev.pos c4 (h _)))))) (fun q => rfl), by simp, by simp⟩
 by_cases c5 : k = 5
 ·exact ⟨_, Ev.succ (Ev.neg c0 (Ev.neg c1 (Ev.neg c2 (Ev.neg c3 (Ev.neg c4 (Ev.pos c5 (h _))))))) (fun q => rfl), by simp, by simp⟩
 ·exact ⟨_, Ev.succ (Ev.neg c0 (Ev.neg c1 (Ev.neg c2 (Ev.neg c3 (Ev.neg c4 (Ev.neg c5 (h _))))))) (fun q => rfl), by simp, by simp⟩
theorem zcm0 : Ev (fun q => zm0 q) true := ⟨30000, fun q hq => if_pos (by omega)⟩
def msgOk (m : zkr) : Prop := (m.B.z = true → m.B.l = []) ∧ isB m.B.l
theorem zcm1 (id kd : Int) (z : Bool) (L : List zkr) (hL : L.length ≤ 40) (hm : ∀ e ∈ L, msgOk e) (m : zkr) (hmm : msgOk m) (hml : m.B.l.length ≤ 3000) : ∀ (k i : Nat) (s : zkm), L.length = i + k → Inv i s →
  Ev (fun q => zom q id z L (i : Int) m.From m.To m.Kind m.Index m.B.z m.B.l id kd s.Index s.State.Kind s.State.L.z s.State.L.l s.State.Sealed s.State.To s.Table.z s.Table.l) true
 | 0, i, s, hk, hi => by
  obtain ⟨y, hy, hA⟩ := zcmt s.State.L hi.1.1 (by have := hi.2.2.2.1; omega)
  obtain ⟨y', hy', hB⟩ := zcms s.Table hi.1.2 (by have := hi.2.2.2.2; omega)
  have hS : ∀ x : zkm, x.State.L.l.length ≤ 1000000000 → x.Table.l.length ≤ 1000000000 → Ev (fun q => (zmz q x x).bind fun r => (some r : Option Bool)) true := fun x h1 h2 => by
   have := zckc x x (by omega) (by omega)
   rw [zckd] at this
   exact Ev.bind this (Ev.ret _)
  have hs := hS ⟨s.Index, ⟨s.State.Kind, ⟨y, s.State.L.l⟩, s.State.Sealed, s.State.To⟩, ⟨y', s.Table.l⟩⟩ (by have := hi.2.2.2.1; simp only; omega) (by have := hi.2.2.2.2; simp only; omega)
  have new : ∀ s', Inv (i + 1) s' → s.Index ≤ s'.Index → Ev (fun q => (zk4 q s'.State.L).bind fun _ => (zlg q s'.Table).bind fun _ => (if id = id then (if s'.Index < s.Index then some false else some true) else some false : Option Bool)) true := fun s' hi' hle => by
   obtain ⟨_, _, h1⟩ := zcmt s'.State.L hi'.1.1 (by have := hi'.2.2.2.1; omega)
   obtain ⟨_, _, h2⟩ := zcms s'.Table hi'.1.2 (by have := hi'.2.2.2.2; omega)
   exact Ev.bind h1 (Ev.bind h2 (Ev.pos rfl (Ev.ne (Ev.ret _))))
  have w : Ev (fun _ => (if id = id then (if s.Index < s.Index then some false else some true) else some false : Option Bool)) true := Ev.pos rfl (Ev.ne (Ev.ret _))
  have st := Ev.pos (c := id = id) (b := fun _ => some false) rfl (Ev.neg (c := s.Index < s.Index) (a := fun _ => some false) (by omega) hs)
  refine Ev.succ (Ev.ne (Ev.bind hA (Ev.bind hB ?_))) (fun q => rfl)
  refine Ev.ite (fun c0 => ?_) fun c0 => Ev.ite (fun c2 => ?_) fun c2 => st
  ·exact zcmx s ⟨m.B.z, m.B.l⟩ kd hmm.1 hmm.2 hml (by omega) hi st new
  ·exact zcmy s ⟨m.B.z, m.B.l⟩ kd hmm.1 hmm.2 hml st w new
 | k + 1, i, s, hk, hi => by
  have hlt : i < L.length := by omega
  have he : L[((i : Int)).toNat]? = some L[i] := by simp [hlt]
  have hme := hm L[i] (y25 hlt)
  have w1 : wrp .i64 ((i : Int) + 1) = ((i + 1 : Nat) : Int) := by rw [zcfl (by omega) (by omega)]; omega
  have st := zcm1 id kd z L hL hm m hmm hml k (i + 1) s (by omega) (invUp hi)
  have new : ∀ s', Inv (i + 1) s' → s.Index ≤ s'.Index → _ := fun s' hi' _ => zcm1 id kd z L hL hm m hmm hml k (i + 1) s' (by omega) hi'
  rw [← w1] at st
  simp only [← w1] at new
  refine Ev.succ (Ev.po (Ev.po (Ev.opt he (Ev.ite (fun _ => Ev.ret _) fun h3 => Ev.ite (fun c0 => ?_) fun c0 => Ev.ite (fun c2 => ?_) fun c2 => st)))) (fun q => rfl)
  ·exact zcmx s L[i].B kd hme.1 hme.2 (by omega) (by omega) hi st new
  ·exact zcmy s L[i].B kd hme.1 hme.2 (by omega) st st new
theorem zcm2 : ∀ (a0 : Int) (a1 : Int) (a2 : (Sl zkr)) (a3 : zkr), inR .i64 a0 → inR .i64 a1 → okSl (fun x => zkr.ok x) a2 → zkr.ok a3 → ∃ q, zon q a0 a1 a2 a3 = some true := by
 intro id kd l m _ _ hl hm
 have ok : ∀ e, zkr.ok e → msgOk e := fun e h => ⟨h.2.2.2.2.1, isB_of h.2.2.2.2⟩
 obtain ⟨st, hS, hz, hn⟩ := zcmz kd
 refine Ev.get (Ev.succ (Ev.bind zcm0 (Ev.ite (fun _ => Ev.pos rfl (Ev.ret _)) fun _ => Ev.ite (fun _ => Ev.pos rfl (Ev.ret _)) fun _ => Ev.bind hS (Ev.pos rfl (Ev.ite (fun _ => Ev.ret _) fun h40 => Ev.ite (fun _ => Ev.ret _) fun h3 => ?_)))) (fun q => rfl))
 exact zcm1 id kd l.z l.l (by omega) (fun e he => ok e (hl.2.2 e he)) m (ok m hm) (by omega) l.l.length 0 ⟨0, st, ⟨true, []⟩⟩ (by omega) ⟨⟨hz, fun _ => rfl⟩, by simp only; omega, by simp only; omega, by simp only; omega, by simp⟩
end Go.Dvm.I
