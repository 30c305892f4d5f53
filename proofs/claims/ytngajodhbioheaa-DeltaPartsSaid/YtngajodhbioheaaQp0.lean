/- Plain laws of the functions: part 1. -/
import Derived.Test.YtngajodhbioheaaQi
set_option linter.all false
set_option maxRecDepth 100000
namespace Go.Dvm.I
open Go Go.Dvm
/-- With enough rounds. -/
def Ev {R : Type} (g : Nat → Option R) (r : R) : Prop := ∃ N, ∀ q, N ≤ q → g q = some r
section
variable {R S : Type}
theorem Ev.ret (r : R) : Ev (fun _ => some r) r := ⟨0, fun _ _ => rfl⟩
theorem Ev.ret' {r r' : R} (h : r = r') : Ev (fun _ => some r) r' := ⟨0, fun _ _ => by rw [h]⟩
theorem Ev.succ {f g : Nat → Option R} {r : R} (h : Ev g r) (e : ∀ q, f (q + 1) = g q) : Ev f r := by
 obtain ⟨N, h⟩ := h
 refine ⟨N + 1, fun q hq => ?_⟩
 obtain ⟨q, rfl⟩ : ∃ p, q = p + 1 := ⟨q - 1, by omega⟩
 rw [e]; exact h q (by omega)
theorem Ev.bind {g : Nat → Option S} {k : Nat → S → Option R} {s : S} {r : R} (h : Ev g s) (h2 : Ev (fun q => k q s) r) : Ev (fun q => (g q).bind (k q)) r := by
 obtain ⟨N, h⟩ := h
 obtain ⟨M, h2⟩ := h2
 exact ⟨N + M, fun q hq => by show (g q).bind (k q) = some r; rw [h q (by omega), y6]; exact h2 q (by omega)⟩
theorem Ev.opt {o : Option S} {k : Nat → S → Option R} {s : S} {r : R} (h : o = some s) (h2 : Ev (fun q => k q s) r) : Ev (fun q => o.bind (k q)) r := by
 subst h; exact h2
theorem Ev.pos {c : Prop} [Decidable c] {a b : Nat → Option R} {r : R} (hc : c) (h : Ev a r) : Ev (fun q => if c then a q else b q) r := by
 obtain ⟨N, h⟩ := h
 exact ⟨N, fun q hq => by show (if c then a q else b q) = some r; rw [if_pos hc]; exact h q hq⟩
theorem Ev.neg {c : Prop} [Decidable c] {a b : Nat → Option R} {r : R} (hc : ¬ c) (h : Ev b r) : Ev (fun q => if c then a q else b q) r := by
 obtain ⟨N, h⟩ := h
 exact ⟨N, fun q hq => by show (if c then a q else b q) = some r; rw [if_neg hc]; exact h q hq⟩
theorem Ev.po {c : Prop} [Decidable c] {a b : Nat → Option R} {r : R} (h : Ev a r) (hc : c := by omega) : Ev (fun q => if c then a q else b q) r := Ev.pos hc h
theorem Ev.ne {c : Prop} [Decidable c] {a b : Nat → Option R} {r : R} (h : Ev b r) (hc : ¬ c := by omega) : Ev (fun q => if c then a q else b q) r := Ev.neg hc h
theorem Ev.ite {c : Prop} [Decidable c] {a b : Nat → Option R} {r : R} (h1 : c → Ev a r) (h2 : ¬ c → Ev b r) : Ev (fun q => if c then a q else b q) r := by
 by_cases hc : c
 ·exact .pos hc (h1 hc)
 ·exact .neg hc (h2 hc)
theorem Ev.get {f : Nat → Option R} {r : R} (h : Ev f r) : ∃ q, f q = some r := by
 obtain ⟨N, h⟩ := h; exact ⟨N, h N (y15 _)⟩
theorem Ev.cast {f : Nat → Option R} {r r' : R} (h : Ev f r) (e : r = r') : Ev f r' := e ▸ h
end
theorem z15 {x : Int} (h1 : -9223372036854775808 ≤ x) (h2 : x ≤ 9223372036854775807) : wrp .i64 x = x := by
 unfold wrp; simp [IntKind.wrap, IntKind.min, IntKind.max, IntKind.signed, IntKind.bits] <;> omega
def cutI (n : Int) : Int := if n < -1099511627776 then -1099511627776 else if 1099511627776 < n then 1099511627776 else n
theorem z16 (n : Int) : Ev (fun q => zjk q n) (cutI n) := by
 refine Ev.succ (Ev.ret' ?_) (fun q => rfl)
 unfold cutI; split <;> split <;> split <;> (try split) <;> omega
def flat (l : List (Sl Int)) : List Int := l.flatMap (·.l)
theorem z17 (a : Sl Int) (b : List (Sl Int)) : flat (a :: b) = a.l ++ flat b := by simp [flat]
def cutsB (l : List Int) : Prop := ∀ n ∈ l, n = cutI n
instance (l : List Int) : Decidable (cutsB l) := by unfold cutsB; infer_instance
theorem z18 (n : Int) : Ev (fun q => zjl q n) (!(decide (n = cutI n))) := Ev.succ (Ev.bind (z16 n) (Ev.ret _)) (fun q => rfl)
theorem z19 (z : Bool) (L : List Int) (h0 : Int) (h1z : Bool) (h1l : List Int) (h2 : Bool) (h3 : Int) (hL : L.length ≤ 1000000) : ∀ (k i : Nat), L.length = i + k →
  ∃ r, Ev (fun q => zjo q z L (L.length : Int) (i : Int) h0 h1z h1l h2 h3) r ∧ (0 ≤ r ↔ ¬ cutsB (L.drop i))
 | 0, i, hk => by
  refine ⟨-1, Ev.succ (Ev.ne (Ev.ret _)) (fun q => rfl), ?_⟩
  rw [y13 (by omega)]; simp [cutsB]
 | k + 1, i, hk => by
  have hi : i < L.length := by omega
  have he : L[((i : Int)).toNat]? = some L[i] := by simp [hi]
  have hd := y10 hi
  by_cases h : L[i] = cutI L[i]
  ·obtain ⟨r, hr, hi2⟩ := z19 z L h0 h1z h1l h2 h3 hL k (i + 1) (by omega)
   rw [show ((i + 1 : Nat) : Int) = wrp .i64 ((i : Int) + 1) by rw [z15 (by omega) (by omega)]; omega] at hr
   refine ⟨r, Ev.succ (Ev.po (Ev.po (Ev.opt he (Ev.bind (z18 _) (Ev.neg (by simpa using h) hr))))) (fun q => rfl), ?_⟩
   rw [hi2, hd]; unfold cutsB; simp only [List.mem_cons, forall_eq_or_imp]
   exact ⟨fun a b => a b.2, fun a b => a ⟨h, b⟩⟩
  ·refine ⟨i, Ev.succ (Ev.po (Ev.po (Ev.opt he (Ev.bind (z18 _) (Ev.pos (by simpa using h) (Ev.ret _)))))) (fun q => rfl), ?_⟩
   rw [hd]; unfold cutsB; simp only [List.mem_cons, forall_eq_or_imp]
   exact ⟨fun _ b => h b.1, fun _ => by omega⟩
theorem z2a (z : Bool) (L : List Int) (h0 : Int) (h1z : Bool) (h1l : List Int) (h2 : Bool) (h3 : Int) (hL : L.length ≤ 1000000) : ∃ r, Ev (fun q => zjp q z L h0 h1z h1l h2 h3) r ∧ (0 ≤ r ↔ ¬ cutsB L) := by
 obtain ⟨r, h, h4⟩ := z19 z L h0 h1z h1l h2 h3 hL L.length 0 (by omega)
 exact ⟨r, Ev.succ h (fun q => rfl), by simpa using h4⟩
def prs (least : Int) : Int → List Int → Bool
 | last, a :: b :: t => decide (last < a) && (decide (a ≤ 255) && (decide (least ≤ b) && (decide (b ≤ 1099511627776) && prs least a t)))
 | _, _ => true
def pairsOk (least : Int) (l : List Int) : Bool := prs least (-1) l && (decide (l.length % 2 = 0) && decide (l.length ≤ 128))
theorem z2b (z : Bool) (L : List Int) (least : Int) (hL : L.length ≤ 1000000) : ∀ (k i : Nat) (last : Int), L.length ≤ i + 2 * k → i ≤ 2000000 →
  Ev (fun q => zjm q z L least last (i : Int)) (prs least last (L.drop i) && (decide (L.length % 2 = 0) && decide (L.length ≤ 128)))
 | k, i, last, hk, hi9 => by
  have w1 : wrp .i64 ((i : Int) + 1) = ((i + 1 : Nat) : Int) := by rw [z15 (by omega) (by omega)]; omega
  have w2 : wrp .i64 ((i : Int) + 2) = ((i + 2 : Nat) : Int) := by rw [z15 (by omega) (by omega)]; omega
  by_cases h : i + 1 < L.length
  ·cases k with
   | zero => omega
   | succ k =>
    have he : L[((i : Int)).toNat]? = some L[i] := by rw [y28]; exact y8 (by omega)
    have he2 : L[(wrp .i64 ((i : Int) + 1)).toNat]? = some L[i + 1] := by rw [w1, y28]; exact y8 h
    have hd : L.drop i = L[i] :: L[i + 1] :: L.drop (i + 2) := by rw [y10 (by omega), y10 h]
    rw [hd]
    simp only [prs]
    refine Ev.succ (Ev.pos (by rw [w1]; omega) (Ev.po (Ev.opt he (Ev.ite (fun c => Ev.ret' ?_) fun c => Ev.ite (fun c2 => Ev.ret' ?_) fun c2 => Ev.pos (by rw [w1]; omega) (Ev.opt he2 (Ev.ite (fun c3 => Ev.ret' ?_) fun c3 => Ev.ite (fun c4 => Ev.ret' ?_) fun c4 => ?_)))))) (fun q => rfl)
    ·rw [decide_eq_false (show ¬ last < L[i] by omega)]; rfl
    ·rw [decide_eq_false (show ¬ L[i] ≤ 255 by omega)]; simp
    ·rw [decide_eq_false (show ¬ least ≤ L[i + 1] by omega)]; simp
    ·rw [decide_eq_false (show ¬ L[i + 1] ≤ 1099511627776 by omega)]; simp
    ·rw [decide_eq_true (show last < L[i] by omega), decide_eq_true (show L[i] ≤ 255 by omega), decide_eq_true (show least ≤ L[i + 1] by omega), decide_eq_true (show L[i + 1] ≤ 1099511627776 by omega), w2]
     simp only [y56]
     exact z2b z L least hL k (i + 2) L[i] (by omega) (by omega)
  ·have hp : prs least last (L.drop i) = true := by
    have hl : (L.drop i).length ≤ 1 := by rw [y14]; omega
    generalize L.drop i = X at hl
    match X, hl with
    | [], _ => rfl
    | [a], _ => rfl
   rw [hp, y56]
   have ht : Int.tmod (L.length : Int) 2 = ((L.length % 2 : Nat) : Int) := by rw [Int.tmod_eq_emod_of_nonneg (by omega)]; omega
   refine Ev.succ (Ev.neg (by rw [w1]; omega) (Ev.ite (fun c => Ev.ret' ?_) fun c => Ev.ret' ?_)) (fun q => rfl)
   ·rw [ht] at c
    rw [decide_eq_true (show L.length % 2 = 0 by omega), y56]
    by_cases h4 : L.length ≤ 128
    ·rw [decide_eq_true h4, decide_eq_true (by omega)]
    ·rw [decide_eq_false h4, decide_eq_false (by omega)]
   ·rw [ht] at c
    rw [decide_eq_false (show ¬ L.length % 2 = 0 by omega)]; rfl
theorem z2c (s : Sl Int) (least : Int) (hL : s.l.length ≤ 1000000) : Ev (fun q => zjn q s least) (pairsOk least s.l) := by
 have := z2b s.z s.l least hL s.l.length 0 (-1) (by omega) (by omega)
 exact Ev.succ this (fun q => rfl)
def kindOk (k : Int) (l : List Int) : Bool :=
 if k = 0 ∨ k = 1 then decide (l.length = 1 ∧ cutsB l) else if k = 2 ∨ k = 3 then decide (l.length ≤ 64 ∧ cutsB l) else if k = 4 then pairsOk (-1099511627776) l else if k = 5 then pairsOk 0 l else false
def mayS (s : zjd) : Bool := if s.To < 0 then false else if 3 ≤ s.To then false else if s.Sealed = true then kindOk s.Kind s.L.l else if s.To = 0 then kindOk s.Kind s.L.l else false
theorem z2d (s : zjd) (hL : s.L.l.length ≤ 1000000) : Ev (fun q => ((zjp q s.L.z s.L.l s.Kind s.L.z s.L.l s.Sealed s.To).bind fun r1 => (if s.Kind = 0 then (if (s.L.l.length : Int) = 1 then (some (!(decide (0 ≤ r1)))) else (some false)) else (if s.Kind = 1 then (if (s.L.l.length : Int) = 1 then (some (!(decide (0 ≤ r1)))) else (some false)) else (if s.Kind = 2 then (if (s.L.l.length : Int) ≤ 64 then (some (!(decide (0 ≤ r1)))) else (some false)) else (if s.Kind = 3 then (if (s.L.l.length : Int) ≤ 64 then (some (!(decide (0 ≤ r1)))) else (some false)) else (if s.Kind = 4 then ((zjn q s.L (-1099511627776)).bind fun r2 => (some r2)) else (if s.Kind = 5 then ((zjn q s.L 0).bind fun r3 => (some r3)) else (some false))))))))) (kindOk s.Kind s.L.l) := by
 obtain ⟨r, h, hr⟩ := z2a s.L.z s.L.l s.Kind s.L.z s.L.l s.Sealed s.To hL
 have one : ∀ {P : Prop} [Decidable P], P → Ev (fun _ : Nat => (some (!(decide (0 ≤ r))) : Option Bool)) (decide (P ∧ cutsB s.L.l)) := fun {P} _ hp => Ev.ret' (by
  by_cases hc : cutsB s.L.l
  ·rw [decide_eq_false (fun e => hr.1 e hc)]; symm; simp only [Bool.not_false, decide_eq_true_eq]; exact ⟨hp, hc⟩
  ·rw [decide_eq_true (hr.2 hc)]; symm; simp only [Bool.not_true, decide_eq_false_iff_not]; exact fun e => hc e.2)
 have no : ∀ {P : Prop} [Decidable P], ¬ P → Ev (fun _ : Nat => (some false : Option Bool)) (decide (P ∧ cutsB s.L.l)) := fun {P} _ hp => Ev.ret' (by
  symm; simp only [decide_eq_false_iff_not]; exact fun e => hp e.1)
 refine Ev.bind h ?_
 unfold kindOk
 by_cases k0 : s.Kind = 0
 ·rw [if_pos (show s.Kind = 0 ∨ s.Kind = 1 from .inl k0)]
  by_cases hl : s.L.l.length = 1
  ·exact Ev.pos k0 (Ev.po (one hl))
  ·exact Ev.pos k0 (Ev.ne (no hl))
 by_cases k1 : s.Kind = 1
 ·rw [if_pos (show s.Kind = 0 ∨ s.Kind = 1 from .inr k1)]
  by_cases hl : s.L.l.length = 1
  ·exact Ev.neg k0 (Ev.pos k1 (Ev.po (one hl)))
  ·exact Ev.neg k0 (Ev.pos k1 (Ev.ne (no hl)))
 rw [if_neg (show ¬ (s.Kind = 0 ∨ s.Kind = 1) by omega)]
 by_cases k2 : s.Kind = 2
 ·rw [if_pos (show s.Kind = 2 ∨ s.Kind = 3 from .inl k2)]
  by_cases hl : s.L.l.length ≤ 64
  ·exact Ev.neg k0 (Ev.neg k1 (Ev.pos k2 (Ev.po (one hl))))
  ·exact Ev.neg k0 (Ev.neg k1 (Ev.pos k2 (Ev.ne (no hl))))
 by_cases k3 : s.Kind = 3
 ·rw [if_pos (show s.Kind = 2 ∨ s.Kind = 3 from .inr k3)]
  by_cases hl : s.L.l.length ≤ 64
  ·exact Ev.neg k0 (Ev.neg k1 (Ev.neg k2 (Ev.pos k3 (Ev.po (one hl)))))
  ·exact Ev.neg k0 (Ev.neg k1 (Ev.neg k2 (Ev.pos k3 (Ev.ne (no hl)))))
 rw [if_neg (show ¬ (s.Kind = 2 ∨ s.Kind = 3) by omega)]
 refine Ev.neg k0 (Ev.neg k1 (Ev.neg k2 (Ev.neg k3 (Ev.ite (fun k4 => ?_) fun k4 => Ev.ite (fun k5 => ?_) fun k5 => ?_))))
 ·rw [if_pos k4]; exact Ev.bind (z2c _ _ hL) (Ev.ret _)
 ·rw [if_neg k4, if_pos k5]; exact Ev.bind (z2c _ _ hL) (Ev.ret _)
 ·rw [if_neg k4, if_neg k5]; exact Ev.ret _
theorem z2e (s : zjd) (hL : s.L.l.length ≤ 1000000) : Ev (fun q => zjq q s) (mayS s) := by
 have hb := z2d s hL
 unfold mayS
 refine Ev.succ (Ev.ite (fun h => ?_) fun h => Ev.ite (fun h2 => ?_) fun h2 => Ev.ite (fun h3 => ?_) fun h3 => Ev.ite (fun h4 => ?_) fun h4 => ?_) (fun q => rfl)
 ·rw [if_pos h]; exact Ev.ret _
 ·rw [if_neg h, if_pos h2]; exact Ev.ret _
 ·rw [if_neg h, if_neg h2, if_pos h3]; exact hb
 ·rw [if_neg h, if_neg h2, if_neg h3, if_pos h4]; exact hb
 ·rw [if_neg h, if_neg h2, if_neg h3, if_neg h4]; exact Ev.ret _
def entOk (e : zje) : Bool := decide (0 ≤ e.Proc) && (decide (e.Proc ≤ 64) && (decide (0 ≤ e.Seq) && (decide (e.Seq < 4611686018427387904) && (decide (-1125899906842624 ≤ e.Resp) && decide (e.Resp ≤ 1125899906842624)))))
theorem z2f (e : zje) : Ev (fun q => zjr q e) (entOk e) := by
 unfold entOk
 exact Ev.succ (Ev.ite (fun h1 => Ev.ite (fun h2 => Ev.ite (fun h3 => Ev.ite (fun h4 => Ev.ite (fun h5 => Ev.ret' (by simp [*])) fun h5 => Ev.ret' (by simp [*])) fun h4 => Ev.ret' (by simp [*])) fun h3 => Ev.ret' (by simp [*])) fun h2 => Ev.ret' (by simp [*])) fun h1 => Ev.ret' (by simp [*])) (fun q => rfl)
def tabB : Int → List zje → Bool
 | _, [] => true
 | last, e :: t => entOk e && (decide (last < e.Proc) && tabB e.Proc t)
theorem z2g (z z2 : Bool) (L : List zje) (hL : L.length ≤ 1000000) : ∀ (k i : Nat) (last : Int), L.length = i + k → (∀ e, 0 < i → L[i - 1]? = some e → e.Proc = last) → (i = 0 → last = -1) →
  Ev (fun q => zjs q z L z2 L (L.length : Int) (i : Int)) (tabB last (L.drop i))
 | 0, i, last, hk, h1, h0 => by
  refine Ev.succ (Ev.ne (Ev.ret' ?_)) (fun q => rfl)
  rw [y13 (by omega)]; rfl
 | k + 1, i, last, hk, h1, h0 => by
  have hi : i < L.length := by omega
  have he : L[((i : Int)).toNat]? = some L[i] := by simp [hi]
  rw [y10 hi]
  simp only [tabB]
  have w1 : wrp .i64 ((i : Int) + 1) = ((i + 1 : Nat) : Int) := by rw [z15 (by omega) (by omega)]; omega
  have ih := z2g z z2 L hL k (i + 1) L[i].Proc (by omega) (fun e _ hx => by
   rw [Nat.add_sub_cancel, y8 hi] at hx
   simp only [y5] at hx; rw [hx]) (by omega)
  refine Ev.succ (Ev.po (Ev.po (Ev.opt he (Ev.bind (z2f _) (Ev.ite (fun c => Ev.ite (fun c2 => ?_) fun c2 => ?_) fun c => Ev.ret' ?_))))) (fun q => rfl)
  ·have w3 : wrp .i64 ((i : Int) - 1) = ((i - 1 : Nat) : Int) := by rw [z15 (by omega) (by omega)]; omega
   have he3 : L[(wrp .i64 ((i : Int) - 1)).toNat]? = some L[i - 1] := by rw [w3, y28]; exact y8 (by omega)
   have hq := h1 L[i - 1] (by omega) (y8 (by omega))
   refine Ev.pos (by rw [w3]; omega) (Ev.opt he3 (Ev.ite (fun c4 => Ev.ret' ?_) fun c4 => ?_))
   ·rw [c, decide_eq_false (show ¬ last < L[i].Proc by omega)]; rfl
   ·rw [c, decide_eq_true (show last < L[i].Proc by omega), w1]; simpa using ih
  ·have := h0 (by omega)
   have hp : 0 ≤ L[i].Proc := by unfold entOk at c; simp only [y7, decide_eq_true_eq] at c; exact c.1
   rw [c, decide_eq_true (show last < L[i].Proc by omega), w1]; simpa using ih
  ·simp only [Bool.not_eq_true] at c; rw [c]; rfl
theorem z2h (s : Sl zje) (hL : s.l.length ≤ 1000000) : Ev (fun q => zjt q s) (tabB (-1) s.l) :=
 Ev.succ (z2g s.z s.z s.l hL s.l.length 0 (-1) (by omega) (fun e h => by omega) (fun _ => rfl)) (fun q => rfl)
def mayN (s : zjf) : Bool := decide (0 ≤ s.Index) && (decide (s.Index < 4611686018427387904) && (mayS s.State && tabB (-1) s.Table.l))
theorem z2i (s : zjf) (h1 : s.State.L.l.length ≤ 1000000) (h2 : s.Table.l.length ≤ 1000000) : Ev (fun q => zju q s) (mayN s) := by
 unfold mayN
 refine Ev.succ (Ev.ite (fun c1 => Ev.ite (fun c2 => Ev.bind (z2e _ h1) (Ev.ite (fun c3 => Ev.bind (z2h _ h2) (Ev.ret' ?_)) fun c3 => Ev.ret' ?_)) fun c2 => Ev.ret' ?_) fun c1 => Ev.ret' ?_) (fun q => rfl)
 ·simp [c1, c2, c3]
 ·simp [c3]
 ·simp [c2]
 ·simp [c1]
instance : DecidableEq zje := fun a b => if h : a.Proc = b.Proc ∧ a.Seq = b.Seq ∧ a.Resp = b.Resp then isTrue (by cases a; cases b; simp_all) else isFalse (fun e => h (by rw [e]; exact ⟨rfl, rfl, rfl⟩))
theorem z2j {a b : zje} (h1 : a.Proc = b.Proc) (h2 : a.Seq = b.Seq) (h3 : a.Resp = b.Resp) : a = b := by cases a; cases b; simp_all
/-- A process's entry. -/
def findE (p : Int) : List zje → Option zje
 | [] => none
 | e :: t => if e.Proc = p then some e else findE p t
theorem z2k (z : Bool) (L : List zje) (p : Int) (hL : L.length ≤ 1000000) : ∀ (k i : Nat), L.length = i + k →
  ∃ r, Ev (fun q => zjv q z L (L.length : Int) (i : Int) p) r ∧ ((r < 0 ∧ findE p (L.drop i) = none) ∨ (0 ≤ r ∧ ∃ e, L[r.toNat]? = some e ∧ findE p (L.drop i) = some e))
 | 0, i, hk => by
  refine ⟨-1, Ev.succ (Ev.ne (Ev.ret _)) (fun q => rfl), .inl ⟨by omega, ?_⟩⟩
  rw [y13 (by omega)]; rfl
 | k + 1, i, hk => by
  have hi : i < L.length := by omega
  have he : L[((i : Int)).toNat]? = some L[i] := by simp [hi]
  rw [y10 hi]
  simp only [findE]
  by_cases h : L[i].Proc = p
  ·rw [if_pos h]
   exact ⟨i, Ev.succ (Ev.po (Ev.po (Ev.opt he (Ev.pos h (Ev.ret _))))) (fun q => rfl), .inr ⟨by omega, L[i], he, rfl⟩⟩
  ·rw [if_neg h]
   obtain ⟨r, hr, hr2⟩ := z2k z L p hL k (i + 1) (by omega)
   rw [show ((i + 1 : Nat) : Int) = wrp .i64 ((i : Int) + 1) by rw [z15 (by omega) (by omega)]; omega] at hr
   exact ⟨r, Ev.succ (Ev.po (Ev.po (Ev.opt he (Ev.neg h hr)))) (fun q => rfl), hr2⟩
theorem z2l (s : Sl zje) (p : Int) (hL : s.l.length ≤ 1000000) : ∃ r, Ev (fun q => zjx q s p) r ∧ ((r < 0 ∧ findE p s.l = none) ∨ (0 ≤ r ∧ ∃ e, s.l[r.toNat]? = some e ∧ findE p s.l = some e)) := by
 obtain ⟨r, h, h2⟩ := z2k s.z s.l p hL s.l.length 0 (by omega)
 rw [y38] at h2
 exact ⟨r, Ev.succ (Ev.bind (Ev.succ h (fun q => rfl)) (Ev.ret _)) (fun q => rfl), h2⟩
/-- How many numbers two lists begin with alike. -/
def com : List Int → List Int → Nat
 | a :: x, b :: y => if a = b then com x y + 1 else 0
 | _, _ => 0
theorem com_le : ∀ (x y : List Int), com x y ≤ x.length ∧ com x y ≤ y.length
 | [], y => by simp [com]
 | a :: x, [] => by simp [com]
 | a :: x, b :: y => by
  simp only [com]
  split
  ·have := com_le x y; simp only [y22]; omega
  ·simp
theorem z2m {x y : List Int} {i : Nat} (hx : i < x.length) (hy : i < y.length) : com (x.drop i) (y.drop i) = if x[i] = y[i] then com (x.drop (i + 1)) (y.drop (i + 1)) + 1 else 0 := by
 rw [y10 hx, y10 hy]; rfl
theorem z2n {x y : List Int} {i : Nat} (h : x.length ≤ i ∨ y.length ≤ i) : com (x.drop i) (y.drop i) = 0 := by
 rcases h with h | h
 ·rw [y13 h]; cases y.drop i <;> rfl
 ·rw [y13 h]; cases x.drop i <;> rfl
theorem z2o (z1 z2 : Bool) (x y : List Int) (hL : x.length ≤ 1000000) : ∀ (k i : Nat), x.length = i + k →
  Ev (fun q => zjy q z1 x z2 y (i : Int)) ((i + com (x.drop i) (y.drop i) : Nat) : Int)
 | 0, i, hk => by
  refine Ev.succ (Ev.ne (Ev.ret' ?_)) (fun q => rfl)
  rw [z2n (.inl (by omega))]; rfl
 | k + 1, i, hk => by
  have hi : i < x.length := by omega
  have he : x[((i : Int)).toNat]? = some x[i] := by simp [hi]
  by_cases hy : i < y.length
  ·have he2 : y[((i : Int)).toNat]? = some y[i] := by simp [hy]
   rw [z2m hi hy]
   refine Ev.succ (Ev.po (Ev.po (Ev.po (Ev.opt he (Ev.opt he2 (Ev.ite (fun h => ?_) fun h => ?_)))))) (fun q => rfl)
   ·rw [if_pos h]
    have := z2o z1 z2 x y hL k (i + 1) (by omega)
    rw [show ((i + 1 : Nat) : Int) = wrp .i64 ((i : Int) + 1) by rw [z15 (by omega) (by omega)]; omega] at this
    refine Ev.cast this ?_
    omega
   ·rw [if_neg h]; exact Ev.ret' (by omega)
  ·rw [z2n (.inr (by omega))]
   exact Ev.succ (Ev.po (Ev.ne (Ev.ret' (by omega)))) (fun q => rfl)
theorem z2p (a b : Sl Int) (hL : a.l.length ≤ 1000000) : Ev (fun q => zjz q a b) ((com a.l b.l : Nat) : Int) := by
 have := z2o a.z b.z a.l b.l hL a.l.length 0 (by omega)
 exact Ev.succ (Ev.cast this (by simp)) (fun q => rfl)
theorem z2q {x : List Int} {i : Nat} (h : i < x.length) : x[x.length - 1 - i]? = some (x.reverse[i]'(by rw [List.length_reverse]; exact h)) := by
 rw [List.getElem_reverse, y8 (by omega)]
theorem z2r (z1 z2 : Bool) (x y : List Int) (hL : x.length ≤ 1000000) (hL2 : y.length ≤ 1000000) : ∀ (k i : Nat), x.length = i + k →
  Ev (fun q => zj0 q z1 x z2 y (i : Int)) ((i + com (x.reverse.drop i) (y.reverse.drop i) : Nat) : Int)
 | 0, i, hk => by
  refine Ev.succ (Ev.ne (Ev.ret' ?_)) (fun q => rfl)
  rw [z2n (.inl (by rw [List.length_reverse]; omega))]; rfl
 | k + 1, i, hk => by
  have hi : i < x.length := by omega
  have hir : i < x.reverse.length := by rw [List.length_reverse]; exact hi
  have w1 : wrp .i64 (wrp .i64 ((x.length : Int) - 1) - (i : Int)) = ((x.length - 1 - i : Nat) : Int) := by rw [z15 (x := (x.length : Int) - 1) (by omega) (by omega), z15 (by omega) (by omega)]; omega
  have he : x[(wrp .i64 (wrp .i64 ((x.length : Int) - 1) - (i : Int))).toNat]? = some x.reverse[i] := by rw [w1, y28]; exact z2q hi
  by_cases hy : i < y.length
  ·have hyr : i < y.reverse.length := by rw [List.length_reverse]; exact hy
   have w2 : wrp .i64 (wrp .i64 ((y.length : Int) - 1) - (i : Int)) = ((y.length - 1 - i : Nat) : Int) := by rw [z15 (x := (y.length : Int) - 1) (by omega) (by omega), z15 (by omega) (by omega)]; omega
   have he2 : y[(wrp .i64 (wrp .i64 ((y.length : Int) - 1) - (i : Int))).toNat]? = some y.reverse[i] := by rw [w2, y28]; exact z2q hy
   rw [z2m hir hyr]
   refine Ev.succ (Ev.po (Ev.po (Ev.pos (by rw [w1]; omega) (Ev.opt he (Ev.pos (by rw [w2]; omega) (Ev.opt he2 (Ev.ite (fun h => ?_) fun h => ?_))))))) (fun q => rfl)
   ·rw [if_pos h]
    have := z2r z1 z2 x y hL hL2 k (i + 1) (by omega)
    rw [show ((i + 1 : Nat) : Int) = wrp .i64 ((i : Int) + 1) by rw [z15 (by omega) (by omega)]; omega] at this
    refine Ev.cast this ?_
    omega
   ·rw [if_neg h]; exact Ev.ret' (by omega)
  ·rw [z2n (.inr (by rw [List.length_reverse]; omega))]
   exact Ev.succ (Ev.po (Ev.ne (Ev.ret' (by omega)))) (fun q => rfl)
theorem z2s (a b : Sl Int) (hL : a.l.length ≤ 1000000) (hL2 : b.l.length ≤ 1000000) : Ev (fun q => zj1 q a b) ((com a.l.reverse b.l.reverse : Nat) : Int) := by
 have := z2r a.z b.z a.l b.l hL hL2 a.l.length 0 (by omega)
 exact Ev.succ (Ev.cast this (by simp)) (fun q => rfl)
/-- The entries that are new. -/
def newT (ta : List zje) : List zje → List zje
 | [] => []
 | e :: t => if findE e.Proc ta = some e then newT ta t else e :: newT ta t
def lacksB (ta tb : List zje) : Bool := match ta with
 | [] => false
 | e :: t => decide (findE e.Proc tb = none) || lacksB t tb
theorem z2t (z : Bool) (L : List zje) (x0 x1 : Int) (x2z : Bool) (x2l : List Int) (x3 : Bool) (x4 : Int) (x5z : Bool) (x5l : List zje) (y0 y1 : Int) (y2z : Bool) (y2l : List Int) (y3 : Bool) (y4 : Int) (tz : Bool) (T : List zje) (hL : L.length ≤ 1000000) (hT : T.length ≤ 1000000) : ∀ (k i : Nat), L.length = i + k →
  ∃ r, Ev (fun q => zj3 q z L (L.length : Int) (i : Int) x0 x1 x2z x2l x3 x4 x5z x5l y0 y1 y2z y2l y3 y4 tz T) r ∧ (0 ≤ r ↔ lacksB (L.drop i) T = true)
 | 0, i, hk => by
  refine ⟨-1, Ev.succ (Ev.ne (Ev.ret _)) (fun q => rfl), ?_⟩
  rw [y13 (by omega)]; simp [lacksB]
 | k + 1, i, hk => by
  have hi : i < L.length := by omega
  have he : L[((i : Int)).toNat]? = some L[i] := by simp [hi]
  obtain ⟨r, hr, hr2⟩ := z2l ⟨tz, T⟩ L[i].Proc hT
  rw [y10 hi]
  simp only [lacksB]
  rcases hr2 with ⟨h1, h2⟩ | ⟨h1, e, h2, h3⟩
  ·refine ⟨i, Ev.succ (Ev.po (Ev.po (Ev.opt he (Ev.bind hr (Ev.pos h1 (Ev.ret _)))))) (fun q => rfl), ?_⟩
   simp only at h2
   rw [decide_eq_true h2]; simp
  ·obtain ⟨r', hr', hr2'⟩ := z2t z L x0 x1 x2z x2l x3 x4 x5z x5l y0 y1 y2z y2l y3 y4 tz T hL hT k (i + 1) (by omega)
   rw [show ((i + 1 : Nat) : Int) = wrp .i64 ((i : Int) + 1) by rw [z15 (by omega) (by omega)]; omega] at hr'
   refine ⟨r', Ev.succ (Ev.po (Ev.po (Ev.opt he (Ev.bind hr (Ev.neg (by omega) hr'))))) (fun q => rfl), ?_⟩
   simp only at h3
   rw [decide_eq_false (by rw [h3]; exact fun c => by cases c), Bool.false_or]
   exact hr2'
theorem z2u (z0 : Bool) (L : List (Sl Int)) (z : Bool) (hL : L.length ≤ 1099511627776) : ∀ (k i : Nat) (m : Nat) (l : List Int), L.length = i + k → m + (flat (L.drop i)).length ≤ l.length →
  Ev (fun q => zj8 q m z0 L (L.length : Int) (i : Int) z l) ⟨z, true, l.take m ++ flat (L.drop i)⟩
 | 0, i, m, l, hk, hl => by
  refine Ev.succ (Ev.ne (Ev.ret' ?_)) (fun q => rfl)
  rw [y13 (by omega)]; simp [flat]
 | k + 1, i, m, l, hk, hl => by
  have hi : i < L.length := by omega
  have hg : L[(i : Int).toNat]? = some L[i] := by simpa using y8 hi
  rw [y10 hi, z17, y11] at hl
  refine Ev.succ (Ev.po (Ev.po (Ev.opt hg (Ev.pos (by omega) ?_)))) (fun q => rfl)
  rw [z15 (by omega) (by omega), show ((i : Int) + 1) = ((i + 1 : Nat) : Int) by omega]
  refine (z2u z0 L z hL k (i + 1) (m + L[i].l.length) _ (by omega) ?_).cast ?_
  ·simp only [y11, y21, y14]; omega
  ·congr 1
   rw [y10 hi, z17, ← y33]
   congr 1
   rw [List.take_append_of_le_length (by simp only [y11, y21]; omega), List.take_of_length_le (by simp only [y11, y21]; omega)]
theorem z2v (z0 : Bool) (L : List (Sl Int)) (hL : L.length ≤ 1099511627776) : ∀ (k i : Nat) (z : Bool) (l : List Int), L.length = i + k → l.length + (flat (L.drop i)).length ≤ 4294967296 →
  ∃ z', Ev (fun q => zj9 q z0 L (L.length : Int) (i : Int) z l) ⟨z', true, l ++ flat (L.drop i)⟩
 | 0, i, z, l, hk, hl => ⟨z, by
  refine Ev.succ (Ev.ne (Ev.ret' ?_)) (fun q => rfl)
  rw [y13 (by omega)]; simp [flat]⟩
 | k + 1, i, z, l, hk, hl => by
  have hi : i < L.length := by omega
  have hg : L[(i : Int).toNat]? = some L[i] := by simpa using y8 hi
  rw [y10 hi, z17, y11] at hl
  obtain ⟨z', h⟩ := z2v z0 L hL k (i + 1) (z && (decide (L[i].l.length = 0))) (l ++ L[i].l) (by omega) (by simp only [y11]; omega)
  refine ⟨z', Ev.succ (Ev.po (Ev.po (Ev.opt hg (Ev.pos (by omega) ?_)))) (fun q => rfl)⟩
  rw [z15 (by omega) (by omega), show ((i : Int) + 1) = ((i + 1 : Nat) : Int) by omega]
  refine h.cast ?_
  rw [y10 hi, z17]; simp
theorem z2w (z0 z9 : Bool) (L : List (Sl Int)) (hL : L.length ≤ 1099511627776) (hf : (flat L).length ≤ 4294967296) : ∀ (k i : Nat) (m : Nat), L.length = i + k → m + (flat (L.drop i)).length = (flat L).length →
  ∃ z', Ev (fun q => zkb q z0 L (m : Int) z9 L (L.length : Int) (i : Int)) ⟨z', true, flat L⟩
 | 0, i, m, hk, hm => by
  rw [y13 (by omega)] at hm
  have hm2 : m = (flat L).length := by simpa [flat] using hm
  have w : wrp .i64 ((m : Int) - wrp .i64 0) = (m : Int) := by rw [z15 (x := 0) (by omega) (by omega), z15 (by omega) (by omega)]; omega
  by_cases h0 : 0 < m
  ·refine ⟨decide (wrp .i64 ((m : Int) - wrp .i64 0) = 0), Ev.succ (Ev.ne (Ev.ne (Ev.pos (by rw [w]; omega) (Ev.pos (by rw [w]; omega) (Ev.pos (by rw [w]; omega) (Ev.neg (by rw [w]; omega) ?_)))))) (fun q => rfl)⟩
   rw [w]
   have := z2u z0 L (decide ((m : Int) = 0)) hL L.length 0 0 (List.replicate (m : Int).toNat 0) (by omega) (by simp; omega)
   rw [y38] at this
   exact this
  ·have hnil : flat L = [] := y35 (by omega)
   match L, hk with
   | [], _ =>
    refine ⟨true, Ev.succ (Ev.neg (by simp) (Ev.neg (by omega) ?_)) (fun q => rfl)⟩
    rw [w]
    refine Ev.neg (by omega) ?_
    exact Ev.succ (g := fun _ => some ⟨true, true, []⟩) (Ev.ret' (by simp [flat])) (fun q => rfl)
   | a :: L', hk =>
    rw [z17] at hnil
    obtain ⟨z', h⟩ := z2v z0 (a :: L') hL L'.length 1 (decide (a.l.length = 0)) a.l (by simp; omega) (by
     have : flat (List.drop 1 (a :: L')) = flat L' := rfl
     rw [this, ← y11, hnil]; simp)
    refine ⟨z', Ev.succ (Ev.ne (Ev.neg (by omega) ?_)) (fun q => rfl)⟩
    rw [w]
    refine Ev.ne (Ev.succ (Ev.pos (by simp) (Ev.opt (s := a) rfl (Ev.pos ?_ ?_))) (fun q => rfl))
    ·have : a.l.length ≤ (a.l ++ flat L').length := by simp
     rw [hnil] at this; simp at this; simp [this]
    ·rw [z15 (by omega) (by omega)]
     refine h.cast ?_
     rw [z17]; rfl
 | k + 1, i, m, hk, hm => by
  have hi : i < L.length := by omega
  have hg : L[(i : Int).toNat]? = some L[i] := by simpa using y8 hi
  rw [y10 hi, z17, y11] at hm
  obtain ⟨z', h⟩ := z2w z0 z9 L hL hf k (i + 1) (m + L[i].l.length) (by omega) (by omega)
  refine ⟨z', Ev.succ (Ev.po (Ev.po (Ev.opt hg ?_))) (fun q => rfl)⟩
  have w : wrp .i64 ((m : Int) + (L[i].l.length : Int)) = ((m + L[i].l.length : Nat) : Int) := by rw [z15 (by omega) (by omega)]; omega
  rw [w, z15 (by omega) (by omega), show ((i : Int) + 1) = ((i + 1 : Nat) : Int) by omega]
  exact Ev.neg (by omega) h
theorem z2x (s : Sl (Sl Int)) (hL : s.l.length ≤ 1099511627776) (hf : (flat s.l).length ≤ 4294967296) : ∃ z', Ev (fun q => zkc q s) ⟨z', true, flat s.l⟩ := by
 obtain ⟨z', h⟩ := z2w s.z s.z s.l hL hf s.l.length 0 0 (by omega) (by simp)
 exact ⟨z', Ev.succ h (fun q => rfl)⟩
theorem z2y (z z2 : Bool) (A B : List Int) (hl : A.length = B.length) (hL : A.length ≤ 1099511627776) : ∀ (k i : Nat), A.length = i + k → Ev (fun q => zkp q z A z2 B (A.length : Int) (i : Int)) (decide (A.drop i = B.drop i))
 | 0, i, hk => by
  refine Ev.succ (Ev.ne (Ev.ret' ?_)) (fun q => rfl)
  rw [y13 (by omega), y13 (by omega)]; simp
 | k + 1, i, hk => by
  have hi : i < A.length := by omega
  have hi2 : i < B.length := by omega
  have hg : A[(i : Int).toNat]? = some A[i] := by simpa using y8 hi
  have hg2 : B[(i : Int).toNat]? = some B[i] := by simpa using y8 hi2
  refine Ev.succ (Ev.po (Ev.po (Ev.opt hg (Ev.opt hg2 ?_)))) (fun q => rfl)
  rw [y10 hi, y10 hi2]
  refine Ev.ite (fun h => ?_) fun h => Ev.ret' (by symm; rw [decide_eq_false_iff_not]; intro e; exact h (List.cons.inj e).1)
  rw [z15 (by omega) (by omega), show ((i : Int) + 1) = ((i + 1 : Nat) : Int) by omega]
  refine (z2y z z2 A B hl hL k (i + 1) (by omega)).cast ?_
  rw [decide_eq_decide, List.cons.injEq]; simp only [h, true_and]
theorem z2z (a b : Sl Int) (hL : a.l.length ≤ 1099511627776) : Ev (fun q => zkq q a b) (decide (a.l = b.l)) := by
 refine Ev.succ (Ev.ite (fun h => ?_) fun h => Ev.ret' ?_) (fun q => rfl)
 ·have := z2y a.z b.z a.l b.l (by omega) hL a.l.length 0 (by omega)
  rw [y38, y38] at this; exact this
 ·symm; rw [decide_eq_false_iff_not]; intro e; rw [e] at h; exact h rfl
theorem z20 {ta t : List zje} {e : zje} (h : findE e.Proc ta ≠ some e) : newT ta (e :: t) = e :: newT ta t := by simp only [newT]; rw [if_neg h]
theorem z21 {ta t : List zje} {e : zje} (h : findE e.Proc ta = some e) : newT ta (e :: t) = newT ta t := by simp only [newT]; rw [if_pos h]
theorem z22 (ta : List zje) : ∀ t : List zje, (newT ta t).length ≤ t.length
 | [] => by simp [newT]
 | e :: t => by
  have := z22 ta t
  simp only [newT]; split
  ·rw [y22]; omega
  ·simp only [y22]; omega
theorem z23 (s : Sl Int) (hz : s.z = true → s.l = []) (hl : s.l.length ≤ 4294967296) : ∃ z, Ev (fun q => zj2 q s) ⟨z, true, s.l⟩ := by
 by_cases h : s.z = true
 ·exact ⟨true, Ev.succ (Ev.pos h (Ev.ret' (by rw [hz h]))) (fun q => rfl)⟩
 ·exact ⟨false, Ev.succ (Ev.neg h (Ev.pos hl (Ev.ret _))) (fun q => rfl)⟩
theorem z24 (z : Bool) (L : List zje) (x0 x1 : Int) (x2z : Bool) (x2l : List Int) (x3 : Bool) (x4 : Int) (tz : Bool) (ta : List zje) (d0 d1 d2 d3 : Int) (d5 : Bool) (d6 : Int) (hz : Bool) (hm : List Int) (hx : Bool) (hL : L.length ≤ 1000000) (hT : ta.length ≤ 1000000) : ∀ (k i : Nat) (acc : List zje), L.length = i + k → acc.length ≤ i →
  Ev (fun q => zj5 q z L (L.length : Int) (i : Int) x0 x1 x2z x2l x3 x4 tz ta d0 d1 d2 d3 d5 d6 hz hm hx acc) (⟨d0, d1, d2, d3, ⟨hz, hm⟩, d5, d6, ⟨false, acc ++ newT ta (L.drop i)⟩⟩, 0)
 | 0, i, acc, hk, ha => by
  refine Ev.succ (Ev.ne (Ev.ret' ?_)) (fun q => rfl)
  rw [y13 (by omega)]; simp [newT]
 | k + 1, i, acc, hk, ha => by
  have hi : i < L.length := by omega
  have he : L[((i : Int)).toNat]? = some L[i] := by simp [hi]
  have w1 : wrp .i64 ((i : Int) + 1) = ((i + 1 : Nat) : Int) := by rw [z15 (by omega) (by omega)]; omega
  obtain ⟨r, hr, hr2⟩ := z2l ⟨tz, ta⟩ L[i].Proc hT
  simp only at hr2
  have ihN := z24 z L x0 x1 x2z x2l x3 x4 tz ta d0 d1 d2 d3 d5 d6 hz hm hx hL hT k (i + 1) (acc ++ [L[i]]) (by omega) (by simp; omega)
  have ihO := z24 z L x0 x1 x2z x2l x3 x4 tz ta d0 d1 d2 d3 d5 d6 hz hm hx hL hT k (i + 1) acc (by omega) (by omega)
  rw [← w1] at ihN ihO
  rw [y10 hi]
  refine Ev.succ (Ev.po (Ev.po (Ev.opt he (Ev.bind hr ?_)))) (fun q => rfl)
  have new : findE L[i].Proc ta ≠ some L[i] → Ev (fun q => if (acc.length + 1) ≤ 4294967296 then (zj5 q z L (L.length : Int) (wrp .i64 ((i : Int) + 1)) x0 x1 x2z x2l x3 x4 tz ta d0 d1 d2 d3 d5 d6 hz hm hx (acc ++ [L[i]])) else none) (⟨d0, d1, d2, d3, ⟨hz, hm⟩, d5, d6, ⟨false, acc ++ newT ta (L[i] :: L.drop (i + 1))⟩⟩, 0) := fun hne => by
   rw [z20 hne]
   exact Ev.po (Ev.cast ihN (by simp))
  rcases hr2 with ⟨q1, q2⟩ | ⟨q1, e, q2, q3⟩
  ·exact Ev.pos q1 (new (by rw [q2]; exact fun c => by cases c))
  ·refine Ev.ne (Ev.pos q1 (Ev.opt q2 (Ev.ite (fun c1 => Ev.ite (fun c2 => Ev.ite (fun c3 => ?_) fun c3 => ?_) fun c2 => ?_) fun c1 => ?_)))
   ·rw [z21 (by rw [q3, z2j c1 c2 c3])]; exact ihO
   ·exact new (by rw [q3]; intro c; cases c; exact c3 rfl)
   ·exact new (by rw [q3]; intro c; cases c; exact c2 rfl)
   ·exact new (by rw [q3]; intro c; cases c; exact c1 rfl)
theorem z25 (z : Bool) (L : List zje) (x0 x1 : Int) (x2z : Bool) (x2l : List Int) (x3 : Bool) (x4 : Int) (tz : Bool) (ta : List zje) (d0 d1 d2 d3 : Int) (d5 : Bool) (d6 : Int) (hz : Bool) (hm : List Int) (hx : Bool) (hL : L.length ≤ 1000000) (hT : ta.length ≤ 1000000) : ∀ (k i : Nat), L.length = i + k →
  ∃ z', Ev (fun q => zj6 q z L (L.length : Int) (i : Int) x0 x1 x2z x2l x3 x4 tz ta d0 d1 d2 d3 d5 d6 hz hm hx) (⟨d0, d1, d2, d3, ⟨hz, hm⟩, d5, d6, ⟨z', newT ta (L.drop i)⟩⟩, 0)
 | 0, i, hk => by
  refine ⟨true, Ev.succ (Ev.ne (Ev.ret' ?_)) (fun q => rfl)⟩
  rw [y13 (by omega)]; simp [newT]
 | k + 1, i, hk => by
  have hi : i < L.length := by omega
  have he : L[((i : Int)).toNat]? = some L[i] := by simp [hi]
  have w1 : wrp .i64 ((i : Int) + 1) = ((i + 1 : Nat) : Int) := by rw [z15 (by omega) (by omega)]; omega
  obtain ⟨r, hr, hr2⟩ := z2l ⟨tz, ta⟩ L[i].Proc hT
  simp only at hr2
  have ihN := z24 z L x0 x1 x2z x2l x3 x4 tz ta d0 d1 d2 d3 d5 d6 hz hm hx hL hT k (i + 1) [L[i]] (by omega) (by simp)
  obtain ⟨z', ihO⟩ := z25 z L x0 x1 x2z x2l x3 x4 tz ta d0 d1 d2 d3 d5 d6 hz hm hx hL hT k (i + 1) (by omega)
  rw [← w1] at ihN ihO
  rw [y10 hi]
  have fin : ∀ {r' : zjg × Int} , Ev (fun q => if r < 0 then (zj5 q z L (L.length : Int) (wrp .i64 ((i : Int) + 1)) x0 x1 x2z x2l x3 x4 tz ta d0 d1 d2 d3 d5 d6 hz hm hx [L[i]]) else (if 0 ≤ r then ((ta[r.toNat]?).bind fun e9 => (if e9.Proc = L[i].Proc then (if e9.Seq = L[i].Seq then (if e9.Resp = L[i].Resp then (zj6 q z L (L.length : Int) (wrp .i64 ((i : Int) + 1)) x0 x1 x2z x2l x3 x4 tz ta d0 d1 d2 d3 d5 d6 hz hm hx) else (zj5 q z L (L.length : Int) (wrp .i64 ((i : Int) + 1)) x0 x1 x2z x2l x3 x4 tz ta d0 d1 d2 d3 d5 d6 hz hm hx [L[i]])) else (zj5 q z L (L.length : Int) (wrp .i64 ((i : Int) + 1)) x0 x1 x2z x2l x3 x4 tz ta d0 d1 d2 d3 d5 d6 hz hm hx [L[i]])) else (zj5 q z L (L.length : Int) (wrp .i64 ((i : Int) + 1)) x0 x1 x2z x2l x3 x4 tz ta d0 d1 d2 d3 d5 d6 hz hm hx [L[i]]))) else none)) r' → Ev (fun q => zj6 q z L (L.length : Int) (i : Int) x0 x1 x2z x2l x3 x4 tz ta d0 d1 d2 d3 d5 d6 hz hm hx) r' := fun h => Ev.succ (Ev.po (Ev.po (Ev.opt he (Ev.bind hr h)))) (fun q => rfl)
  rcases hr2 with ⟨q1, q2⟩ | ⟨q1, e, q2, q3⟩
  ·rw [z20 (by rw [q2]; exact fun c => by cases c)]
   exact ⟨false, fin (Ev.pos q1 ihN)⟩
  ·by_cases c : e = L[i]
   ·rw [z21 (by rw [q3, c])]
    exact ⟨z', fin (Ev.ne (Ev.pos q1 (Ev.opt q2 (Ev.pos (by rw [c]) (Ev.pos (by rw [c]) (Ev.pos (by rw [c]) ihO))))))⟩
   ·rw [z20 (by rw [q3]; intro c2; cases c2; exact c rfl)]
    refine ⟨false, fin (Ev.ne (Ev.pos q1 (Ev.opt q2 (Ev.ite (fun c1 => Ev.ite (fun c2 => Ev.ite (fun c3 => absurd (z2j c1 c2 c3) c) fun c3 => ihN) fun c2 => ihN) fun c1 => ihN))))⟩
/-- What stays ahead, what stays behind, what stands between. -/
def ahN (x y : List Int) : Nat := com x y
def beN (x y : List Int) : Nat := com (x.drop (com x y)).reverse (y.drop (com x y)).reverse
def midL (x y : List Int) : List Int := (y.drop (com x y)).take ((y.drop (com x y)).length - beN x y)
def noD : zjg := ⟨0, 0, 0, 0, ⟨true, []⟩, false, 0, ⟨true, []⟩⟩
def diffR (a b : zjf) (zm zt : Bool) : zjg × Int :=
 if mayN a = true ∧ mayN b = true ∧ a.State.Kind = b.State.Kind then
  (if lacksB a.Table.l b.Table.l = true ∨ b.Index < a.Index then (noD, 15) else (⟨a.Index, b.Index, ((ahN a.State.L.l b.State.L.l : Nat) : Int), ((beN a.State.L.l b.State.L.l : Nat) : Int), ⟨zm, midL a.State.L.l b.State.L.l⟩, b.State.Sealed, b.State.To, ⟨zt, newT a.Table.l b.Table.l⟩⟩, 0))
 else (noD, 1)
theorem beN_le (x y : List Int) : ahN x y ≤ x.length ∧ ahN x y ≤ y.length ∧ beN x y ≤ x.length - ahN x y ∧ beN x y ≤ y.length - ahN x y := by
 have h1 := com_le x y
 have h2 := com_le (x.drop (com x y)).reverse (y.drop (com x y)).reverse
 simp only [List.length_reverse, y14] at h2
 unfold ahN beN; omega
theorem z26 (a b : zjf) (h1 : a.State.L.l.length ≤ 1000000) (h2 : a.Table.l.length ≤ 1000000) (h3 : b.State.L.l.length ≤ 1000000) (h4 : b.Table.l.length ≤ 1000000) (hz : b.State.L.z = true → b.State.L.l = []) : ∃ zm zt, Ev (fun q => zj7 q a b) (diffR a b zm zt) := by
 unfold diffR
 by_cases c1 : mayN a = true
 ·by_cases c2 : mayN b = true
  ·by_cases c3 : a.State.Kind = b.State.Kind
   ·simp only [if_pos (show mayN a = true ∧ mayN b = true ∧ a.State.Kind = b.State.Kind from ⟨c1, c2, c3⟩)]
    by_cases c4 : b.Index < a.Index
    ·refine ⟨true, true, Ev.succ (Ev.bind (z2i a h1 h2) (Ev.pos c1 (Ev.bind (z2i b h3 h4) (Ev.pos c2 (Ev.pos c3 (Ev.pos c4 (Ev.ret' ?_))))))) (fun q => rfl)⟩
     rw [if_pos (.inr c4)]; rfl
    ·obtain ⟨r, hr, hr2⟩ := z2t a.Table.z a.Table.l a.Index a.State.Kind a.State.L.z a.State.L.l a.State.Sealed a.State.To a.Table.z a.Table.l b.Index b.State.Kind b.State.L.z b.State.L.l b.State.Sealed b.State.To b.Table.z b.Table.l h2 h4 a.Table.l.length 0 (by omega)
     rw [y38] at hr2
     have hr' : Ev (fun q => zj4 q a.Table.z a.Table.l a.Index a.State.Kind a.State.L.z a.State.L.l a.State.Sealed a.State.To a.Table.z a.Table.l b.Index b.State.Kind b.State.L.z b.State.L.l b.State.Sealed b.State.To b.Table.z b.Table.l) r := Ev.succ hr (fun q => rfl)
     by_cases c5 : lacksB a.Table.l b.Table.l = true
     ·refine ⟨true, true, Ev.succ (Ev.bind (z2i a h1 h2) (Ev.pos c1 (Ev.bind (z2i b h3 h4) (Ev.pos c2 (Ev.pos c3 (Ev.neg c4 (Ev.bind hr' (Ev.pos (hr2.2 c5) (Ev.ret' ?_))))))))) (fun q => rfl)⟩
      rw [if_pos (.inl c5)]; rfl
     ·simp only [if_neg (show ¬ (lacksB a.Table.l b.Table.l = true ∨ b.Index < a.Index) from fun e => e.elim c5 c4)]
      obtain ⟨q1, q2, q3, q4⟩ := beN_le a.State.L.l b.State.L.l
      have hA := z2p a.State.L b.State.L h1
      have hB := z2s ⟨a.State.L.z, a.State.L.l.drop (com a.State.L.l b.State.L.l)⟩ ⟨b.State.L.z, b.State.L.l.drop (com a.State.L.l b.State.L.l)⟩ (by simp only [y14]; omega) (by simp only [y14]; omega)
      unfold ahN at q1 q2 q3 q4
      have w : wrp .i64 (((b.State.L.l.length - com a.State.L.l b.State.L.l : Nat) : Int) - (((beN a.State.L.l b.State.L.l : Nat) : Int))) = ((b.State.L.l.length - com a.State.L.l b.State.L.l - beN a.State.L.l b.State.L.l : Nat) : Int) := by rw [z15 (by omega) (by omega)]; omega
      obtain ⟨zm, hC⟩ := z23 ⟨b.State.L.z, (b.State.L.l.drop (com a.State.L.l b.State.L.l)).take (b.State.L.l.length - com a.State.L.l b.State.L.l - beN a.State.L.l b.State.L.l)⟩ (fun h => by simp only at h ⊢; rw [hz h]; simp) (by simp only [y21, y14]; omega)
      obtain ⟨zt, hD⟩ := z25 b.Table.z b.Table.l a.Index a.State.Kind a.State.L.z a.State.L.l a.State.Sealed a.State.To a.Table.z a.Table.l a.Index b.Index ((ahN a.State.L.l b.State.L.l : Nat) : Int) ((beN a.State.L.l b.State.L.l : Nat) : Int) b.State.Sealed b.State.To zm ((b.State.L.l.drop (com a.State.L.l b.State.L.l)).take (b.State.L.l.length - com a.State.L.l b.State.L.l - beN a.State.L.l b.State.L.l)) true h4 h2 b.Table.l.length 0 (by omega)
      rw [y38] at hD
      refine ⟨zm, zt, Ev.succ (Ev.bind (z2i a h1 h2) (Ev.pos c1 (Ev.bind (z2i b h3 h4) (Ev.pos c2 (Ev.pos c3 (Ev.neg c4 (Ev.bind hr' (Ev.neg (fun e => c5 (hr2.1 e)) (Ev.bind hA (Ev.po (Ev.po (Ev.pos (by omega) ?_)))))))))))) (fun q => rfl)⟩
      simp only [y28]
      refine Ev.bind hB ?_
      show Ev (fun q => if 0 ≤ (wrp .i64 (((b.State.L.l.length - com a.State.L.l b.State.L.l : Nat) : Int) - (((beN a.State.L.l b.State.L.l : Nat) : Int)))) then (if (wrp .i64 (((b.State.L.l.length - com a.State.L.l b.State.L.l : Nat) : Int) - (((beN a.State.L.l b.State.L.l : Nat) : Int)))).toNat ≤ (b.State.L.l.length - com a.State.L.l b.State.L.l) then ((zj2 q ⟨b.State.L.z, (List.take ((wrp .i64 (((b.State.L.l.length - com a.State.L.l b.State.L.l : Nat) : Int) - (((beN a.State.L.l b.State.L.l : Nat) : Int)))).toNat) (List.drop (com a.State.L.l b.State.L.l) b.State.L.l))⟩).bind fun r6 => (zj6 q b.Table.z b.Table.l (b.Table.l.length : Int) 0 a.Index a.State.Kind a.State.L.z a.State.L.l a.State.Sealed a.State.To a.Table.z a.Table.l a.Index b.Index ((com a.State.L.l b.State.L.l : Nat) : Int) ((beN a.State.L.l b.State.L.l : Nat) : Int) b.State.Sealed b.State.To r6.n r6.xs r6.x)) else none) else none) _
      rw [w]
      simp only [y28]
      refine Ev.po (Ev.po (Ev.bind hC (Ev.cast hD ?_)))
      unfold midL
      rw [y14]
   ·refine ⟨true, true, Ev.succ (Ev.bind (z2i a h1 h2) (Ev.pos c1 (Ev.bind (z2i b h3 h4) (Ev.pos c2 (Ev.neg c3 (Ev.ret' ?_)))))) (fun q => rfl)⟩
    rw [if_neg (fun e => c3 e.2.2)]; rfl
  ·refine ⟨true, true, Ev.succ (Ev.bind (z2i a h1 h2) (Ev.pos c1 (Ev.bind (z2i b h3 h4) (Ev.neg c2 (Ev.ret' ?_))))) (fun q => rfl)⟩
   rw [if_neg (fun e => c2 e.2.1)]; rfl
 ·refine ⟨true, true, Ev.succ (Ev.bind (z2i a h1 h2) (Ev.neg c1 (Ev.ret' ?_))) (fun q => rfl)⟩
  rw [if_neg (fun e => c1 e.1)]; rfl
theorem mayA : mayN ⟨0, ⟨3, ⟨false, [1, 2]⟩, false, 0⟩, ⟨true, []⟩⟩ = true := by
 simp [mayN, mayS, kindOk, tabB, cutsB, cutI]
theorem mayB : ∀ z z2, mayN ⟨1, ⟨3, ⟨z, [1, 2, 9]⟩, false, 0⟩, ⟨z2, []⟩⟩ = true := by
 intro z z2; simp [mayN, mayS, kindOk, tabB, cutsB, cutI]
theorem z27 : Ev (fun q => zkv q) true := by
 obtain ⟨zm, zt, hD⟩ := z26 ⟨0, ⟨3, ⟨false, [1, 2]⟩, false, 0⟩, ⟨true, []⟩⟩ ⟨1, ⟨3, ⟨false, [1, 2, 9]⟩, false, 0⟩, ⟨true, []⟩⟩ (by simp) (by simp) (by simp) (by simp) (fun h => by cases h)
 have hR : diffR ⟨0, ⟨3, ⟨false, [1, 2]⟩, false, 0⟩, ⟨true, []⟩⟩ ⟨1, ⟨3, ⟨false, [1, 2, 9]⟩, false, 0⟩, ⟨true, []⟩⟩ zm zt = (⟨0, 1, 2, 0, ⟨zm, [9]⟩, false, 0, ⟨zt, []⟩⟩, 0) := by
  unfold diffR
  rw [if_pos ⟨mayA, mayB _ _, rfl⟩, if_neg (by simp [lacksB])]
  simp [ahN, beN, midL, com, newT]
 rw [hR] at hD
 obtain ⟨zc, hC⟩ := z2x ⟨false, [⟨false, [1, 2]⟩, ⟨zm, [9]⟩, ⟨false, []⟩]⟩ (by simp) (by simp [flat])
 have hM := z2i ⟨1, ⟨3, ⟨zc, [1, 2, 9]⟩, false, 0⟩, ⟨true, []⟩⟩ (by simp) (by simp)
 rw [mayB] at hM
 have w1 : wrp .i64 (2 - 2) = 0 := by rw [z15 (by omega) (by omega)]; rfl
 have w2 : wrp .i64 (2 - 0) = 2 := by rw [z15 (by omega) (by omega)]; rfl
 have hA : Ev (fun q => zko q ⟨0, ⟨3, ⟨false, [1, 2]⟩, false, 0⟩, ⟨true, []⟩⟩ ⟨0, 1, 2, 0, ⟨zm, [9]⟩, false, 0, ⟨zt, []⟩⟩) (⟨1, ⟨3, ⟨zc, [1, 2, 9]⟩, false, 0⟩, ⟨true, []⟩⟩, 0) := by
  have h1 := z2i ⟨0, ⟨3, ⟨false, [1, 2]⟩, false, 0⟩, ⟨true, []⟩⟩ (by simp) (by simp)
  rw [mayA] at h1
  refine Ev.succ (g := fun q => (zju q ⟨0, ⟨3, ⟨false, [1, 2]⟩, false, 0⟩, ⟨true, []⟩⟩).bind fun r1 => if r1 = true then (if (wrp .i64 (2 - 2)) < 0 then some (⟨0, ⟨0, ⟨true, []⟩, false, 0⟩, ⟨true, []⟩⟩, 1) else if 0 ≤ (wrp .i64 (2 - 0)) then (if (wrp .i64 (2 - 0)) ≤ 2 then ((zkc q ⟨false, [⟨false, [1, 2]⟩, ⟨zm, [9]⟩, ⟨false, List.drop ((wrp .i64 (2 - 0)).toNat) [1, 2]⟩]⟩).bind fun r2 => zkn q zt [] 0 1 3 false 0 true [] r2.n r2.xs r2.x) else none) else none) else some (⟨0, ⟨0, ⟨true, []⟩, false, 0⟩, ⟨true, []⟩⟩, 1)) ?_ (fun q => rfl)
  refine Ev.bind h1 (Ev.pos rfl ?_)
  rw [w1, w2]
  refine Ev.ne (Ev.po (Ev.po (Ev.bind hC ?_)))
  refine Ev.succ (g := fun q => (zju q ⟨1, ⟨3, ⟨zc, [1, 2, 9]⟩, false, 0⟩, ⟨true, []⟩⟩).bind fun r5 => if r5 = true then some (⟨1, ⟨3, ⟨zc, [1, 2, 9]⟩, false, 0⟩, ⟨true, []⟩⟩, 0) else some (⟨0, ⟨0, ⟨true, []⟩, false, 0⟩, ⟨true, []⟩⟩, 1)) ?_ (fun q => rfl)
  exact Ev.bind hM (Ev.pos rfl (Ev.ret _))
 have hE := z2z ⟨false, [1, 2, 9]⟩ ⟨zc, [1, 2, 9]⟩ (by simp)
 have hObj : Ev (fun q => zkr q ⟨3, ⟨false, [1, 2, 9]⟩, false, 0⟩ ⟨3, ⟨zc, [1, 2, 9]⟩, false, 0⟩) true := Ev.succ (g := fun q => (zkq q ⟨false, [1, 2, 9]⟩ ⟨zc, [1, 2, 9]⟩).bind fun r1 => some r1) (Ev.bind hE (Ev.ret' (by simp))) (fun q => rfl)
 have hEnt : Ev (fun q => zkt q ⟨true, []⟩ ⟨true, []⟩) true := Ev.succ (g := fun q => zks q true [] true [] 0 0) (Ev.succ (g := fun _ => some true) (Ev.ret _) (fun q => rfl)) (fun q => rfl)
 have hS : Ev (fun q => zku q ⟨1, ⟨3, ⟨false, [1, 2, 9]⟩, false, 0⟩, ⟨true, []⟩⟩ ⟨1, ⟨3, ⟨zc, [1, 2, 9]⟩, false, 0⟩, ⟨true, []⟩⟩) true :=
  Ev.succ (g := fun q => (zkr q ⟨3, ⟨false, [1, 2, 9]⟩, false, 0⟩ ⟨3, ⟨zc, [1, 2, 9]⟩, false, 0⟩).bind fun r1 => if r1 = true then ((zkt q ⟨true, []⟩ ⟨true, []⟩).bind fun r2 => some r2) else some false) (Ev.bind hObj (Ev.pos rfl (Ev.bind hEnt (Ev.ret _)))) (fun q => rfl)
 refine Ev.succ (Ev.bind hD (Ev.bind hA ?_)) (fun q => rfl)
 exact Ev.pos rfl (Ev.pos rfl (Ev.pos rfl (Ev.pos rfl (Ev.pos rfl (Ev.opt rfl (Ev.pos rfl (Ev.bind hS (Ev.ret _))))))))
theorem Few_ev (s : zjf) : Ev (fun q => zkx q s) (decide (s.State.L.l.length ≤ 300 ∧ s.Table.l.length ≤ 100)) := by
 have h4 : Ev (fun q => zkw q s.State) (decide ((s.State.L.l.length : Int) ≤ 300)) := Ev.succ (g := fun _ => some (decide ((s.State.L.l.length : Int) ≤ 300))) (Ev.ret _) (fun q => rfl)
 refine Ev.succ (Ev.bind h4 (Ev.ite (fun h => Ev.ret' ?_) fun h => Ev.ret' ?_)) (fun q => rfl)
 ·simp only [decide_eq_true_eq] at h
  by_cases c : s.Table.l.length ≤ 100
  ·rw [decide_eq_true (by omega), decide_eq_true ⟨by omega, c⟩]
  ·rw [decide_eq_false (by omega), decide_eq_false (fun e => c e.2)]
 ·simp only [decide_eq_true_eq] at h
  rw [decide_eq_false (fun e => h (by omega))]
theorem z28 : ∀ (a0 : zjf) (a1 : zjf), zjf.ok a0 → zjf.ok a1 → ∃ q, zky q a0 a1 = some true := by
 intro a b ha hb
 refine Ev.get (Ev.succ (Ev.bind z27 (Ev.bind (Few_ev a) (Ev.bind (Few_ev b) (Ev.pos rfl (Ev.ite (fun h1 => Ev.ite (fun h2 => ?_) fun h2 => Ev.ret _) fun h1 => Ev.ret _))))) (fun q => rfl))
 simp only [decide_eq_true_eq] at h1 h2
 obtain ⟨z1, z2, hD⟩ := z26 a b (by omega) (by omega) (by omega) (by omega) hb.2.1.2.1.1
 have ht := z22 a.Table.l b.Table.l
 obtain ⟨q1, q2, q3, q4⟩ := beN_le a.State.L.l b.State.L.l
 have hm : (midL a.State.L.l b.State.L.l).length = b.State.L.l.length - ahN a.State.L.l b.State.L.l - beN a.State.L.l b.State.L.l := by
  unfold midL; rw [y21, y14]; unfold ahN; omega
 have no : ∀ e : Int, e ≠ 0 → diffR a b z1 z2 = (noD, e) → Ev (fun q => (zj7 q a b).bind fun r4 => (if r4.2 = 0 then (if (wrp .i64 ((wrp .i64 (r4.1.Ahead + (r4.1.Mid.l.length : Int))) + r4.1.Behind)) = (b.State.L.l.length : Int) then (if (wrp .i64 (r4.1.Ahead + r4.1.Behind)) ≤ (a.State.L.l.length : Int) then (if (r4.1.Table.l.length : Int) ≤ (b.Table.l.length : Int) then (some (decide (r4.1.From ≤ r4.1.To))) else (some false)) else (some false)) else (some false)) else (if (r4.1.Mid.l.length : Int) = 0 then (if (r4.1.Table.l.length : Int) = 0 then (some (decide (r4.1.From = 0))) else (some false)) else (some false)))) true := fun e he h => by
  rw [h] at hD
  exact Ev.bind hD (Ev.neg he (Ev.pos rfl (Ev.pos rfl (Ev.ret' rfl))))
 by_cases c1 : mayN a = true ∧ mayN b = true ∧ a.State.Kind = b.State.Kind
 ·by_cases c2 : lacksB a.Table.l b.Table.l = true ∨ b.Index < a.Index
  ·exact no 15 (by decide) (by unfold diffR; rw [if_pos c1, if_pos c2])
  ·have h : diffR a b z1 z2 = (⟨a.Index, b.Index, ((ahN a.State.L.l b.State.L.l : Nat) : Int), ((beN a.State.L.l b.State.L.l : Nat) : Int), ⟨z1, midL a.State.L.l b.State.L.l⟩, b.State.Sealed, b.State.To, ⟨z2, newT a.Table.l b.Table.l⟩⟩, 0) := by unfold diffR; rw [if_pos c1, if_neg c2]
   rw [h] at hD
   refine Ev.bind hD (Ev.pos rfl (Ev.pos ?_ (Ev.pos ?_ (Ev.pos ?_ (Ev.ret' ?_)))))
   ·simp only
    rw [z15 (x := ((ahN a.State.L.l b.State.L.l : Nat) : Int) + _) (by omega) (by omega), z15 (by omega) (by omega)]; omega
   ·simp only
    rw [z15 (by omega) (by omega)]; omega
   ·simp only; omega
   ·simp only [decide_eq_true_eq]
    have : ¬ b.Index < a.Index := fun e => c2 (.inr e)
    omega
 ·exact no 1 (by decide) (by unfold diffR; rw [if_neg c1])
end Go.Dvm.I
