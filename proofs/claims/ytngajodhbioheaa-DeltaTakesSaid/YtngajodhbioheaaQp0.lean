/- Plain laws of the functions: part 1. -/
import Derived.Test.YtngajodhbioheaaQi
set_option linter.all false
set_option maxRecDepth 100000
namespace Go.Dvm.I
open Go Go.Dvm
/-- With enough rounds. -/
def Ev {R : Type} (g : Nat → Option R) (r : R) : Prop := ∃ N, ∀ q, N ≤ q → g q = some r
section
variable {R S : Type}
theorem Ev.ret (r : R) : Ev (fun _ => some r) r := ⟨0, fun _ _ => rfl⟩
theorem Ev.ret' {r r' : R} (h : r = r') : Ev (fun _ => some r) r' := ⟨0, fun _ _ => by rw [h]⟩
theorem Ev.succ {f g : Nat → Option R} {r : R} (h : Ev g r) (e : ∀ q, f (q + 1) = g q) : Ev f r := by
 obtain ⟨N, h⟩ := h
 refine ⟨N + 1, fun q hq => ?_⟩
 obtain ⟨q, rfl⟩ : ∃ p, q = p + 1 := ⟨q - 1, by omega⟩
 rw [e]; exact h q (by omega)
theorem Ev.bind {g : Nat → Option S} {k : Nat → S → Option R} {s : S} {r : R} (h : Ev g s) (h2 : Ev (fun q => k q s) r) : Ev (fun q => (g q).bind (k q)) r := by
 obtain ⟨N, h⟩ := h
 obtain ⟨M, h2⟩ := h2
 exact ⟨N + M, fun q hq => by show (g q).bind (k q) = some r; rw [h q (by omega), y6]; exact h2 q (by omega)⟩
theorem Ev.opt {o : Option S} {k : Nat → S → Option R} {s : S} {r : R} (h : o = some s) (h2 : Ev (fun q => k q s) r) : Ev (fun q => o.bind (k q)) r := by
 subst h; exact h2
theorem Ev.pos {c : Prop} [Decidable c] {a b : Nat → Option R} {r : R} (hc : c) (h : Ev a r) : Ev (fun q => if c then a q else b q) r := by
 obtain ⟨N, h⟩ := h
 exact ⟨N, fun q hq => by show (if c then a q else b q) = some r; rw [if_pos hc]; exact h q hq⟩
theorem Ev.neg {c : Prop} [Decidable c] {a b : Nat → Option R} {r : R} (hc : ¬ c) (h : Ev b r) : Ev (fun q => if c then a q else b q) r := by
 obtain ⟨N, h⟩ := h
 exact ⟨N, fun q hq => by show (if c then a q else b q) = some r; rw [if_neg hc]; exact h q hq⟩
theorem Ev.po {c : Prop} [Decidable c] {a b : Nat → Option R} {r : R} (h : Ev a r) (hc : c := by omega) : Ev (fun q => if c then a q else b q) r := Ev.pos hc h
theorem Ev.ne {c : Prop} [Decidable c] {a b : Nat → Option R} {r : R} (h : Ev b r) (hc : ¬ c := by omega) : Ev (fun q => if c then a q else b q) r := Ev.neg hc h
theorem Ev.ite {c : Prop} [Decidable c] {a b : Nat → Option R} {r : R} (h1 : c → Ev a r) (h2 : ¬ c → Ev b r) : Ev (fun q => if c then a q else b q) r := by
 by_cases hc : c
 ·exact .pos hc (h1 hc)
 ·exact .neg hc (h2 hc)
theorem Ev.get {f : Nat → Option R} {r : R} (h : Ev f r) : ∃ q, f q = some r := by
 obtain ⟨N, h⟩ := h; exact ⟨N, h N (y15 _)⟩
theorem Ev.cast {f : Nat → Option R} {r r' : R} (h : Ev f r) (e : r = r') : Ev f r' := e ▸ h
end
theorem zbcu {x : Int} (h1 : -9223372036854775808 ≤ x) (h2 : x ≤ 9223372036854775807) : wrp .i64 x = x := by
 unfold wrp; simp [IntKind.wrap, IntKind.min, IntKind.max, IntKind.signed, IntKind.bits] <;> omega
/-- A number's groups. -/
def grp (n : Nat) : List Int := if h : n < 128 then [(n : Int)] else ((n % 128 + 128 : Nat) : Int) :: grp (n / 128)
theorem grp_lt {n : Nat} (h : n < 128) : grp n = [(n : Int)] := by rw [grp, dif_pos h]
theorem grp_ge {n : Nat} (h : ¬ n < 128) : grp n = ((n % 128 + 128 : Nat) : Int) :: grp (n / 128) := by rw [grp, dif_neg h]
theorem zbcv : ∀ (k : Nat) {n : Nat}, n < 128 ^ (k + 1) → (grp n).length ≤ k + 1
 | 0, n, h => by rw [grp_lt (by simpa using h)]; simp
 | k + 1, n, h => by
  by_cases hn : n < 128
  ·rw [grp_lt hn]; simp
  ·rw [grp_ge hn]
   have := zbcv k (n := n / 128) (by rw [Nat.div_lt_iff_lt_mul (by omega)]; rw [Nat.pow_succ] at h; exact h)
   simp; omega
theorem zbcw {n : Nat} (h : n < 18446744073709551616) : (grp n).length ≤ 10 := zbcv 9 (by omega)
/-- What a number puts behind bytes. -/
def put (n : Int) : List Int := if n < 0 then [] else if 4611686018427387904 ≤ n then [] else grp n.toNat
theorem zbcx (n : Int) : (put n).length ≤ 10 := by
 unfold put; split
 ·simp
 ·split
  ·simp
  ·exact zbcw (by omega)
/-- Zigzag. -/
def zig (n : Int) : Nat := if 0 ≤ n then 2 * n.toNat else 2 * (-n).toNat - 1
theorem zig_lt {n : Int} (h : inR .i64 n) : zig n < 18446744073709551616 := by
 simp [inR, IntKind.min, IntKind.max, IntKind.signed, IntKind.bits] at h
 unfold zig; split <;> omega
def putS (n : Int) : List Int := grp (zig n)
def cutI (n : Int) : Int := if n < -1099511627776 then -1099511627776 else if 1099511627776 < n then 1099511627776 else n
theorem zbcy (n : Int) : Ev (fun q => zjx q n) (cutI n) := by
 refine Ev.succ (Ev.ret' ?_) (fun q => rfl)
 unfold cutI; split <;> split <;> split <;> (try split) <;> omega
def fitsOp (o : zju) : Bool := decide (0 ≤ o.Code) && (decide (o.Code ≤ 10) && (decide (o.A = cutI o.A) && decide (o.B = cutI o.B)))
theorem zbcz (o : zju) : Ev (fun q => zlb q o) (fitsOp o) := by
 refine Ev.succ ?_ (fun q => rfl)
 unfold fitsOp
 refine Ev.ite (fun h => Ev.ite (fun h1 => Ev.bind (zbcy _) (Ev.ite (fun h2 => Ev.bind (zbcy _) (Ev.ret' ?_)) fun h2 => Ev.ret' ?_)) fun h1 => Ev.ret' ?_) fun h => Ev.ret' ?_
 ·rw [decide_eq_true h, decide_eq_true h1, decide_eq_true h2]; rfl
 ·rw [decide_eq_true h, decide_eq_true h1, decide_eq_false h2]; rfl
 ·rw [decide_eq_true h, decide_eq_false h1]; rfl
 ·rw [decide_eq_false h]; rfl
theorem zbc0 {n : Int} : n = cutI n ↔ -1099511627776 ≤ n ∧ n ≤ 1099511627776 := by
 unfold cutI
 by_cases h1 : n < -1099511627776
 ·rw [if_pos h1]; omega
 ·rw [if_neg h1]
  by_cases h2 : 1099511627776 < n
  ·rw [if_pos h2]; omega
  ·rw [if_neg h2]; omega
def FitsR (r : zjv) : Prop := 0 ≤ r.Index ∧ r.Index < 4611686018427387904 ∧ 0 ≤ r.Proc ∧ r.Proc ≤ 64 ∧ 0 ≤ r.Seq ∧ r.Seq < 4611686018427387904 ∧ fitsOp r.Op = true ∧ -1125899906842624 ≤ r.Resp ∧ r.Resp ≤ 1125899906842624
instance (r : zjv) : Decidable (FitsR r) := by unfold FitsR; infer_instance
theorem zbc1 (r : zjv) : Ev (fun q => zlc q r) (decide (FitsR r)) := by
 refine Ev.succ ?_ (fun q => rfl)
 refine Ev.ite (fun h1 => Ev.ite (fun h2 => Ev.ite (fun h3 => Ev.ite (fun h4 => Ev.ite (fun h5 => Ev.ite (fun h6 => Ev.bind (zbcz _) (Ev.ite (fun h7 => Ev.ite (fun h8 => Ev.ret' ?_) fun h8 => Ev.ret' ?_) fun h7 => Ev.ret' ?_)) fun h6 => Ev.ret' ?_) fun h5 => Ev.ret' ?_) fun h4 => Ev.ret' ?_) fun h3 => Ev.ret' ?_) fun h2 => Ev.ret' ?_) fun h1 => Ev.ret' ?_ <;> simp only [FitsR, *] <;> simp
theorem zbc2 {n : Int} (h : inR .i64 n) : (putS n).length ≤ 10 := zbcw (zig_lt h)
theorem zbc3 {n : Int} (h1 : -9223372036854775808 ≤ n) (h2 : n ≤ 9223372036854775807) : inR .i64 n := by
 simp [inR, IntKind.min, IntKind.max, IntKind.signed, IntKind.bits]; omega
def flat (l : List (Sl Int)) : List Int := l.flatMap (·.l)
theorem zbc4 (a : Sl Int) (b : List (Sl Int)) : flat (a :: b) = a.l ++ flat b := by simp [flat]
theorem zbc5 (s : Sl Int) (hz : s.z = false) (hl : s.l.length ≤ 4294967296) : Ev (fun q => zkf q s) ⟨false, true, s.l⟩ :=
 Ev.succ (Ev.neg (by simp [hz]) (Ev.pos hl (Ev.ret _))) (fun q => rfl)
def cutsB (l : List Int) : Prop := ∀ n ∈ l, n = cutI n
instance (l : List Int) : Decidable (cutsB l) := by unfold cutsB; infer_instance
theorem zbc6 (n : Int) : Ev (fun q => zjy q n) (!(decide (n = cutI n))) := Ev.succ (Ev.bind (zbcy n) (Ev.ret _)) (fun q => rfl)
theorem zbc7 (z : Bool) (L : List Int) (h0 : Int) (h1z : Bool) (h1l : List Int) (h2 : Bool) (h3 : Int) (hL : L.length ≤ 1000000) : ∀ (k i : Nat), L.length = i + k →
  ∃ r, Ev (fun q => zj1 q z L (L.length : Int) (i : Int) h0 h1z h1l h2 h3) r ∧ (0 ≤ r ↔ ¬ cutsB (L.drop i))
 | 0, i, hk => by
  refine ⟨-1, Ev.succ (Ev.ne (Ev.ret _)) (fun q => rfl), ?_⟩
  rw [y13 (by omega)]; simp [cutsB]
 | k + 1, i, hk => by
  have hi : i < L.length := by omega
  have he : L[((i : Int)).toNat]? = some L[i] := by simp [hi]
  have hd := y10 hi
  by_cases h : L[i] = cutI L[i]
  ·obtain ⟨r, hr, hi2⟩ := zbc7 z L h0 h1z h1l h2 h3 hL k (i + 1) (by omega)
   rw [show ((i + 1 : Nat) : Int) = wrp .i64 ((i : Int) + 1) by rw [zbcu (by omega) (by omega)]; omega] at hr
   refine ⟨r, Ev.succ (Ev.po (Ev.po (Ev.opt he (Ev.bind (zbc6 _) (Ev.neg (by simpa using h) hr))))) (fun q => rfl), ?_⟩
   rw [hi2, hd]; unfold cutsB; simp only [List.mem_cons, forall_eq_or_imp]
   exact ⟨fun a b => a b.2, fun a b => a ⟨h, b⟩⟩
  ·refine ⟨i, Ev.succ (Ev.po (Ev.po (Ev.opt he (Ev.bind (zbc6 _) (Ev.pos (by simpa using h) (Ev.ret _)))))) (fun q => rfl), ?_⟩
   rw [hd]; unfold cutsB; simp only [List.mem_cons, forall_eq_or_imp]
   exact ⟨fun _ b => h b.1, fun _ => by omega⟩
theorem zbc8 (z : Bool) (L : List Int) (h0 : Int) (h1z : Bool) (h1l : List Int) (h2 : Bool) (h3 : Int) (hL : L.length ≤ 1000000) : ∃ r, Ev (fun q => zj2 q z L h0 h1z h1l h2 h3) r ∧ (0 ≤ r ↔ ¬ cutsB L) := by
 obtain ⟨r, h, h4⟩ := zbc7 z L h0 h1z h1l h2 h3 hL L.length 0 (by omega)
 exact ⟨r, Ev.succ h (fun q => rfl), by simpa using h4⟩
def prs (least : Int) : Int → List Int → Bool
 | last, a :: b :: t => decide (last < a) && (decide (a ≤ 255) && (decide (least ≤ b) && (decide (b ≤ 1099511627776) && prs least a t)))
 | _, _ => true
def pairsOk (least : Int) (l : List Int) : Bool := prs least (-1) l && (decide (l.length % 2 = 0) && decide (l.length ≤ 128))
theorem zbc9 (z : Bool) (L : List Int) (least : Int) (hL : L.length ≤ 1000000) : ∀ (k i : Nat) (last : Int), L.length ≤ i + 2 * k → i ≤ 2000000 →
  Ev (fun q => zjz q z L least last (i : Int)) (prs least last (L.drop i) && (decide (L.length % 2 = 0) && decide (L.length ≤ 128)))
 | k, i, last, hk, hi9 => by
  have w1 : wrp .i64 ((i : Int) + 1) = ((i + 1 : Nat) : Int) := by rw [zbcu (by omega) (by omega)]; omega
  have w2 : wrp .i64 ((i : Int) + 2) = ((i + 2 : Nat) : Int) := by rw [zbcu (by omega) (by omega)]; omega
  by_cases h : i + 1 < L.length
  ·cases k with
   | zero => omega
   | succ k =>
    have he : L[((i : Int)).toNat]? = some L[i] := by rw [y28]; exact y8 (by omega)
    have he2 : L[(wrp .i64 ((i : Int) + 1)).toNat]? = some L[i + 1] := by rw [w1, y28]; exact y8 h
    have hd : L.drop i = L[i] :: L[i + 1] :: L.drop (i + 2) := by rw [y10 (by omega), y10 h]
    rw [hd]
    simp only [prs]
    refine Ev.succ (Ev.pos (by rw [w1]; omega) (Ev.po (Ev.opt he (Ev.ite (fun c => Ev.ret' ?_) fun c => Ev.ite (fun c2 => Ev.ret' ?_) fun c2 => Ev.pos (by rw [w1]; omega) (Ev.opt he2 (Ev.ite (fun c3 => Ev.ret' ?_) fun c3 => Ev.ite (fun c4 => Ev.ret' ?_) fun c4 => ?_)))))) (fun q => rfl)
    ·rw [decide_eq_false (show ¬ last < L[i] by omega)]; rfl
    ·rw [decide_eq_false (show ¬ L[i] ≤ 255 by omega)]; simp
    ·rw [decide_eq_false (show ¬ least ≤ L[i + 1] by omega)]; simp
    ·rw [decide_eq_false (show ¬ L[i + 1] ≤ 1099511627776 by omega)]; simp
    ·rw [decide_eq_true (show last < L[i] by omega), decide_eq_true (show L[i] ≤ 255 by omega), decide_eq_true (show least ≤ L[i + 1] by omega), decide_eq_true (show L[i + 1] ≤ 1099511627776 by omega), w2]
     simp only [y56]
     exact zbc9 z L least hL k (i + 2) L[i] (by omega) (by omega)
  ·have hp : prs least last (L.drop i) = true := by
    have hl : (L.drop i).length ≤ 1 := by rw [y14]; omega
    generalize L.drop i = X at hl
    match X, hl with
    | [], _ => rfl
    | [a], _ => rfl
   rw [hp, y56]
   have ht : Int.tmod (L.length : Int) 2 = ((L.length % 2 : Nat) : Int) := by rw [Int.tmod_eq_emod_of_nonneg (by omega)]; omega
   refine Ev.succ (Ev.neg (by rw [w1]; omega) (Ev.ite (fun c => Ev.ret' ?_) fun c => Ev.ret' ?_)) (fun q => rfl)
   ·rw [ht] at c
    rw [decide_eq_true (show L.length % 2 = 0 by omega), y56]
    by_cases h4 : L.length ≤ 128
    ·rw [decide_eq_true h4, decide_eq_true (by omega)]
    ·rw [decide_eq_false h4, decide_eq_false (by omega)]
   ·rw [ht] at c
    rw [decide_eq_false (show ¬ L.length % 2 = 0 by omega)]; rfl
theorem zbda (s : Sl Int) (least : Int) (hL : s.l.length ≤ 1000000) : Ev (fun q => zj0 q s least) (pairsOk least s.l) := by
 have := zbc9 s.z s.l least hL s.l.length 0 (-1) (by omega) (by omega)
 exact Ev.succ this (fun q => rfl)
def kindOk (k : Int) (l : List Int) : Bool :=
 if k = 0 ∨ k = 1 then decide (l.length = 1 ∧ cutsB l) else if k = 2 ∨ k = 3 then decide (l.length ≤ 64 ∧ cutsB l) else if k = 4 then pairsOk (-1099511627776) l else if k = 5 then pairsOk 0 l else false
def mayS (s : zjq) : Bool := if s.To < 0 then false else if 3 ≤ s.To then false else if s.Sealed = true then kindOk s.Kind s.L.l else if s.To = 0 then kindOk s.Kind s.L.l else false
theorem zbdb (s : zjq) (hL : s.L.l.length ≤ 1000000) : Ev (fun q => ((zj2 q s.L.z s.L.l s.Kind s.L.z s.L.l s.Sealed s.To).bind fun r1 => (if s.Kind = 0 then (if (s.L.l.length : Int) = 1 then (some (!(decide (0 ≤ r1)))) else (some false)) else (if s.Kind = 1 then (if (s.L.l.length : Int) = 1 then (some (!(decide (0 ≤ r1)))) else (some false)) else (if s.Kind = 2 then (if (s.L.l.length : Int) ≤ 64 then (some (!(decide (0 ≤ r1)))) else (some false)) else (if s.Kind = 3 then (if (s.L.l.length : Int) ≤ 64 then (some (!(decide (0 ≤ r1)))) else (some false)) else (if s.Kind = 4 then ((zj0 q s.L (-1099511627776)).bind fun r2 => (some r2)) else (if s.Kind = 5 then ((zj0 q s.L 0).bind fun r3 => (some r3)) else (some false))))))))) (kindOk s.Kind s.L.l) := by
 obtain ⟨r, h, hr⟩ := zbc8 s.L.z s.L.l s.Kind s.L.z s.L.l s.Sealed s.To hL
 have one : ∀ {P : Prop} [Decidable P], P → Ev (fun _ : Nat => (some (!(decide (0 ≤ r))) : Option Bool)) (decide (P ∧ cutsB s.L.l)) := fun {P} _ hp => Ev.ret' (by
  by_cases hc : cutsB s.L.l
  ·rw [decide_eq_false (fun e => hr.1 e hc)]; symm; simp only [Bool.not_false, decide_eq_true_eq]; exact ⟨hp, hc⟩
  ·rw [decide_eq_true (hr.2 hc)]; symm; simp only [Bool.not_true, decide_eq_false_iff_not]; exact fun e => hc e.2)
 have no : ∀ {P : Prop} [Decidable P], ¬ P → Ev (fun _ : Nat => (some false : Option Bool)) (decide (P ∧ cutsB s.L.l)) := fun {P} _ hp => Ev.ret' (by
  symm; simp only [decide_eq_false_iff_not]; exact fun e => hp e.1)
 refine Ev.bind h ?_
 unfold kindOk
 by_cases k0 : s.Kind = 0
 ·rw [if_pos (show s.Kind = 0 ∨ s.Kind = 1 from .inl k0)]
  by_cases hl : s.L.l.length = 1
  ·exact Ev.pos k0 (Ev.po (one hl))
  ·exact Ev.pos k0 (Ev.ne (no hl))
 by_cases k1 : s.Kind = 1
 ·rw [if_pos (show s.Kind = 0 ∨ s.Kind = 1 from .inr k1)]
  by_cases hl : s.L.l.length = 1
  ·exact Ev.neg k0 (Ev.pos k1 (Ev.po (one hl)))
  ·exact Ev.neg k0 (Ev.pos k1 (Ev.ne (no hl)))
 rw [if_neg (show ¬ (s.Kind = 0 ∨ s.Kind = 1) by omega)]
 by_cases k2 : s.Kind = 2
 ·rw [if_pos (show s.Kind = 2 ∨ s.Kind = 3 from .inl k2)]
  by_cases hl : s.L.l.length ≤ 64
  ·exact Ev.neg k0 (Ev.neg k1 (Ev.pos k2 (Ev.po (one hl))))
  ·exact Ev.neg k0 (Ev.neg k1 (Ev.pos k2 (Ev.ne (no hl))))
 by_cases k3 : s.Kind = 3
 ·rw [if_pos (show s.Kind = 2 ∨ s.Kind = 3 from .inr k3)]
  by_cases hl : s.L.l.length ≤ 64
  ·exact Ev.neg k0 (Ev.neg k1 (Ev.neg k2 (Ev.pos k3 (Ev.po (one hl)))))
  ·exact Ev.neg k0 (Ev.neg k1 (Ev.neg k2 (Ev.pos k3 (Ev.ne (no hl)))))
 rw [if_neg (show ¬ (s.Kind = 2 ∨ s.Kind = 3) by omega)]
 refine Ev.neg k0 (Ev.neg k1 (Ev.neg k2 (Ev.neg k3 (Ev.ite (fun k4 => ?_) fun k4 => Ev.ite (fun k5 => ?_) fun k5 => ?_))))
 ·rw [if_pos k4]; exact Ev.bind (zbda _ _ hL) (Ev.ret _)
 ·rw [if_neg k4, if_pos k5]; exact Ev.bind (zbda _ _ hL) (Ev.ret _)
 ·rw [if_neg k4, if_neg k5]; exact Ev.ret _
theorem zbdc (s : zjq) (hL : s.L.l.length ≤ 1000000) : Ev (fun q => zj3 q s) (mayS s) := by
 have hb := zbdb s hL
 unfold mayS
 refine Ev.succ (Ev.ite (fun h => ?_) fun h => Ev.ite (fun h2 => ?_) fun h2 => Ev.ite (fun h3 => ?_) fun h3 => Ev.ite (fun h4 => ?_) fun h4 => ?_) (fun q => rfl)
 ·rw [if_pos h]; exact Ev.ret _
 ·rw [if_neg h, if_pos h2]; exact Ev.ret _
 ·rw [if_neg h, if_neg h2, if_pos h3]; exact hb
 ·rw [if_neg h, if_neg h2, if_neg h3, if_pos h4]; exact hb
 ·rw [if_neg h, if_neg h2, if_neg h3, if_neg h4]; exact Ev.ret _
def entOk (e : zjr) : Bool := decide (0 ≤ e.Proc) && (decide (e.Proc ≤ 64) && (decide (0 ≤ e.Seq) && (decide (e.Seq < 4611686018427387904) && (decide (-1125899906842624 ≤ e.Resp) && decide (e.Resp ≤ 1125899906842624)))))
theorem zbdd (e : zjr) : Ev (fun q => zj4 q e) (entOk e) := by
 unfold entOk
 exact Ev.succ (Ev.ite (fun h1 => Ev.ite (fun h2 => Ev.ite (fun h3 => Ev.ite (fun h4 => Ev.ite (fun h5 => Ev.ret' (by simp [*])) fun h5 => Ev.ret' (by simp [*])) fun h4 => Ev.ret' (by simp [*])) fun h3 => Ev.ret' (by simp [*])) fun h2 => Ev.ret' (by simp [*])) fun h1 => Ev.ret' (by simp [*])) (fun q => rfl)
def tabB : Int → List zjr → Bool
 | _, [] => true
 | last, e :: t => entOk e && (decide (last < e.Proc) && tabB e.Proc t)
theorem zbde (z z2 : Bool) (L : List zjr) (hL : L.length ≤ 1000000) : ∀ (k i : Nat) (last : Int), L.length = i + k → (∀ e, 0 < i → L[i - 1]? = some e → e.Proc = last) → (i = 0 → last = -1) →
  Ev (fun q => zj5 q z L z2 L (L.length : Int) (i : Int)) (tabB last (L.drop i))
 | 0, i, last, hk, h1, h0 => by
  refine Ev.succ (Ev.ne (Ev.ret' ?_)) (fun q => rfl)
  rw [y13 (by omega)]; rfl
 | k + 1, i, last, hk, h1, h0 => by
  have hi : i < L.length := by omega
  have he : L[((i : Int)).toNat]? = some L[i] := by simp [hi]
  rw [y10 hi]
  simp only [tabB]
  have w1 : wrp .i64 ((i : Int) + 1) = ((i + 1 : Nat) : Int) := by rw [zbcu (by omega) (by omega)]; omega
  have ih := zbde z z2 L hL k (i + 1) L[i].Proc (by omega) (fun e _ hx => by
   rw [Nat.add_sub_cancel, y8 hi] at hx
   simp only [y5] at hx; rw [hx]) (by omega)
  refine Ev.succ (Ev.po (Ev.po (Ev.opt he (Ev.bind (zbdd _) (Ev.ite (fun c => Ev.ite (fun c2 => ?_) fun c2 => ?_) fun c => Ev.ret' ?_))))) (fun q => rfl)
  ·have w3 : wrp .i64 ((i : Int) - 1) = ((i - 1 : Nat) : Int) := by rw [zbcu (by omega) (by omega)]; omega
   have he3 : L[(wrp .i64 ((i : Int) - 1)).toNat]? = some L[i - 1] := by rw [w3, y28]; exact y8 (by omega)
   have hq := h1 L[i - 1] (by omega) (y8 (by omega))
   refine Ev.pos (by rw [w3]; omega) (Ev.opt he3 (Ev.ite (fun c4 => Ev.ret' ?_) fun c4 => ?_))
   ·rw [c, decide_eq_false (show ¬ last < L[i].Proc by omega)]; rfl
   ·rw [c, decide_eq_true (show last < L[i].Proc by omega), w1]; simpa using ih
  ·have := h0 (by omega)
   have hp : 0 ≤ L[i].Proc := by unfold entOk at c; simp only [y7, decide_eq_true_eq] at c; exact c.1
   rw [c, decide_eq_true (show last < L[i].Proc by omega), w1]; simpa using ih
  ·simp only [Bool.not_eq_true] at c; rw [c]; rfl
theorem zbdf (s : Sl zjr) (hL : s.l.length ≤ 1000000) : Ev (fun q => zj6 q s) (tabB (-1) s.l) :=
 Ev.succ (zbde s.z s.z s.l hL s.l.length 0 (-1) (by omega) (fun e h => by omega) (fun _ => rfl)) (fun q => rfl)
def mayN (s : zjs) : Bool := decide (0 ≤ s.Index) && (decide (s.Index < 4611686018427387904) && (mayS s.State && tabB (-1) s.Table.l))
theorem zbdg (s : zjs) (h1 : s.State.L.l.length ≤ 1000000) (h2 : s.Table.l.length ≤ 1000000) : Ev (fun q => zj7 q s) (mayN s) := by
 unfold mayN
 refine Ev.succ (Ev.ite (fun c1 => Ev.ite (fun c2 => Ev.bind (zbdc _ h1) (Ev.ite (fun c3 => Ev.bind (zbdf _ h2) (Ev.ret' ?_)) fun c3 => Ev.ret' ?_)) fun c2 => Ev.ret' ?_) fun c1 => Ev.ret' ?_) (fun q => rfl)
 ·simp [c1, c2, c3]
 ·simp [c3]
 ·simp [c2]
 ·simp [c1]
instance : DecidableEq zjr := fun a b => if h : a.Proc = b.Proc ∧ a.Seq = b.Seq ∧ a.Resp = b.Resp then isTrue (by cases a; cases b; simp_all) else isFalse (fun e => h (by rw [e]; exact ⟨rfl, rfl, rfl⟩))
theorem zbdh {a b : zjr} (h1 : a.Proc = b.Proc) (h2 : a.Seq = b.Seq) (h3 : a.Resp = b.Resp) : a = b := by cases a; cases b; simp_all
/-- A process's entry. -/
def findE (p : Int) : List zjr → Option zjr
 | [] => none
 | e :: t => if e.Proc = p then some e else findE p t
theorem zbdi (z : Bool) (L : List zjr) (p : Int) (hL : L.length ≤ 1000000) : ∀ (k i : Nat), L.length = i + k →
  ∃ r, Ev (fun q => zj8 q z L (L.length : Int) (i : Int) p) r ∧ ((r < 0 ∧ findE p (L.drop i) = none) ∨ (0 ≤ r ∧ ∃ e, L[r.toNat]? = some e ∧ findE p (L.drop i) = some e))
 | 0, i, hk => by
  refine ⟨-1, Ev.succ (Ev.ne (Ev.ret _)) (fun q => rfl), .inl ⟨by omega, ?_⟩⟩
  rw [y13 (by omega)]; rfl
 | k + 1, i, hk => by
  have hi : i < L.length := by omega
  have he : L[((i : Int)).toNat]? = some L[i] := by simp [hi]
  rw [y10 hi]
  simp only [findE]
  by_cases h : L[i].Proc = p
  ·rw [if_pos h]
   exact ⟨i, Ev.succ (Ev.po (Ev.po (Ev.opt he (Ev.pos h (Ev.ret _))))) (fun q => rfl), .inr ⟨by omega, L[i], he, rfl⟩⟩
  ·rw [if_neg h]
   obtain ⟨r, hr, hr2⟩ := zbdi z L p hL k (i + 1) (by omega)
   rw [show ((i + 1 : Nat) : Int) = wrp .i64 ((i : Int) + 1) by rw [zbcu (by omega) (by omega)]; omega] at hr
   exact ⟨r, Ev.succ (Ev.po (Ev.po (Ev.opt he (Ev.neg h hr)))) (fun q => rfl), hr2⟩
theorem zbdj (s : Sl zjr) (p : Int) (hL : s.l.length ≤ 1000000) : ∃ r, Ev (fun q => zka q s p) r ∧ ((r < 0 ∧ findE p s.l = none) ∨ (0 ≤ r ∧ ∃ e, s.l[r.toNat]? = some e ∧ findE p s.l = some e)) := by
 obtain ⟨r, h, h2⟩ := zbdi s.z s.l p hL s.l.length 0 (by omega)
 rw [y38] at h2
 exact ⟨r, Ev.succ (Ev.bind (Ev.succ h (fun q => rfl)) (Ev.ret _)) (fun q => rfl), h2⟩
/-- How many numbers two lists begin with alike. -/
def com : List Int → List Int → Nat
 | a :: x, b :: y => if a = b then com x y + 1 else 0
 | _, _ => 0
theorem com_le : ∀ (x y : List Int), com x y ≤ x.length ∧ com x y ≤ y.length
 | [], y => by simp [com]
 | a :: x, [] => by simp [com]
 | a :: x, b :: y => by
  simp only [com]
  split
  ·have := com_le x y; simp only [y22]; omega
  ·simp
theorem zbdk {x y : List Int} {i : Nat} (hx : i < x.length) (hy : i < y.length) : com (x.drop i) (y.drop i) = if x[i] = y[i] then com (x.drop (i + 1)) (y.drop (i + 1)) + 1 else 0 := by
 rw [y10 hx, y10 hy]; rfl
theorem zbdl {x y : List Int} {i : Nat} (h : x.length ≤ i ∨ y.length ≤ i) : com (x.drop i) (y.drop i) = 0 := by
 rcases h with h | h
 ·rw [y13 h]; cases y.drop i <;> rfl
 ·rw [y13 h]; cases x.drop i <;> rfl
theorem zbdm (z1 z2 : Bool) (x y : List Int) (hL : x.length ≤ 1000000) : ∀ (k i : Nat), x.length = i + k →
  Ev (fun q => zkb q z1 x z2 y (i : Int)) ((i + com (x.drop i) (y.drop i) : Nat) : Int)
 | 0, i, hk => by
  refine Ev.succ (Ev.ne (Ev.ret' ?_)) (fun q => rfl)
  rw [zbdl (.inl (by omega))]; rfl
 | k + 1, i, hk => by
  have hi : i < x.length := by omega
  have he : x[((i : Int)).toNat]? = some x[i] := by simp [hi]
  by_cases hy : i < y.length
  ·have he2 : y[((i : Int)).toNat]? = some y[i] := by simp [hy]
   rw [zbdk hi hy]
   refine Ev.succ (Ev.po (Ev.po (Ev.po (Ev.opt he (Ev.opt he2 (Ev.ite (fun h => ?_) fun h => ?_)))))) (fun q => rfl)
   ·rw [if_pos h]
    have := zbdm z1 z2 x y hL k (i + 1) (by omega)
    rw [show ((i + 1 : Nat) : Int) = wrp .i64 ((i : Int) + 1) by rw [zbcu (by omega) (by omega)]; omega] at this
    refine Ev.cast this ?_
    omega
   ·rw [if_neg h]; exact Ev.ret' (by omega)
  ·rw [zbdl (.inr (by omega))]
   exact Ev.succ (Ev.po (Ev.ne (Ev.ret' (by omega)))) (fun q => rfl)
theorem zbdn (a b : Sl Int) (hL : a.l.length ≤ 1000000) : Ev (fun q => zkc q a b) ((com a.l b.l : Nat) : Int) := by
 have := zbdm a.z b.z a.l b.l hL a.l.length 0 (by omega)
 exact Ev.succ (Ev.cast this (by simp)) (fun q => rfl)
theorem zbdo {x : List Int} {i : Nat} (h : i < x.length) : x[x.length - 1 - i]? = some (x.reverse[i]'(by rw [List.length_reverse]; exact h)) := by
 rw [List.getElem_reverse, y8 (by omega)]
theorem zbdp (z1 z2 : Bool) (x y : List Int) (hL : x.length ≤ 1000000) (hL2 : y.length ≤ 1000000) : ∀ (k i : Nat), x.length = i + k →
  Ev (fun q => zkd q z1 x z2 y (i : Int)) ((i + com (x.reverse.drop i) (y.reverse.drop i) : Nat) : Int)
 | 0, i, hk => by
  refine Ev.succ (Ev.ne (Ev.ret' ?_)) (fun q => rfl)
  rw [zbdl (.inl (by rw [List.length_reverse]; omega))]; rfl
 | k + 1, i, hk => by
  have hi : i < x.length := by omega
  have hir : i < x.reverse.length := by rw [List.length_reverse]; exact hi
  have w1 : wrp .i64 (wrp .i64 ((x.length : Int) - 1) - (i : Int)) = ((x.length - 1 - i : Nat) : Int) := by rw [zbcu (x := (x.length : Int) - 1) (by omega) (by omega), zbcu (by omega) (by omega)]; omega
  have he : x[(wrp .i64 (wrp .i64 ((x.length : Int) - 1) - (i : Int))).toNat]? = some x.reverse[i] := by rw [w1, y28]; exact zbdo hi
  by_cases hy : i < y.length
  ·have hyr : i < y.reverse.length := by rw [List.length_reverse]; exact hy
   have w2 : wrp .i64 (wrp .i64 ((y.length : Int) - 1) - (i : Int)) = ((y.length - 1 - i : Nat) : Int) := by rw [zbcu (x := (y.length : Int) - 1) (by omega) (by omega), zbcu (by omega) (by omega)]; omega
   have he2 : y[(wrp .i64 (wrp .i64 ((y.length : Int) - 1) - (i : Int))).toNat]? = some y.reverse[i] := by rw [w2, y28]; exact zbdo hy
   rw [zbdk hir hyr]
   refine Ev.succ (Ev.po (Ev.po (Ev.pos (by rw [w1]; omega) (Ev.opt he (Ev.pos (by rw [w2]; omega) (Ev.opt he2 (Ev.ite (fun h => ?_) fun h => ?_))))))) (fun q => rfl)
   ·rw [if_pos h]
    have := zbdp z1 z2 x y hL hL2 k (i + 1) (by omega)
    rw [show ((i + 1 : Nat) : Int) = wrp .i64 ((i : Int) + 1) by rw [zbcu (by omega) (by omega)]; omega] at this
    refine Ev.cast this ?_
    omega
   ·rw [if_neg h]; exact Ev.ret' (by omega)
  ·rw [zbdl (.inr (by rw [List.length_reverse]; omega))]
   exact Ev.succ (Ev.po (Ev.ne (Ev.ret' (by omega)))) (fun q => rfl)
theorem zbdq (a b : Sl Int) (hL : a.l.length ≤ 1000000) (hL2 : b.l.length ≤ 1000000) : Ev (fun q => zke q a b) ((com a.l.reverse b.l.reverse : Nat) : Int) := by
 have := zbdp a.z b.z a.l b.l hL hL2 a.l.length 0 (by omega)
 exact Ev.succ (Ev.cast this (by simp)) (fun q => rfl)
/-- The entries that are new. -/
def newT (ta : List zjr) : List zjr → List zjr
 | [] => []
 | e :: t => if findE e.Proc ta = some e then newT ta t else e :: newT ta t
def lacksB (ta tb : List zjr) : Bool := match ta with
 | [] => false
 | e :: t => decide (findE e.Proc tb = none) || lacksB t tb
theorem zbdr (z : Bool) (L : List zjr) (x0 x1 : Int) (x2z : Bool) (x2l : List Int) (x3 : Bool) (x4 : Int) (x5z : Bool) (x5l : List zjr) (y0 y1 : Int) (y2z : Bool) (y2l : List Int) (y3 : Bool) (y4 : Int) (tz : Bool) (T : List zjr) (hL : L.length ≤ 1000000) (hT : T.length ≤ 1000000) : ∀ (k i : Nat), L.length = i + k →
  ∃ r, Ev (fun q => zkg q z L (L.length : Int) (i : Int) x0 x1 x2z x2l x3 x4 x5z x5l y0 y1 y2z y2l y3 y4 tz T) r ∧ (0 ≤ r ↔ lacksB (L.drop i) T = true)
 | 0, i, hk => by
  refine ⟨-1, Ev.succ (Ev.ne (Ev.ret _)) (fun q => rfl), ?_⟩
  rw [y13 (by omega)]; simp [lacksB]
 | k + 1, i, hk => by
  have hi : i < L.length := by omega
  have he : L[((i : Int)).toNat]? = some L[i] := by simp [hi]
  obtain ⟨r, hr, hr2⟩ := zbdj ⟨tz, T⟩ L[i].Proc hT
  rw [y10 hi]
  simp only [lacksB]
  rcases hr2 with ⟨h1, h2⟩ | ⟨h1, e, h2, h3⟩
  ·refine ⟨i, Ev.succ (Ev.po (Ev.po (Ev.opt he (Ev.bind hr (Ev.pos h1 (Ev.ret _)))))) (fun q => rfl), ?_⟩
   simp only at h2
   rw [decide_eq_true h2]; simp
  ·obtain ⟨r', hr', hr2'⟩ := zbdr z L x0 x1 x2z x2l x3 x4 x5z x5l y0 y1 y2z y2l y3 y4 tz T hL hT k (i + 1) (by omega)
   rw [show ((i + 1 : Nat) : Int) = wrp .i64 ((i : Int) + 1) by rw [zbcu (by omega) (by omega)]; omega] at hr'
   refine ⟨r', Ev.succ (Ev.po (Ev.po (Ev.opt he (Ev.bind hr (Ev.neg (by omega) hr'))))) (fun q => rfl), ?_⟩
   simp only at h3
   rw [decide_eq_false (by rw [h3]; exact fun c => by cases c), Bool.false_or]
   exact hr2'
theorem zbds (z0 : Bool) (L : List (Sl Int)) (z : Bool) (hL : L.length ≤ 1099511627776) : ∀ (k i : Nat) (m : Nat) (l : List Int), L.length = i + k → m + (flat (L.drop i)).length ≤ l.length →
  Ev (fun q => zkl q m z0 L (L.length : Int) (i : Int) z l) ⟨z, true, l.take m ++ flat (L.drop i)⟩
 | 0, i, m, l, hk, hl => by
  refine Ev.succ (Ev.ne (Ev.ret' ?_)) (fun q => rfl)
  rw [y13 (by omega)]; simp [flat]
 | k + 1, i, m, l, hk, hl => by
  have hi : i < L.length := by omega
  have hg : L[(i : Int).toNat]? = some L[i] := by simpa using y8 hi
  rw [y10 hi, zbc4, y11] at hl
  refine Ev.succ (Ev.po (Ev.po (Ev.opt hg (Ev.pos (by omega) ?_)))) (fun q => rfl)
  rw [zbcu (by omega) (by omega), show ((i : Int) + 1) = ((i + 1 : Nat) : Int) by omega]
  refine (zbds z0 L z hL k (i + 1) (m + L[i].l.length) _ (by omega) ?_).cast ?_
  ·simp only [y11, y21, y14]; omega
  ·congr 1
   rw [y10 hi, zbc4, ← y33]
   congr 1
   rw [List.take_append_of_le_length (by simp only [y11, y21]; omega), List.take_of_length_le (by simp only [y11, y21]; omega)]
theorem zbdt (z0 : Bool) (L : List (Sl Int)) (hL : L.length ≤ 1099511627776) : ∀ (k i : Nat) (z : Bool) (l : List Int), L.length = i + k → l.length + (flat (L.drop i)).length ≤ 4294967296 →
  ∃ z', Ev (fun q => zkm q z0 L (L.length : Int) (i : Int) z l) ⟨z', true, l ++ flat (L.drop i)⟩
 | 0, i, z, l, hk, hl => ⟨z, by
  refine Ev.succ (Ev.ne (Ev.ret' ?_)) (fun q => rfl)
  rw [y13 (by omega)]; simp [flat]⟩
 | k + 1, i, z, l, hk, hl => by
  have hi : i < L.length := by omega
  have hg : L[(i : Int).toNat]? = some L[i] := by simpa using y8 hi
  rw [y10 hi, zbc4, y11] at hl
  obtain ⟨z', h⟩ := zbdt z0 L hL k (i + 1) (z && (decide (L[i].l.length = 0))) (l ++ L[i].l) (by omega) (by simp only [y11]; omega)
  refine ⟨z', Ev.succ (Ev.po (Ev.po (Ev.opt hg (Ev.pos (by omega) ?_)))) (fun q => rfl)⟩
  rw [zbcu (by omega) (by omega), show ((i : Int) + 1) = ((i + 1 : Nat) : Int) by omega]
  refine h.cast ?_
  rw [y10 hi, zbc4]; simp
theorem zbdu (z0 z9 : Bool) (L : List (Sl Int)) (hL : L.length ≤ 1099511627776) (hf : (flat L).length ≤ 4294967296) : ∀ (k i : Nat) (m : Nat), L.length = i + k → m + (flat (L.drop i)).length = (flat L).length →
  ∃ z', Ev (fun q => zko q z0 L (m : Int) z9 L (L.length : Int) (i : Int)) ⟨z', true, flat L⟩
 | 0, i, m, hk, hm => by
  rw [y13 (by omega)] at hm
  have hm2 : m = (flat L).length := by simpa [flat] using hm
  have w : wrp .i64 ((m : Int) - wrp .i64 0) = (m : Int) := by rw [zbcu (x := 0) (by omega) (by omega), zbcu (by omega) (by omega)]; omega
  by_cases h0 : 0 < m
  ·refine ⟨decide (wrp .i64 ((m : Int) - wrp .i64 0) = 0), Ev.succ (Ev.ne (Ev.ne (Ev.pos (by rw [w]; omega) (Ev.pos (by rw [w]; omega) (Ev.pos (by rw [w]; omega) (Ev.neg (by rw [w]; omega) ?_)))))) (fun q => rfl)⟩
   rw [w]
   have := zbds z0 L (decide ((m : Int) = 0)) hL L.length 0 0 (List.replicate (m : Int).toNat 0) (by omega) (by simp; omega)
   rw [y38] at this
   exact this
  ·have hnil : flat L = [] := y35 (by omega)
   match L, hk with
   | [], _ =>
    refine ⟨true, Ev.succ (Ev.neg (by simp) (Ev.neg (by omega) ?_)) (fun q => rfl)⟩
    rw [w]
    refine Ev.neg (by omega) ?_
    exact Ev.succ (g := fun _ => some ⟨true, true, []⟩) (Ev.ret' (by simp [flat])) (fun q => rfl)
   | a :: L', hk =>
    rw [zbc4] at hnil
    obtain ⟨z', h⟩ := zbdt z0 (a :: L') hL L'.length 1 (decide (a.l.length = 0)) a.l (by simp; omega) (by
     have : flat (List.drop 1 (a :: L')) = flat L' := rfl
     rw [this, ← y11, hnil]; simp)
    refine ⟨z', Ev.succ (Ev.ne (Ev.neg (by omega) ?_)) (fun q => rfl)⟩
    rw [w]
    refine Ev.ne (Ev.succ (Ev.pos (by simp) (Ev.opt (s := a) rfl (Ev.pos ?_ ?_))) (fun q => rfl))
    ·have : a.l.length ≤ (a.l ++ flat L').length := by simp
     rw [hnil] at this; simp at this; simp [this]
    ·rw [zbcu (by omega) (by omega)]
     refine h.cast ?_
     rw [zbc4]; rfl
 | k + 1, i, m, hk, hm => by
  have hi : i < L.length := by omega
  have hg : L[(i : Int).toNat]? = some L[i] := by simpa using y8 hi
  rw [y10 hi, zbc4, y11] at hm
  obtain ⟨z', h⟩ := zbdu z0 z9 L hL hf k (i + 1) (m + L[i].l.length) (by omega) (by omega)
  refine ⟨z', Ev.succ (Ev.po (Ev.po (Ev.opt hg ?_))) (fun q => rfl)⟩
  have w : wrp .i64 ((m : Int) + (L[i].l.length : Int)) = ((m + L[i].l.length : Nat) : Int) := by rw [zbcu (by omega) (by omega)]; omega
  rw [w, zbcu (by omega) (by omega), show ((i : Int) + 1) = ((i + 1 : Nat) : Int) by omega]
  exact Ev.neg (by omega) h
theorem zbdv (s : Sl (Sl Int)) (hL : s.l.length ≤ 1099511627776) (hf : (flat s.l).length ≤ 4294967296) : ∃ z', Ev (fun q => zkp q s) ⟨z', true, flat s.l⟩ := by
 obtain ⟨z', h⟩ := zbdu s.z s.z s.l hL hf s.l.length 0 0 (by omega) (by simp)
 exact ⟨z', Ev.succ h (fun q => rfl)⟩
theorem zbdw (z z2 : Bool) (A B : List Int) (hl : A.length = B.length) (hL : A.length ≤ 1099511627776) : ∀ (k i : Nat), A.length = i + k → Ev (fun q => zk2 q z A z2 B (A.length : Int) (i : Int)) (decide (A.drop i = B.drop i))
 | 0, i, hk => by
  refine Ev.succ (Ev.ne (Ev.ret' ?_)) (fun q => rfl)
  rw [y13 (by omega), y13 (by omega)]; simp
 | k + 1, i, hk => by
  have hi : i < A.length := by omega
  have hi2 : i < B.length := by omega
  have hg : A[(i : Int).toNat]? = some A[i] := by simpa using y8 hi
  have hg2 : B[(i : Int).toNat]? = some B[i] := by simpa using y8 hi2
  refine Ev.succ (Ev.po (Ev.po (Ev.opt hg (Ev.opt hg2 ?_)))) (fun q => rfl)
  rw [y10 hi, y10 hi2]
  refine Ev.ite (fun h => ?_) fun h => Ev.ret' (by symm; rw [decide_eq_false_iff_not]; intro e; exact h (List.cons.inj e).1)
  rw [zbcu (by omega) (by omega), show ((i : Int) + 1) = ((i + 1 : Nat) : Int) by omega]
  refine (zbdw z z2 A B hl hL k (i + 1) (by omega)).cast ?_
  rw [decide_eq_decide, List.cons.injEq]; simp only [h, true_and]
theorem zbdx (a b : Sl Int) (hL : a.l.length ≤ 1099511627776) : Ev (fun q => zk3 q a b) (decide (a.l = b.l)) := by
 refine Ev.succ (Ev.ite (fun h => ?_) fun h => Ev.ret' ?_) (fun q => rfl)
 ·have := zbdw a.z b.z a.l b.l (by omega) hL a.l.length 0 (by omega)
  rw [y38, y38] at this; exact this
 ·symm; rw [decide_eq_false_iff_not]; intro e; rw [e] at h; exact h rfl
theorem zbdy {ta t : List zjr} {e : zjr} (h : findE e.Proc ta ≠ some e) : newT ta (e :: t) = e :: newT ta t := by simp only [newT]; rw [if_neg h]
theorem zbdz {ta t : List zjr} {e : zjr} (h : findE e.Proc ta = some e) : newT ta (e :: t) = newT ta t := by simp only [newT]; rw [if_pos h]
theorem zbd0 (ta : List zjr) : ∀ t : List zjr, (newT ta t).length ≤ t.length
 | [] => by simp [newT]
 | e :: t => by
  have := zbd0 ta t
  simp only [newT]; split
  ·rw [y22]; omega
  ·simp only [y22]; omega
theorem zbd1 (s : Sl Int) (hz : s.z = true → s.l = []) (hl : s.l.length ≤ 4294967296) : ∃ z, Ev (fun q => zkf q s) ⟨z, true, s.l⟩ := by
 by_cases h : s.z = true
 ·exact ⟨true, Ev.succ (Ev.pos h (Ev.ret' (by rw [hz h]))) (fun q => rfl)⟩
 ·exact ⟨false, Ev.succ (Ev.neg h (Ev.pos hl (Ev.ret _))) (fun q => rfl)⟩
theorem zbd2 (z : Bool) (L : List zjr) (x0 x1 : Int) (x2z : Bool) (x2l : List Int) (x3 : Bool) (x4 : Int) (tz : Bool) (ta : List zjr) (d0 d1 d2 d3 : Int) (d5 : Bool) (d6 : Int) (hz : Bool) (hm : List Int) (hx : Bool) (hL : L.length ≤ 1000000) (hT : ta.length ≤ 1000000) : ∀ (k i : Nat) (acc : List zjr), L.length = i + k → acc.length ≤ i →
  Ev (fun q => zki q z L (L.length : Int) (i : Int) x0 x1 x2z x2l x3 x4 tz ta d0 d1 d2 d3 d5 d6 hz hm hx acc) (⟨d0, d1, d2, d3, ⟨hz, hm⟩, d5, d6, ⟨false, acc ++ newT ta (L.drop i)⟩⟩, 0)
 | 0, i, acc, hk, ha => by
  refine Ev.succ (Ev.ne (Ev.ret' ?_)) (fun q => rfl)
  rw [y13 (by omega)]; simp [newT]
 | k + 1, i, acc, hk, ha => by
  have hi : i < L.length := by omega
  have he : L[((i : Int)).toNat]? = some L[i] := by simp [hi]
  have w1 : wrp .i64 ((i : Int) + 1) = ((i + 1 : Nat) : Int) := by rw [zbcu (by omega) (by omega)]; omega
  obtain ⟨r, hr, hr2⟩ := zbdj ⟨tz, ta⟩ L[i].Proc hT
  simp only at hr2
  have ihN := zbd2 z L x0 x1 x2z x2l x3 x4 tz ta d0 d1 d2 d3 d5 d6 hz hm hx hL hT k (i + 1) (acc ++ [L[i]]) (by omega) (by simp; omega)
  have ihO := zbd2 z L x0 x1 x2z x2l x3 x4 tz ta d0 d1 d2 d3 d5 d6 hz hm hx hL hT k (i + 1) acc (by omega) (by omega)
  rw [← w1] at ihN ihO
  rw [y10 hi]
  refine Ev.succ (Ev.po (Ev.po (Ev.opt he (Ev.bind hr ?_)))) (fun q => rfl)
  have new : findE L[i].Proc ta ≠ some L[i] → Ev (fun q => if (acc.length + 1) ≤ 4294967296 then (zki q z L (L.length : Int) (wrp .i64 ((i : Int) + 1)) x0 x1 x2z x2l x3 x4 tz ta d0 d1 d2 d3 d5 d6 hz hm hx (acc ++ [L[i]])) else none) (⟨d0, d1, d2, d3, ⟨hz, hm⟩, d5, d6, ⟨false, acc ++ newT ta (L[i] :: L.drop (i + 1))⟩⟩, 0) := fun hne => by
   rw [zbdy hne]
   exact Ev.po (Ev.cast ihN (by simp))
  rcases hr2 with ⟨q1, q2⟩ | ⟨q1, e, q2, q3⟩
  ·exact Ev.pos q1 (new (by rw [q2]; exact fun c => by cases c))
  ·refine Ev.ne (Ev.pos q1 (Ev.opt q2 (Ev.ite (fun c1 => Ev.ite (fun c2 => Ev.ite (fun c3 => ?_) fun c3 => ?_) fun c2 => ?_) fun c1 => ?_)))
   ·rw [zbdz (by rw [q3, zbdh c1 c2 c3])]; exact ihO
   ·exact new (by rw [q3]; intro c; cases c; exact c3 rfl)
   ·exact new (by rw [q3]; intro c; cases c; exact c2 rfl)
   ·exact new (by rw [q3]; intro c; cases c; exact c1 rfl)
theorem zbd3 (z : Bool) (L : List zjr) (x0 x1 : Int) (x2z : Bool) (x2l : List Int) (x3 : Bool) (x4 : Int) (tz : Bool) (ta : List zjr) (d0 d1 d2 d3 : Int) (d5 : Bool) (d6 : Int) (hz : Bool) (hm : List Int) (hx : Bool) (hL : L.length ≤ 1000000) (hT : ta.length ≤ 1000000) : ∀ (k i : Nat), L.length = i + k →
  ∃ z', Ev (fun q => zkj q z L (L.length : Int) (i : Int) x0 x1 x2z x2l x3 x4 tz ta d0 d1 d2 d3 d5 d6 hz hm hx) (⟨d0, d1, d2, d3, ⟨hz, hm⟩, d5, d6, ⟨z', newT ta (L.drop i)⟩⟩, 0)
 | 0, i, hk => by
  refine ⟨true, Ev.succ (Ev.ne (Ev.ret' ?_)) (fun q => rfl)⟩
  rw [y13 (by omega)]; simp [newT]
 | k + 1, i, hk => by
  have hi : i < L.length := by omega
  have he : L[((i : Int)).toNat]? = some L[i] := by simp [hi]
  have w1 : wrp .i64 ((i : Int) + 1) = ((i + 1 : Nat) : Int) := by rw [zbcu (by omega) (by omega)]; omega
  obtain ⟨r, hr, hr2⟩ := zbdj ⟨tz, ta⟩ L[i].Proc hT
  simp only at hr2
  have ihN := zbd2 z L x0 x1 x2z x2l x3 x4 tz ta d0 d1 d2 d3 d5 d6 hz hm hx hL hT k (i + 1) [L[i]] (by omega) (by simp)
  obtain ⟨z', ihO⟩ := zbd3 z L x0 x1 x2z x2l x3 x4 tz ta d0 d1 d2 d3 d5 d6 hz hm hx hL hT k (i + 1) (by omega)
  rw [← w1] at ihN ihO
  rw [y10 hi]
  have fin : ∀ {r' : zjt × Int} , Ev (fun q => if r < 0 then (zki q z L (L.length : Int) (wrp .i64 ((i : Int) + 1)) x0 x1 x2z x2l x3 x4 tz ta d0 d1 d2 d3 d5 d6 hz hm hx [L[i]]) else (if 0 ≤ r then ((ta[r.toNat]?).bind fun e9 => (if e9.Proc = L[i].Proc then (if e9.Seq = L[i].Seq then (if e9.Resp = L[i].Resp then (zkj q z L (L.length : Int) (wrp .i64 ((i : Int) + 1)) x0 x1 x2z x2l x3 x4 tz ta d0 d1 d2 d3 d5 d6 hz hm hx) else (zki q z L (L.length : Int) (wrp .i64 ((i : Int) + 1)) x0 x1 x2z x2l x3 x4 tz ta d0 d1 d2 d3 d5 d6 hz hm hx [L[i]])) else (zki q z L (L.length : Int) (wrp .i64 ((i : Int) + 1)) x0 x1 x2z x2l x3 x4 tz ta d0 d1 d2 d3 d5 d6 hz hm hx [L[i]])) else (zki q z L (L.length : Int) (wrp .i64 ((i : Int) + 1)) x0 x1 x2z x2l x3 x4 tz ta d0 d1 d2 d3 d5 d6 hz hm hx [L[i]]))) else none)) r' → Ev (fun q => zkj q z L (L.length : Int) (i : Int) x0 x1 x2z x2l x3 x4 tz ta d0 d1 d2 d3 d5 d6 hz hm hx) r' := fun h => Ev.succ (Ev.po (Ev.po (Ev.opt he (Ev.bind hr h)))) (fun q => rfl)
  rcases hr2 with ⟨q1, q2⟩ | ⟨q1, e, q2, q3⟩
  ·rw [zbdy (by rw [q2]; exact fun c => by cases c)]
   exact ⟨false, fin (Ev.pos q1 ihN)⟩
  ·by_cases c : e = L[i]
   ·rw [zbdz (by rw [q3, c])]
    exact ⟨z', fin (Ev.ne (Ev.pos q1 (Ev.opt q2 (Ev.pos (by rw [c]) (Ev.pos (by rw [c]) (Ev.pos (by rw [c]) ihO))))))⟩
   ·rw [zbdy (by rw [q3]; intro c2; cases c2; exact c rfl)]
    refine ⟨false, fin (Ev.ne (Ev.pos q1 (Ev.opt q2 (Ev.ite (fun c1 => Ev.ite (fun c2 => Ev.ite (fun c3 => absurd (zbdh c1 c2 c3) c) fun c3 => ihN) fun c2 => ihN) fun c1 => ihN))))⟩
/-- What stays ahead, what stays behind, what stands between. -/
def ahN (x y : List Int) : Nat := com x y
def beN (x y : List Int) : Nat := com (x.drop (com x y)).reverse (y.drop (com x y)).reverse
def midL (x y : List Int) : List Int := (y.drop (com x y)).take ((y.drop (com x y)).length - beN x y)
def noD : zjt := ⟨0, 0, 0, 0, ⟨true, []⟩, false, 0, ⟨true, []⟩⟩
def diffR (a b : zjs) (zm zt : Bool) : zjt × Int :=
 if mayN a = true ∧ mayN b = true ∧ a.State.Kind = b.State.Kind then
  (if lacksB a.Table.l b.Table.l = true ∨ b.Index < a.Index then (noD, 15) else (⟨a.Index, b.Index, ((ahN a.State.L.l b.State.L.l : Nat) : Int), ((beN a.State.L.l b.State.L.l : Nat) : Int), ⟨zm, midL a.State.L.l b.State.L.l⟩, b.State.Sealed, b.State.To, ⟨zt, newT a.Table.l b.Table.l⟩⟩, 0))
 else (noD, 1)
theorem beN_le (x y : List Int) : ahN x y ≤ x.length ∧ ahN x y ≤ y.length ∧ beN x y ≤ x.length - ahN x y ∧ beN x y ≤ y.length - ahN x y := by
 have h1 := com_le x y
 have h2 := com_le (x.drop (com x y)).reverse (y.drop (com x y)).reverse
 simp only [List.length_reverse, y14] at h2
 unfold ahN beN; omega
theorem zbd4 (a b : zjs) (h1 : a.State.L.l.length ≤ 1000000) (h2 : a.Table.l.length ≤ 1000000) (h3 : b.State.L.l.length ≤ 1000000) (h4 : b.Table.l.length ≤ 1000000) (hz : b.State.L.z = true → b.State.L.l = []) : ∃ zm zt, Ev (fun q => zkk q a b) (diffR a b zm zt) := by
 unfold diffR
 by_cases c1 : mayN a = true
 ·by_cases c2 : mayN b = true
  ·by_cases c3 : a.State.Kind = b.State.Kind
   ·simp only [if_pos (show mayN a = true ∧ mayN b = true ∧ a.State.Kind = b.State.Kind from ⟨c1, c2, c3⟩)]
    by_cases c4 : b.Index < a.Index
    ·refine ⟨true, true, Ev.succ (Ev.bind (zbdg a h1 h2) (Ev.pos c1 (Ev.bind (zbdg b h3 h4) (Ev.pos c2 (Ev.pos c3 (Ev.pos c4 (Ev.ret' ?_))))))) (fun q => rfl)⟩
     rw [if_pos (.inr c4)]; rfl
    ·obtain ⟨r, hr, hr2⟩ := zbdr a.Table.z a.Table.l a.Index a.State.Kind a.State.L.z a.State.L.l a.State.Sealed a.State.To a.Table.z a.Table.l b.Index b.State.Kind b.State.L.z b.State.L.l b.State.Sealed b.State.To b.Table.z b.Table.l h2 h4 a.Table.l.length 0 (by omega)
     rw [y38] at hr2
     have hr' : Ev (fun q => zkh q a.Table.z a.Table.l a.Index a.State.Kind a.State.L.z a.State.L.l a.State.Sealed a.State.To a.Table.z a.Table.l b.Index b.State.Kind b.State.L.z b.State.L.l b.State.Sealed b.State.To b.Table.z b.Table.l) r := Ev.succ hr (fun q => rfl)
     by_cases c5 : lacksB a.Table.l b.Table.l = true
     ·refine ⟨true, true, Ev.succ (Ev.bind (zbdg a h1 h2) (Ev.pos c1 (Ev.bind (zbdg b h3 h4) (Ev.pos c2 (Ev.pos c3 (Ev.neg c4 (Ev.bind hr' (Ev.pos (hr2.2 c5) (Ev.ret' ?_))))))))) (fun q => rfl)⟩
      rw [if_pos (.inl c5)]; rfl
     ·simp only [if_neg (show ¬ (lacksB a.Table.l b.Table.l = true ∨ b.Index < a.Index) from fun e => e.elim c5 c4)]
      obtain ⟨q1, q2, q3, q4⟩ := beN_le a.State.L.l b.State.L.l
      have hA := zbdn a.State.L b.State.L h1
      have hB := zbdq ⟨a.State.L.z, a.State.L.l.drop (com a.State.L.l b.State.L.l)⟩ ⟨b.State.L.z, b.State.L.l.drop (com a.State.L.l b.State.L.l)⟩ (by simp only [y14]; omega) (by simp only [y14]; omega)
      unfold ahN at q1 q2 q3 q4
      have w : wrp .i64 (((b.State.L.l.length - com a.State.L.l b.State.L.l : Nat) : Int) - (((beN a.State.L.l b.State.L.l : Nat) : Int))) = ((b.State.L.l.length - com a.State.L.l b.State.L.l - beN a.State.L.l b.State.L.l : Nat) : Int) := by rw [zbcu (by omega) (by omega)]; omega
      obtain ⟨zm, hC⟩ := zbd1 ⟨b.State.L.z, (b.State.L.l.drop (com a.State.L.l b.State.L.l)).take (b.State.L.l.length - com a.State.L.l b.State.L.l - beN a.State.L.l b.State.L.l)⟩ (fun h => by simp only at h ⊢; rw [hz h]; simp) (by simp only [y21, y14]; omega)
      obtain ⟨zt, hD⟩ := zbd3 b.Table.z b.Table.l a.Index a.State.Kind a.State.L.z a.State.L.l a.State.Sealed a.State.To a.Table.z a.Table.l a.Index b.Index ((ahN a.State.L.l b.State.L.l : Nat) : Int) ((beN a.State.L.l b.State.L.l : Nat) : Int) b.State.Sealed b.State.To zm ((b.State.L.l.drop (com a.State.L.l b.State.L.l)).take (b.State.L.l.length - com a.State.L.l b.State.L.l - beN a.State.L.l b.State.L.l)) true h4 h2 b.Table.l.length 0 (by omega)
      rw [y38] at hD
      refine ⟨zm, zt, Ev.succ (Ev.bind (zbdg a h1 h2) (Ev.pos c1 (Ev.bind (zbdg b h3 h4) (Ev.pos c2 (Ev.pos c3 (Ev.neg c4 (Ev.bind hr' (Ev.neg (fun e => c5 (hr2.1 e)) (Ev.bind hA (Ev.po (Ev.po (Ev.pos (by omega) ?_)))))))))))) (fun q => rfl)⟩
      simp only [y28]
      refine Ev.bind hB ?_
      show Ev (fun q => if 0 ≤ (wrp .i64 (((b.State.L.l.length - com a.State.L.l b.State.L.l : Nat) : Int) - (((beN a.State.L.l b.State.L.l : Nat) : Int)))) then (if (wrp .i64 (((b.State.L.l.length - com a.State.L.l b.State.L.l : Nat) : Int) - (((beN a.State.L.l b.State.L.l : Nat) : Int)))).toNat ≤ (b.State.L.l.length - com a.State.L.l b.State.L.l) then ((zkf q ⟨b.State.L.z, (List.take ((wrp .i64 (((b.State.L.l.length - com a.State.L.l b.State.L.l : Nat) : Int) - (((beN a.State.L.l b.State.L.l : Nat) : Int)))).toNat) (List.drop (com a.State.L.l b.State.L.l) b.State.L.l))⟩).bind fun r6 => (zkj q b.Table.z b.Table.l (b.Table.l.length : Int) 0 a.Index a.State.Kind a.State.L.z a.State.L.l a.State.Sealed a.State.To a.Table.z a.Table.l a.Index b.Index ((com a.State.L.l b.State.L.l : Nat) : Int) ((beN a.State.L.l b.State.L.l : Nat) : Int) b.State.Sealed b.State.To r6.n r6.xs r6.x)) else none) else none) _
      rw [w]
      simp only [y28]
      refine Ev.po (Ev.po (Ev.bind hC (Ev.cast hD ?_)))
      unfold midL
      rw [y14]
   ·refine ⟨true, true, Ev.succ (Ev.bind (zbdg a h1 h2) (Ev.pos c1 (Ev.bind (zbdg b h3 h4) (Ev.pos c2 (Ev.neg c3 (Ev.ret' ?_)))))) (fun q => rfl)⟩
    rw [if_neg (fun e => c3 e.2.2)]; rfl
  ·refine ⟨true, true, Ev.succ (Ev.bind (zbdg a h1 h2) (Ev.pos c1 (Ev.bind (zbdg b h3 h4) (Ev.neg c2 (Ev.ret' ?_))))) (fun q => rfl)⟩
   rw [if_neg (fun e => c2 e.2.1)]; rfl
 ·refine ⟨true, true, Ev.succ (Ev.bind (zbdg a h1 h2) (Ev.neg c1 (Ev.ret' ?_))) (fun q => rfl)⟩
  rw [if_neg (fun e => c1 e.1)]; rfl
theorem mayA : mayN ⟨0, ⟨3, ⟨false, [1, 2]⟩, false, 0⟩, ⟨true, []⟩⟩ = true := by
 simp [mayN, mayS, kindOk, tabB, cutsB, cutI]
theorem mayB : ∀ z z2, mayN ⟨1, ⟨3, ⟨z, [1, 2, 9]⟩, false, 0⟩, ⟨z2, []⟩⟩ = true := by
 intro z z2; simp [mayN, mayS, kindOk, tabB, cutsB, cutI]
theorem zbd5 : Ev (fun q => zk8 q) true := by
 obtain ⟨zm, zt, hD⟩ := zbd4 ⟨0, ⟨3, ⟨false, [1, 2]⟩, false, 0⟩, ⟨true, []⟩⟩ ⟨1, ⟨3, ⟨false, [1, 2, 9]⟩, false, 0⟩, ⟨true, []⟩⟩ (by simp) (by simp) (by simp) (by simp) (fun h => by cases h)
 have hR : diffR ⟨0, ⟨3, ⟨false, [1, 2]⟩, false, 0⟩, ⟨true, []⟩⟩ ⟨1, ⟨3, ⟨false, [1, 2, 9]⟩, false, 0⟩, ⟨true, []⟩⟩ zm zt = (⟨0, 1, 2, 0, ⟨zm, [9]⟩, false, 0, ⟨zt, []⟩⟩, 0) := by
  unfold diffR
  rw [if_pos ⟨mayA, mayB _ _, rfl⟩, if_neg (by simp [lacksB])]
  simp [ahN, beN, midL, com, newT]
 rw [hR] at hD
 obtain ⟨zc, hC⟩ := zbdv ⟨false, [⟨false, [1, 2]⟩, ⟨zm, [9]⟩, ⟨false, []⟩]⟩ (by simp) (by simp [flat])
 have hM := zbdg ⟨1, ⟨3, ⟨zc, [1, 2, 9]⟩, false, 0⟩, ⟨true, []⟩⟩ (by simp) (by simp)
 rw [mayB] at hM
 have w1 : wrp .i64 (2 - 2) = 0 := by rw [zbcu (by omega) (by omega)]; rfl
 have w2 : wrp .i64 (2 - 0) = 2 := by rw [zbcu (by omega) (by omega)]; rfl
 have hA : Ev (fun q => zk1 q ⟨0, ⟨3, ⟨false, [1, 2]⟩, false, 0⟩, ⟨true, []⟩⟩ ⟨0, 1, 2, 0, ⟨zm, [9]⟩, false, 0, ⟨zt, []⟩⟩) (⟨1, ⟨3, ⟨zc, [1, 2, 9]⟩, false, 0⟩, ⟨true, []⟩⟩, 0) := by
  have h1 := zbdg ⟨0, ⟨3, ⟨false, [1, 2]⟩, false, 0⟩, ⟨true, []⟩⟩ (by simp) (by simp)
  rw [mayA] at h1
  refine Ev.succ (g := fun q => (zj7 q ⟨0, ⟨3, ⟨false, [1, 2]⟩, false, 0⟩, ⟨true, []⟩⟩).bind fun r1 => if r1 = true then (if (wrp .i64 (2 - 2)) < 0 then some (⟨0, ⟨0, ⟨true, []⟩, false, 0⟩, ⟨true, []⟩⟩, 1) else if 0 ≤ (wrp .i64 (2 - 0)) then (if (wrp .i64 (2 - 0)) ≤ 2 then ((zkp q ⟨false, [⟨false, [1, 2]⟩, ⟨zm, [9]⟩, ⟨false, List.drop ((wrp .i64 (2 - 0)).toNat) [1, 2]⟩]⟩).bind fun r2 => zk0 q zt [] 0 1 3 false 0 true [] r2.n r2.xs r2.x) else none) else none) else some (⟨0, ⟨0, ⟨true, []⟩, false, 0⟩, ⟨true, []⟩⟩, 1)) ?_ (fun q => rfl)
  refine Ev.bind h1 (Ev.pos rfl ?_)
  rw [w1, w2]
  refine Ev.ne (Ev.po (Ev.po (Ev.bind hC ?_)))
  refine Ev.succ (g := fun q => (zj7 q ⟨1, ⟨3, ⟨zc, [1, 2, 9]⟩, false, 0⟩, ⟨true, []⟩⟩).bind fun r5 => if r5 = true then some (⟨1, ⟨3, ⟨zc, [1, 2, 9]⟩, false, 0⟩, ⟨true, []⟩⟩, 0) else some (⟨0, ⟨0, ⟨true, []⟩, false, 0⟩, ⟨true, []⟩⟩, 1)) ?_ (fun q => rfl)
  exact Ev.bind hM (Ev.pos rfl (Ev.ret _))
 have hE := zbdx ⟨false, [1, 2, 9]⟩ ⟨zc, [1, 2, 9]⟩ (by simp)
 have hObj : Ev (fun q => zk4 q ⟨3, ⟨false, [1, 2, 9]⟩, false, 0⟩ ⟨3, ⟨zc, [1, 2, 9]⟩, false, 0⟩) true := Ev.succ (g := fun q => (zk3 q ⟨false, [1, 2, 9]⟩ ⟨zc, [1, 2, 9]⟩).bind fun r1 => some r1) (Ev.bind hE (Ev.ret' (by simp))) (fun q => rfl)
 have hEnt : Ev (fun q => zk6 q ⟨true, []⟩ ⟨true, []⟩) true := Ev.succ (g := fun q => zk5 q true [] true [] 0 0) (Ev.succ (g := fun _ => some true) (Ev.ret _) (fun q => rfl)) (fun q => rfl)
 have hS : Ev (fun q => zk7 q ⟨1, ⟨3, ⟨false, [1, 2, 9]⟩, false, 0⟩, ⟨true, []⟩⟩ ⟨1, ⟨3, ⟨zc, [1, 2, 9]⟩, false, 0⟩, ⟨true, []⟩⟩) true :=
  Ev.succ (g := fun q => (zk4 q ⟨3, ⟨false, [1, 2, 9]⟩, false, 0⟩ ⟨3, ⟨zc, [1, 2, 9]⟩, false, 0⟩).bind fun r1 => if r1 = true then ((zk6 q ⟨true, []⟩ ⟨true, []⟩).bind fun r2 => some r2) else some false) (Ev.bind hObj (Ev.pos rfl (Ev.bind hEnt (Ev.ret _)))) (fun q => rfl)
 refine Ev.succ (Ev.bind hD (Ev.bind hA ?_)) (fun q => rfl)
 exact Ev.pos rfl (Ev.pos rfl (Ev.pos rfl (Ev.pos rfl (Ev.pos rfl (Ev.opt rfl (Ev.pos rfl (Ev.bind hS (Ev.ret _))))))))
theorem Few_ev (s : zjs) : Ev (fun q => zla q s) (decide (s.State.L.l.length ≤ 300 ∧ s.Table.l.length ≤ 100)) := by
 have h4 : Ev (fun q => zk9 q s.State) (decide ((s.State.L.l.length : Int) ≤ 300)) := Ev.succ (g := fun _ => some (decide ((s.State.L.l.length : Int) ≤ 300))) (Ev.ret _) (fun q => rfl)
 refine Ev.succ (Ev.bind h4 (Ev.ite (fun h => Ev.ret' ?_) fun h => Ev.ret' ?_)) (fun q => rfl)
 ·simp only [decide_eq_true_eq] at h
  by_cases c : s.Table.l.length ≤ 100
  ·rw [decide_eq_true (by omega), decide_eq_true ⟨by omega, c⟩]
  ·rw [decide_eq_false (by omega), decide_eq_false (fun e => c e.2)]
 ·simp only [decide_eq_true_eq] at h
  rw [decide_eq_false (fun e => h (by omega))]
theorem zbd6 {least : Int} : ∀ {l : List Int} {last : Int}, prs least last l = true → l.length % 2 = 0 → -1 ≤ last → -1099511627776 ≤ least → ∀ x ∈ l, -1099511627776 ≤ x ∧ x ≤ 1099511627776
 | [], last, h, h2, h3, h4, x, hx => by cases hx
 | [a], last, h, h2, h3, h4, x, hx => by simp at h2
 | a :: b :: t, last, h, h2, h3, h4, x, hx => by
  simp only [prs, y7, decide_eq_true_eq] at h
  simp only [y22] at h2
  rcases List.mem_cons.1 hx with e | e
  ·omega
  ·rcases List.mem_cons.1 e with e | e
   ·omega
   ·exact zbd6 h.2.2.2.2 (by omega) (by omega) h4 x e
theorem zbd7 {l : List Int} (h : cutsB l) : ∀ x ∈ l, -1099511627776 ≤ x ∧ x ≤ 1099511627776 := fun x hx => zbc0.1 (h x hx)
theorem zbd8 {k : Int} {l : List Int} (h : kindOk k l = true) : 0 ≤ k ∧ k ≤ 5 ∧ l.length ≤ 128 ∧ ∀ x ∈ l, -1099511627776 ≤ x ∧ x ≤ 1099511627776 := by
 unfold kindOk at h
 split at h
 ·simp only [decide_eq_true_eq] at h; exact ⟨by omega, by omega, by omega, zbd7 h.2⟩
 ·split at h
  ·simp only [decide_eq_true_eq] at h; exact ⟨by omega, by omega, by omega, zbd7 h.2⟩
  ·split at h
   ·simp only [pairsOk, y7, decide_eq_true_eq] at h; exact ⟨by omega, by omega, by omega, zbd6 h.1 h.2.1 (by omega) (by omega)⟩
   ·split at h
    ·simp only [pairsOk, y7, decide_eq_true_eq] at h; exact ⟨by omega, by omega, by omega, zbd6 h.1 h.2.1 (by omega) (by omega)⟩
    ·cases h
theorem zbd9 {s : zjq} (h : mayS s = true) : 0 ≤ s.To ∧ s.To ≤ 2 ∧ (s.Sealed = false → s.To = 0) ∧ kindOk s.Kind s.L.l = true := by
 unfold mayS at h
 split at h
 ·cases h
 ·split at h
  ·cases h
  ·split at h
   ·rename_i h1 h2 h3; exact ⟨by omega, by omega, fun e => (by rw [e] at h3; cases h3), h⟩
   ·split at h
    ·rename_i h1 h2 h3 h4; exact ⟨by omega, by omega, fun _ => h4, h⟩
    ·cases h
theorem zbea {e : zjr} (h : entOk e = true) : 0 ≤ e.Proc ∧ e.Proc ≤ 64 ∧ 0 ≤ e.Seq ∧ e.Seq < 4611686018427387904 ∧ -1125899906842624 ≤ e.Resp ∧ e.Resp ≤ 1125899906842624 := by
 simpa only [entOk, y7, decide_eq_true_eq] using h
theorem zbeb : ∀ {t : List zjr} {last : Int}, tabB last t = true → ∀ e ∈ t, entOk e = true
 | [], last, h, e, he => by cases he
 | a :: t, last, h, e, he => by
  simp only [tabB, y7] at h
  rcases List.mem_cons.1 he with r | r
  ·rw [r]; exact h.1
  ·exact zbeb h.2.2 e r
theorem zbec {s : zjs} (h : mayN s = true) : 0 ≤ s.Index ∧ s.Index < 4611686018427387904 ∧ mayS s.State = true ∧ tabB (-1) s.Table.l = true := by
 simpa only [mayN, y7, decide_eq_true_eq] using h
/-- A table has at most 65 entries. -/
theorem zbed : ∀ {t : List zjr} {last : Int}, tabB last t = true → -1 ≤ last → (t.length : Int) + last ≤ 64 ∨ t = []
 | [], last, h, h1 => .inr rfl
 | a :: t, last, h, h1 => by
  simp only [tabB, y7, decide_eq_true_eq] at h
  have ha := zbea h.1
  rcases zbed h.2.2 (by omega) with e | e
  ·left; rw [y22]; omega
  ·left; rw [e]; simp only [y22, y26]; omega
def sealN (s : zjq) : Int := if s.Sealed = true then s.To + 1 else 0
def numsB (l : List Int) : List Int := l.flatMap putS
theorem zbee (x : Int) (l : List Int) : numsB (x :: l) = putS x ++ numsB l := by simp [numsB]
def inT (l : List Int) : Prop := ∀ x ∈ l, -1099511627776 ≤ x ∧ x ≤ 1099511627776
theorem inT_R {l : List Int} (h : inT l) {x : Int} (hx : x ∈ l) : inR .i64 x := by have := h x hx; exact zbc3 (by omega) (by omega)
theorem zbef {x : Int} {l : List Int} (h : inT (x :: l)) : inR .i64 x ∧ inT l := ⟨inT_R h y32, fun y hy => h y (y36 _ hy)⟩
theorem zbeg : ∀ {l : List Int}, inT l → (numsB l).length ≤ 10 * l.length
 | [], h => by simp [numsB]
 | x :: l, h => by
  have h2 := zbeg (zbef h).2
  have h1 := zbc2 (zbef h).1
  rw [zbee, y11, y22]; omega
def stateB (s : zjq) : List Int := ((put s.Kind ++ put (sealN s)) ++ put (s.L.l.length : Int)) ++ numsB s.L.l
theorem zbeh {s : zjq} (h : inT s.L.l) : (stateB s).length ≤ 30 + 10 * s.L.l.length := by
 have h1 := zbcx s.Kind; have h2 := zbcx (sealN s); have h3 := zbcx (s.L.l.length : Int); have h4 := zbeg h
 simp only [stateB, y11]; omega
def entB (e : zjr) : List Int := put e.Proc ++ (put e.Seq ++ putS e.Resp)
def tabE (l : List zjr) : List Int := l.flatMap entB
theorem zbei (e : zjr) (l : List zjr) : tabE (e :: l) = entB e ++ tabE l := by simp [tabE]
def entsOk (l : List zjr) : Prop := ∀ e ∈ l, entOk e = true
theorem zbej {e : zjr} (h : entOk e = true) : inR .i64 e.Resp := by have := zbea h; exact zbc3 (by omega) (by omega)
theorem zbek {e : zjr} (h : entOk e = true) : (entB e).length ≤ 30 := by
 have h1 := zbcx e.Proc; have h2 := zbcx e.Seq; have h3 := zbc2 (zbej h)
 simp only [entB, y11]; omega
theorem zbel : ∀ {l : List zjr}, entsOk l → (tabE l).length ≤ 30 * l.length
 | [], h => by simp [tabE]
 | e :: l, h => by
  have h1 := zbek (h e y32)
  have h2 := zbel (l := l) fun x hx => h x (y36 _ hx)
  rw [zbei, y11, y22]; omega
def wholeB (s : zjs) : List Int := ((put ((stateB s.State).length : Int) ++ stateB s.State) ++ put (s.Table.l.length : Int)) ++ tabE s.Table.l
theorem zbem {s : zjs} (h : mayN s = true) : (wholeB s).length ≤ 5000 ∧ (stateB s.State).length ≤ 1310 ∧ s.Table.l.length ≤ 65 := by
 have hm := zbec h
 have hk := zbd8 (zbd9 hm.2.2.1).2.2.2
 have h1 := zbeh (s := s.State) hk.2.2.2
 have h2 := zbel (zbeb hm.2.2.2)
 have h3 := zbed hm.2.2.2 (by omega)
 have h4 : s.Table.l.length ≤ 65 := by
  rcases h3 with e | e
  ·omega
  ·rw [e]; simp
 have p1 := zbcx ((stateB s.State).length : Int); have p2 := zbcx (s.Table.l.length : Int)
 simp only [wholeB, y11]; omega
theorem zben (z z2 : Bool) (A B : List zjr) (hl : A.length = B.length) (hL : A.length ≤ 1099511627776) : ∀ (k i : Nat), A.length = i + k → Ev (fun q => zk5 q z A z2 B (A.length : Int) (i : Int)) (decide (A.drop i = B.drop i))
 | 0, i, hk => by
  refine Ev.succ (Ev.ne (Ev.ret' ?_)) (fun q => rfl)
  rw [y13 (by omega), y13 (by omega)]; simp
 | k + 1, i, hk => by
  have hi : i < A.length := by omega
  have hi2 : i < B.length := by omega
  have hg : A[(i : Int).toNat]? = some A[i] := by simpa using y8 hi
  have hg2 : B[(i : Int).toNat]? = some B[i] := by simpa using y8 hi2
  have no : ¬ A[i] = B[i] → false = decide (A[i] :: A.drop (i + 1) = B[i] :: B.drop (i + 1)) := fun h => by
   symm; rw [decide_eq_false_iff_not]; intro e; exact h (List.cons.inj e).1
  rw [y10 hi, y10 hi2]
  refine Ev.succ (Ev.po (Ev.po (Ev.opt hg (Ev.opt hg2 (Ev.ite (fun c1 => Ev.ite (fun c2 => Ev.ite (fun c3 => ?_) fun c3 => Ev.ret' (no fun e => c3 (by rw [e]))) fun c2 => Ev.ret' (no fun e => c2 (by rw [e]))) fun c1 => Ev.ret' (no fun e => c1 (by rw [e]))))))) (fun q => rfl)
  rw [zbcu (by omega) (by omega), show ((i : Int) + 1) = ((i + 1 : Nat) : Int) by omega]
  refine (zben z z2 A B hl hL k (i + 1) (by omega)).cast ?_
  rw [decide_eq_decide, List.cons.injEq]; simp only [zbdh c1 c2 c3, true_and]
theorem zbeo (a b : Sl zjr) (hL : a.l.length ≤ 1099511627776) : Ev (fun q => zk6 q a b) (decide (a.l = b.l)) := by
 refine Ev.succ (Ev.ite (fun h => ?_) fun h => Ev.ret' ?_) (fun q => rfl)
 ·have := zben a.z b.z a.l b.l (by omega) hL a.l.length 0 (by omega)
  rw [y38, y38] at this; exact this
 ·symm; rw [decide_eq_false_iff_not]; intro e; rw [e] at h; exact h rfl
/-- The same states, the same snapshots. -/
def sameS (a b : zjq) : Bool := decide (a.Kind = b.Kind) && (decide (a.Sealed = b.Sealed) && (decide (a.To = b.To) && decide (a.L.l = b.L.l)))
def sameN (a b : zjs) : Bool := decide (a.Index = b.Index) && (sameS a.State b.State && decide (a.Table.l = b.Table.l))
theorem zbep (a b : zjq) (hL : a.L.l.length ≤ 1099511627776) : Ev (fun q => zk4 q a b) (sameS a b) := by
 unfold sameS
 refine Ev.succ (Ev.ite (fun c1 => Ev.ite (fun c2 => Ev.ite (fun c3 => Ev.bind (zbdx _ _ hL) (Ev.ret' ?_)) fun c3 => Ev.ret' ?_) fun c2 => Ev.ret' ?_) fun c1 => Ev.ret' ?_) (fun q => rfl)
 ·rw [beq_iff_eq] at c2; simp [c1, c2, c3]
 ·simp [c3]
 ·rw [beq_iff_eq] at c2; simp [c2]
 ·simp [c1]
theorem zbeq (a b : zjs) (hL : a.State.L.l.length ≤ 1099511627776) (hT : a.Table.l.length ≤ 1099511627776) : Ev (fun q => zk7 q a b) (sameN a b) := by
 unfold sameN
 refine Ev.succ (Ev.ite (fun c1 => Ev.bind (zbep _ _ hL) (Ev.ite (fun c2 => Ev.bind (zbeo _ _ hT) (Ev.ret' ?_)) fun c2 => Ev.ret' ?_)) fun c1 => Ev.ret' ?_) (fun q => rfl)
 ·simp [c1, c2]
 ·simp only [Bool.not_eq_true] at c2; simp [c2]
 ·simp [c1]
theorem zber {s : zjs} (h : mayN s = true) : s.State.L.l.length ≤ 1000000 ∧ s.Table.l.length ≤ 1000000 := by
 have hm := zbec h
 have hk := zbd8 (zbd9 hm.2.2.1).2.2.2
 have := zbem h
 omega
def filP (p : Int) (T : List zjr) : List zjr := T.filter fun e => !decide (e.Proc = p)
def insE (e : zjr) : List zjr → List zjr
 | [] => [e]
 | x :: l => if e.Proc < x.Proc then e :: x :: l else x :: insE e l
def noteL (T : List zjr) (p s x : Int) : List zjr := insE ⟨p, s, x⟩ (filP p T)
def atE (p : Int) : List zjr → Nat
 | [] => 0
 | x :: l => if p < x.Proc then 0 else atE p l + 1
theorem atE_le (p : Int) : ∀ T : List zjr, atE p T ≤ T.length
 | [] => y15 _
 | x :: l => by simp only [atE]; split <;> simp only [y22] <;> have := atE_le p l <;> omega
theorem zbes (e : zjr) : ∀ T : List zjr, insE e T = T.take (atE e.Proc T) ++ [e] ++ T.drop (atE e.Proc T)
 | [] => rfl
 | x :: l => by
  simp only [insE, atE]
  split
  ·simp
  ·rw [zbes e l]; simp
theorem zbet (e : zjr) : ∀ T : List zjr, (insE e T).length = T.length + 1
 | [] => rfl
 | x :: l => by simp only [insE]; split <;> simp only [y22, zbet e l]
theorem zbeu (p : Int) (T : List zjr) : (filP p T).length ≤ T.length := List.length_filter_le _ _
theorem zbev (T : List zjr) (p s x : Int) : (noteL T p s x).length ≤ T.length + 1 := by
 unfold noteL; rw [zbet]; have := zbeu p T; omega
theorem zbew (p : Int) (O : List zjr) (j : Nat) (hj : j < O.length) : filP p (O.take (j + 1)) = filP p (O.take j) ++ if O[j].Proc = p then [] else [O[j]] := by
 unfold filP
 rw [List.take_add_one, y8 hj, List.filter_append]
 congr 1
 simp only [Option.toList_some, List.filter_cons, List.filter_nil]
 by_cases c : O[j].Proc = p <;> simp [c]
theorem zbex {p : Int} {T : List zjr} (h : ∀ e ∈ T, e.Proc ≠ p) : filP p T = T := List.filter_eq_self.2 fun e he => by simp [h e he]
theorem zbey (p0 p p2 p3 p4 p5 p6 : Int) (z : Bool) (L : List zjr) (x : Bool) (hL : L.length ≤ 1000000) : ∀ (k i : Nat), L.length = i + k →
  ∃ r, Ev (fun q => zks q (L.length : Int) (i : Int) p0 p p2 p3 p4 p5 p6 z L x) r ∧ ((r = -1 ∧ ∀ e ∈ L.drop i, e.Proc ≠ p) ∨ ∃ j : Nat, i ≤ j ∧ ∃ h : j < L.length, r = (j : Int) ∧ L[j].Proc = p ∧ ∀ e ∈ (L.take j).drop i, e.Proc ≠ p)
 | 0, i, hk => ⟨-1, Ev.succ (Ev.ne (Ev.ret _)) (fun q => rfl), .inl ⟨rfl, by rw [y13 (by omega)]; simp⟩⟩
 | k + 1, i, hk => by
  have hi : i < L.length := by omega
  have he : L[((i : Int)).toNat]? = some L[i] := by simp [hi]
  by_cases c : L[i].Proc = p
  ·exact ⟨(i : Int), Ev.succ (Ev.po (Ev.po (Ev.po (Ev.opt he (Ev.pos c (Ev.ret _)))))) (fun q => rfl), .inr ⟨i, y15 _, hi, rfl, c, by rw [y13 (by rw [y21]; omega)]; simp⟩⟩
  ·obtain ⟨r, h, hr⟩ := zbey p0 p p2 p3 p4 p5 p6 z L x hL k (i + 1) (by omega)
   rw [show ((i + 1 : Nat) : Int) = wrp .i64 ((i : Int) + 1) by rw [zbcu (by omega) (by omega)]; omega] at h
   refine ⟨r, Ev.succ (Ev.po (Ev.po (Ev.po (Ev.opt he (Ev.neg c h))))) (fun q => rfl), ?_⟩
   rcases hr with ⟨h1, h2⟩ | ⟨j, h1, h2, h3, h4, h5⟩
   ·refine .inl ⟨h1, fun e hm => ?_⟩
    rw [y10 hi] at hm
    rcases List.mem_cons.1 hm with rfl | hm
    ·exact c
    ·exact h2 e hm
   ·refine .inr ⟨j, by omega, h2, h3, h4, fun e hm => ?_⟩
    have hi2 : i < (L.take j).length := by rw [y21]; omega
    rw [y10 hi2] at hm
    rcases List.mem_cons.1 hm with rfl | hm
    ·rw [List.getElem_take]; exact c
    ·exact h5 e hm
theorem zbez (p0 p p2 p3 p4 p5 p6 : Int) (z : Bool) (O : List zjr) (hO : O.length ≤ 1000000) : ∀ (k j i : Nat) (H : List zjr), O.length = j + k → H.length = O.length → i ≤ j → H.take i = filP p (O.take j) → H.drop j = O.drop j →
  ∃ xs, Ev (fun q => zku q (i : Int) (j : Int) p0 p p2 p3 p4 p5 p6 z H true) ((filP p O).length, xs, true) ∧ xs.take (filP p O).length = filP p O ∧ (filP p O).length ≤ xs.length
 | 0, j, i, H, hk, hl, hij, ht, hd => by
  have hO2 : O.take j = O := List.take_of_length_le (by omega)
  rw [hO2] at ht
  have hi : (filP p O).length = i := by rw [← ht, y21]; omega
  refine ⟨((H.take i) ++ (List.replicate (H.length - i) (⟨0, 0, 0⟩ : zjr))) ++ (H.drop (i + (H.length - i))), ?_, ?_, ?_⟩
  ·rw [hi]
   refine Ev.succ (Ev.ne (Ev.po (Ev.po (Ev.pos rfl (Ev.po (Ev.ite (fun _ => Ev.ret' ?_) fun _ => Ev.ret' ?_)))))) (fun q => rfl) <;> simp only [y28]
  ·rw [hi, y33, List.take_append_of_le_length (by rw [y21]; omega), List.take_take, Nat.min_self, ht]
  ·rw [hi]; simp only [y11, y21, List.length_replicate]; omega
 | k + 1, j, i, H, hk, hl, hij, ht, hd => by
  have hj : j < H.length := by omega
  have hjO : j < O.length := by omega
  have he : H[((j : Int)).toNat]? = some O[j] := by
   have := congrArg (fun l => l[0]?) hd
   simp only [y40, Nat.add_zero] at this
   rw [y28, this]; exact y8 hjO
  have hs := zbew p O j hjO
  have wj : wrp .i64 ((j : Int) + 1) = ((j + 1 : Nat) : Int) := by rw [zbcu (by omega) (by omega)]; omega
  have dr : ∀ {A B : List zjr}, A.drop j = B.drop j → A.drop (j + 1) = B.drop (j + 1) := fun {A B} h => by rw [← List.drop_drop, ← List.drop_drop, h]
  by_cases c : O[j].Proc = p
  ·rw [if_pos c, List.append_nil] at hs
   obtain ⟨xs, h1, h2⟩ := zbez p0 p p2 p3 p4 p5 p6 z O hO k (j + 1) i H (by omega) hl (by omega) (by rw [hs]; exact ht) (dr hd)
   rw [← wj] at h1
   exact ⟨xs, Ev.succ (Ev.po (Ev.po (Ev.po (Ev.opt he (Ev.pos c h1))))) (fun q => rfl), h2⟩
  ·rw [if_neg c] at hs
   have hi : i < H.length := by omega
   have hg : H[((i : Int)).toNat]? = some H[i] := by simp [hi]
   obtain ⟨xs, h1, h2⟩ := zbez p0 p p2 p3 p4 p5 p6 z O hO k (j + 1) (i + 1) (H.set i O[j]) (by omega) (by rw [List.length_set]; exact hl) (by omega) (by
    rw [hs, ← ht, List.take_add_one, List.take_set_of_le (y15 i), y24 hi]; rfl) (by
    rw [List.drop_set_of_lt (by omega)]; exact dr hd)
   have wi : wrp .i64 ((i : Int) + 1) = ((i + 1 : Nat) : Int) := by rw [zbcu (by omega) (by omega)]; omega
   rw [← wj, ← wi] at h1
   exact ⟨xs, Ev.succ (Ev.po (Ev.po (Ev.po (Ev.opt he (Ev.neg c (Ev.po (Ev.po (Ev.opt hg (Ev.pos rfl h1))))))))) (fun q => rfl), h2⟩
theorem zbe0 (p0 p p2 p3 p4 p5 p6 : Int) (z : Bool) (O : List zjr) (hO : O.length ≤ 1000000) :
  ∃ xs, Ev (fun q => zkv q p0 p p2 p3 p4 p5 p6 z O true) ((filP p O).length, xs, true) ∧ xs.take (filP p O).length = filP p O ∧ (filP p O).length ≤ xs.length := by
 obtain ⟨r, h, hr⟩ := zbey p0 p p2 p3 p4 p5 p6 z O true hO O.length 0 (by omega)
 have h' : Ev (fun q => zkt q p0 p p2 p3 p4 p5 p6 z O true) r := Ev.succ h (fun q => rfl)
 rcases hr with ⟨rfl, h2⟩ | ⟨j, _, h2, rfl, h4, h5⟩
 ·rw [y38] at h2
  rw [zbex h2]
  exact ⟨O, Ev.succ (Ev.bind h' (Ev.pos rfl (Ev.ret _))) (fun q => rfl), List.take_length, y15 _⟩
 ·rw [y38] at h5
  have hs := zbew p O j h2
  rw [if_pos h4, List.append_nil, zbex h5] at hs
  obtain ⟨xs, h1, h6⟩ := zbez p0 p p2 p3 p4 p5 p6 z O hO (O.length - (j + 1)) (j + 1) j O (by omega) rfl (by omega) hs.symm rfl
  rw [show ((j + 1 : Nat) : Int) = wrp .i64 ((j : Int) + 1) by rw [zbcu (by omega) (by omega)]; omega] at h1
  exact ⟨xs, Ev.succ (Ev.bind h' (Ev.neg (by omega) h1)) (fun q => rfl), h6⟩
def ixI (n k i : Nat) : Int := if n < k then ((i + n : Nat) : Int) else -1
theorem zbe1 (p0 p p2 p3 p4 p5 p6 : Int) (z : Bool) (xs : List zjr) (x : Bool) (M : List zjr) (hM : xs.take M.length = M) (hL : M.length ≤ 1000000) : ∀ (k i : Nat), M.length = i + k →
  Ev (fun q => zkw q M.length (M.length : Int) (i : Int) p0 p p2 p3 p4 p5 p6 z xs x) (ixI (atE p (M.drop i)) k i)
 | 0, i, hk => by
  refine Ev.succ (Ev.ne (Ev.ret' ?_)) (fun q => rfl)
  unfold ixI; rw [if_neg (by omega)]
 | k + 1, i, hk => by
  have hi : i < M.length := by omega
  have he : xs[((i : Int)).toNat]? = some M[i] := by
   have : (xs.take M.length)[i]? = M[i]? := by rw [hM]
   rw [y47, if_pos hi] at this
   rw [y28, this]; exact y8 hi
  rw [y10 hi]
  have ha : atE p (M[i] :: M.drop (i + 1)) = if p < M[i].Proc then 0 else atE p (M.drop (i + 1)) + 1 := rfl
  by_cases c : p < M[i].Proc
  ·rw [if_pos c] at ha
   rw [ha]; unfold ixI; rw [if_pos (by omega)]
   exact Ev.succ (Ev.po (Ev.po (Ev.po (Ev.opt he (Ev.pos c (Ev.ret' (by omega))))))) (fun q => rfl)
  ·rw [if_neg c] at ha
   rw [ha]
   have ih := zbe1 p0 p p2 p3 p4 p5 p6 z xs x M hM hL k (i + 1) (by omega)
   rw [show ((i + 1 : Nat) : Int) = wrp .i64 ((i : Int) + 1) by rw [zbcu (by omega) (by omega)]; omega] at ih
   refine Ev.succ (Ev.po (Ev.po (Ev.po (Ev.opt he (Ev.neg c (Ev.cast ih ?_)))))) (fun q => rfl)
   unfold ixI
   by_cases d : atE p (M.drop (i + 1)) < k
   ·rw [if_pos d, if_pos (by omega)]; omega
   ·rw [if_neg d, if_neg (by omega)]
theorem zbe2 (z : Bool) (M : List zjr) (at_ : Int) (e : zjr) (h0 : 0 ≤ at_) (h1 : at_ ≤ (M.length : Int)) (hL : M.length ≤ 1000000) : Ev (fun q => zkr q ⟨z, true, M⟩ at_ ⟨false, true, [e]⟩) ⟨false, true, M.take at_.toNat ++ [e] ++ M.drop at_.toNat⟩ :=
 Ev.succ (g := fun _ => if insOk (⟨z, true, M⟩ : Ow zjr) at_ ⟨false, true, [e]⟩ then some (insR (⟨z, true, M⟩ : Ow zjr) at_ ⟨false, true, [e]⟩) else none) (Ev.pos ⟨rfl, h0, h1, rfl, by simp, by simp only [List.length_singleton]; omega⟩ (Ev.ret _)) (fun q => rfl)
theorem zbe3 (s : Sl zjr) (hz : s.z = true → s.l = []) (hL : s.l.length ≤ 1000000) (r : zjv) : Ev (fun q => zky q s r) ⟨false, true, noteL s.l r.Proc r.Seq r.Resp⟩ := by
 obtain ⟨z, hC⟩ : ∃ z, Ev (fun q => zkq q s) ⟨z, true, s.l⟩ := by
  by_cases c : s.z = true
  ·exact ⟨true, Ev.succ (Ev.pos c (Ev.ret' (by rw [hz c]))) (fun q => rfl)⟩
  ·exact ⟨false, Ev.succ (Ev.neg c (Ev.po (Ev.ret _))) (fun q => rfl)⟩
 obtain ⟨xs, h0, hx, hle⟩ := zbe0 r.Index r.Proc r.Seq r.Op.Code r.Op.A r.Op.B r.Resp z s.l hL
 have hM := zbeu r.Proc s.l
 have h1 := zbe1 r.Index r.Proc r.Seq r.Op.Code r.Op.A r.Op.B r.Resp z xs true (filP r.Proc s.l) hx (by omega) (filP r.Proc s.l).length 0 (by omega)
 have h1' : Ev (fun q => zkx q (filP r.Proc s.l).length r.Index r.Proc r.Seq r.Op.Code r.Op.A r.Op.B r.Resp z xs true) _ := Ev.succ h1 (fun q => rfl)
 rw [y38] at h1'
 have hat := atE_le r.Proc (filP r.Proc s.l)
 unfold noteL
 rw [zbes]
 refine Ev.succ (Ev.bind hC (Ev.bind h0 (Ev.bind h1' ?_))) (fun q => rfl)
 simp only
 rw [hx]
 unfold ixI
 by_cases d : atE r.Proc (filP r.Proc s.l) < (filP r.Proc s.l).length
 ·rw [if_pos d]
  have hI := zbe2 z (filP r.Proc s.l) ((0 + atE r.Proc (filP r.Proc s.l) : Nat) : Int) ⟨r.Proc, r.Seq, r.Resp⟩ (by omega) (by omega) (by omega)
  refine Ev.ne (Ev.pos trivial (Ev.bind hI (Ev.ret' ?_)))
  rw [y28, y43]
 ·rw [if_neg d]
  have hI := zbe2 z (filP r.Proc s.l) ((filP r.Proc s.l).length : Int) ⟨r.Proc, r.Seq, r.Resp⟩ (by omega) (by omega) (by omega)
  refine Ev.po (Ev.pos trivial (Ev.bind hI (Ev.ret' ?_)))
  rw [y28, show atE r.Proc (filP r.Proc s.l) = (filP r.Proc s.l).length by omega]
theorem zbe4 {l : List Int} {i j : Int} (h0 : 0 ≤ i) (h1 : i < j) (h2 : j ≤ l.length) (hl : l.length ≤ 1000000) : Ev (fun q => zle q ⟨false, true, l⟩ i j) ⟨false, true, l.take i.toNat ++ l.drop j.toNat⟩ := by
 refine Ev.succ ?_ (fun q => rfl)
 refine Ev.pos h0 ?_
 refine Ev.pos (by omega) ?_
 refine Ev.pos (by simp only; omega) ?_
 refine Ev.neg (by omega) ?_
 refine Ev.pos (by simp only; omega) ?_
 refine Ev.neg (by simp) ?_
 refine Ev.pos (by omega) ?_
 refine Ev.pos (by simp only; omega) ?_
 refine Ev.pos (by simp only; omega) ?_
 refine Ev.pos rfl ?_
 refine Ev.pos (by simp only; omega) ?_
 refine Ev.pos (by simp only; omega) ?_
 refine Ev.ret' ?_
 congr 1
 have hm : (l.take i.toNat ++ l.drop j.toNat).length = i.toNat + (l.length - j.toNat) := by simp; omega
 rw [← hm]
 simp only [y33]
 rw [← y33 (l.take i.toNat) (l.drop j.toNat), List.take_left', List.take_left'] <;> simp
def findN (key : Int) : List Int → Nat
 | a :: _ :: l => if a < key then findN key l + 2 else 0
 | _ => 0
def isL (key : Int) : List Int → Bool
 | a :: _ :: l => if a < key then isL key l else decide (a = key)
 | _ => false
def hasL (key : Int) : List Int → Int
 | a :: b :: l => if a < key then hasL key l else if a = key then b else -1
 | _ => -1
def putL (key n : Int) : List Int → List Int
 | a :: b :: l => if a < key then a :: b :: putL key n l else if a = key then a :: n :: l else key :: n :: a :: b :: l
 | _ => [key, n]
def delL (key : Int) : List Int → List Int
 | a :: b :: l => if a < key then a :: b :: delL key l else if a = key then l else a :: b :: l
 | _ => []
/-- By pairs. -/
theorem zbe5 {P : List Int → Prop} (h0 : P []) (h2 : ∀ a b l, l.length % 2 = 0 → P l → P (a :: b :: l)) : ∀ l : List Int, l.length % 2 = 0 → P l
 | [], _ => h0
 | [a], h => by simp at h
 | a :: b :: l, h => h2 a b l (by simp only [y22] at h; omega) (zbe5 h0 h2 l (by simp only [y22] at h; omega))
theorem zbe6 (key : Int) : ∀ l : List Int, l.length % 2 = 0 → findN key l ≤ l.length ∧ (isL key l = true → findN key l + 2 ≤ l.length ∧ l[findN key l + 1]? = some (hasL key l)) ∧ (isL key l = false → hasL key l = -1) :=
 zbe5 (by simp [findN, isL, hasL]) fun a b l he ih => by
  simp only [findN, isL, hasL, y22]
  split
  ·refine ⟨by omega, fun h => ⟨by have := (ih.2.1 h).1; omega, ?_⟩, ih.2.2⟩
   rw [show findN key l + 2 + 1 = (findN key l + 1) + 2 by omega]
   simpa using (ih.2.1 h).2
  ·split
   ·rename_i e; simp [e]
   ·rename_i e; simp [e]
theorem put_is (key n : Int) : ∀ l : List Int, l.length % 2 = 0 → isL key l = true → l.set (findN key l + 1) n = putL key n l :=
 zbe5 (by simp [isL]) fun a b l he ih h => by
  simp only [findN, isL, putL] at h ⊢
  split at h
  ·rename_i c; rw [if_pos c, if_pos c, ← ih h]; rfl
  ·rename_i c; rw [if_neg c, if_neg c, if_pos (by simpa using h)]; rfl
theorem put_no (key n : Int) : ∀ l : List Int, l.length % 2 = 0 → isL key l = false → l.take (findN key l) ++ [key, n] ++ l.drop (findN key l) = putL key n l :=
 zbe5 (by simp [findN, putL]) fun a b l he ih h => by
  simp only [findN, isL, putL] at h ⊢
  split at h
  ·rename_i c; rw [if_pos c, if_pos c, ← ih h]; simp
  ·rename_i c; rw [if_neg c, if_neg c, if_neg (by simpa using h)]; simp
theorem del_is (key : Int) : ∀ l : List Int, l.length % 2 = 0 → isL key l = true → l.take (findN key l) ++ l.drop (findN key l + 2) = delL key l :=
 zbe5 (by simp [isL]) fun a b l he ih h => by
  simp only [findN, isL, delL] at h ⊢
  split at h
  ·rename_i c; rw [if_pos c, if_pos c, ← ih h]; simp
  ·rename_i c; rw [if_neg c, if_neg c, if_pos (by simpa using h)]; simp
theorem zbe7 (key n : Int) : ∀ l : List Int, l.length % 2 = 0 → (putL key n l).length = l.length + (if isL key l = true then 0 else 2) :=
 zbe5 (by simp [putL, isL]) fun a b l he ih => by
  simp only [putL, isL]
  split
  ·simp only [y22, ih]; omega
  ·split
   ·rename_i e; simp [e]
   ·rename_i e; simp [e]
theorem zbe8 (z : Bool) (L : List Int) (key : Int) (hL : L.length ≤ 1000000) (h2 : L.length % 2 = 0) : ∀ (k i : Nat), L.length = i + 2 * k →
  Ev (fun q => zlg q z L key (i : Int)) (((i + findN key (L.drop i) : Nat) : Int), isL key (L.drop i))
 | 0, i, hk => by
  rw [y13 (by omega)]
  exact Ev.succ (Ev.ne (Ev.ret _)) (fun q => rfl)
 | k + 1, i, hk => by
  have hi : i < L.length := by omega
  have hi1 : i + 1 < L.length := by omega
  have he : L[((i : Int)).toNat]? = some L[i] := by simp [hi]
  have hd : L.drop i = L[i] :: L[i + 1] :: L.drop (i + 2) := by rw [y10 hi, y10 hi1]
  rw [hd]
  by_cases c : L[i] < key
  ·have e1 : findN key (L[i] :: L[i + 1] :: L.drop (i + 2)) = findN key (L.drop (i + 2)) + 2 := by simp only [findN, if_pos c]
   have e2 : isL key (L[i] :: L[i + 1] :: L.drop (i + 2)) = isL key (L.drop (i + 2)) := by simp only [isL, if_pos c]
   rw [e1, e2]
   have ih := zbe8 z L key hL h2 k (i + 2) (by omega)
   rw [show ((i + 2 : Nat) : Int) = wrp .i64 ((i : Int) + 2) by rw [zbcu (by omega) (by omega)]; omega] at ih
   refine Ev.succ (Ev.po (Ev.po (Ev.opt he (Ev.pos c (Ev.cast ih ?_))))) (fun q => rfl)
   rw [show i + 2 + findN key (L.drop (i + 2)) = i + (findN key (L.drop (i + 2)) + 2) by omega]
  ·have e1 : findN key (L[i] :: L[i + 1] :: L.drop (i + 2)) = 0 := by simp only [findN, if_neg c]
   have e2 : isL key (L[i] :: L[i + 1] :: L.drop (i + 2)) = decide (L[i] = key) := by simp only [isL, if_neg c]
   rw [e1, e2]
   exact Ev.succ (Ev.po (Ev.po (Ev.opt he (Ev.neg c (Ev.ret' (by simp)))))) (fun q => rfl)
theorem zbe9 (s : Sl Int) (key : Int) (hL : s.l.length ≤ 1000000) (h2 : s.l.length % 2 = 0) : Ev (fun q => zlh q s key) ((findN key s.l : Int), isL key s.l) := by
 have h := zbe8 s.z s.l key hL h2 (s.l.length / 2) 0 (by omega)
 rw [y38, y43] at h
 exact Ev.succ h (fun q => rfl)
theorem has_ev (s : Sl Int) (key : Int) (hL : s.l.length ≤ 1000000) (h2 : s.l.length % 2 = 0) : Ev (fun q => zli q s key) (hasL key s.l) := by
 have hp := zbe6 key s.l h2
 refine Ev.succ (Ev.bind (zbe9 s key hL h2) (Ev.ite (fun c => ?_) fun c => Ev.ret' ?_)) (fun q => rfl)
 ·simp only at c
  have h1 := hp.2.1 c
  have w : wrp .i64 ((findN key s.l : Int) + 1) = ((findN key s.l + 1 : Nat) : Int) := by rw [zbcu (by omega) (by omega)]; omega
  exact Ev.pos (by simp only; rw [w]; omega) (Ev.opt (by simp only; rw [w, y28]; exact h1.2) (Ev.ret _))
 ·exact (hp.2.2 (by simpa using c)).symm
def putOk (key : Int) (l : List Int) : Bool := isL key l || decide (l.length < 128)
theorem put_ev (s : Sl Int) (hz : s.z = true → s.l = []) (key n : Int) (hL : s.l.length ≤ 1000000) (h2 : s.l.length % 2 = 0) : Ev (fun q => zlk q s key n) (if putOk key s.l = true then (⟨false, putL key n s.l⟩, true) else (s, false)) := by
 have hp := zbe6 key s.l h2
 obtain ⟨z, hC⟩ := zbd1 s hz (by omega)
 by_cases c : isL key s.l = true
 ·have h1 := hp.2.1 c
  have hs : s.z = false := by
   by_cases e : s.z = true
   ·rw [hz e] at h1; simp at h1
   ·simpa using e
  have hC := zbc5 s hs (by omega)
  have w : wrp .i64 ((findN key s.l : Int) + 1) = ((findN key s.l + 1 : Nat) : Int) := by rw [zbcu (by omega) (by omega)]; omega
  rw [if_pos (by unfold putOk; rw [c]; rfl)]
  refine Ev.succ (Ev.bind (zbe9 s key hL h2) (Ev.pos c (Ev.bind hC ?_))) (fun q => rfl)
  simp only
  rw [w]
  refine Ev.po (Ev.po (Ev.opt (by rw [y28]; exact h1.2) (Ev.pos trivial (Ev.ret' ?_))))
  rw [y28, put_is key n s.l h2 c]
 ·have c' : isL key s.l = false := by simpa using c
  by_cases d : s.l.length < 128
  ·rw [if_pos (by unfold putOk; rw [decide_eq_true d]; simp)]
   have hI : Ev (fun q => zlj q ⟨z, true, s.l⟩ (findN key s.l : Int) ⟨false, true, [key, n]⟩) ⟨false, true, putL key n s.l⟩ := by
    refine Ev.succ (g := fun _ => if insOk (⟨z, true, s.l⟩ : Ow Int) (findN key s.l : Int) ⟨false, true, [key, n]⟩ then some (insR (⟨z, true, s.l⟩ : Ow Int) (findN key s.l : Int) ⟨false, true, [key, n]⟩) else none) (Ev.pos ⟨rfl, by omega, by simp only; omega, rfl, by simp, by simp only [y22, y26]; omega⟩ (Ev.ret' ?_)) (fun q => rfl)
    rw [← put_no key n s.l h2 c']; simp [insR]
   refine Ev.succ (Ev.bind (zbe9 s key hL h2) (Ev.neg (by simp only; rw [c']; simp) (Ev.ne (Ev.bind hC ?_)))) (fun q => rfl)
   exact Ev.bind hI (Ev.ret' rfl)
  ·rw [if_neg (by unfold putOk; rw [c', decide_eq_false d]; simp)]
   exact Ev.succ (Ev.bind (zbe9 s key hL h2) (Ev.neg (by simp only; rw [c']; simp) (Ev.po (Ev.ret _)))) (fun q => rfl)
def numV (k : Int) (l : List Int) (o : zju) : List Int × Int :=
 if o.Code = 7 then (l, l.headD 0) else if k = 0 ∧ o.Code = 1 then ([cutI (wrp .i64 (l.headD 0 + cutI o.A))], l.headD 0) else if k = 1 ∧ o.Code = 2 then ([cutI o.A], l.headD 0) else (l, 0)
def linV (k : Int) (l : List Int) (o : zju) : List Int × Int :=
 if o.Code = 7 then (l, (l.length : Int)) else if o.Code = 3 then (if (l.length : Int) < 64 then (l ++ [cutI o.A], (l.length : Int) + 1) else (l, -1))
 else if o.Code = 4 then (if (l.length : Int) = 0 then (l, -1) else if k = 2 then (l.drop 1, l.headD 0) else (l.take (l.length - 1), (l[l.length - 1]?).getD 0)) else (l, 0)
def stoV (l : List Int) (o : zju) : List Int × Int :=
 if o.Code = 7 ∨ o.Code = 6 ∨ o.Code = 5 then (if o.A < 0 ∨ 255 < o.A then (l, -1) else if o.Code = 6 ∧ isL o.A l = true then (delL o.A l, hasL o.A l)
  else if o.Code = 5 then (if putOk o.A l = true then (putL o.A (cutI o.B) l, hasL o.A l) else (l, -2)) else (l, hasL o.A l)) else (l, 0)
def nz (n : Int) : Int := if n < 0 then 0 else n
def movV (l : List Int) (o : zju) : List Int × Int :=
 if o.A < 0 ∨ 65536 ≤ o.A ∨ o.B < 0 then (l, 0) else if hasL (wrp .i64 (Int.tdiv o.A 256)) l < o.B then (l, 0) else if wrp .i64 (Int.tdiv o.A 256) = Int.tmod o.A 256 then (l, 1)
 else if putOk (Int.tmod o.A 256) l = true then (if 1099511627776 < wrp .i64 (nz (hasL (Int.tmod o.A 256) l) + o.B) then (l, 0)
  else if putOk (wrp .i64 (Int.tdiv o.A 256)) (putL (Int.tmod o.A 256) (wrp .i64 (nz (hasL (Int.tmod o.A 256) l) + o.B)) l) = true then (putL (wrp .i64 (Int.tdiv o.A 256)) (wrp .i64 (hasL (wrp .i64 (Int.tdiv o.A 256)) l - o.B)) (putL (Int.tmod o.A 256) (wrp .i64 (nz (hasL (Int.tmod o.A 256) l) + o.B)) l), 1)
  else (putL (Int.tmod o.A 256) (wrp .i64 (nz (hasL (Int.tmod o.A 256) l) + o.B)) l, 1)) else (l, 0)
def ledV (l : List Int) (o : zju) : List Int × Int :=
 if o.Code = 9 then movV l o else if o.Code = 7 then (if o.A < 0 ∨ 255 < o.A then (l, -1) else (l, hasL o.A l))
 else if o.Code = 8 then (if o.A < 0 ∨ 255 < o.A ∨ o.B < 0 then (l, -1) else if putOk o.A l = true then (putL o.A (cutI (wrp .i64 (nz (hasL o.A l) + cutI o.B))) l, cutI (wrp .i64 (nz (hasL o.A l) + cutI o.B))) else (l, -2)) else (l, 0)
/-- What an operation leaves, and what comes of it. -/
def stepV (s : zjq) (o : zju) : (List Int × Bool × Int) × Int :=
 if mayS s = true then (if s.Sealed = true then ((s.L.l, s.Sealed, s.To), -1125899906842624) else if o.Code = 10 then ((s.L.l, true, if 0 ≤ o.A ∧ o.A < 3 then o.A else s.To), 0)
  else if s.Kind = 0 ∨ s.Kind = 1 then (((numV s.Kind s.L.l o).1, s.Sealed, s.To), (numV s.Kind s.L.l o).2)
  else if s.Kind = 2 ∨ s.Kind = 3 then (((linV s.Kind s.L.l o).1, s.Sealed, s.To), (linV s.Kind s.L.l o).2)
  else if s.Kind = 4 then (((stoV s.L.l o).1, s.Sealed, s.To), (stoV s.L.l o).2) else (((ledV s.L.l o).1, s.Sealed, s.To), (ledV s.L.l o).2))
 else ((s.L.l, s.Sealed, s.To), 0)
def wS (s : zjq) (z : Bool) (l : List Int) : zjq := ⟨s.Kind, ⟨z, l⟩, s.Sealed, s.To⟩
/-- A function comes to a list and a number. -/
def Comes (f : Nat → zjq → zju → Option (zjq × Int)) (s : zjq) (o : zju) (r : List Int × Int) : Prop := ∃ z, (z = true → r.1 = []) ∧ Ev (fun q => f q s o) (wS s z r.1, r.2)
theorem zbfa (s : zjq) (hz : s.L.z = true → s.L.l = []) (h1 : s.L.l.length = 1) (o : zju) : Comes zld s o (numV s.Kind s.L.l o) := by
 obtain ⟨n, hn⟩ : ∃ n, s.L.l = [n] := List.length_eq_one_iff.1 h1
 have hg : s.L.l[0]? = some n := by rw [hn]; rfl
 have hh : s.L.l.headD 0 = n := by rw [hn]; rfl
 unfold Comes numV
 rw [hh]
 by_cases c7 : o.Code = 7
 ·rw [if_pos c7]
  exact ⟨s.L.z, hz, Ev.succ (Ev.opt hg (Ev.pos c7 (Ev.ret _))) (fun q => rfl)⟩
 ·rw [if_neg c7]
  by_cases k0 : s.Kind = 0
  ·by_cases c1 : o.Code = 1
   ·rw [if_pos ⟨k0, c1⟩]
    refine ⟨false, fun h => (by cases h), Ev.succ (Ev.opt hg (Ev.neg c7 (Ev.pos k0 (Ev.pos c1 (Ev.bind (zbcy _) ?_))))) (fun q => rfl)⟩
    exact Ev.bind (zbcy (wrp .i64 (n + cutI o.A))) (Ev.ret' rfl)
   ·rw [if_neg (fun h => c1 h.2), if_neg (fun h => by omega)]
    exact ⟨s.L.z, hz, Ev.succ (Ev.opt hg (Ev.neg c7 (Ev.pos k0 (Ev.neg c1 (Ev.ne (Ev.ret _)))))) (fun q => rfl)⟩
  ·rw [if_neg (fun h => k0 h.1)]
   by_cases k1 : s.Kind = 1
   ·by_cases c2 : o.Code = 2
    ·rw [if_pos ⟨k1, c2⟩]
     refine ⟨false, fun h => (by cases h), Ev.succ (Ev.opt hg (Ev.neg c7 (Ev.neg k0 (Ev.pos k1 (Ev.pos c2 ?_))))) (fun q => rfl)⟩
     exact Ev.bind (zbcy o.A) (Ev.ret' rfl)
    ·rw [if_neg (fun h => c2 h.2)]
     exact ⟨s.L.z, hz, Ev.succ (Ev.opt hg (Ev.neg c7 (Ev.neg k0 (Ev.pos k1 (Ev.neg c2 (Ev.ret _)))))) (fun q => rfl)⟩
   ·rw [if_neg (fun h => k1 h.1)]
    exact ⟨s.L.z, hz, Ev.succ (Ev.opt hg (Ev.neg c7 (Ev.neg k0 (Ev.neg k1 (Ev.ret _))))) (fun q => rfl)⟩
theorem zbfb (s : zjq) (hz : s.L.z = true → s.L.l = []) (hL : s.L.l.length ≤ 1000000) (o : zju) : Comes zlf s o (linV s.Kind s.L.l o) := by
 unfold Comes linV
 by_cases c7 : o.Code = 7
 ·rw [if_pos c7]
  exact ⟨s.L.z, hz, Ev.succ (Ev.pos c7 (Ev.ret _)) (fun q => rfl)⟩
 ·rw [if_neg c7]
  by_cases c3 : o.Code = 3
  ·rw [if_pos c3]
   by_cases d : (s.L.l.length : Int) < 64
   ·rw [if_pos d]
    obtain ⟨z, hC⟩ := zbd1 s.L hz (by omega)
    refine ⟨false, fun h => (by cases h), Ev.succ (Ev.neg c7 (Ev.pos c3 (Ev.pos d (Ev.bind hC (Ev.bind (zbcy _) (Ev.pos (by simp only; omega) ?_)))))) (fun q => rfl)⟩
    exact Ev.ret' (by rw [zbcu (by omega) (by omega)]; rfl)
   ·rw [if_neg d]
    exact ⟨s.L.z, hz, Ev.succ (Ev.neg c7 (Ev.pos c3 (Ev.neg d (Ev.ret _)))) (fun q => rfl)⟩
  ·rw [if_neg c3]
   by_cases c4 : o.Code = 4
   ·rw [if_pos c4]
    by_cases d : (s.L.l.length : Int) = 0
    ·rw [if_pos d]
     exact ⟨s.L.z, hz, Ev.succ (Ev.neg c7 (Ev.neg c3 (Ev.pos c4 (Ev.pos d (Ev.ret _))))) (fun q => rfl)⟩
    ·rw [if_neg d]
     have hs : s.L.z = false := by
      by_cases e : s.L.z = true
      ·rw [hz e] at d; simp at d
      ·simpa using e
     have hC := zbc5 s.L hs (by omega)
     by_cases k2 : s.Kind = 2
     ·rw [if_pos k2]
      have hg : s.L.l[0]? = some (s.L.l.headD 0) := by
       cases hl : s.L.l with
       | nil => rw [hl] at d; simp at d
       | cons a t => rfl
      have hD := zbe4 (l := s.L.l) (i := 0) (j := wrp .i64 1) (by omega) (by rw [zbcu (by omega) (by omega)]; omega) (by rw [zbcu (by omega) (by omega)]; omega) hL
      refine ⟨false, fun h => (by cases h), Ev.succ (Ev.neg c7 (Ev.neg c3 (Ev.pos c4 (Ev.neg d (Ev.pos k2 (Ev.opt hg (Ev.bind hC ?_))))))) (fun q => rfl)⟩
      exact Ev.bind hD (Ev.ret' (by rw [zbcu (by omega) (by omega)]; rfl))
     ·rw [if_neg k2]
      have w1 : wrp .i64 ((s.L.l.length : Int) - 1) = ((s.L.l.length - 1 : Nat) : Int) := by rw [zbcu (by omega) (by omega)]; omega
      have hg : s.L.l[s.L.l.length - 1]? = some ((s.L.l[s.L.l.length - 1]?).getD 0) := by
       rw [y8 (by omega)]; rfl
      have w2 : wrp .i64 (((s.L.l.length - 1 : Nat) : Int) + 1) = (s.L.l.length : Int) := by rw [zbcu (by omega) (by omega)]; omega
      have hD := zbe4 (l := s.L.l) (i := ((s.L.l.length - 1 : Nat) : Int)) (j := (s.L.l.length : Int)) (by omega) (by omega) (by omega) hL
      refine ⟨false, fun h => (by cases h), Ev.succ (Ev.neg c7 (Ev.neg c3 (Ev.pos c4 (Ev.neg d (Ev.neg k2 ?_))))) (fun q => rfl)⟩
      rw [w1, w2]
      refine Ev.po (Ev.opt (by rw [y28]; exact hg) (Ev.bind hC ?_))
      exact Ev.bind hD (Ev.ret' (by rw [y28, y28, List.drop_length, List.append_nil]; rfl))
   ·rw [if_neg c4]
    exact ⟨s.L.z, hz, Ev.succ (Ev.neg c7 (Ev.neg c3 (Ev.neg c4 (Ev.ret _)))) (fun q => rfl)⟩
theorem zbfc (s : zjq) (hz : s.L.z = true → s.L.l = []) (hL : s.L.l.length ≤ 1000000) (h2 : s.L.l.length % 2 = 0) (o : zju) : Comes zll s o (stoV s.L.l o) := by
 have hH := has_ev s.L o.A hL h2
 have hF := zbe9 s.L o.A hL h2
 have hp := zbe6 o.A s.L.l h2
 have hP := put_ev s.L hz o.A (cutI o.B) hL h2
 -- what is done where the operation is to put
 have put : ∀ {K : Nat → Option (zjq × Int)}, K = (fun q => (zjx q o.B).bind fun r5 => ((zlk q s.L o.A r5).bind fun r6 => (if r6.2 = true then (some ((⟨s.Kind, r6.1, s.Sealed, s.To⟩ : zjq), hasL o.A s.L.l)) else (some (s, (-2)))))) →
   ∃ z, (z = true → (if putOk o.A s.L.l = true then (putL o.A (cutI o.B) s.L.l, hasL o.A s.L.l) else (s.L.l, -2)).1 = []) ∧ Ev K (wS s z (if putOk o.A s.L.l = true then (putL o.A (cutI o.B) s.L.l, hasL o.A s.L.l) else (s.L.l, -2)).1, (if putOk o.A s.L.l = true then (putL o.A (cutI o.B) s.L.l, hasL o.A s.L.l) else (s.L.l, -2)).2) := by
  rintro K rfl
  by_cases c : putOk o.A s.L.l = true
  ·rw [if_pos c] at hP ⊢
   refine ⟨false, fun h => (by cases h), Ev.bind (zbcy _) (Ev.bind hP (Ev.pos rfl ?_))⟩
   exact Ev.ret' rfl
  ·rw [if_neg c] at hP ⊢
   refine ⟨s.L.z, hz, Ev.bind (zbcy _) (Ev.bind hP (Ev.neg (by simp) ?_))⟩
   exact Ev.ret' rfl
 have del : isL o.A s.L.l = true → ∀ {K : Nat → Option (zjq × Int)}, K = (fun q => (zkf q s.L).bind fun r3 => ((zle q r3 (findN o.A s.L.l : Int) (wrp .i64 ((findN o.A s.L.l : Int) + 2))).bind fun r4 => (some ((⟨s.Kind, ⟨r4.n, r4.xs⟩, s.Sealed, s.To⟩ : zjq), hasL o.A s.L.l)))) →
   Ev K (wS s false (delL o.A s.L.l), hasL o.A s.L.l) := by
  intro c K hK
  subst hK
  have h1 := hp.2.1 c
  have hs : s.L.z = false := by
   by_cases e : s.L.z = true
   ·rw [hz e] at h1; simp at h1
   ·simpa using e
  have w : wrp .i64 ((findN o.A s.L.l : Int) + 2) = ((findN o.A s.L.l + 2 : Nat) : Int) := by rw [zbcu (by omega) (by omega)]; omega
  have hD := zbe4 (l := s.L.l) (i := (findN o.A s.L.l : Int)) (j := ((findN o.A s.L.l + 2 : Nat) : Int)) (by omega) (by omega) (by omega) hL
  rw [y28, y28, del_is o.A s.L.l h2 c] at hD
  rw [w]
  refine Ev.bind (zbc5 s.L hs (by omega)) ?_
  exact Ev.bind hD (Ev.ret' rfl)
 unfold Comes stoV
 by_cases c7 : o.Code = 7
 ·rw [if_pos (.inl c7)]
  by_cases a0 : o.A < 0
  ·rw [if_pos (.inl a0)]
   exact ⟨s.L.z, hz, Ev.succ (Ev.pos c7 (Ev.pos a0 (Ev.ret _))) (fun q => rfl)⟩
  ·by_cases a1 : 255 < o.A
   ·rw [if_pos (.inr a1)]
    exact ⟨s.L.z, hz, Ev.succ (Ev.pos c7 (Ev.neg a0 (Ev.pos a1 (Ev.ret _)))) (fun q => rfl)⟩
   ·rw [if_neg (by omega), if_neg (fun h => by omega), if_neg (by omega)]
    refine ⟨s.L.z, hz, Ev.succ (Ev.pos c7 (Ev.neg a0 (Ev.neg a1 (Ev.bind hH (Ev.bind hF (Ev.ne (Ev.neg (by omega) ?_))))))) (fun q => rfl)⟩
    exact Ev.ret' rfl
 ·by_cases c6 : o.Code = 6
  ·rw [if_pos (.inr (.inl c6))]
   by_cases a0 : o.A < 0
   ·rw [if_pos (.inl a0)]
    exact ⟨s.L.z, hz, Ev.succ (Ev.neg c7 (Ev.pos c6 (Ev.pos a0 (Ev.ret _)))) (fun q => rfl)⟩
   ·by_cases a1 : 255 < o.A
    ·rw [if_pos (.inr a1)]
     exact ⟨s.L.z, hz, Ev.succ (Ev.neg c7 (Ev.pos c6 (Ev.neg a0 (Ev.pos a1 (Ev.ret _))))) (fun q => rfl)⟩
    ·rw [if_neg (show ¬ (o.A < 0 ∨ 255 < o.A) by omega)]
     by_cases d : isL o.A s.L.l = true
     ·rw [if_pos ⟨c6, d⟩]
      refine ⟨false, fun h => (by cases h), Ev.succ (Ev.neg c7 (Ev.pos c6 (Ev.neg a0 (Ev.neg a1 (Ev.bind hH (Ev.bind hF (Ev.pos d ?_))))))) (fun q => rfl)⟩
      exact del d rfl
     ·rw [if_neg (fun h => d h.2), if_neg (by omega)]
      refine ⟨s.L.z, hz, Ev.succ (Ev.neg c7 (Ev.pos c6 (Ev.neg a0 (Ev.neg a1 (Ev.bind hH (Ev.bind hF (Ev.neg d (Ev.neg (by omega) ?_)))))))) (fun q => rfl)⟩
      exact Ev.ret' rfl
  ·by_cases c5 : o.Code = 5
   ·rw [if_pos (.inr (.inr c5))]
    by_cases a0 : o.A < 0
    ·rw [if_pos (.inl a0)]
     exact ⟨s.L.z, hz, Ev.succ (Ev.neg c7 (Ev.neg c6 (Ev.pos c5 (Ev.pos a0 (Ev.ret _))))) (fun q => rfl)⟩
    ·by_cases a1 : 255 < o.A
     ·rw [if_pos (.inr a1)]
      exact ⟨s.L.z, hz, Ev.succ (Ev.neg c7 (Ev.neg c6 (Ev.pos c5 (Ev.neg a0 (Ev.pos a1 (Ev.ret _)))))) (fun q => rfl)⟩
     ·rw [if_neg (show ¬ (o.A < 0 ∨ 255 < o.A) by omega), if_neg (fun h => by omega), if_pos c5]
      obtain ⟨z, h3, h4⟩ := put rfl
      refine ⟨z, h3, Ev.succ (Ev.neg c7 (Ev.neg c6 (Ev.pos c5 (Ev.neg a0 (Ev.neg a1 (Ev.bind hH (Ev.bind hF ?_))))))) (fun q => rfl)⟩
      exact h4
   ·rw [if_neg (by omega)]
    exact ⟨s.L.z, hz, Ev.succ (Ev.neg c7 (Ev.neg c6 (Ev.neg c5 (Ev.ret _)))) (fun q => rfl)⟩
theorem zbfd (s : zjq) (hz : s.L.z = true → s.L.l = []) (hL : s.L.l.length ≤ 900000) (h2 : s.L.l.length % 2 = 0) (o : zju) : Comes zlm s o (movV s.L.l o) := by
 unfold Comes movV
 by_cases a0 : o.A < 0
 ·rw [if_pos (.inl a0)]
  exact ⟨s.L.z, hz, Ev.succ (Ev.pos a0 (Ev.ret _)) (fun q => rfl)⟩
 by_cases a1 : 65536 ≤ o.A
 ·rw [if_pos (.inr (.inl a1))]
  exact ⟨s.L.z, hz, Ev.succ (Ev.neg a0 (Ev.pos a1 (Ev.ret _))) (fun q => rfl)⟩
 by_cases b0 : o.B < 0
 ·rw [if_pos (.inr (.inr b0))]
  exact ⟨s.L.z, hz, Ev.succ (Ev.neg a0 (Ev.neg a1 (Ev.pos b0 (Ev.ret _)))) (fun q => rfl)⟩
 rw [if_neg (show ¬ (o.A < 0 ∨ 65536 ≤ o.A ∨ o.B < 0) by omega)]
 generalize hf : wrp .i64 (Int.tdiv o.A 256) = f
 generalize ht : Int.tmod o.A 256 = t
 have start : ∀ {r : zjq × Int}, Ev (fun q => (if hasL f s.L.l < o.B then (some (s, 0)) else (if f = t then (some (s, 1)) else ((zlk q s.L t (wrp .i64 (nz (hasL t s.L.l) + o.B))).bind fun r3 => (if r3.2 = true then (if 1099511627776 < (wrp .i64 (nz (hasL t s.L.l) + o.B)) then (some (s, 0)) else ((zlk q r3.1 f (wrp .i64 (hasL f s.L.l - o.B))).bind fun r4 => (some ((⟨s.Kind, r4.1, s.Sealed, s.To⟩ : zjq), 1)))) else (some (s, 0))))))) r → Ev (fun q => zlm q s o) r := fun h => by
  have hf' := has_ev s.L f (by omega) h2
  have ht' := has_ev s.L t (by omega) h2
  subst hf; subst ht
  refine Ev.succ (Ev.neg a0 (Ev.neg a1 (Ev.neg b0 (Ev.bind hf' (Ev.bind ht' ?_))))) (fun q => rfl)
  exact h
 by_cases c1 : hasL f s.L.l < o.B
 ·rw [if_pos c1]
  exact ⟨s.L.z, hz, start (Ev.pos c1 (Ev.ret _))⟩
 rw [if_neg c1]
 by_cases c2 : f = t
 ·rw [if_pos c2]
  exact ⟨s.L.z, hz, start (Ev.neg c1 (Ev.pos c2 (Ev.ret _)))⟩
 rw [if_neg c2]
 have hP := put_ev s.L hz t (wrp .i64 (nz (hasL t s.L.l) + o.B)) (by omega) h2
 generalize wrp .i64 (nz (hasL t s.L.l) + o.B) = n at hP start ⊢
 by_cases c3 : putOk t s.L.l = true
 ·rw [if_pos c3] at hP ⊢
  by_cases c4 : 1099511627776 < n
  ·rw [if_pos c4]
   refine ⟨s.L.z, hz, start (Ev.neg c1 (Ev.neg c2 (Ev.bind hP (Ev.pos rfl (Ev.pos c4 ?_)))))⟩
   exact Ev.ret _
  ·rw [if_neg c4]
   have hl := zbe7 t n s.L.l h2
   have he : (putL t n s.L.l).length % 2 = 0 := by rw [hl]; split <;> omega
   have hl2 : (putL t n s.L.l).length ≤ 1000000 := by rw [hl]; split <;> omega
   have hQ := put_ev ⟨false, putL t n s.L.l⟩ (fun h => by cases h) f (wrp .i64 (hasL f s.L.l - o.B)) hl2 he
   simp only at hQ
   by_cases c5 : putOk f (putL t n s.L.l) = true
   ·rw [if_pos c5] at hQ ⊢
    refine ⟨false, fun h => (by cases h), start (Ev.neg c1 (Ev.neg c2 (Ev.bind hP (Ev.pos rfl (Ev.neg c4 ?_)))))⟩
    exact Ev.bind hQ (Ev.ret' rfl)
   ·rw [if_neg c5] at hQ ⊢
    refine ⟨false, fun h => (by cases h), start (Ev.neg c1 (Ev.neg c2 (Ev.bind hP (Ev.pos rfl (Ev.neg c4 ?_)))))⟩
    exact Ev.bind hQ (Ev.ret' rfl)
 ·rw [if_neg c3] at hP ⊢
  refine ⟨s.L.z, hz, start (Ev.neg c1 (Ev.neg c2 (Ev.bind hP (Ev.neg (by simp) ?_))))⟩
  exact Ev.ret _
theorem zbfe (s : zjq) (hz : s.L.z = true → s.L.l = []) (hL : s.L.l.length ≤ 900000) (h2 : s.L.l.length % 2 = 0) (o : zju) : Comes zln s o (ledV s.L.l o) := by
 unfold ledV
 by_cases c9 : o.Code = 9
 ·rw [if_pos c9]
  obtain ⟨z, h1, h3⟩ := zbfd s hz hL h2 o
  refine ⟨z, h1, Ev.succ (Ev.pos c9 (Ev.bind h3 ?_)) (fun q => rfl)⟩
  exact Ev.ret' rfl
 unfold Comes
 rw [if_neg c9]
 have hH := has_ev s.L o.A (by omega) h2
 by_cases c7 : o.Code = 7
 ·rw [if_pos c7]
  by_cases a0 : o.A < 0
  ·rw [if_pos (.inl a0)]
   exact ⟨s.L.z, hz, Ev.succ (Ev.neg c9 (Ev.pos c7 (Ev.pos a0 (Ev.ret _)))) (fun q => rfl)⟩
  ·by_cases a1 : 255 < o.A
   ·rw [if_pos (.inr a1)]
    exact ⟨s.L.z, hz, Ev.succ (Ev.neg c9 (Ev.pos c7 (Ev.neg a0 (Ev.pos a1 (Ev.ret _))))) (fun q => rfl)⟩
   ·rw [if_neg (by omega)]
    refine ⟨s.L.z, hz, Ev.succ (Ev.neg c9 (Ev.pos c7 (Ev.neg a0 (Ev.neg a1 (Ev.bind hH ?_))))) (fun q => rfl)⟩
    exact Ev.ret' rfl
 ·rw [if_neg c7]
  by_cases c8 : o.Code = 8
  ·rw [if_pos c8]
   by_cases a0 : o.A < 0
   ·rw [if_pos (.inl a0)]
    exact ⟨s.L.z, hz, Ev.succ (Ev.neg c9 (Ev.neg c7 (Ev.pos c8 (Ev.pos a0 (Ev.ret _))))) (fun q => rfl)⟩
   ·by_cases a1 : 255 < o.A
    ·rw [if_pos (.inr (.inl a1))]
     exact ⟨s.L.z, hz, Ev.succ (Ev.neg c9 (Ev.neg c7 (Ev.pos c8 (Ev.neg a0 (Ev.pos a1 (Ev.ret _)))))) (fun q => rfl)⟩
    ·by_cases b0 : o.B < 0
     ·rw [if_pos (.inr (.inr b0))]
      exact ⟨s.L.z, hz, Ev.succ (Ev.neg c9 (Ev.neg c7 (Ev.pos c8 (Ev.neg a0 (Ev.neg a1 (Ev.pos b0 (Ev.ret _))))))) (fun q => rfl)⟩
     ·rw [if_neg (show ¬ (o.A < 0 ∨ 255 < o.A ∨ o.B < 0) by omega)]
      have hP := put_ev s.L hz o.A (cutI (wrp .i64 (nz (hasL o.A s.L.l) + cutI o.B))) (by omega) h2
      by_cases d : putOk o.A s.L.l = true
      ·rw [if_pos d] at hP ⊢
       refine ⟨false, fun h => (by cases h), Ev.succ (Ev.neg c9 (Ev.neg c7 (Ev.pos c8 (Ev.neg a0 (Ev.neg a1 (Ev.neg b0 (Ev.bind hH (Ev.bind (zbcy o.B) (Ev.bind (zbcy _) ?_))))))))) (fun q => rfl)⟩
       refine Ev.bind hP (Ev.pos rfl ?_)
       exact Ev.ret' rfl
      ·rw [if_neg d] at hP ⊢
       refine ⟨s.L.z, hz, Ev.succ (Ev.neg c9 (Ev.neg c7 (Ev.pos c8 (Ev.neg a0 (Ev.neg a1 (Ev.neg b0 (Ev.bind hH (Ev.bind (zbcy o.B) (Ev.bind (zbcy _) ?_))))))))) (fun q => rfl)⟩
       refine Ev.bind hP (Ev.neg (by simp) ?_)
       exact Ev.ret' rfl
  ·rw [if_neg c8]
   exact ⟨s.L.z, hz, Ev.succ (Ev.neg c9 (Ev.neg c7 (Ev.neg c8 (Ev.ret _)))) (fun q => rfl)⟩
theorem zbff {k : Int} {l : List Int} (h : kindOk k l = true) (h0 : ¬ (k = 0 ∨ k = 1)) (h2 : ¬ (k = 2 ∨ k = 3)) : l.length % 2 = 0 := by
 unfold kindOk at h
 rw [if_neg h0, if_neg h2] at h
 split at h
 ·simp only [pairsOk, y7, decide_eq_true_eq] at h; exact h.2.1
 ·split at h
  ·simp only [pairsOk, y7, decide_eq_true_eq] at h; exact h.2.1
  ·cases h
theorem zbfg {k : Int} {l : List Int} (h : kindOk k l = true) (h0 : k = 0 ∨ k = 1) : l.length = 1 := by
 unfold kindOk at h
 rw [if_pos h0, decide_eq_true_eq] at h; exact h.1
def stV (s : zjq) (z : Bool) (r : (List Int × Bool × Int) × Int) : zjq × Int := (⟨s.Kind, ⟨z, r.1.1⟩, r.1.2.1, r.1.2.2⟩, r.2)
theorem zbfh (s : zjq) (hz : s.L.z = true → s.L.l = []) (hL : s.L.l.length ≤ 900000) (o : zju) : ∃ z, (z = true → (stepV s o).1.1 = []) ∧ Ev (fun q => zlo q s o) (stV s z (stepV s o)) := by
 have hM := zbdc s (by omega)
 unfold stepV stV
 by_cases m : mayS s = true
 ·rw [if_pos m]
  rw [m] at hM
  have hk := (zbd9 m).2.2.2
  by_cases hs : s.Sealed = true
  ·rw [if_pos hs]
   exact ⟨s.L.z, hz, Ev.succ (Ev.bind hM (Ev.pos rfl (Ev.pos hs (Ev.ret _)))) (fun q => rfl)⟩
  rw [if_neg hs]
  by_cases c : o.Code = 10
  ·rw [if_pos c]
   refine ⟨s.L.z, hz, Ev.succ (Ev.bind hM (Ev.pos rfl (Ev.neg hs (Ev.pos c (Ev.ite (fun a0 => Ev.ite (fun a1 => Ev.ret' ?_) fun a1 => Ev.ret' ?_) fun a0 => Ev.ret' ?_))))) (fun q => rfl)⟩
   ·rw [if_pos ⟨a0, a1⟩]
   ·rw [if_neg (fun h => a1 h.2)]
   ·rw [if_neg (fun h => a0 h.1)]
  rw [if_neg c]
  by_cases k0 : s.Kind = 0
  ·obtain ⟨z, h1, h3⟩ := zbfa s hz (zbfg hk (.inl k0)) o
   rw [if_pos (show s.Kind = 0 ∨ s.Kind = 1 from .inl k0)]
   refine ⟨z, h1, Ev.succ (Ev.bind hM (Ev.pos rfl (Ev.neg hs (Ev.neg c (Ev.pos k0 (Ev.bind h3 ?_)))))) (fun q => rfl)⟩
   exact Ev.ret' rfl
  by_cases k1 : s.Kind = 1
  ·obtain ⟨z, h1, h3⟩ := zbfa s hz (zbfg hk (.inr k1)) o
   rw [if_pos (show s.Kind = 0 ∨ s.Kind = 1 from .inr k1)]
   refine ⟨z, h1, Ev.succ (Ev.bind hM (Ev.pos rfl (Ev.neg hs (Ev.neg c (Ev.neg k0 (Ev.pos k1 (Ev.bind h3 ?_))))))) (fun q => rfl)⟩
   exact Ev.ret' rfl
  rw [if_neg (show ¬ (s.Kind = 0 ∨ s.Kind = 1) by omega)]
  by_cases k2 : s.Kind = 2
  ·obtain ⟨z, h1, h3⟩ := zbfb s hz (by omega) o
   rw [if_pos (show s.Kind = 2 ∨ s.Kind = 3 from .inl k2)]
   refine ⟨z, h1, Ev.succ (Ev.bind hM (Ev.pos rfl (Ev.neg hs (Ev.neg c (Ev.neg k0 (Ev.neg k1 (Ev.pos k2 (Ev.bind h3 ?_)))))))) (fun q => rfl)⟩
   exact Ev.ret' rfl
  by_cases k3 : s.Kind = 3
  ·obtain ⟨z, h1, h3⟩ := zbfb s hz (by omega) o
   rw [if_pos (show s.Kind = 2 ∨ s.Kind = 3 from .inr k3)]
   refine ⟨z, h1, Ev.succ (Ev.bind hM (Ev.pos rfl (Ev.neg hs (Ev.neg c (Ev.neg k0 (Ev.neg k1 (Ev.neg k2 (Ev.pos k3 (Ev.bind h3 ?_))))))))) (fun q => rfl)⟩
   exact Ev.ret' rfl
  rw [if_neg (show ¬ (s.Kind = 2 ∨ s.Kind = 3) by omega)]
  have h2 := zbff hk (by omega) (by omega)
  by_cases k4 : s.Kind = 4
  ·obtain ⟨z, h1, h3⟩ := zbfc s hz (by omega) h2 o
   rw [if_pos k4]
   refine ⟨z, h1, Ev.succ (Ev.bind hM (Ev.pos rfl (Ev.neg hs (Ev.neg c (Ev.neg k0 (Ev.neg k1 (Ev.neg k2 (Ev.neg k3 (Ev.pos k4 (Ev.bind h3 ?_)))))))))) (fun q => rfl)⟩
   exact Ev.ret' rfl
  ·obtain ⟨z, h1, h3⟩ := zbfe s hz hL h2 o
   rw [if_neg k4]
   refine ⟨z, h1, Ev.succ (Ev.bind hM (Ev.pos rfl (Ev.neg hs (Ev.neg c (Ev.neg k0 (Ev.neg k1 (Ev.neg k2 (Ev.neg k3 (Ev.neg k4 (Ev.bind h3 ?_)))))))))) (fun q => rfl)⟩
   exact Ev.ret' rfl
 ·rw [if_neg m]
  rw [show mayS s = false by simpa using m] at hM
  exact ⟨s.L.z, hz, Ev.succ (Ev.bind hM (Ev.neg (by simp) (Ev.ret _))) (fun q => rfl)⟩
theorem zbfi (key n : Int) : ∀ l : List Int, (putL key n l).length ≤ l.length + 2
 | [] => by simp [putL]
 | [a] => by simp [putL]
 | a :: b :: l => by
  have := zbfi key n l
  simp only [putL]
  split
  ·simp only [y22]; omega
  ·split <;> simp only [y22] <;> omega
theorem zbfj (key : Int) : ∀ l : List Int, (delL key l).length ≤ l.length
 | [] => by simp [delL]
 | [a] => by simp [delL]
 | a :: b :: l => by
  have := zbfj key l
  simp only [delL]
  split
  ·simp only [y22]; omega
  ·split <;> simp only [y22] <;> omega
theorem zbfk (k : Int) (l : List Int) (o : zju) : (numV k l o).1.length ≤ l.length + 4 := by
 unfold numV; split <;> (try split) <;> (try split) <;> simp only [List.length_singleton] <;> omega
theorem zbfl (k : Int) (l : List Int) (o : zju) : (linV k l o).1.length ≤ l.length + 4 := by
 unfold linV
 split
 ·simp only; omega
 ·split
  ·split <;> simp only [y11, List.length_singleton] <;> omega
  ·split
   ·split
    ·simp only; omega
    ·split <;> simp only [y14, y21] <;> omega
   ·simp only; omega
theorem zbfm (l : List Int) (o : zju) : (stoV l o).1.length ≤ l.length + 4 := by
 have h1 := zbfi o.A (cutI o.B) l
 have h2 := zbfj o.A l
 unfold stoV
 split
 ·split
  ·simp only; omega
  ·split
   ·simp only; omega
   ·split
    ·split <;> simp only <;> omega
    ·simp only; omega
 ·simp only; omega
theorem zbfn (l : List Int) (o : zju) : (movV l o).1.length ≤ l.length + 4 := by
 unfold movV
 generalize wrp .i64 (Int.tdiv o.A 256) = f
 generalize Int.tmod o.A 256 = t
 have h1 := zbfi t (wrp .i64 (nz (hasL t l) + o.B)) l
 have h2 := zbfi f (wrp .i64 (hasL f l - o.B)) (putL t (wrp .i64 (nz (hasL t l) + o.B)) l)
 split
 ·simp only; omega
 ·split
  ·simp only; omega
  ·split
   ·simp only; omega
   ·split
    ·split
     ·simp only; omega
     ·split <;> simp only <;> omega
    ·simp only; omega
theorem zbfo (l : List Int) (o : zju) : (ledV l o).1.length ≤ l.length + 4 := by
 have h0 := zbfn l o
 have h1 := zbfi o.A (cutI (wrp .i64 (nz (hasL o.A l) + cutI o.B))) l
 unfold ledV
 split
 ·exact h0
 ·split
  ·split <;> simp only <;> omega
  ·split
   ·split
    ·simp only; omega
    ·split <;> simp only <;> omega
   ·simp only; omega
theorem zbfp (s : zjq) (o : zju) : (stepV s o).1.1.length ≤ s.L.l.length + 4 := by
 unfold stepV
 split
 ·split
  ·simp only; omega
  ·split
   ·simp only; omega
   ·split
    ·exact zbfk _ _ _
    ·split
     ·exact zbfl _ _ _
     ·split
      ·exact zbfm _ _
      ·exact zbfo _ _
 ·simp only; omega
def nextS (s : zjq) (o : zju) : zjq := ⟨s.Kind, ⟨false, (stepV s o).1.1⟩, (stepV s o).1.2.1, (stepV s o).1.2.2⟩
def setZ (z z' : Bool) (x : zjs) : zjs := ⟨x.Index, ⟨x.State.Kind, ⟨z, x.State.L.l⟩, x.State.Sealed, x.State.To⟩, ⟨z', x.Table.l⟩⟩
def noTN : zjs := ⟨0, ⟨0, ⟨false, []⟩, false, 0⟩, ⟨false, []⟩⟩
def nextN (s : zjs) (r : zjv) : zjs := ⟨wrp .i64 (s.Index + 1), nextS s.State r.Op, ⟨false, noteL s.Table.l r.Proc r.Seq (stepV s.State r.Op).2⟩⟩
/-- A snapshot behind records. -/
def takeV : zjs → List zjv → zjs × Int
 | s, [] => (setZ false false s, 0)
 | s, r :: l => if r.Index = s.Index then (if FitsR r then takeV (nextN s r) l else (noTN, 1)) else (noTN, 15)
theorem zbfq (z z' : Bool) (s : zjs) (l : List zjv) : takeV (setZ z z' s) l = takeV s l := by
 cases l <;> rfl
theorem zbfr (s : zjs) (r : zjv) (l : List zjv) : takeV s (r :: l) = if r.Index = s.Index then (if FitsR r then takeV (nextN s r) l else (noTN, 1)) else (noTN, 15) := rfl
theorem zbfs {s : zjs} {r : zjv} {l : List zjv} (h : (takeV s (r :: l)).2 = 0) : r.Index = s.Index ∧ FitsR r ∧ takeV s (r :: l) = takeV (nextN s r) l := by
 rw [zbfr] at h ⊢
 split at h
 ·rename_i c
  split at h
  ·rename_i d; exact ⟨c, d, by rw [if_pos c, if_pos d]⟩
  ·cases h
 ·cases h
def zOk (z z' : Bool) (x : zjs) : Prop := (z = true → x.State.L.l = []) ∧ (z' = true → x.Table.l = [])
theorem zbft (zz : Bool) (L : List zjv) (hL : L.length ≤ 1000) : ∀ (k i : Nat) (s : zjs), L.length = i + k → zOk s.State.L.z s.Table.z s → s.State.L.l.length + 4 * k ≤ 900000 → s.Table.l.length + k ≤ 900000 →
  ∃ z z', zOk z z' (takeV s (L.drop i)).1 ∧ Ev (fun q => zlp q zz L (L.length : Int) (i : Int) s.Index s.State.Kind s.State.L.z s.State.L.l s.State.Sealed s.State.To s.Table.z s.Table.l true) (setZ z z' (takeV s (L.drop i)).1, (takeV s (L.drop i)).2)
 | 0, i, s, hk, hz, h1, h2 => by
  rw [y13 (by omega)]
  exact ⟨s.State.L.z, s.Table.z, hz, Ev.succ (Ev.ne (Ev.ret _)) (fun q => rfl)⟩
 | k + 1, i, s, hk, hz, h1, h2 => by
  have hi : i < L.length := by omega
  have he : L[((i : Int)).toNat]? = some L[i] := by simp [hi]
  rw [y10 hi]
  simp only [takeV]
  have w : wrp .i64 ((i : Int) + 1) = ((i + 1 : Nat) : Int) := by rw [zbcu (by omega) (by omega)]; omega
  by_cases c : L[i].Index = s.Index
  ·rw [if_pos c]
   by_cases d : FitsR L[i]
   ·rw [if_pos d]
    obtain ⟨z, hz1, hS⟩ := zbfh s.State hz.1 (by omega) L[i].Op
    have hN := zbe3 s.Table hz.2 (by omega) ⟨L[i].Index, L[i].Proc, L[i].Seq, L[i].Op, (stepV s.State L[i].Op).2⟩
    have hl := zbfp s.State L[i].Op
    have hn := zbev s.Table.l L[i].Proc L[i].Seq (stepV s.State L[i].Op).2
    have key := zbfq z false (nextN s L[i]) (L.drop (i + 1))
    obtain ⟨y, y', hy, ih⟩ := zbft zz L hL k (i + 1) (setZ z false (nextN s L[i])) (by omega) ⟨hz1, fun h => by cases h⟩ (by simp only [setZ, nextN, nextS]; omega) (by simp only [setZ, nextN, nextS]; omega)
    rw [key] at hy ih
    rw [← w] at ih
    refine ⟨y, y', hy, Ev.succ (Ev.po (Ev.po (Ev.opt he (Ev.pos c (Ev.bind (zbc1 _) (Ev.pos (by simpa using d) (Ev.bind hS (Ev.bind hN ?_)))))))) (fun q => rfl)⟩
    exact ih
   ·rw [if_neg d]
    refine ⟨true, true, ⟨fun _ => rfl, fun _ => rfl⟩, Ev.succ (Ev.po (Ev.po (Ev.opt he (Ev.pos c (Ev.bind (zbc1 _) (Ev.neg (by simpa using d) ?_)))))) (fun q => rfl)⟩
    exact Ev.ret _
  ·rw [if_neg c]
   refine ⟨true, true, ⟨fun _ => rfl, fun _ => rfl⟩, Ev.succ (Ev.po (Ev.po (Ev.opt he (Ev.neg c ?_)))) (fun q => rfl)⟩
   exact Ev.ret _
theorem zbfu (s : zjs) (r : Sl zjv) (hr : r.l.length ≤ 1000) (hz : zOk s.State.L.z s.Table.z s) (h1 : s.State.L.l.length ≤ 800000) (h2 : s.Table.l.length ≤ 800000) :
  ∃ z z', zOk z z' (takeV s r.l).1 ∧ Ev (fun q => zlr q s r) (setZ z z' (takeV s r.l).1, (takeV s r.l).2) := by
 suffices h : ∃ z z', zOk z z' (takeV s r.l).1 ∧ Ev (fun q => zlq q r.z r.l (r.l.length : Int) s.Index s.State.Kind s.State.L.z s.State.L.l s.State.Sealed s.State.To s.Table.z s.Table.l) (setZ z z' (takeV s r.l).1, (takeV s r.l).2) by
  obtain ⟨z, z', h, h3⟩ := h
  exact ⟨z, z', h, Ev.succ h3 (fun q => rfl)⟩
 by_cases h0 : r.l.length = 0
 ·have hT : takeV s r.l = (setZ false false s, 0) := by rw [y35 h0]; rfl
  rw [hT]
  exact ⟨s.State.L.z, s.Table.z, hz, Ev.succ (Ev.ne (Ev.ret _)) (fun q => rfl)⟩
 ·have hi : 0 < r.l.length := by omega
  have he : r.l[0]? = some r.l[0] := y8 hi
  have hd : r.l = r.l[0] :: r.l.drop 1 := by
   have := y10 hi
   rwa [y38] at this
  have hT : takeV s r.l = if r.l[0].Index = s.Index then (if FitsR r.l[0] then takeV (nextN s r.l[0]) (r.l.drop 1) else (noTN, 1)) else (noTN, 15) := by
   have := congrArg (takeV s) hd
   exact this
  rw [hT]
  have w : wrp .i64 1 = ((1 : Nat) : Int) := by rw [zbcu (by omega) (by omega)]; rfl
  generalize r.l[0] = e at he hT ⊢
  by_cases c : e.Index = s.Index
  ·rw [if_pos c]
   by_cases d : FitsR e
   ·rw [if_pos d]
    obtain ⟨z, hz1, hS⟩ := zbfh s.State hz.1 (by omega) e.Op
    have hN := zbe3 s.Table hz.2 (by omega) ⟨e.Index, e.Proc, e.Seq, e.Op, (stepV s.State e.Op).2⟩
    have hl := zbfp s.State e.Op
    have hn := zbev s.Table.l e.Proc e.Seq (stepV s.State e.Op).2
    have key := zbfq z false (nextN s e) (r.l.drop 1)
    obtain ⟨y, y', hy, ih⟩ := zbft r.z r.l hr (r.l.length - 1) 1 (setZ z false (nextN s e)) (by omega) ⟨hz1, fun h => by cases h⟩ (by simp only [setZ, nextN, nextS]; omega) (by simp only [setZ, nextN, nextS]; omega)
    rw [key] at hy ih
    rw [← w] at ih
    refine ⟨y, y', hy, Ev.succ (Ev.po (Ev.opt he (Ev.pos c (Ev.bind (zbc1 _) (Ev.pos (by simpa using d) (Ev.bind hS (Ev.bind hN ?_))))))) (fun q => rfl)⟩
    exact ih
   ·rw [if_neg d]
    refine ⟨true, true, ⟨fun _ => rfl, fun _ => rfl⟩, Ev.succ (Ev.po (Ev.opt he (Ev.pos c (Ev.bind (zbc1 _) (Ev.neg (by simpa using d) ?_))))) (fun q => rfl)⟩
    exact Ev.ret _
  ·rw [if_neg c]
   refine ⟨true, true, ⟨fun _ => rfl, fun _ => rfl⟩, Ev.succ (Ev.po (Ev.opt he (Ev.neg c ?_))) (fun q => rfl)⟩
   exact Ev.ret _
theorem zbfv : ∀ (l : List zjv) (s : zjs), (takeV s l).1.State.L.l.length ≤ s.State.L.l.length + 4 * l.length ∧ (takeV s l).1.Table.l.length ≤ s.Table.l.length + l.length
 | [], s => by simp [takeV, setZ]
 | r :: l, s => by
  rw [zbfr]
  split
  ·split
   ·have h := zbfv l (nextN s r)
    have h1 := zbfp s.State r.Op
    have h2 := zbev s.Table.l r.Proc r.Seq (stepV s.State r.Op).2
    simp only [nextN, nextS, y22] at h ⊢
    omega
   ·simp [noTN]
  ·simp [noTN]
def foldV : zjq → List zju → zjq
 | s, [] => ⟨s.Kind, ⟨false, s.L.l⟩, s.Sealed, s.To⟩
 | s, o :: l => foldV (nextS s o) l
theorem zbfw : ∀ (l : List zjv) (s : zjs), (takeV s l).2 = 0 → (takeV s l).1.State = foldV s.State (l.map (·.Op)) ∧ (takeV s l).1.Index = s.Index + (l.length : Int) ∧ (l ≠ [] → 0 ≤ s.Index ∧ s.Index < 4611686018427387904)
 | [], s, h => ⟨rfl, by simp [takeV, setZ], fun e => absurd rfl e⟩
 | r :: l, s, h => by
  obtain ⟨c, d, e⟩ := zbfs h
  rw [e] at h ⊢
  obtain ⟨h1, h2, _⟩ := zbfw l (nextN s r) h
  have hb := d
  unfold FitsR at hb
  have hi : 0 ≤ s.Index ∧ s.Index < 4611686018427387904 := by omega
  refine ⟨h1, ?_, fun _ => hi⟩
  rw [h2, show (nextN s r).Index = wrp .i64 (s.Index + 1) from rfl, zbcu (by omega) (by omega), y22]; omega
theorem zbfx (a b c d : Bool) (x : zjs) : sameN (setZ a b x) (setZ c d x) = true := by simp [sameN, sameS, setZ]
def srt : Int → List zjr → Prop
 | _, [] => True
 | last, e :: t => last < e.Proc ∧ srt e.Proc t
def lk (p : Int) (l : List zjr) : Option zjr := l.find? fun e => decide (e.Proc = p)
theorem zbfy (p : Int) (e : zjr) (l : List zjr) : lk p (e :: l) = if e.Proc = p then some e else lk p l := by
 unfold lk; rw [List.find?_cons]; by_cases c : e.Proc = p <;> simp [c]
theorem zbfz : ∀ {l : List zjr} {a b : Int}, srt a l → b ≤ a → srt b l
 | [], _, _, _, _ => trivial
 | e :: l, a, b, h, hb => ⟨by have := h.1; omega, h.2⟩
theorem zbf0 : ∀ {l : List zjr} {a : Int}, tabB a l = true → srt a l
 | [], _, _ => trivial
 | e :: l, a, h => by
  simp only [tabB, y7, decide_eq_true_eq] at h
  exact ⟨h.2.1, zbf0 h.2.2⟩
theorem zbf1 : ∀ {l : List zjr} {a p : Int}, srt a l → p ≤ a → lk p l = none
 | [], _, _, _, _ => rfl
 | e :: l, a, p, h, hp => by
  rw [zbfy, if_neg (by have := h.1; omega)]
  exact zbf1 h.2 (by have := h.1; omega)
theorem zbf2 : ∀ {A B : List zjr} {a : Int}, srt a A → srt a B → (∀ p, lk p A = lk p B) → A = B
 | [], [], _, _, _, _ => rfl
 | [], b :: B, _, _, _, h => by have := h b.Proc; rw [zbfy, if_pos rfl] at this; cases this
 | a :: A, [], _, _, _, h => by have := h a.Proc; rw [zbfy, if_pos rfl] at this; cases this
 | a :: A, b :: B, _, hA, hB, h => by
  have ha := h a.Proc
  have hb := h b.Proc
  rw [zbfy, if_pos rfl, zbfy] at ha
  rw [zbfy, zbfy, if_pos (rfl : b.Proc = b.Proc)] at hb
  have e : a.Proc = b.Proc := by
   rcases Int.lt_trichotomy a.Proc b.Proc with c | c | c
   ·rw [if_neg (by omega), zbf1 hB.2 (by omega)] at ha; cases ha
   ·exact c
   ·rw [if_neg (by omega), zbf1 hA.2 (by omega)] at hb; cases hb
  rw [if_pos e.symm] at ha
  obtain rfl := Option.some.inj ha
  rw [zbf2 hA.2 hB.2 fun p => by
   have := h p
   rw [zbfy, zbfy] at this
   by_cases c : a.Proc = p
   ·rw [zbf1 hA.2 (by omega), zbf1 hB.2 (by omega)]
   ·rw [if_neg c, if_neg c] at this; exact this]
theorem zbf3 (p : Int) (e : zjr) (l : List zjr) : filP p (e :: l) = if e.Proc = p then filP p l else e :: filP p l := by
 unfold filP; rw [List.filter_cons]; by_cases c : e.Proc = p <;> simp [c]
theorem zbf4 (p : Int) : ∀ {l : List zjr} {a : Int}, srt a l → srt a (filP p l)
 | [], _, _ => trivial
 | e :: l, a, h => by
  rw [zbf3]
  split
  ·exact zbfz (zbf4 p h.2) (by have := h.1; omega)
  ·exact ⟨h.1, zbf4 p h.2⟩
theorem zbf5 (p q : Int) : ∀ l : List zjr, lk q (filP p l) = if q = p then none else lk q l
 | [] => by simp [filP, lk]
 | e :: l => by
  rw [zbf3, zbfy]
  by_cases c : e.Proc = p
  ·rw [if_pos c, zbf5 p q l]
   by_cases d : q = p
   ·rw [if_pos d, if_pos d]
   ·rw [if_neg d, if_neg d, if_neg (by omega)]
  ·rw [if_neg c, zbfy, zbf5 p q l]
   by_cases d : q = p
   ·rw [if_pos d, if_pos d, if_neg (by omega)]
   ·rw [if_neg d, if_neg d]
theorem zbf6 (e : zjr) : ∀ {l : List zjr} {a : Int}, srt a l → a < e.Proc → lk e.Proc l = none → srt a (insE e l)
 | [], _, _, ha, _ => ⟨ha, trivial⟩
 | x :: l, a, h, ha, hn => by
  rw [zbfy] at hn
  split at hn
  ·cases hn
  ·rename_i c
   simp only [insE]
   split
   ·rename_i d; exact ⟨ha, d, h.2⟩
   ·exact ⟨h.1, zbf6 e h.2 (by omega) hn⟩
theorem zbf7 (e : zjr) (q : Int) : ∀ l : List zjr, lk e.Proc l = none → lk q (insE e l) = if q = e.Proc then some e else lk q l
 | [], _ => by
  simp only [insE, zbfy]
  by_cases d : q = e.Proc
  ·rw [if_pos d, if_pos d.symm]
  ·rw [if_neg d, if_neg (fun h => d h.symm)]
 | x :: l, hn => by
  rw [zbfy] at hn
  split at hn
  ·cases hn
  ·rename_i c
   simp only [insE]
   split
   ·rw [zbfy, zbfy]
    by_cases d : q = e.Proc
    ·rw [if_pos d, if_pos d.symm]
    ·rw [if_neg d, if_neg (fun h => d h.symm)]
   ·rw [zbfy, zbfy, zbf7 e q l hn]
    by_cases d : q = e.Proc
    ·rw [if_pos d, if_pos d, if_neg (by omega)]
    ·rw [if_neg d, if_neg d]
theorem zbf8 (t : List zjr) (p s x q : Int) : lk q (noteL t p s x) = if q = p then some ⟨p, s, x⟩ else lk q t := by
 unfold noteL
 rw [zbf7 _ _ _ (by rw [zbf5, if_pos rfl]), zbf5]
 by_cases d : q = p
 ·rw [if_pos d, if_pos d]
 ·rw [if_neg d, if_neg d, if_neg d]
theorem zbf9 {t : List zjr} {a : Int} (h : srt a t) {p : Int} (hp : a < p) (s x : Int) : srt a (noteL t p s x) :=
 zbf6 _ (zbf4 p h) hp (by rw [zbf5, if_pos rfl])
theorem zbga : ∀ (x y : List Int), x.take (com x y) = y.take (com x y)
 | [], y => by simp [com]
 | a :: x, [] => by simp [com]
 | a :: x, b :: y => by
  simp only [com]
  split
  ·rename_i c; rw [List.take_succ_cons, List.take_succ_cons, zbga x y, c]
  ·rfl
theorem zbgb (x y : List Int) : x.drop (x.length - com x.reverse y.reverse) = y.drop (y.length - com x.reverse y.reverse) := by
 have h := congrArg List.reverse (zbga x.reverse y.reverse)
 rw [List.reverse_take, List.reverse_take, List.reverse_reverse, List.reverse_reverse, List.length_reverse, List.length_reverse] at h
 exact h
theorem zbgc (x y : List Int) : x.take (ahN x y) ++ (midL x y ++ x.drop (x.length - beN x y)) = y := by
 have hle := beN_le x y
 have ht := zbgb (x.drop (com x y)) (y.drop (com x y))
 have hx : x.drop (x.length - beN x y) = (x.drop (com x y)).drop ((x.drop (com x y)).length - com (x.drop (com x y)).reverse (y.drop (com x y)).reverse) := by
  rw [List.drop_drop, y14]
  congr 1
  unfold beN at hle ⊢; unfold ahN at hle; omega
 rw [hx, ht]
 unfold midL ahN
 rw [zbga x y]
 unfold beN
 rw [List.take_append_drop, List.take_append_drop]
theorem zbgd (p : Int) : ∀ l : List zjr, findE p l = lk p l
 | [] => rfl
 | e :: l => by rw [zbfy, ← zbgd p l]; rfl
def noteAll (T : List zjr) (D : List zjr) : List zjr := D.foldl (fun t e => noteL t e.Proc e.Seq e.Resp) T
theorem zbge (T : List zjr) (e : zjr) (D : List zjr) : noteAll T (e :: D) = noteAll (noteL T e.Proc e.Seq e.Resp) D := rfl
theorem zbgf : ∀ {D T : List zjr} {a c : Int}, srt a T → srt c D → a ≤ c → srt a (noteAll T D)
 | [], _, _, _, h, _, _ => h
 | e :: D, T, a, c, h, hd, hc => by
  rw [zbge]
  exact zbgf (zbf9 h (by have := hd.1; omega) e.Seq e.Resp) hd.2 (by have := hd.1; omega)
theorem zbgg (p : Int) : ∀ {D T : List zjr} {c : Int}, srt c D → lk p (noteAll T D) = (lk p D).or (lk p T)
 | [], _, _, _ => by simp [noteAll, lk]
 | e :: D, T, c, hd => by
  rw [zbge, zbgg p hd.2, zbf8, zbfy]
  by_cases d : e.Proc = p
  ·rw [if_pos d, if_pos d.symm, zbf1 hd.2 (by omega)]; rfl
  ·rw [if_neg d, if_neg (fun h => d h.symm)]
theorem zbgh (ta : List zjr) : ∀ {tb : List zjr} {a : Int}, srt a tb → srt a (newT ta tb)
 | [], _, _ => trivial
 | e :: tb, a, h => by
  simp only [newT]
  split
  ·exact zbfz (zbgh ta h.2) (by have := h.1; omega)
  ·exact ⟨h.1, zbgh ta h.2⟩
theorem zbgi (ta : List zjr) (p : Int) : ∀ {tb : List zjr} {a : Int}, srt a tb → lk p (newT ta tb) = if lk p ta = lk p tb then none else lk p tb
 | [], _, _ => by simp [newT, lk]
 | e :: tb, a, h => by
  simp only [newT, zbgd]
  by_cases d : e.Proc = p
  ·subst d
   have hn : lk e.Proc (newT ta tb) = none := zbf1 (zbgh ta h.2) (by omega)
   split
   ·rename_i c; rw [zbfy, if_pos rfl, if_pos c, hn]
   ·rename_i c; rw [zbfy, if_pos rfl, zbfy, if_pos rfl, if_neg c]
  ·split
   ·rw [zbfy, if_neg d, zbgi ta p h.2]
   ·rw [zbfy, if_neg d, zbfy, if_neg d, zbgi ta p h.2]
theorem lk_mem {p : Int} : ∀ {l : List zjr} {e : zjr}, lk p l = some e → e ∈ l ∧ e.Proc = p
 | [], _, h => by cases h
 | x :: l, e, h => by
  rw [zbfy] at h
  split at h
  ·rename_i c; obtain rfl := Option.some.inj h; exact ⟨y32, c⟩
  ·exact ⟨y36 _ (lk_mem h).1, (lk_mem h).2⟩
theorem zbgj : ∀ {ta tb : List zjr}, lacksB ta tb = false → ∀ e ∈ ta, lk e.Proc tb ≠ none
 | [], _, _, e, h => by cases h
 | x :: ta, tb, hl, e, h => by
  simp only [lacksB, Bool.or_eq_false_iff, decide_eq_false_iff_not, zbgd] at hl
  rcases List.mem_cons.1 h with rfl | h
  ·exact hl.1
  ·exact zbgj hl.2 e h
theorem zbgk {tb : List zjr} : ∀ {ta : List zjr}, (∀ e ∈ ta, lk e.Proc tb ≠ none) → lacksB ta tb = false
 | [], _ => rfl
 | x :: ta, h => by
  simp only [lacksB, Bool.or_eq_false_iff, decide_eq_false_iff_not, zbgd]
  exact ⟨h x y32, zbgk fun e he => h e (y36 _ he)⟩
theorem zbgl {ta tb : List zjr} {a : Int} (ha : srt a ta) (hb : srt a tb) (hl : lacksB ta tb = false) : noteAll ta (newT ta tb) = tb := by
 refine zbf2 (zbgf ha (zbgh ta hb) (Int.le_refl _)) hb fun p => ?_
 rw [zbgg p (zbgh ta hb), zbgi ta p hb]
 split
 ·rename_i c; rw [c]; simp
 ·rename_i c
  cases hp : lk p tb with
  | some e => rfl
  | none =>
   rw [Option.none_or]
   cases hq : lk p ta with
   | none => rfl
   | some e =>
    have := lk_mem hq
    have h2 := zbgj hl e this.1
    rw [this.2] at h2
    exact absurd hp h2
/-- The later one. -/
def appL (a : zjs) (d : zjt) (zc zt : Bool) : zjs := ⟨d.To, ⟨a.State.Kind, ⟨zc, a.State.L.l.take d.Ahead.toNat ++ (d.Mid.l ++ a.State.L.l.drop (a.State.L.l.length - d.Behind.toNat))⟩, d.Sealed, d.Engine⟩, ⟨zt, noteAll a.Table.l d.Table.l⟩⟩
theorem zbgm (D : Sl zjr) (i0 k0 : Int) (sl : Bool) (to : Int) (cz : Bool) (C : List Int) (hC : C.length ≤ 1000000) (hD : D.l.length ≤ 1000) : ∀ (k i : Nat) (T : List zjr), D.l.length = i + k → T.length + k ≤ 900000 → mayN ⟨i0, ⟨k0, ⟨false, C⟩, sl, to⟩, ⟨false, noteAll T (D.l.drop i)⟩⟩ = true →
  Ev (fun q => zkz q D.z D.l (D.l.length : Int) (i : Int) i0 k0 sl to cz C true false T true) (⟨i0, ⟨k0, ⟨cz, C⟩, sl, to⟩, ⟨false, noteAll T (D.l.drop i)⟩⟩, 0)
 | 0, i, T, hk, hT, hm => by
  rw [y13 (by omega)] at hm ⊢
  have hM := zbdg ⟨i0, ⟨k0, ⟨cz, C⟩, sl, to⟩, ⟨false, T⟩⟩ hC (by simp only; omega)
  refine Ev.succ (Ev.ne (Ev.bind hM (Ev.pos hm ?_))) (fun q => rfl)
  exact Ev.ret _
 | k + 1, i, T, hk, hT, hm => by
  have hi : i < D.l.length := by omega
  have he : D.l[((i : Int)).toNat]? = some D.l[i] := by simp [hi]
  rw [y10 hi, zbge] at hm ⊢
  have hN := zbe3 ⟨false, T⟩ (fun h => by cases h) (by simp only; omega) ⟨0, D.l[i].Proc, D.l[i].Seq, ⟨0, 0, 0⟩, D.l[i].Resp⟩
  have hn := zbev T D.l[i].Proc D.l[i].Seq D.l[i].Resp
  have ih := zbgm D i0 k0 sl to cz C hC hD k (i + 1) (noteL T D.l[i].Proc D.l[i].Seq D.l[i].Resp) (by omega) (by omega) hm
  rw [show ((i + 1 : Nat) : Int) = wrp .i64 ((i : Int) + 1) by rw [zbcu (by omega) (by omega)]; omega] at ih
  refine Ev.succ (Ev.po (Ev.po (Ev.opt he (Ev.bind hN ?_)))) (fun q => rfl)
  exact ih
theorem zbgn (a : zjs) (d : zjt) (hz : zOk a.State.L.z a.Table.z a) (ha : mayN a = true) (h1 : 0 ≤ d.Ahead) (h2 : 0 ≤ d.Behind) (h3 : d.Ahead + d.Behind ≤ (a.State.L.l.length : Int)) (h4 : a.Index = d.From) (h5 : d.From ≤ d.To) (h6 : d.Mid.l.length ≤ 1000) (h7 : d.Table.l.length ≤ 1000) (hm : mayN (appL a d false false) = true) :
  ∃ zc zt, Ev (fun q => zk1 q a d) (appL a d zc zt, 0) := by
 have hb := zber ha
 have hk := zbd8 (zbd9 (zbec ha).2.2.1).2.2.2
 have hM := zbdg a hb.1 hb.2
 have w1 : wrp .i64 ((a.State.L.l.length : Int) - d.Ahead) = (a.State.L.l.length : Int) - d.Ahead := zbcu (by omega) (by omega)
 have w2 : wrp .i64 ((a.State.L.l.length : Int) - d.Behind) = ((a.State.L.l.length - d.Behind.toNat : Nat) : Int) := by rw [zbcu (by omega) (by omega)]; omega
 obtain ⟨zc, hC⟩ := zbdv ⟨false, [⟨a.State.L.z, a.State.L.l.take d.Ahead.toNat⟩, d.Mid, ⟨a.State.L.z, a.State.L.l.drop (a.State.L.l.length - d.Behind.toNat)⟩]⟩ (by simp) (by simp [flat]; omega)
 have hfl : flat [⟨a.State.L.z, a.State.L.l.take d.Ahead.toNat⟩, d.Mid, ⟨a.State.L.z, a.State.L.l.drop (a.State.L.l.length - d.Behind.toNat)⟩] = a.State.L.l.take d.Ahead.toNat ++ (d.Mid.l ++ a.State.L.l.drop (a.State.L.l.length - d.Behind.toNat)) := by simp [flat]
 simp only at hC
 rw [hfl] at hC
 unfold appL at hm ⊢
 generalize hCC : a.State.L.l.take d.Ahead.toNat ++ (d.Mid.l ++ a.State.L.l.drop (a.State.L.l.length - d.Behind.toNat)) = C at hC hm ⊢
 have hClen : C.length ≤ 1000000 := by rw [← hCC]; simp only [y11, y21, y14]; omega
 have pre : ∀ {r : zjs × Int}, Ev (fun q => zk0 q d.Table.z d.Table.l (d.Table.l.length : Int) d.To a.State.Kind d.Sealed d.Engine a.Table.z a.Table.l zc C true) r → Ev (fun q => zk1 q a d) r := fun h => by
  refine Ev.succ (Ev.bind hM (Ev.pos ha (Ev.ne (Ev.ne (Ev.ne (Ev.neg (by rw [w1]; omega) (Ev.pos h4 (Ev.ne (Ev.pos h1 (Ev.pos (by omega) ?_)))))))))) (fun q => rfl)
  rw [w2, y28]
  exact Ev.po (Ev.po (Ev.bind hC h))
 by_cases h0 : d.Table.l.length = 0
 ·have hn : d.Table.l = [] := y35 h0
  have hna : noteAll a.Table.l d.Table.l = a.Table.l := by rw [hn]; rfl
  rw [hna] at hm ⊢
  have hM2 := zbdg ⟨d.To, ⟨a.State.Kind, ⟨zc, C⟩, d.Sealed, d.Engine⟩, ⟨a.Table.z, a.Table.l⟩⟩ hClen hb.2
  refine ⟨zc, a.Table.z, pre (Ev.succ (Ev.ne (Ev.bind hM2 (Ev.pos hm ?_))) (fun q => rfl))⟩
  exact Ev.ret _
 ·have hi : 0 < d.Table.l.length := by omega
  have he : d.Table.l[0]? = some d.Table.l[0] := y8 hi
  have hd : d.Table.l = d.Table.l[0] :: d.Table.l.drop 1 := by
   have := y10 hi
   rwa [y38] at this
  have hA : noteAll a.Table.l d.Table.l = noteAll (noteL a.Table.l d.Table.l[0].Proc d.Table.l[0].Seq d.Table.l[0].Resp) (d.Table.l.drop 1) := by
   have := congrArg (noteAll a.Table.l) hd
   exact this
  rw [hA] at hm ⊢
  generalize d.Table.l[0] = e at he hm ⊢
  have hN := zbe3 a.Table hz.2 (by omega) ⟨0, e.Proc, e.Seq, ⟨0, 0, 0⟩, e.Resp⟩
  have hn := zbev a.Table.l e.Proc e.Seq e.Resp
  have htl := zbed (zbec ha).2.2.2 (by omega)
  have htl2 : a.Table.l.length ≤ 100 := by
   rcases htl with h | h
   ·omega
   ·rw [h]; simp
  have ih := zbgm d.Table d.To a.State.Kind d.Sealed d.Engine zc C hClen h7 (d.Table.l.length - 1) 1 (noteL a.Table.l e.Proc e.Seq e.Resp) (by omega) (by omega) hm
  rw [show ((1 : Nat) : Int) = wrp .i64 1 by rw [zbcu (by omega) (by omega)]; rfl] at ih
  refine ⟨zc, false, pre (Ev.succ (Ev.po (Ev.opt he (Ev.bind hN ?_))) (fun q => rfl))⟩
  exact ih
theorem zbgo : ∀ (l : List zjv) (s : zjs), (takeV s l).2 = 0 → (takeV s l).1.State.Kind = s.State.Kind ∧ ∀ p, lk p s.Table.l ≠ none → lk p (takeV s l).1.Table.l ≠ none
 | [], s, _ => ⟨rfl, fun p h => h⟩
 | r :: l, s, h => by
  obtain ⟨c, d, e⟩ := zbfs h
  rw [e] at h ⊢
  obtain ⟨h1, h2⟩ := zbgo l (nextN s r) h
  refine ⟨h1, fun p hp => h2 p ?_⟩
  show lk p (noteL s.Table.l r.Proc r.Seq (stepV s.State r.Op).2) ≠ none
  rw [zbf8]
  split
  ·simp
  ·exact hp
def diffD (a b : zjs) (zm zt : Bool) : zjt := ⟨a.Index, b.Index, ((ahN a.State.L.l b.State.L.l : Nat) : Int), ((beN a.State.L.l b.State.L.l : Nat) : Int), ⟨zm, midL a.State.L.l b.State.L.l⟩, b.State.Sealed, b.State.To, ⟨zt, newT a.Table.l b.Table.l⟩⟩
/-- The delta between two snapshots, where there is one. -/
theorem zbgp {a b : zjs} (ha : mayN a = true) (hb : mayN b = true) (hk : a.State.Kind = b.State.Kind) (hl : lacksB a.Table.l b.Table.l = false) (hi : a.Index ≤ b.Index) (zm zt : Bool) :
  diffR a b zm zt = (diffD a b zm zt, 0) := by
 unfold diffR diffD
 rw [if_pos ⟨ha, hb, hk⟩, if_neg (by rw [hl]; simp; omega)]
theorem zbgq (x y : List Int) : (midL x y).length ≤ y.length := by
 unfold midL; simp only [y21, y14]; omega
/-- It makes the later one, however its lists are bounded. -/
theorem zbgr {a b : zjs} (hk : a.State.Kind = b.State.Kind) (ha : mayN a = true) (hb : mayN b = true) (hl : lacksB a.Table.l b.Table.l = false) (d : zjt) (h1 : d.To = b.Index) (h2 : d.Ahead = ((ahN a.State.L.l b.State.L.l : Nat) : Int)) (h3 : d.Behind = ((beN a.State.L.l b.State.L.l : Nat) : Int)) (h4 : d.Mid.l = midL a.State.L.l b.State.L.l) (h5 : d.Sealed = b.State.Sealed) (h6 : d.Engine = b.State.To) (h7 : d.Table.l = newT a.Table.l b.Table.l) (z z' : Bool) :
  appL a d z z' = setZ z z' b := by
 have hA := zbec ha
 have hB := zbec hb
 unfold appL setZ
 rw [h1, h2, h3, h4, h5, h6, h7, y28, y28, zbgc, zbgl (zbf0 hA.2.2.2) (zbf0 hB.2.2.2) hl, hk]
theorem zbgs {a b : zjs} (hz : zOk a.State.L.z a.Table.z a) (hk : a.State.Kind = b.State.Kind) (ha : mayN a = true) (hb : mayN b = true) (hl : lacksB a.Table.l b.Table.l = false) (hi : a.Index ≤ b.Index) (d : zjt) (h0 : d.From = a.Index) (h1 : d.To = b.Index) (h2 : d.Ahead = ((ahN a.State.L.l b.State.L.l : Nat) : Int)) (h3 : d.Behind = ((beN a.State.L.l b.State.L.l : Nat) : Int)) (h4 : d.Mid.l = midL a.State.L.l b.State.L.l) (h5 : d.Sealed = b.State.Sealed) (h6 : d.Engine = b.State.To) (h7 : d.Table.l = newT a.Table.l b.Table.l) :
  ∃ zc zt, Ev (fun q => zk1 q a d) (setZ zc zt b, 0) := by
 have key := fun z z' => zbgr hk ha hb hl d h1 h2 h3 h4 h5 h6 h7 z z'
 have hle := beN_le a.State.L.l b.State.L.l
 have hB := zbec hb
 have hkb := zbd8 (zbd9 hB.2.2.1).2.2.2
 have hml := zbgq a.State.L.l b.State.L.l
 have htl := zbd0 a.Table.l b.Table.l
 have htb := zbed hB.2.2.2 (by omega)
 have htb2 : b.Table.l.length ≤ 100 := by
  rcases htb with h | h
  ·omega
  ·rw [h]; simp
 obtain ⟨zc, zt, h⟩ := zbgn a d hz ha (by omega) (by omega) (by omega) h0.symm (by omega) (by rw [h4]; omega) (by rw [h7]; omega) (by rw [key]; exact hb)
 rw [key] at h
 exact ⟨zc, zt, h⟩
theorem zbgt : ∀ x : List Int, com x x = x.length
 | [] => rfl
 | a :: x => by simp only [com, if_true, zbgt x, y22]
theorem zbgu (x : List Int) : midL x x = [] := by
 unfold midL
 rw [zbgt, List.drop_length, List.take_nil]
theorem zbgv : ∀ {t : List zjr} {T : List zjr}, (∀ e ∈ t, lk e.Proc T = some e) → newT T t = []
 | [], _, _ => rfl
 | e :: t, T, h => by
  simp only [newT, zbgd]
  rw [if_pos (h e y32)]
  exact zbgv fun x hx => h x (y36 _ hx)
theorem zbgw : ∀ {t : List zjr} {a : Int}, srt a t → ∀ e ∈ t, lk e.Proc t = some e
 | [], _, _, _, he => by cases he
 | x :: t, a, h, e, he => by
  rw [zbfy]
  rcases List.mem_cons.1 he with rfl | he
  ·rw [if_pos rfl]
  ·have h1 := zbgw h.2 e he
   split
   ·rename_i c
    have := zbf1 h.2 (p := e.Proc) (by omega)
    rw [this] at h1; cases h1
   ·exact h1
theorem zbgx : ∀ (a0 : zjs) (a1 : (Sl zjv)), zjs.ok a0 → okSl (fun x => zjv.ok x) a1 → ∃ q, zls q a0 a1 = some true := by
 intro s l hs hl
 refine Ev.get (Ev.succ (Ev.bind zbd5 (Ev.bind (Few_ev s) (Ev.pos rfl (Ev.ite (fun h1 => Ev.ite (fun h2 => Ev.ret _) fun h2 => ?_) fun h1 => Ev.ret _)))) (fun q => rfl))
 simp only [decide_eq_true_eq] at h1
 have hzs : zOk s.State.L.z s.Table.z s := ⟨hs.2.1.2.1.1, hs.2.2.1⟩
 refine Ev.bind (zbdg s (by omega) (by omega)) (Ev.ite (fun hm => ?_) fun hm => Ev.ret _)
 obtain ⟨z1, z2, hz12, hT⟩ := zbfu s l (by omega) hzs (by omega) (by omega)
 have hlen := zbfv l.l s
 generalize hV : takeV s l.l = V at hT hlen hz12
 have hb2 : (setZ z1 z2 V.1).State.L.l.length ≤ 1000000 := by simp only [setZ]; omega
 have hb3 : (setZ z1 z2 V.1).Table.l.length ≤ 1000000 := by simp only [setZ]; omega
 refine Ev.bind hT (Ev.ite (fun c => ?_) fun c => Ev.ret _)
 simp only at c
 refine Ev.bind (zbdg (setZ z1 z2 V.1) hb2 hb3) (Ev.ite (fun hm2 => ?_) fun hm2 => Ev.ret _)
 have hm3 : mayN V.1 = true := hm2
 have hk := zbgo l.l s (by rw [hV]; exact c)
 have hf := zbfw l.l s (by rw [hV]; exact c)
 rw [hV] at hk hf
 have hS := zbec hm
 have hlk : lacksB s.Table.l V.1.Table.l = false := zbgk fun e he => hk.2 e.Proc (by rw [zbgw (zbf0 hS.2.2.2) e he]; simp)
 have hix : s.Index ≤ V.1.Index := by rw [hf.2.1]; omega
 have hkk : s.State.Kind = (setZ z1 z2 V.1).State.Kind := hk.1.symm
 obtain ⟨zm, zt, hD⟩ := zbd4 s (setZ z1 z2 V.1) (by omega) (by omega) hb2 hb3 hz12.1
 rw [zbgp hm hm2 hkk hlk hix] at hD
 have hlself : lacksB s.Table.l s.Table.l = false := zbgk fun e he => by rw [zbgw (zbf0 hS.2.2.2) e he]; simp
 obtain ⟨ym, yt, hD2⟩ := zbd4 s s (by omega) (by omega) (by omega) (by omega) hzs.1
 rw [zbgp hm hm rfl hlself (Int.le_refl _)] at hD2
 obtain ⟨zc, zd, hA⟩ := zbgs (b := setZ z1 z2 V.1) hzs hkk hm hm2 hlk hix (diffD s (setZ z1 z2 V.1) zm zt) rfl rfl rfl rfl rfl rfl rfl rfl
 obtain ⟨yc, yd, hA2⟩ := zbgs (b := s) hzs rfl hm hm hlself (Int.le_refl _) (diffD s s ym yt) rfl rfl rfl rfl rfl rfl rfl rfl
 have hS1 := zbeq (setZ zc zd (setZ z1 z2 V.1)) (setZ z1 z2 V.1) (by simp only [setZ] at hb2 ⊢; omega) (by simp only [setZ] at hb3 ⊢; omega)
 have e1 : sameN (setZ zc zd (setZ z1 z2 V.1)) (setZ z1 z2 V.1) = true := zbfx zc zd z1 z2 V.1
 have hS2 := zbeq (setZ yc yd s) s (by simp only [setZ]; omega) (by simp only [setZ]; omega)
 have e2 : sameN (setZ yc yd s) s = true := by simp [sameN, sameS, setZ]
 rw [e1] at hS1
 rw [e2] at hS2
 refine Ev.bind hD (Ev.bind hA (Ev.bind hD2 (Ev.bind hA2 (Ev.pos rfl (Ev.pos rfl (Ev.pos rfl (Ev.pos rfl (Ev.bind hS1 (Ev.pos rfl (Ev.bind hS2 (Ev.pos rfl (Ev.pos ?_ (Ev.ret' ?_)))))))))))))
 ·show ((midL s.State.L.l s.State.L.l).length : Int) = 0
  rw [zbgu]; rfl
 ·show decide (((newT s.Table.l s.Table.l).length : Int) = 0) = true
  rw [zbgv (zbgw (zbf0 hS.2.2.2))]; rfl
end Go.Dvm.I
