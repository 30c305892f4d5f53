/- Plain laws of the functions: part 2. -/
import Derived.Test.YtlcndafgippgjaaGreatQp0
set_option linter.all false
set_option maxRecDepth 100000
namespace Go.Dvm.I
open Go Go.Dvm
theorem zcj9 {v f : Int} {d : List Int} {acc : List zjs} {i : Nat} {D : List (List Int)} {full : Bool} :
  (readB v d (f + acc.length) = none → walkS v f (d :: D) i acc full = (i, 3, acc, full)) ∧
  (∀ l, readB v d (f + acc.length) = some l → l.length ≤ 16 ∧ l.length ≠ 0 ∧ walkS v f (d :: D) i acc full = if full = true then (if 4096 < acc.length + l.length then (i, 5, acc, full) else walkS v f D (i + 1) (acc ++ l) (decide (l.length = 16))) else (i, 3, acc, full)) := by
 unfold readB
 constructor
 ·intro h
  simp only [walkS]
  cases hR : blockR v d with
  | none => rfl
  | some l =>
   rw [hR, y4] at h
   split at h
   ·cases h
   ·rename_i hc
    have : stepW f acc full l = 3 := by unfold stepW; rw [if_neg (fun e => hc e.2)]
    simp only [this]; rw [if_neg (by decide)]
 ·intro l h
  cases hR : blockR v d with
  | none => rw [hR] at h; cases h
  | some l' =>
   rw [hR, y4] at h
   split at h
   ·rename_i hc
    cases h
    refine ⟨hc.2.1, hc.1, ?_⟩
    simp only [walkS, hR]
    by_cases hf : full = true
    ·rw [if_pos hf]
     have hs : stepW f acc full l = if 4096 < acc.length + l.length then 5 else 0 := by unfold stepW; rw [if_pos ⟨hf, hc⟩]
     rw [hs]
     by_cases h4 : 4096 < acc.length + l.length
     ·simp only [if_pos h4]
      rw [if_neg (show ¬ ((5 : Int) = 0) by decide)]
     ·simp only [if_neg h4, if_true]
    ·rw [if_neg hf]
     have : stepW f acc full l = 3 := by unfold stepW; rw [if_neg (fun e => hf e.1)]
     rw [this, if_neg (by decide)]
   ·cases h
theorem zcka {v k f : Int} (v1 : 1 ≤ v) (v3 : v ≤ 3) (hf : 0 ≤ f ∧ f < 4611686018427387904) (z : Bool) (L : List (Sl Int)) (hB : ∀ e ∈ L, isB e.l ∧ e.l.length ≤ 10000000) (hL : L.length ≤ 1000000000) : ∀ (n i : Nat) (acc : List zjs) (full za : Bool) (last : Int), L.length = i + n → acc.length ≤ 4096 → (last < 16 ↔ full = false) →
  ∃ z', Ev (fun q => znq q z L v last (i : Int) k f za acc) (v, ⟨k, f, ⟨z', (walkS v f ((L.drop i).map (·.l)) i acc full).2.2.1⟩⟩, ((walkS v f ((L.drop i).map (·.l)) i acc full).1 : Int), (walkS v f ((L.drop i).map (·.l)) i acc full).2.1)
 | 0, i, acc, full, za, last, hk, ha, hl => by
  refine ⟨za, Ev.succ (Ev.ne (Ev.ret' ?_)) (fun q => rfl)⟩
  rw [y11 (by omega)]
  simp only [y63, walkS]
  rw [show L.length = i by omega]
 | n + 1, i, acc, full, za, last, hk, ha, hl => by
  have hi : i < L.length := by omega
  have hg : L[((i : Int)).toNat]? = some L[i] := by simp [hi]
  obtain ⟨hb, hbl⟩ := hB L[i] (y25 hi)
  have wn : wrp .i64 (f + (acc.length : Int)) = f + acc.length := by rw [zcdu (by omega) (by omega)]
  have wi : wrp .i64 ((i : Int) + 1) = ((i + 1 : Nat) : Int) := by rw [zcdu (by omega) (by omega)]; omega
  obtain ⟨r, hr, hr2, hr3⟩ := zcj8 v1 v3 L[i] hb hbl (f + acc.length) (zcei (by omega) (by omega))
  have hr' : Ev (fun q => znp q v L[i] (wrp .i64 (f + (acc.length : Int)))) r := by rw [wn]; exact hr
  obtain ⟨s1, s2⟩ := zcj9 (v := v) (f := f) (d := L[i].l) (acc := acc) (i := i) (D := (L.drop (i + 1)).map (·.l)) (full := full)
  rw [y8 hi, y33]
  cases hR : readB v L[i].l (f + acc.length) with
  | none =>
   rw [hR] at hr2
   rw [s1 hR]
   refine ⟨za, Ev.succ (Ev.po (Ev.po (Ev.opt hg (Ev.bind hr' (Ev.neg (by rw [hr2]; decide) (Ev.ret _)))))) (fun q => rfl)⟩
  | some l =>
   rw [hR] at hr2
   have hx := hr3 l hR
   obtain ⟨q1, q2, q3⟩ := s2 l hR
   rw [q3]
   by_cases hfull : full = true
   ·rw [if_pos hfull]
    have h16 : ¬ last < 16 := fun e => by rw [hl.1 e] at hfull; cases hfull
    have wt : wrp .i64 ((acc.length : Int) + (r.1.xs.length : Int)) = acc.length + l.length := by rw [hx, zcdu (by omega) (by omega)]
    by_cases h4 : 4096 < acc.length + l.length
    ·rw [if_pos h4]
     refine ⟨za, Ev.succ (Ev.po (Ev.po (Ev.opt hg (Ev.bind hr' (Ev.pos (by rw [hr2]; rfl) (Ev.neg h16 (Ev.pos (by rw [wt]; omega) (Ev.ret _)))))))) (fun q => rfl)⟩
    ·rw [if_neg h4]
     obtain ⟨z', ih⟩ := zcka (k := k) v1 v3 hf z L hB hL n (i + 1) (acc ++ l) (decide (l.length = 16)) (za && (decide (l.length = 0))) (l.length : Int) (by omega) (by rw [y9]; omega) (by simp only [decide_eq_false_iff_not]; omega)
     refine ⟨z', Ev.succ (Ev.po (Ev.po (Ev.opt hg (Ev.bind hr' (Ev.pos (by rw [hr2]; rfl) (Ev.neg h16 (Ev.neg (by rw [wt]; omega) (Ev.pos (by rw [hx]; omega) ?_)))))))) (fun q => rfl)⟩
     rw [hx, wi]; exact ih
   ·rw [if_neg hfull]
    have h16 : last < 16 := hl.2 (by simpa using hfull)
    refine ⟨za, Ev.succ (Ev.po (Ev.po (Ev.opt hg (Ev.bind hr' (Ev.pos (by rw [hr2]; rfl) (Ev.pos h16 (Ev.ret _))))))) (fun q => rfl)⟩
theorem zckb {v k f : Int} (v1 : 1 ≤ v) (v3 : v ≤ 3) (hf : 0 ≤ f ∧ f < 4611686018427387904) (z : Bool) (L : List (Sl Int)) (hB : ∀ e ∈ L, isB e.l ∧ e.l.length ≤ 10000000) (hL : L.length ≤ 1000000000) (h1 : 1 ≤ L.length) :
  ∃ z', Ev (fun q => znr q z L v k f) (v, ⟨k, f, ⟨z', (walkS v f ((L.drop 1).map (·.l)) 1 [] true).2.2.1⟩⟩, ((walkS v f ((L.drop 1).map (·.l)) 1 [] true).1 : Int), (walkS v f ((L.drop 1).map (·.l)) 1 [] true).2.1) := by
 by_cases h2 : L.length = 1
 ·refine ⟨true, Ev.succ (Ev.ne (Ev.ret' ?_)) (fun q => rfl)⟩
  rw [y11 (by omega)]
  simp only [y63, walkS]
  rw [h2]
 ·have hi : 1 < L.length := by omega
  have hg : L[1]? = some L[1] := y6 hi
  obtain ⟨hb, hbl⟩ := hB L[1] (y25 hi)
  have wn : wrp .i64 (f + 0) = f + (([] : List zjs).length : Int) := by rw [zcdu (by omega) (by omega)]; simp
  have wi : wrp .i64 2 = ((1 + 1 : Nat) : Int) := by rw [zcdu (by omega) (by omega)]; rfl
  obtain ⟨r, hr, hr2, hr3⟩ := zcj8 v1 v3 L[1] hb hbl (f + (([] : List zjs).length : Int)) (zcei (by simp; omega) (by simp; omega))
  have hr' : Ev (fun q => znp q v L[1] (wrp .i64 (f + 0))) r := by rw [wn]; exact hr
  obtain ⟨s1, s2⟩ := zcj9 (v := v) (f := f) (d := L[1].l) (acc := []) (i := 1) (D := (L.drop (1 + 1)).map (·.l)) (full := true)
  rw [y8 hi, y33]
  cases hR : readB v L[1].l (f + (([] : List zjs).length : Int)) with
  | none =>
   rw [hR] at hr2
   rw [s1 hR]
   refine ⟨true, Ev.succ (Ev.po (Ev.opt hg (Ev.bind hr' (Ev.neg (by rw [hr2]; decide) (Ev.ret _))))) (fun q => rfl)⟩
  | some l =>
   rw [hR] at hr2
   have hx := hr3 l hR
   obtain ⟨q1, q2, q3⟩ := s2 l hR
   rw [q3, if_pos rfl]
   have wt : wrp .i64 (0 + (r.1.xs.length : Int)) = (([] : List zjs).length : Int) + l.length := by rw [hx, zcdu (by omega) (by omega)]; simp
   rw [if_neg (by rw [y24]; omega)]
   rw [y24] at wt
   obtain ⟨z', ih⟩ := zcka (k := k) v1 v3 hf z L hB hL (L.length - 2) (1 + 1) ([] ++ l) (decide (l.length = 16)) (decide (l.length = 0)) (l.length : Int) (by omega) (by rw [y46]; omega) (by simp only [decide_eq_false_iff_not]; omega)
   refine ⟨z', Ev.succ (Ev.po (Ev.opt hg (Ev.bind hr' (Ev.pos (by rw [hr2]; rfl) (Ev.neg (by rw [wt]; omega) (Ev.pos (by rw [hx]; omega) ?_)))))) (fun q => rfl)⟩
   rw [hx, wi]; exact ih
theorem zckc (s : Sl (Sl Int)) (hB : ∀ e ∈ s.l, isB e.l ∧ e.l.length ≤ 10000000) (hL : s.l.length ≤ 1000000000) (h1 : 1 ≤ s.l.length) :
  ∃ z, Ev (fun q => zns q s) ((walkA (s.l.map (·.l))).2.2.1, ⟨(walkA (s.l.map (·.l))).2.2.2.1, (walkA (s.l.map (·.l))).2.2.2.2.1, ⟨z, (walkA (s.l.map (·.l))).2.2.2.2.2⟩⟩, ((walkA (s.l.map (·.l))).1 : Int), (walkA (s.l.map (·.l))).2.1) := by
 obtain ⟨zs, L⟩ := s
 simp only at hB hL h1 ⊢
 have hg : L[0]? = some L[0] := y6 (by omega)
 obtain ⟨hb, hbl⟩ := hB L[0] (y25 (by omega))
 have hd : L = L[0] :: L.drop 1 := by
  have := y8 (l := L) (i := 0) (by omega)
  rwa [y37] at this
 have hm : L.map (·.l) = L[0].l :: (L.drop 1).map (·.l) := by
  conv => lhs; rw [hd]
  rw [y33]
 rw [hm]
 generalize hdl : L[0].l = d at *
 have main : ∀ r : Int × Int × Int × Int × Bool, headR d = r → r.1 ≠ 0 → walkA (d :: (L.drop 1).map (·.l)) = (0, r.1, 0, 0, 0, []) := fun r hr h0 => by
  simp only [walkA]; rw [hr, if_neg h0]
 unfold headR at main
 by_cases c1 : d.length = 0
 ·refine ⟨true, Ev.succ (Ev.opt hg (Ev.pos (by rw [hdl]; omega) (Ev.ret' ?_))) (fun q => rfl)⟩
  rw [main (3, 0, 0, 0, false) (by rw [if_pos c1]) (by decide)]; rfl
 have he : d[0]? = some d[0] := y6 (by omega)
 have he' : L[0].l[0]? = some d[0] := by rw [hdl]; exact he
 by_cases c2 : d[0] = 108
 ·have c2' : d[0]? = some 108 := by rw [he, c2]
  have b0 := zcga hb 1
  have n1 := zcf3 (l := d.drop 1)
  have n2 := zcf3 (l := (d.drop 1).drop (getN (d.drop 1)).2.toNat)
  have b1 := zcga b0 (getN (d.drop 1)).2.toNat
  have n3 := zcf3 (l := ((d.drop 1).drop (getN (d.drop 1)).2.toNat).drop (getN ((d.drop 1).drop (getN (d.drop 1)).2.toNat)).2.toNat)
  have b2 := zcga b1 (getN ((d.drop 1).drop (getN (d.drop 1)).2.toNat)).2.toNat
  have n1' := n1.2.1
  have n2' := n2.2.1
  have n3' := n3.2.1
  rw [y12] at n1'
  rw [y12, y12] at n2'
  rw [y12, y12, y12] at n3'
  have w1 : wrp .i64 (1 + (getN (d.drop 1)).2) = 1 + (getN (d.drop 1)).2 := by rw [zcdu (by omega) (by omega)]
  have e1 : d.drop (1 + (getN (d.drop 1)).2).toNat = (d.drop 1).drop (getN (d.drop 1)).2.toNat := by rw [y49]; congr 1; omega
  have w2 : wrp .i64 (1 + (getN (d.drop 1)).2 + (getN ((d.drop 1).drop (getN (d.drop 1)).2.toNat)).2) = 1 + (getN (d.drop 1)).2 + (getN ((d.drop 1).drop (getN (d.drop 1)).2.toNat)).2 := by rw [zcdu (by omega) (by omega)]
  have e2 : d.drop (1 + (getN (d.drop 1)).2 + (getN ((d.drop 1).drop (getN (d.drop 1)).2.toNat)).2).toNat = ((d.drop 1).drop (getN (d.drop 1)).2.toNat).drop (getN ((d.drop 1).drop (getN (d.drop 1)).2.toNat)).2.toNat := by
   have g : ∀ (a b c : Nat), d.drop (a + b + c) = ((d.drop a).drop b).drop c := fun a b c => by rw [y49, y49, y56]
   rw [← g]; congr 1; omega
  have w3 : wrp .i64 (1 + (getN (d.drop 1)).2 + (getN ((d.drop 1).drop (getN (d.drop 1)).2.toNat)).2 + (getN (((d.drop 1).drop (getN (d.drop 1)).2.toNat).drop (getN ((d.drop 1).drop (getN (d.drop 1)).2.toNat)).2.toNat)).2) = 1 + (getN (d.drop 1)).2 + (getN ((d.drop 1).drop (getN (d.drop 1)).2.toNat)).2 + (getN (((d.drop 1).drop (getN (d.drop 1)).2.toNat).drop (getN ((d.drop 1).drop (getN (d.drop 1)).2.toNat)).2.toNat)).2 := by rw [zcdu (by omega) (by omega)]
  have e3 : ((((d.drop 1).drop (getN (d.drop 1)).2.toNat).drop (getN ((d.drop 1).drop (getN (d.drop 1)).2.toNat)).2.toNat).drop (getN (((d.drop 1).drop (getN (d.drop 1)).2.toNat).drop (getN ((d.drop 1).drop (getN (d.drop 1)).2.toNat)).2.toNat)).2.toNat).length = d.length - (1 + (getN (d.drop 1)).2 + (getN ((d.drop 1).drop (getN (d.drop 1)).2.toNat)).2 + (getN (((d.drop 1).drop (getN (d.drop 1)).2.toNat).drop (getN ((d.drop 1).drop (getN (d.drop 1)).2.toNat)).2.toNat)).2).toNat := by
   rw [y12, y12, y12, y12]; omega
  have pre : ∀ {r}, Ev (fun q => if (getN (d.drop 1)).2 = 0 then (some (0, (⟨0, 0, ⟨true, []⟩⟩ : zjt), 0, 3)) else (if (getN ((d.drop 1).drop (getN (d.drop 1)).2.toNat)).2 = 0 then (some (0, (⟨0, 0, ⟨true, []⟩⟩ : zjt), 0, 3)) else (if (getN (((d.drop 1).drop (getN (d.drop 1)).2.toNat).drop (getN ((d.drop 1).drop (getN (d.drop 1)).2.toNat)).2.toNat)).2 = 0 then (some (0, (⟨0, 0, ⟨true, []⟩⟩ : zjt), 0, 3)) else (if 1 + (getN (d.drop 1)).2 + (getN ((d.drop 1).drop (getN (d.drop 1)).2.toNat)).2 + (getN (((d.drop 1).drop (getN (d.drop 1)).2.toNat).drop (getN ((d.drop 1).drop (getN (d.drop 1)).2.toNat)).2.toNat)).2 = (d.length : Int) then (if (getN (d.drop 1)).1 < 1 then (some (0, (⟨0, 0, ⟨true, []⟩⟩ : zjt), 0, 6)) else (if 3 < (getN (d.drop 1)).1 then (some (0, (⟨0, 0, ⟨true, []⟩⟩ : zjt), 0, 6)) else (if 6 ≤ (getN ((d.drop 1).drop (getN (d.drop 1)).2.toNat)).1 then (some (0, (⟨0, 0, ⟨true, []⟩⟩ : zjt), 0, 1)) else (znr q zs L (getN (d.drop 1)).1 (getN ((d.drop 1).drop (getN (d.drop 1)).2.toNat)).1 (getN (((d.drop 1).drop (getN (d.drop 1)).2.toNat).drop (getN ((d.drop 1).drop (getN (d.drop 1)).2.toNat)).2.toNat)).1)))) else (some (0, (⟨0, 0, ⟨true, []⟩⟩ : zjt), 0, 3)))))) r → Ev (fun q => zns q ⟨zs, L⟩) r := fun {r} h => by
   refine Ev.succ (Ev.opt hg (Ev.neg (by rw [hdl]; omega) (Ev.opt he' (Ev.pos c2 (Ev.pos (by rw [hdl]; omega) (Ev.bind (s := getN (d.drop 1)) ?_ ?_)))))) (fun q => rfl)
   ·rw [hdl]; exact zcgu ⟨L[0].z, d.drop 1⟩ b0 (by simp only [y12]; omega)
   rw [hdl, w1, e1]
   refine Ev.po (Ev.po (Ev.bind (zcgu ⟨L[0].z, _⟩ b1 (by simp only [y12]; omega)) ?_))
   simp only [w2, e2]
   refine Ev.po (Ev.po (Ev.bind (zcgu ⟨L[0].z, _⟩ b2 (by simp only [y12]; omega)) ?_))
   simp only [w3]
   exact h
  by_cases c3 : (getN (d.drop 1)).2 = 0
  ·refine ⟨true, pre (Ev.pos c3 (Ev.ret' ?_))⟩
   rw [main (3, 0, 0, 0, false) (by rw [if_neg c1, if_pos c2', if_pos c3]) (by decide)]; rfl
  by_cases c4 : (getN ((d.drop 1).drop (getN (d.drop 1)).2.toNat)).2 = 0
  ·refine ⟨true, pre (Ev.neg c3 (Ev.pos c4 (Ev.ret' ?_)))⟩
   rw [main (3, 0, 0, 0, false) (by rw [if_neg c1, if_pos c2', if_neg c3, if_pos c4]) (by decide)]; rfl
  by_cases c5 : (getN (((d.drop 1).drop (getN (d.drop 1)).2.toNat).drop (getN ((d.drop 1).drop (getN (d.drop 1)).2.toNat)).2.toNat)).2 = 0
  ·refine ⟨true, pre (Ev.neg c3 (Ev.neg c4 (Ev.pos c5 (Ev.ret' ?_))))⟩
   rw [main (3, 0, 0, 0, false) (by rw [if_neg c1, if_pos c2', if_neg c3, if_neg c4, if_pos c5]) (by decide)]; rfl
  by_cases c6 : 0 < ((((d.drop 1).drop (getN (d.drop 1)).2.toNat).drop (getN ((d.drop 1).drop (getN (d.drop 1)).2.toNat)).2.toNat).drop (getN (((d.drop 1).drop (getN (d.drop 1)).2.toNat).drop (getN ((d.drop 1).drop (getN (d.drop 1)).2.toNat)).2.toNat)).2.toNat).length
  ·have c6' := c6
   rw [e3] at c6'
   refine ⟨true, pre (Ev.neg c3 (Ev.neg c4 (Ev.neg c5 (Ev.ne (Ev.ret' ?_)))))⟩
   rw [main (3, 0, 0, 0, false) (by rw [if_neg c1, if_pos c2', if_neg c3, if_neg c4, if_neg c5, if_pos c6]) (by decide)]; rfl
  have c6' := c6
  rw [e3] at c6'
  by_cases c7 : 1 ≤ (getN (d.drop 1)).1 ∧ (getN (d.drop 1)).1 ≤ 3
  ·by_cases c8 : 6 ≤ (getN ((d.drop 1).drop (getN (d.drop 1)).2.toNat)).1
   ·refine ⟨true, pre (Ev.neg c3 (Ev.neg c4 (Ev.neg c5 (Ev.po (Ev.ne (Ev.ne (Ev.pos c8 (Ev.ret' ?_))))))))⟩
    rw [main (1, 0, 0, 0, false) (by rw [if_neg c1, if_pos c2', if_neg c3, if_neg c4, if_neg c5, if_neg c6, if_pos c7, if_pos c8]) (by decide)]; rfl
   ·obtain ⟨z', hw⟩ := zckb (k := (getN ((d.drop 1).drop (getN (d.drop 1)).2.toNat)).1) c7.1 c7.2 ⟨n3.2.2.2.1, n3.2.2.2.2⟩ zs L hB hL h1
    refine ⟨z', pre (Ev.neg c3 (Ev.neg c4 (Ev.neg c5 (Ev.po (Ev.ne (Ev.ne (Ev.neg c8 (Ev.cast hw ?_))))))))⟩
    have hh : headR d = (0, (getN (d.drop 1)).1, (getN ((d.drop 1).drop (getN (d.drop 1)).2.toNat)).1, (getN (((d.drop 1).drop (getN (d.drop 1)).2.toNat).drop (getN ((d.drop 1).drop (getN (d.drop 1)).2.toNat)).2.toNat)).1, true) := by
     unfold headR
     rw [if_neg c1, if_pos c2', if_neg c3, if_neg c4, if_neg c5, if_neg c6, if_pos c7, if_neg c8]
    simp only [walkA, hh, if_true]
  ·refine ⟨true, pre (Ev.neg c3 (Ev.neg c4 (Ev.neg c5 (Ev.po (Ev.ite (fun h => Ev.ret' ?_) fun h => Ev.po (Ev.ret' ?_))))))⟩
   ·rw [main (6, 0, 0, 0, false) (by rw [if_neg c1, if_pos c2', if_neg c3, if_neg c4, if_neg c5, if_neg c6, if_neg c7]) (by decide)]; rfl
   ·rw [main (6, 0, 0, 0, false) (by rw [if_neg c1, if_pos c2', if_neg c3, if_neg c4, if_neg c5, if_neg c6, if_neg c7]) (by decide)]; rfl
 ·refine ⟨true, Ev.succ (Ev.opt hg (Ev.neg (by rw [hdl]; omega) (Ev.opt he' (Ev.neg c2 (Ev.ret' ?_))))) (fun q => rfl)⟩
  rw [main (3, 0, 0, 0, false) (by rw [if_neg c1, if_neg (by rw [he]; simpa using c2)]) (by decide)]; rfl
theorem zckd (s : Sl Int) (hb : isB s.l) (hl : s.l.length ≤ 4294967296) : ∃ z X, Ev (fun q => zmu q s) (⟨z, true, X⟩, (((allF s.l).2.1 : Nat) : Int), (allF s.l).2.2) ∧ X.map (·.l) = (allF s.l).1 ∧ (X ≠ [] → z = false) := by
 obtain ⟨z, X, h, hm, h3⟩ := zcju (D := fun q s => zms q s) (W := zmt) (fun q z L i z2 h => rfl) s.z s.l hb hl (fun i hi => zcgz ⟨s.z, s.l.drop i⟩ (zcga hb i) (by simp; omega)) (s.l.length + 1) 0 true [] (by omega) (by omega) (by simp)
 rw [y37] at h hm
 refine ⟨z, X, Ev.succ h (fun q => rfl) |>.cast ?_, hm, fun h => h3 (.inr h)⟩
 simp [allF]
theorem zcke (s : Sl Int) (hb : isB s.l) (hl : s.l.length ≤ 4294967296) : ∃ z X, Ev (fun q => zmv q s) (⟨z, true, X⟩, (allE s.l).2) ∧ X.map (·.l) = (allE s.l).1 ∧ (X ≠ [] → z = false) := by
 obtain ⟨z, X, h, hm, h3⟩ := zckd s hb hl
 unfold allE
 by_cases he : (allF s.l).2.2 = 0
 ·rw [if_pos he]; exact ⟨z, X, Ev.succ (Ev.bind h (Ev.pos he (Ev.ret _))) (fun q => rfl), hm, h3⟩
 ·rw [if_neg he]; exact ⟨true, [], Ev.succ (Ev.bind h (Ev.neg he (Ev.ret _))) (fun q => rfl), rfl, fun h => absurd rfl h⟩
theorem zckf (z : Bool) (L : List (Sl Int)) (hL : L.length ≤ 1000000000) (hB : ∀ e ∈ L, isB e.l ∧ e.l.length ≤ 1048576) : ∀ (k i : Nat) (h0z : Bool) (h0l : List (Sl Int)), L.length = i + k → h0l.length = i →
  ∃ z' X, Ev (fun q => znw q z L (i : Int) h0z h0l) ⟨z', true, h0l ++ X⟩ ∧ X.map (·.l) = ((L.drop i).map fun e => encF e.l) ∧ (h0z = false ∨ X ≠ [] → z' = false)
 | 0, i, h0z, h0l, hk, hh => by
  refine ⟨h0z, [], Ev.succ (Ev.ne (Ev.ret' (by simp))) (fun q => rfl), ?_, fun h => h.elim id (fun h => absurd rfl h)⟩
  rw [y11 (by omega)]; rfl
 | k + 1, i, h0z, h0l, hk, hh => by
  have hi : i < L.length := by omega
  have he : L[((i : Int)).toNat]? = some L[i] := by simp [hi]
  obtain ⟨hb, hl⟩ := hB L[i] (y25 hi)
  obtain ⟨zf, hf⟩ := zcgp L[i] hb hl
  obtain ⟨z', X, ih, hX, hz⟩ := zckf z L hL hB k (i + 1) false (h0l ++ [⟨zf, encF L[i].l⟩]) (by omega) (by simp [hh])
  rw [show ((i + 1 : Nat) : Int) = wrp .i64 ((i : Int) + 1) by rw [zcdu (by omega) (by omega)]; omega] at ih
  refine ⟨z', ⟨zf, encF L[i].l⟩ :: X, Ev.succ (Ev.po (Ev.po (Ev.opt he (Ev.bind hf (Ev.po (Ev.cast ih ?_)))))) (fun q => rfl), ?_, fun _ => hz (.inl rfl)⟩
  ·simp
  ·rw [y8 hi, y33, y33, hX]
theorem zckg (s : Sl (Sl Int)) (hL : s.l.length ≤ 1000000000) (hB : ∀ e ∈ s.l, isB e.l ∧ e.l.length ≤ 1048576) : ∃ z' X, Ev (fun q => znx q s) ⟨z', true, X⟩ ∧ X.map (·.l) = (s.l.map fun e => encF e.l) ∧ (X ≠ [] → z' = false) := by
 obtain ⟨z', X, h, hX, hz⟩ := zckf s.z s.l hL hB s.l.length 0 true [] (by omega) rfl
 exact ⟨z', X, Ev.succ (Ev.cast h (by simp)) (fun q => rfl), by simpa using hX, fun h => hz (.inr h)⟩
theorem zckh {a b : List Int} (ha : a.length ≤ 1048576) (hb : b.length ≤ 1048576) (h : encF a = encF b) : a = b := by
 have d1 := zcgf (l := a) (x := []) ha
 have d2 := zcgf (l := b) (x := []) hb
 rw [h, d2] at d1
 exact (congrArg Prod.fst d1).symm
theorem zcki (s : Sl Int) (hb : isB s.l) (hl : s.l.length ≤ 80000) : ∃ sz, Ev (fun q => zn0 q s) (⟨(segD s.l).1.1, (segD s.l).1.2.1, ⟨sz, (segD s.l).1.2.2⟩⟩, (segD s.l).2.2) := by
 obtain ⟨z0, X, hA, hX, hz0⟩ := zcke s hb (by omega)
 obtain ⟨hM, hMl⟩ := zcjy hb
 have hXl : X.length = (allE s.l).1.length := by rw [← hX, y23]
 unfold segD
 by_cases he : (allE s.l).2 = 0
 ·simp only [if_pos he]
  by_cases h2 : (allE s.l).1.length < 2
  ·simp only [if_pos h2]
   exact ⟨true, Ev.succ (Ev.bind hA (Ev.pos he (Ev.pos (by simp only; omega) (Ev.ret _)))) (fun q => rfl)⟩
  ·simp only [if_neg h2]
   have hw : wrp .i64 ((X.length : Int) - 1) = ((X.length - 1 : Nat) : Int) := by rw [zcdu (by omega) (by omega)]; omega
   have hzf : z0 = false := hz0 (fun e => by rw [e] at hXl; simp at hXl; omega)
   subst hzf
   have hB : ∀ e ∈ X, isB e.l ∧ e.l.length ≤ 1048576 := fun e he => hM e.l (by rw [← hX]; exact y60 (f := fun x : Sl Int => x.l) he)
   have hB' : ∀ e ∈ X.take (X.length - 1), isB e.l ∧ e.l.length ≤ 1048576 := fun e he => hB e (y43 he)
   have hlt : (X.take (X.length - 1)).length = X.length - 1 := by rw [y19]; omega
   have htk : (X.take (X.length - 1)).map (·.l) = (allE s.l).1.take ((allE s.l).1.length - 1) := by rw [List.map_take, hX, hXl]
   obtain ⟨zw, hW⟩ := zckc ⟨false, X.take (X.length - 1)⟩ (fun e he => ⟨(hB' e he).1, by have := (hB' e he).2; omega⟩) (by simp only; omega) (by simp only; omega)
   simp only [htk] at hW
   have pre : ∀ {r} , Ev (fun q => (zns q ⟨false, (List.take (X.length - 1) X)⟩).bind fun r7 => (if r7.2.2.2 = 0 then ((znx q ⟨false, (List.take (X.length - 1) X)⟩).bind fun r8 => (if 0 < r8.xs.length then ((r8.xs[0]?).bind fun e9 => (if 1 ≤ r8.xs.length then ((znz q e9 ⟨r8.n, (List.drop 1 r8.xs)⟩).bind fun r10 => (if (X.length - 1) < X.length then ((X[(X.length - 1)]?).bind fun e11 => (if r10.xs = e11.l then (some (r7.2.1, (0 : Int))) else (some ((⟨0, 0, ⟨true, []⟩⟩ : zjt), 16)))) else none)) else none)) else none)) else (some ((⟨0, 0, ⟨true, []⟩⟩ : zjt), r7.2.2.2)))) r → Ev (fun q => zn0 q s) r := fun {r} h => by
    refine Ev.succ (Ev.bind hA (Ev.pos he (Ev.neg (by simp only; omega) (Ev.pos ?_ (Ev.pos ?_ (Ev.neg (show ¬ (false = true) by decide) ?_)))))) (fun q => rfl)
    ·simp only [hw]; omega
    ·simp only [hw, y27]; omega
    ·simp only [hw, y27]; exact h
   by_cases hw0 : (walkA ((allE s.l).1.take ((allE s.l).1.length - 1))).2.1 = 0
   ·simp only [if_pos hw0]
    obtain ⟨zf, Y, hF, hY, hzY⟩ := zckg ⟨false, X.take (X.length - 1)⟩ (by simp only; omega) hB'
    have hYm : Y.map (·.l) = ((allE s.l).1.take ((allE s.l).1.length - 1)).map encF := by rw [hY, ← htk, List.map_map]; rfl
    have hYl : Y.length = X.length - 1 := by
     have := congrArg List.length hY
     rw [y23, y23, hlt] at this; exact this
    have hg0 : Y[0]? = some Y[0] := y6 (by omega)
    have hYc : Y = Y[0] :: Y.drop 1 := by
     have := y8 (l := Y) (i := 0) (by omega)
     rwa [y37] at this
    have hlenY : ∀ e ∈ Y, e.l.length ≤ 4294967296 := fun e he => by
     have : e.l ∈ Y.map (·.l) := y60 (f := fun x : Sl Int => x.l) he
     rw [hY] at this
     obtain ⟨a, ha, hae⟩ := List.mem_map.1 this
     have h1 := (hB' a ha).2
     have h2 := (zciy a.l).1
     rw [← hae]; omega
    have hFt := zci7 Y[0] ⟨zf, Y.drop 1⟩ (hlenY _ (y25 _)) (by simp only [y12]; omega) (fun e he => hlenY e (y52 he))
    have hcons : Y[0].l :: (Y.drop 1).map (·.l) = ((allE s.l).1.take ((allE s.l).1.length - 1)).map encF := by
     rw [← hYm]
     conv => rhs; rw [hYc]
     rw [y33]
    simp only [hcons] at hFt
    have hg : X[X.length - 1]? = some X[X.length - 1] := y6 (by omega)
    obtain ⟨b1, b2⟩ := hB X[X.length - 1] (y25 (by omega))
    have hlast : X[X.length - 1].l = (allE s.l).1.getD ((allE s.l).1.length - 1) [] := by
     rw [← hXl, ← hX, y14, y41, hg]; rfl
    have hfl := zci3 (((allE s.l).1.take ((allE s.l).1.length - 1)).map encF)
    rw [y23, y19] at hfl
    by_cases hc : footD (((allE s.l).1.take ((allE s.l).1.length - 1)).map encF) = X[X.length - 1].l
    ·rw [if_pos (by rw [hc, hlast])]
     exact ⟨zw, pre (Ev.bind hW (Ev.pos hw0 (Ev.bind hF (Ev.pos (by simp only; omega) (Ev.opt hg0 (Ev.pos (by simp only; omega) (Ev.bind hFt (Ev.po (Ev.opt hg (Ev.pos hc (Ev.ret _))))))))))) ⟩
    ·rw [if_neg (fun e => hc (by rw [hlast]; exact zckh (by omega) (by rw [← hlast]; exact b2) e))]
     exact ⟨true, pre (Ev.bind hW (Ev.pos hw0 (Ev.bind hF (Ev.pos (by simp only; omega) (Ev.opt hg0 (Ev.pos (by simp only; omega) (Ev.bind hFt (Ev.po (Ev.opt hg (Ev.neg hc (Ev.ret _))))))))))) ⟩
   ·simp only [if_neg hw0]
    exact ⟨true, pre (Ev.bind hW (Ev.neg hw0 (Ev.ret _)))⟩
 ·simp only [if_neg he]
  exact ⟨true, Ev.succ (Ev.bind hA (Ev.neg he (Ev.ret _))) (fun q => rfl)⟩
theorem zckj {X : List (Sl Int)} {L : List (List Int)} (h : X.map (·.l) = L.map encF) : (flat X).length = lenF L := by rw [zcix, h]; rfl
theorem zckk : ∀ {f : Nat} {l : List Int}, isB l → l.length < f → lenF (walkF f l).1 ≤ l.length
 | 0, l, hb, hf => by omega
 | f + 1, l, hb, hf => by
  simp only [walkF]
  split
  ·simp [lenF]
  ·split
   ·rename_i h1 h2
    obtain ⟨k1, k2, k3, k4, k5⟩ := zcgg (l := l) (x := (decF l).1) (n := (decF l).2.1) hb (by rw [← h2])
    have := zckk (f := f) (l := l.drop (decF l).2.1.toNat) (zcga hb _) (by rw [y12]; omega)
    simp only [zcj2, k5, y19]
    rw [y12] at this
    omega
   ·simp [lenF]
theorem zckl (L : List (List Int)) (n : Nat) : lenF (L.take n) ≤ lenF L := by
 have : lenF L = lenF (L.take n) + lenF (L.drop n) := by
  unfold lenF
  conv => lhs; rw [← List.take_append_drop n L]
  rw [List.map_append, List.flatten_append, y9]
 omega
theorem zckm {v f : Int} : ∀ {D : List (List Int)} {i : Nat} {acc : List zjs} {full : Bool}, acc.length ≤ 4096 → (walkS v f D i acc full).2.2.1.length ≤ 4096 ∧ ((walkS v f D i acc full).2.1 = 0 → (walkS v f D i acc full).2.2.1.length ≤ acc.length + 16 * D.length)
 | [], i, acc, full, ha => by simp only [walkS]; exact ⟨ha, fun _ => by omega⟩
 | d :: D, i, acc, full, ha => by
  simp only [walkS]
  split
  ·exact ⟨ha, fun h => by simp only at h; omega⟩
  ·rename_i l hR
   split
   ·rename_i h0
    obtain ⟨c1, c2, c3, c4, c5⟩ := zcjn h0
    have := zckm (v := v) (f := f) (D := D) (i := i + 1) (acc := acc ++ l) (full := decide (l.length = 16)) (by rw [y9]; omega)
    rw [y9] at this
    refine ⟨this.1, fun h => ?_⟩
    have := this.2 h
    rw [y20]; omega
   ·rename_i h0
    exact ⟨ha, fun h => absurd h h0⟩
theorem zckn {L : List (List Int)} : (walkA L).2.2.2.2.2.length ≤ 4096 ∧ ((walkA L).2.1 = 0 → L ≠ [] → (walkA L).2.2.2.2.2.length ≤ 16 * (L.length - 1) ∧ 0 ≤ (walkA L).2.2.2.2.1 ∧ (walkA L).2.2.2.2.1 < 4611686018427387904) := by
 cases L with
 | nil => exact ⟨by simp [walkA], fun _ h => absurd rfl h⟩
 | cons d D =>
  simp only [walkA]
  split
  ·rename_i hh
   have hb := zckm (v := (headR d).2.1) (f := (headR d).2.2.2.1) (D := D) (i := 1) (acc := []) (full := true) (by simp)
   obtain ⟨o1, o2, o3, o4, o5, o6, o7⟩ := zcjo hh
   refine ⟨hb.1, fun h _ => ⟨?_, o5, o6⟩⟩
   have := hb.2 h
   rw [y24] at this
   simp only [y20]; omega
  ·rename_i hh
   exact ⟨by simp, fun h _ => absurd h hh⟩
theorem zcko (b : List Int) : (segD b).1.2.2.length ≤ 4096 ∧ ((segD b).2.2 = 0 → (segD b).1.2.2.length ≤ 16 * ((segD b).2.1.length - 1) ∧ 1 ≤ (segD b).2.1.length ∧ 0 ≤ (segD b).1.2.1 ∧ (segD b).1.2.1 < 4611686018427387904 ∧ (allE b).2 = 0 ∧ (segD b).2.1 = ((allE b).1.take ((allE b).1.length - 1)).map encF) := by
 unfold segD
 by_cases he : (allE b).2 = 0
 ·simp only [if_pos he]
  by_cases h2 : (allE b).1.length < 2
  ·simp only [if_pos h2]; exact ⟨by simp, fun h => by omega⟩
  ·simp only [if_neg h2]
   have hb := zckn (L := (allE b).1.take ((allE b).1.length - 1))
   by_cases hw : (walkA ((allE b).1.take ((allE b).1.length - 1))).2.1 = 0
   ·simp only [if_pos hw]
    split
    ·refine ⟨hb.1, fun _ => ?_⟩
     obtain ⟨q1, q2, q3⟩ := hb.2 hw (fun e => by have := congrArg List.length e; rw [y19, y24] at this; omega)
     rw [y19] at q1
     simp only [y23, y19]
     exact ⟨by omega, by omega, q2, q3, he, trivial⟩
    ·exact ⟨by simp, fun h => by simp only at h; omega⟩
   ·simp only [if_neg hw]; exact ⟨by simp, fun h => absurd h hw⟩
 ·simp only [if_neg he]; exact ⟨by simp, fun h => absurd h he⟩
theorem zckp (z x : Bool) (X : List (Sl Int)) (n : Nat) (hn : n ≤ X.length) (hF : (flat X).length ≤ 4294967296) (hX : X.length ≤ 1000000000) : ∀ (k i : Nat) (m : Nat), n = i + k → m + (flat ((X.take n).drop i)).length ≤ 4294967296 →
  Ev (fun q => zmd q (m : Int) n (n : Int) (i : Int) z X x) (((m + (flat ((X.take n).drop i)).length : Nat) : Int), 0)
 | 0, i, m, hk, hm => by
  refine Ev.succ (Ev.ne (Ev.ret' ?_)) (fun q => rfl)
  rw [y11 (by rw [y19]; omega)]; rfl
 | k + 1, i, m, hk, hm => by
  have hi : i < X.length := by omega
  have hd : (X.take n).drop i = X[i] :: (X.take n).drop (i + 1) := by
   rw [y8 (by rw [y19]; omega)]
   congr 1
   exact y58
  have hg : X[((i : Int)).toNat]? = some X[i] := by rw [y27]; exact y6 hi
  rw [hd, zcfq, y9] at hm
  have ih := zckp z x X n hn hF hX k (i + 1) (m + X[i].l.length) (by omega) (by omega)
  have w1 : wrp .i64 ((i : Int) + 1) = ((i + 1 : Nat) : Int) := by rw [zcdu (by omega) (by omega)]; omega
  have w2 : wrp .i64 ((m : Int) + (X[i].l.length : Int)) = ((m + X[i].l.length : Nat) : Int) := by rw [zcdu (by omega) (by omega)]; omega
  rw [hd, zcfq, y9]
  refine Ev.succ (Ev.po (Ev.po (Ev.po (Ev.opt hg ?_)))) (fun q => rfl)
  rw [w1, w2]
  refine Ev.cast ih ?_
  rw [y56]
theorem zckq (z x : Bool) (X : List (Sl Int)) (n : Nat) (hn : n ≤ X.length) (hF : (flat X).length ≤ 4294967296) (hX : X.length ≤ 1000000000) : ∀ (k i : Nat) (m : Nat), n = i + k → m + (flat ((X.take n).drop i)).length ≤ 4294967296 →
  Ev (fun q => zme q (m : Int) n (n : Int) (i : Int) z X x) (((m + (flat ((X.take n).drop i)).length : Nat) : Int), 0)
 | 0, i, m, hk, hm => by
  refine Ev.succ (Ev.ne (Ev.ret' ?_)) (fun q => rfl)
  rw [y11 (by rw [y19]; omega)]; rfl
 | k + 1, i, m, hk, hm => by
  have hi : i < X.length := by omega
  have hd : (X.take n).drop i = X[i] :: (X.take n).drop (i + 1) := by
   rw [y8 (by rw [y19]; omega)]
   congr 1
   exact y58
  have hg : X[((i : Int)).toNat]? = some X[i] := by rw [y27]; exact y6 hi
  rw [hd, zcfq, y9] at hm
  have ih := zckq z x X n hn hF hX k (i + 1) (m + X[i].l.length) (by omega) (by omega)
  have w1 : wrp .i64 ((i : Int) + 1) = ((i + 1 : Nat) : Int) := by rw [zcdu (by omega) (by omega)]; omega
  have w2 : wrp .i64 ((m : Int) + (X[i].l.length : Int)) = ((m + X[i].l.length : Nat) : Int) := by rw [zcdu (by omega) (by omega)]; omega
  rw [hd, zcfq, y9]
  refine Ev.succ (Ev.po (Ev.po (Ev.po (Ev.opt hg ?_)))) (fun q => rfl)
  rw [w1, w2]
  refine Ev.cast ih ?_
  rw [y56]
/-- Where the block of an index stands. -/
def findS (b : List Int) (i : Int) : Int × Int :=
 if (segD b).2.2 = 0 then (if i < (segD b).1.2.1 then (0, 8) else if ((segD b).1.2.2.length : Int) ≤ i - (segD b).1.2.1 then (0, 8) else
  (((((segD b).2.1.take (1 + ((i - (segD b).1.2.1) / 16).toNat)).flatten.length : Nat) : Int), 0)) else (0, (segD b).2.2)
theorem zckr {X : List (Sl Int)} {F : List (List Int)} (h : X.map (·.l) = F) (n : Nat) : (flat (X.take n)).length = (F.take n).flatten.length := by rw [zcix, List.map_take, h]
theorem zcks {b : List Int} (hb : isB b) : lenF (allE b).1 ≤ b.length := by
 unfold allE
 split
 ·exact zckk hb (by omega)
 ·simp [lenF]
theorem zckt (s : Sl Int) (hz : s.z = true → s.l = []) (hb : isB s.l) (hl : s.l.length ≤ 80000) (i : Int) (hi : inR .i64 i) : Ev (fun q => zmf q s i) (findS s.l i) := by
 obtain ⟨sz, z, x, X, h, hX⟩ := zcj1 s hz hb (by omega)
 have hbd := zcko s.l
 have hR := inR64 hi
 unfold findS
 by_cases he : (segD s.l).2.2 = 0
 ·rw [if_pos he]
  obtain ⟨q1, q2, q3, q4, q5, q6⟩ := hbd.2 he
  have hXl : X.length = (segD s.l).2.1.length := by rw [← hX, y23]
  have hsum := zcks hb
  have hmem := zcjy hb
  have hlenX : X.length ≤ 80000 := by rw [hXl, q6, y23, y19]; omega
  have hfl : (flat X).length ≤ 80000 := by
   rw [zcix, hX, q6]
   have := zckl (allE s.l).1 ((allE s.l).1.length - 1)
   unfold lenF at this hsum; omega
  refine Ev.succ (Ev.bind h (Ev.pos he (Ev.ite (fun h1 => ?_) fun h1 => ?_))) (fun q => rfl)
  ·rw [if_pos h1]; exact Ev.ret _
  rw [if_neg h1]
  simp only at h1
  have w1 : wrp .i64 (i - (segD s.l).1.2.1) = i - (segD s.l).1.2.1 := by rw [zcdu (by omega) (by omega)]
  refine Ev.ite (fun h2 => ?_) fun h2 => ?_
  ·simp only [w1] at h2
   rw [if_pos h2]; exact Ev.ret _
  simp only [w1] at h2
  rw [if_neg h2]
  have w2 : Int.tdiv (i - (segD s.l).1.2.1) 16 = (i - (segD s.l).1.2.1) / 16 := Int.tdiv_eq_ediv_of_nonneg (by omega)
  have w3 : wrp .i64 (1 + wrp .i64 (Int.tdiv (wrp .i64 (i - (segD s.l).1.2.1)) 16)) = ((1 + ((i - (segD s.l).1.2.1) / 16).toNat : Nat) : Int) := by
   rw [w1, w2, zcdu (x := (i - (segD s.l).1.2.1) / 16) (by omega) (by omega), zcdu (by omega) (by omega)]; omega
  have hn : 1 + ((i - (segD s.l).1.2.1) / 16).toNat ≤ X.length := by omega
  have hft : (flat (X.take (1 + ((i - (segD s.l).1.2.1) / 16).toNat))).length ≤ (flat X).length := by
   have : flat X = flat (X.take (1 + ((i - (segD s.l).1.2.1) / 16).toNat)) ++ flat (X.drop (1 + ((i - (segD s.l).1.2.1) / 16).toNat)) := by rw [← zcfp, List.take_append_drop]
   rw [this, y9]; omega
  have e1 := zckr hX (1 + ((i - (segD s.l).1.2.1) / 16).toNat)
  refine Ev.pos (by simp only [w3]; omega) (Ev.pos (by simp only [w3, y27]; exact hn) ?_)
  simp only [w3, y27]
  have f0 := zckp z x X _ hn (by omega) (by omega) (1 + ((i - (segD s.l).1.2.1) / 16).toNat) 0 0 (by omega) (by rw [y37]; omega)
  have f1 := zckq z x X _ hn (by omega) (by omega) (1 + ((i - (segD s.l).1.2.1) / 16).toNat) 0 0 (by omega) (by rw [y37]; omega)
  rw [y37, y42, e1] at f0 f1
  exact Ev.ite (fun _ => f0) (fun _ => f1)
 ·rw [if_neg he]
  exact Ev.succ (Ev.bind h (Ev.neg he (Ev.ret _))) (fun q => rfl)
theorem zcku (s : Sl Int) (hb : isB s.l) (hl : s.l.length ≤ 80000) (i : Int) (hi : inR .i64 i) : Ev (fun q => zn3 q s i) (findS s.l i) := by
 obtain ⟨sz, h⟩ := zcki s hb hl
 have hbd := zcko s.l
 have hR := inR64 hi
 unfold findS
 by_cases he : (segD s.l).2.2 = 0
 ·rw [if_pos he]
  obtain ⟨q1, q2, q3, q4, q5, q6⟩ := hbd.2 he
  refine Ev.succ (Ev.bind h (Ev.pos he (Ev.ite (fun h1 => ?_) fun h1 => ?_))) (fun q => rfl)
  ·rw [if_pos h1]; exact Ev.ret _
  rw [if_neg h1]
  simp only at h1
  have w0 : wrp .i64 ((segD s.l).1.2.1 + ((segD s.l).1.2.2.length : Int)) = (segD s.l).1.2.1 + ((segD s.l).1.2.2.length : Int) := by have := hbd.1; rw [zcdu (by omega) (by omega)]
  refine Ev.ite (fun h2 => ?_) fun h2 => ?_
  ·simp only [w0] at h2
   rw [if_pos (by omega)]; exact Ev.ret _
  simp only [w0] at h2
  rw [if_neg (by omega)]
  obtain ⟨z0, X, hA, hX, hz0⟩ := zcke s hb (by omega)
  obtain ⟨hM, hMl⟩ := zcjy hb
  have hsum := zcks hb
  have hXl : X.length = (allE s.l).1.length := by rw [← hX, y23]
  have hB : ∀ e ∈ X, isB e.l ∧ e.l.length ≤ 1048576 := fun e he => hM e.l (by rw [← hX]; exact y60 (f := fun x : Sl Int => x.l) he)
  obtain ⟨zf, Y, hF, hY, hzY⟩ := zckg ⟨z0, X⟩ (by simp only; omega) hB
  have hYm : Y.map (·.l) = (allE s.l).1.map encF := by rw [hY, ← hX, List.map_map]; rfl
  have hYl : Y.length = (allE s.l).1.length := by
   have := congrArg List.length hYm
   rw [y23, y23] at this; exact this
  have hFl : (segD s.l).2.1.length = min ((allE s.l).1.length - 1) (allE s.l).1.length := by rw [q6, y23, y19]
  have w1 : wrp .i64 (i - (segD s.l).1.2.1) = i - (segD s.l).1.2.1 := by rw [zcdu (by omega) (by omega)]
  have w2 : Int.tdiv (i - (segD s.l).1.2.1) 16 = (i - (segD s.l).1.2.1) / 16 := Int.tdiv_eq_ediv_of_nonneg (by omega)
  have w3 : wrp .i64 (1 + wrp .i64 (Int.tdiv (wrp .i64 (i - (segD s.l).1.2.1)) 16)) = ((1 + ((i - (segD s.l).1.2.1) / 16).toNat : Nat) : Int) := by
   rw [w1, w2, zcdu (x := (i - (segD s.l).1.2.1) / 16) (by omega) (by omega), zcdu (by omega) (by omega)]; omega
  have hn : 1 + ((i - (segD s.l).1.2.1) / 16).toNat ≤ (segD s.l).2.1.length := by omega
  have hzf : zf = false := hzY (fun e => by rw [e, y24] at hYl; omega)
  subst hzf
  have hfY : (flat Y).length = lenF (allE s.l).1 := zckj hYm
  have hft : (flat (Y.take (1 + ((i - (segD s.l).1.2.1) / 16).toNat))).length ≤ (flat Y).length := by
   have : flat Y = flat (Y.take (1 + ((i - (segD s.l).1.2.1) / 16).toNat)) ++ flat (Y.drop (1 + ((i - (segD s.l).1.2.1) / 16).toNat)) := by rw [← zcfp, List.take_append_drop]
   rw [this, y9]; omega
  obtain ⟨zj, hJ⟩ := zcis ⟨false, Y.take (1 + ((i - (segD s.l).1.2.1) / 16).toNat)⟩ (by simp only [y19]; omega) (by simp only; omega)
  refine Ev.bind hA (Ev.bind hF (Ev.pos (by simp only [w3]; omega) (Ev.pos (by simp only [w3, y27]; omega) (Ev.neg (show ¬ (false = true) by decide) (Ev.bind (by simp only [w3, y27]; exact hJ) (Ev.ret' ?_))))))
  have e1 := zckr hYm (1 + ((i - (segD s.l).1.2.1) / 16).toNat)
  simp only [e1]
  rw [q6, ← List.map_take, ← List.map_take, List.take_take, Nat.min_eq_left (by omega)]
 ·rw [if_neg he]
  exact Ev.succ (Ev.bind h (Ev.neg he (Ev.ret _))) (fun q => rfl)
theorem zckv : ∀ (a0 : Sl Int) (a1 : Int), okSl (fun x => inR .u8 x) a0 → inR .i64 a1 → ∃ q, zn4 q a0 a1 = some true := by
 intro s i hs hi
 have hb := isB_of hs
 refine Ev.get (Ev.succ (Ev.bind zcjb (Ev.ite (fun h => Ev.ret _) fun h => ?_)) (fun q => rfl))
 exact Ev.bind (zckt s hs.1 hb (by omega) i hi) (Ev.bind (zcku s hb (by omega) i hi) (Ev.pos rfl (Ev.pos rfl (Ev.ret' (by simp)))))
end Go.Dvm.I
