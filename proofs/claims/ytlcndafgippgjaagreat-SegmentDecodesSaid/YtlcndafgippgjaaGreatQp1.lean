/- Plain laws of the functions: part 2. -/
import Derived.Test.YtlcndafgippgjaaGreatQp0
set_option linter.all false
set_option maxRecDepth 100000
namespace Go.Dvm.I
open Go Go.Dvm
instance : DecidableEq zjr := fun a b => if h : a.Code = b.Code ∧ a.A = b.A ∧ a.B = b.B then isTrue (by cases a; cases b; simp_all) else isFalse (fun e => h (by rw [e]; exact ⟨rfl, rfl, rfl⟩))
instance : DecidableEq zjs := fun a b => if h : a.Index = b.Index ∧ a.Proc = b.Proc ∧ a.Seq = b.Seq ∧ a.Op = b.Op ∧ a.Resp = b.Resp then isTrue (by cases a; cases b; simp_all) else isFalse (fun e => h (by rw [e]; exact ⟨rfl, rfl, rfl, rfl, rfl⟩))
theorem zcns (z z2 : Bool) (A B : List zjs) (hl : A.length = B.length) (hL : A.length ≤ 1099511627776) : ∀ (k i : Nat), A.length = i + k → Ev (fun q => zoe q z A z2 B (i : Int)) (decide (A.drop i = B.drop i))
 | 0, i, hk => by
  refine Ev.succ (Ev.ne (Ev.ret' ?_)) (fun q => rfl)
  rw [y11 (by omega), y11 (by omega)]; simp
 | k + 1, i, hk => by
  have hi : i < A.length := by omega
  have hi2 : i < B.length := by omega
  have e1 : A[((i : Int)).toNat]? = some A[i] := by simp [hi]
  have e2 : B[((i : Int)).toNat]? = some B[i] := by simp [hi2]
  have no : A[i] ≠ B[i] → decide (A.drop i = B.drop i) = false := fun h => by
   rw [y8 hi, y8 hi2]
   simp only [decide_eq_false_iff_not]
   intro e; exact h (List.cons.inj e).1
  refine Ev.succ (Ev.po (Ev.po (Ev.opt e1 (Ev.opt e2 ?_)))) (fun q => rfl)
  refine Ev.ite (fun h1 => Ev.ite (fun h2 => Ev.ite (fun h3 => Ev.ite (fun h4 => Ev.ite (fun h5 => Ev.ite (fun h6 => Ev.ite (fun h7 => ?_) fun h7 => ?_) fun h6 => ?_) fun h5 => ?_) fun h4 => ?_) fun h3 => ?_) fun h2 => ?_) fun h1 => ?_
  ·have e : A[i] = B[i] := zch7 h1 h2 h3 (by
    generalize A[i].Op = a at *
    generalize B[i].Op = b at *
    cases a; cases b; simp_all) h7
   rw [show wrp .i64 ((i : Int) + 1) = ((i + 1 : Nat) : Int) by rw [zcg6 (by omega) (by omega)]; omega]
   refine Ev.cast (zcns z z2 A B hl hL k (i + 1) (by omega)) ?_
   rw [y8 hi, y8 hi2, e]
   simp only [List.cons.injEq, true_and]
  all_goals exact Ev.ret' (no (fun e => by simp_all)).symm
theorem zcnt (a b : Sl zjs) (hL : a.l.length ≤ 1099511627776) : Ev (fun q => zof q a b) (decide (a.l = b.l)) := by
 refine Ev.succ (Ev.ite (fun h => ?_) fun h => Ev.ret' ?_) (fun q => rfl)
 ·have := zcns a.z b.z a.l b.l (by omega) hL a.l.length 0 (by omega)
  simpa using this
 ·symm; simp only [decide_eq_false_iff_not]; intro e; rw [e] at h; exact h rfl
theorem zcnu (a b : zjt) (hL : a.Records.l.length ≤ 1099511627776) : Ev (fun q => zog q a b) (decide (a.Records.l = b.Records.l ∧ a.Kind = b.Kind ∧ a.First = b.First)) := by
 refine Ev.succ (Ev.bind (zcnt a.Records b.Records hL) (Ev.ite (fun h => Ev.ite (fun h2 => Ev.ret' ?_) fun h2 => Ev.ret' ?_) fun h => Ev.ret' ?_)) (fun q => rfl)
 ·have h' : a.Records.l = b.Records.l := by simpa using h
  simp [h', h2]
 ·simp [h2]
 ·have h' : ¬ a.Records.l = b.Records.l := by simpa using h
  simp [h']
def one7 (pr : List zjs) (b : List Int) : zjs × Int :=
 if (rec1 b).2 = 0 then (noR, 0) else (⟨0, (rec1 b).1.Proc, wrp .i64 ((rec1 b).1.Seq + lastS pr (rec1 b).1.Proc), (rec1 b).1.Op, (rec1 b).1.Resp⟩, (rec1 b).2)
theorem zcnv (pr : List zjs) (z : Bool) (hp : pr.length ≤ 1000000) (s : Sl Int) (hb : isB s.l) (hl : s.l.length ≤ 4294967296) : Ev (fun q => zm9 q ⟨z, pr.reverse⟩ s) (one7 pr s.l) := by
 have n1 := zcjh (l := s.l)
 have b1 := zcjo hb (getN s.l).2.toNat
 have n2 := zckj (l := s.l.drop (getN s.l).2.toNat)
 have b2 := zcjo b1 (getS (s.l.drop (getN s.l).2.toNat)).2.toNat
 have n3 := zckl (l := (s.l.drop (getN s.l).2.toNat).drop (getS (s.l.drop (getN s.l).2.toNat)).2.toNat)
 have b3 := zcjo b2 (getO ((s.l.drop (getN s.l).2.toNat).drop (getS (s.l.drop (getN s.l).2.toNat)).2.toNat)).2.toNat
 have n4 := zckj (l := ((s.l.drop (getN s.l).2.toNat).drop (getS (s.l.drop (getN s.l).2.toNat)).2.toNat).drop (getO ((s.l.drop (getN s.l).2.toNat).drop (getS (s.l.drop (getN s.l).2.toNat)).2.toNat)).2.toNat)
 simp only [y12] at n2 n3 n4
 have w1 : wrp .i64 ((getN s.l).2 + (getS (s.l.drop (getN s.l).2.toNat)).2) = (getN s.l).2 + (getS (s.l.drop (getN s.l).2.toNat)).2 := by rw [zcg6 (by omega) (by omega)]
 have d1 : s.l.drop ((getN s.l).2 + (getS (s.l.drop (getN s.l).2.toNat)).2).toNat = (s.l.drop (getN s.l).2.toNat).drop (getS (s.l.drop (getN s.l).2.toNat)).2.toNat := by
  rw [y49]; congr 1; omega
 have hlast := zcli ⟨z, pr.reverse⟩ (getN s.l).1 (by simpa using hp)
 simp only [List.reverse_reverse] at hlast
 refine Ev.succ (Ev.bind (zcj8 s hb (by omega)) (Ev.po (Ev.po (Ev.bind (zcky ⟨s.z, _⟩ b1 (by simp only [y12]; omega)) ?_)))) (fun q => rfl)
 simp only [w1, d1]
 have hO := zckz ⟨s.z, (s.l.drop (getN s.l).2.toNat).drop (getS (s.l.drop (getN s.l).2.toNat)).2.toNat⟩ b2 (by simp only [y12]; omega)
 refine Ev.po (Ev.po (Ev.bind hO ?_))
 have w2 : wrp .i64 ((getN s.l).2 + (getS (s.l.drop (getN s.l).2.toNat)).2 + (getO ((s.l.drop (getN s.l).2.toNat).drop (getS (s.l.drop (getN s.l).2.toNat)).2.toNat)).2) = (getN s.l).2 + (getS (s.l.drop (getN s.l).2.toNat)).2 + (getO ((s.l.drop (getN s.l).2.toNat).drop (getS (s.l.drop (getN s.l).2.toNat)).2.toNat)).2 := by rw [zcg6 (by omega) (by omega)]
 have d2 : s.l.drop ((getN s.l).2 + (getS (s.l.drop (getN s.l).2.toNat)).2 + (getO ((s.l.drop (getN s.l).2.toNat).drop (getS (s.l.drop (getN s.l).2.toNat)).2.toNat)).2).toNat = ((s.l.drop (getN s.l).2.toNat).drop (getS (s.l.drop (getN s.l).2.toNat)).2.toNat).drop (getO ((s.l.drop (getN s.l).2.toNat).drop (getS (s.l.drop (getN s.l).2.toNat)).2.toNat)).2.toNat := by
  have g : ∀ (a b c : Nat), s.l.drop (a + b + c) = ((s.l.drop a).drop b).drop c := fun a b c => by rw [y49, y49, y56]
  rw [← g]; congr 1; omega
 simp only [w2, d2]
 refine Ev.po (Ev.po (Ev.bind (zcky ⟨s.z, _⟩ b3 (by simp only [y12]; omega)) ?_))
 unfold one7 rec1
 refine Ev.ite (fun h => Ev.ret' ?_) fun h => Ev.ite (fun h2 => Ev.ret' ?_) fun h2 => Ev.ite (fun h3 => Ev.ret' ?_) fun h3 => Ev.ite (fun h4 => Ev.ret' ?_) fun h4 => Ev.bind hlast (Ev.ret' ?_)
 ·simp only [if_pos h, if_true]; rfl
 ·try simp only at h2
  simp only [if_neg h, if_pos h2, if_true]; rfl
 ·try simp only at h2 h3
  simp only [if_neg h, if_neg h2, if_pos h3, if_true]; rfl
 ·try simp only at h2 h3 h4
  simp only [if_neg h, if_neg h2, if_neg h3, if_pos h4, if_true]; rfl
 ·try simp only at h2 h3 h4
  simp only [if_neg h, if_neg h2, if_neg h3, if_neg h4]
  rw [if_neg (by omega), Int.add_comm (lastS pr _), zcg6 (x := (getN s.l).2 + (getS (s.l.drop (getN s.l).2.toNat)).2 + (getO ((s.l.drop (getN s.l).2.toNat).drop (getS (s.l.drop (getN s.l).2.toNat)).2.toNat)).2 + _) (by omega) (by omega)]
theorem zcnw (z : Bool) (B : List Int) (hB : isB B) (hBl : B.length ≤ 4294967296) (first : Int) (hf : 0 ≤ first ∧ first < 4611686018427387904) (many : Nat) (hm : many ≤ 256) : ∀ (k i at_ : Nat) (pr : List zjs) (h1z : Bool), many = i + k → pr.length = i → at_ ≤ B.length → (0 < i → h1z = false) →
  Ev (fun q => znk q z B first (many : Int) (at_ : Int) (i : Int) h1z pr.reverse) (resB (fin7 B (rdK k (first + i) (B.drop at_) pr)))
 | 0, i, at_, pr, h1z, hk, hp, ha, hz => by
  have hlen : pr.reverse.length ≤ 1000000 := by rw [List.length_reverse]; omega
  refine Ev.succ (Ev.ne (Ev.bind (zclm ⟨h1z, pr.reverse⟩ hlen) ?_)) (fun q => rfl)
  simp only [rdK, fin7, y4]
  by_cases ho : blkOk pr.reverse = true
  ·rw [if_pos ho]
   refine Ev.pos rfl (Ev.ite (fun h => ?_) fun h => ?_)
   ·simp only at h
    rw [if_pos ⟨ho, h⟩]
    refine Ev.ret' ?_
    have : 0 < i := by
     cases pr with
     | nil => simp [blkOk] at ho
     | cons a l => rw [← hp]; simp
    rw [hz this]; rfl
   ·simp only at h
    rw [if_neg (fun e => h e.2)]; exact Ev.ret _
  ·rw [if_neg ho]
   rw [if_neg (show ¬ (blkOk pr.reverse = true ∧ blkE pr.reverse = B) from fun e => ho e.1)]
   exact Ev.neg (show ¬ ((1 : Int) = 0) by decide) (Ev.ret _)
 | k + 1, i, at_, pr, h1z, hk, hp, ha, hz => by
  have hr := zcms (B.drop at_)
  rw [y12] at hr
  refine Ev.succ (Ev.po (Ev.po (Ev.po (Ev.bind (zcnv pr h1z (by omega) ⟨z, List.drop (at_ : Int).toNat B⟩ (zcjo hB _) (by simp only [y12]; omega)) ?_)))) (fun q => rfl)
  simp only [y27, rdK, one7]
  by_cases h : (rec1 (B.drop at_)).2 = 0
  ·simp only [if_pos h]
   exact Ev.pos trivial (Ev.ret _)
  ·simp only [if_neg h]
   have wi : wrp .i64 ((i : Int) + 1) = ((i + 1 : Nat) : Int) := by rw [zcg6 (by omega) (by omega)]; omega
   have wx : wrp .i64 (first + (i : Int)) = first + (i : Int) := by rw [zcg6 (by omega) (by omega)]
   have wa : wrp .i64 ((at_ : Int) + (rec1 (B.drop at_)).2) = ((at_ + (rec1 (B.drop at_)).2.toNat : Nat) : Int) := by rw [zcg6 (by omega) (by omega)]; omega
   have ih := zcnw z B hB hBl first hf many hm k (i + 1) (at_ + (rec1 (B.drop at_)).2.toNat) (⟨first + i, (rec1 (B.drop at_)).1.Proc, wrp .i64 ((rec1 (B.drop at_)).1.Seq + lastS pr (rec1 (B.drop at_)).1.Proc), (rec1 (B.drop at_)).1.Op, (rec1 (B.drop at_)).1.Resp⟩ :: pr) false (by omega) (by rw [y20, hp]) (by omega) (fun _ => rfl)
   refine Ev.pos (by rw [List.length_reverse]; omega) ?_
   rw [wi, wx, wa]
   simp only [List.reverse_cons] at ih
   rw [show first + ((i + 1 : Nat) : Int) = first + (i : Int) + 1 by omega, ← y49] at ih
   exact ih
theorem zcnx (s : Sl Int) (hb : isB s.l) (hl : s.l.length ≤ 4294967296) : Ev (fun q => znl q s) (resB (blkD s.l)) := by
 have n1 := zcjh (l := s.l)
 have b1 := zcjo hb (getN s.l).2.toNat
 have n2 := zcjh (l := s.l.drop (getN s.l).2.toNat)
 have n2' := n2.2.1
 rw [y12] at n2'
 have hw : wrp .i64 ((getN s.l).2 + (getN (s.l.drop (getN s.l).2.toNat)).2) = (((getN s.l).2 + (getN (s.l.drop (getN s.l).2.toNat)).2).toNat : Int) := by rw [zcg6 (by omega) (by omega)]; omega
 unfold blkD
 refine Ev.succ (Ev.bind (zcj8 s hb (by omega)) (Ev.po (Ev.po (Ev.bind (zcj8 ⟨s.z, _⟩ b1 (by simp only [y12]; omega)) (Ev.ite (fun h => ?_) fun h => Ev.ite (fun h2 => ?_) fun h2 => Ev.ite (fun h4 => ?_) fun h4 => Ev.ite (fun h3 => ?_) fun h3 => ?_))))) (fun q => rfl)
 ·rw [if_pos h]; exact Ev.ret _
 ·rw [if_neg h, if_pos h2]; exact Ev.ret _
 ·simp only at h2 h4
  rw [if_neg h, if_neg h2, if_neg (by omega)]
  have : (getN (s.l.drop (getN s.l).2.toNat)).1.toNat = 0 := by omega
  rw [this]
  simp only [rdK, fin7, y4, List.reverse_nil]
  rw [if_neg (fun e => by have := e.1; simp [blkOk] at this)]
  exact Ev.ret _
 ·rw [if_neg h, if_neg h2, if_pos h3]; exact Ev.ret _
 rw [if_neg h, if_neg h2, if_neg h3]
 simp only at h2 h3 h4
 simp only [hw]
 have e1 : (s.l.drop ((getN s.l).2 + (getN (s.l.drop (getN s.l).2.toNat)).2).toNat) = (s.l.drop (getN s.l).2.toNat).drop (getN (s.l.drop (getN s.l).2.toNat)).2.toNat := by
  rw [y49]; congr 1; omega
 have := zcnw s.z s.l hb hl (getN s.l).1 ⟨n1.2.2.2.1, n1.2.2.2.2⟩ (getN (s.l.drop (getN s.l).2.toNat)).1.toNat (by omega) (getN (s.l.drop (getN s.l).2.toNat)).1.toNat 0 ((getN s.l).2 + (getN (s.l.drop (getN s.l).2.toNat)).2).toNat [] true (by omega) rfl (by omega) (by omega)
 rw [Int.toNat_of_nonneg (by omega)] at this
 rw [e1] at this
 refine Ev.cast this ?_
 simp
theorem zcny {v : Int} (v1 : 1 ≤ v) (v3 : v ≤ 3) (zz : Bool) : ∀ (k : Nat) (d : List Int) (acc : List zjs) (h0z : Bool), d.length < k → isB d → d.length ≤ 4294967296 → acc.length + d.length ≤ 4294967296 →
  ∃ z, Ev (fun q => zm3 q v zz d h0z acc) (resE z (eldD v k d acc))
 | 0, d, acc, h0z, hk, hb, hl, ha => by omega
 | k + 1, d, acc, h0z, hk, hb, hl, ha => by
  have n1 := zcjh (l := d)
  by_cases h0 : d.length = 0
  ·refine ⟨h0z, Ev.succ (Ev.ne (Ev.ret' ?_)) (fun q => rfl)⟩
   simp only [eldD, h0, if_true, resE]
  ·have w1 : wrp .i64 ((d.length : Int) - (getN d).2) = (d.length : Int) - (getN d).2 := by rw [zcg6 (by omega) (by omega)]
   have hG := zcj8 ⟨zz, d⟩ hb (by simp only; omega)
   by_cases hg : (getN d).2 = 0
   ·refine ⟨true, Ev.succ (Ev.po (Ev.bind hG (Ev.pos hg (Ev.ret' ?_)))) (fun q => rfl)⟩
    simp only [eldD, h0, hg, if_true, if_false, resE]
   by_cases ht : (d.length : Int) - (getN d).2 < (getN d).1
   ·refine ⟨true, Ev.succ (Ev.po (Ev.bind hG (Ev.neg hg (Ev.pos (by rw [w1]; exact ht) (Ev.ret' ?_))))) (fun q => rfl)⟩
    simp only [eldD, h0, hg, ht, if_true, if_false]
    by_cases hn : (getN d).1 = 0
    ·simp only [hn, if_true, resE]
    ·simp only [hn, if_false, resE]
   by_cases hn : (getN d).1 = 0
   ·refine ⟨true, Ev.succ (Ev.po (Ev.bind hG (Ev.neg hg (Ev.neg (by rw [w1]; exact ht) (Ev.pos (by simp only; omega) (Ev.ret' ?_)))))) (fun q => rfl)⟩
    simp only [eldD, h0, hg, hn, if_true, if_false, resE]
   have hi : (getN d).2.toNat < d.length := by omega
   have w2 : wrp .i64 ((getN d).2 + (getN d).1) = (getN d).2 + (getN d).1 := by rw [zcg6 (by omega) (by omega)]
   have w3 : wrp .u8 v = v := by rw [wrp_u8]; omega
   have he : d[(getN d).2.toNat]? = some d[(getN d).2.toNat] := by simp [hi]
   by_cases hv : d[(getN d).2.toNat] = v
   ·have es : List.drop (getN d).2.toNat (List.take ((getN d).2 + (getN d).1).toNat d) = (d.drop (getN d).2.toNat).take (getN d).1.toNat := by
     rw [List.drop_take]; congr 1; omega
    have hbs : isB ((d.drop (getN d).2.toNat).take (getN d).1.toNat) := zcjn (zcjo hb _) _
    by_cases hr : (decR ((d.drop (getN d).2.toNat).take (getN d).1.toNat)).2 = 0
    ·obtain ⟨z, ih⟩ := zcny v1 v3 zz k (d.drop ((getN d).2 + (getN d).1).toNat) (acc ++ [(decR ((d.drop (getN d).2.toNat).take (getN d).1.toNat)).1]) false (by rw [y12]; omega) (zcjo hb _) (by rw [y12]; omega) (by simp only [y12, y9, y20, y24]; omega)
     refine ⟨z, Ev.succ (Ev.po (Ev.bind hG (Ev.neg hg (Ev.neg (by rw [w1]; exact ht) (Ev.neg (by simp only; omega) (Ev.pos (by simp only; omega) (Ev.opt he (Ev.pos (by rw [w3]; exact hv) ?_)))))))) (fun q => rfl)⟩
     simp only [w2, es]
     refine Ev.po (Ev.po (Ev.bind (zck5 ⟨zz, _⟩ hbs (by simp only [y19, y12]; omega)) (Ev.pos hr (Ev.po (Ev.po (Ev.po (Ev.cast ih ?_)))))))
     simp only [eldD, h0, hg, hn, ht, he, hv, hr, if_true, if_false]
    ·refine ⟨true, Ev.succ (Ev.po (Ev.bind hG (Ev.neg hg (Ev.neg (by rw [w1]; exact ht) (Ev.neg (by simp only; omega) (Ev.pos (by simp only; omega) (Ev.opt he (Ev.pos (by rw [w3]; exact hv) ?_)))))))) (fun q => rfl)⟩
     simp only [w2, es]
     refine Ev.po (Ev.po (Ev.bind (zck5 ⟨zz, _⟩ hbs (by simp only [y19, y12]; omega)) (Ev.neg hr (Ev.ret' ?_))))
     simp only [eldD, h0, hg, hn, ht, he, hv, hr, if_true, if_false, resE]
   ·refine ⟨true, Ev.succ (Ev.po (Ev.bind hG (Ev.neg hg (Ev.neg (by rw [w1]; exact ht) (Ev.neg (by simp only; omega) (Ev.pos (by simp only; omega) (Ev.opt he (Ev.neg (by rw [w3]; exact hv) (Ev.ret' ?_))))))))) (fun q => rfl)⟩
    simp only [eldD, h0, hg, hn, ht, he, y1, hv, if_false, resE]
theorem zcnz {v : Int} (v1 : 1 ≤ v) (v3 : v ≤ 3) (s : Sl Int) (hb : isB s.l) (hl : s.l.length ≤ 4294967296) : ∃ z, Ev (fun q => zm4 q v s) (resE z (eldD v (s.l.length + 1) s.l [])) := by
 obtain ⟨z, h⟩ := zcny v1 v3 s.z (s.l.length + 1) s.l [] true (by omega) hb hl (by simpa using hl)
 exact ⟨z, Ev.succ h (fun q => rfl)⟩
/-- A block's records that go on from an index. -/
def readB (v : Int) (d : List Int) (next : Int) : Option (List zjs) := (blockR v d).bind fun l => if l.length ≠ 0 ∧ l.length ≤ 16 ∧ chainB l next = true then some l else none
theorem zcn0 {v : Int} (v1 : 1 ≤ v) (v3 : v ≤ 3) (s : Sl Int) (hb : isB s.l) (hl : s.l.length ≤ 10000000) (next : Int) (hr : inR .i64 next) : ∃ r, Ev (fun q => znm q v s next) r ∧ r.2 = (readB v s.l next).isSome ∧ ∀ l, readB v s.l next = some l → r.1.xs = l := by
 have body : ∀ (o : Ow zjs), o.xs.length ≤ 11000000 → blockR v s.l = some o.xs → ∃ r, Ev (fun q => if (o.xs.length : Int) < 1 then (some ((⟨true, true, []⟩ : Ow zjs), false)) else (if 16 < (o.xs.length : Int) then (some (⟨true, true, []⟩, false)) else ((zm6 q ⟨o.n, o.xs⟩ next).bind fun r2 => (some (o, r2))))) r ∧ r.2 = (readB v s.l next).isSome ∧ ∀ l, readB v s.l next = some l → r.1.xs = l := fun o ho hR => by
  unfold readB
  rw [hR, y4]
  by_cases h0 : (o.xs.length : Int) < 1
  ·refine ⟨_, Ev.pos h0 (Ev.ret _), ?_, fun l h => ?_⟩
   ·rw [if_neg (by omega)]; rfl
   ·rw [if_neg (by omega)] at h; cases h
  by_cases h1 : 16 < (o.xs.length : Int)
  ·refine ⟨_, Ev.neg h0 (Ev.pos h1 (Ev.ret _)), ?_, fun l h => ?_⟩
   ·rw [if_neg (by omega)]; rfl
   ·rw [if_neg (by omega)] at h; cases h
  ·refine ⟨_, Ev.neg h0 (Ev.neg h1 (Ev.bind (zcma ⟨o.n, o.xs⟩ next hr (by simp only; omega)) (Ev.ret _))), ?_, fun l h => ?_⟩
   ·by_cases hc : chainB o.xs next = true
    ·rw [if_pos ⟨by omega, by omega, hc⟩]; simp [hc]; omega
    ·rw [if_neg (fun e => hc e.2.2)]; simp [hc]
   ·split at h
    ·cases h; rfl
    ·cases h
 by_cases h3 : v < 3
 ·obtain ⟨z, hE⟩ := zcnz v1 v3 s hb (by omega)
  cases hR : eldD v (s.l.length + 1) s.l [] with
  | none =>
   rw [hR] at hE
   have : readB v s.l next = none := by unfold readB blockR; rw [if_neg (by omega), hR]; rfl
   refine ⟨_, Ev.succ (Ev.pos h3 (Ev.bind hE (Ev.neg (by simp only [resE]; decide) (Ev.ret _)))) (fun q => rfl), ?_, fun l h => ?_⟩
   ·rw [this]; rfl
   ·rw [this] at h; cases h
  | some l =>
   rw [hR] at hE
   have hlen := zcmy hR
   rw [y24] at hlen
   obtain ⟨r, h1, h2⟩ := body ⟨z, true, l⟩ (by simp only; omega) (by unfold blockR; rw [if_neg (by omega), hR])
   exact ⟨r, Ev.succ (Ev.pos h3 (Ev.bind hE (Ev.pos rfl h1))) (fun q => rfl), h2⟩
 ·have hE := zcnx s hb (by omega)
  have hv : v = 3 := by omega
  cases hR : blkD s.l with
  | none =>
   rw [hR] at hE
   have : readB v s.l next = none := by unfold readB blockR; rw [if_pos hv, hR]; rfl
   refine ⟨_, Ev.succ (Ev.neg h3 (Ev.bind hE (Ev.neg (by simp only [resB]; omega) (Ev.ret _)))) (fun q => rfl), ?_, fun l h => ?_⟩
   ·rw [this]; rfl
   ·rw [this] at h; cases h
  | some l =>
   rw [hR] at hE
   have hlen : l.length ≤ 256 := by
    have h2 := (zcmv hR).1
    cases l with
    | nil => simp
    | cons a l => simp only [blkOk, y5, decide_eq_true_eq] at h2; omega
   obtain ⟨r, h1, h2⟩ := body ⟨false, false, l⟩ (by simp only; omega) (by unfold blockR; rw [if_pos hv, hR])
   exact ⟨r, Ev.succ (Ev.neg h3 (Ev.bind hE (Ev.pos rfl h1))) (fun q => rfl), h2⟩
theorem zcn1 {v f : Int} {d : List Int} {acc : List zjs} {i : Nat} {D : List (List Int)} {full : Bool} :
  (readB v d (f + acc.length) = none → walkS v f (d :: D) i acc full = (i, 3, acc, full)) ∧
  (∀ l, readB v d (f + acc.length) = some l → l.length ≤ 16 ∧ l.length ≠ 0 ∧ walkS v f (d :: D) i acc full = if full = true then (if 4096 < acc.length + l.length then (i, 5, acc, full) else walkS v f D (i + 1) (acc ++ l) (decide (l.length = 16))) else (i, 3, acc, full)) := by
 unfold readB
 constructor
 ·intro h
  simp only [walkS]
  cases hR : blockR v d with
  | none => rfl
  | some l =>
   rw [hR, y4] at h
   split at h
   ·cases h
   ·rename_i hc
    have : stepW f acc full l = 3 := by unfold stepW; rw [if_neg (fun e => hc e.2)]
    simp only [this]; rw [if_neg (by decide)]
 ·intro l h
  cases hR : blockR v d with
  | none => rw [hR] at h; cases h
  | some l' =>
   rw [hR, y4] at h
   split at h
   ·rename_i hc
    cases h
    refine ⟨hc.2.1, hc.1, ?_⟩
    simp only [walkS, hR]
    by_cases hf : full = true
    ·rw [if_pos hf]
     have hs : stepW f acc full l = if 4096 < acc.length + l.length then 5 else 0 := by unfold stepW; rw [if_pos ⟨hf, hc⟩]
     rw [hs]
     by_cases h4 : 4096 < acc.length + l.length
     ·simp only [if_pos h4]
      rw [if_neg (show ¬ ((5 : Int) = 0) by decide)]
     ·simp only [if_neg h4, if_true]
    ·rw [if_neg hf]
     have : stepW f acc full l = 3 := by unfold stepW; rw [if_neg (fun e => hf e.1)]
     rw [this, if_neg (by decide)]
   ·cases h
theorem zcn2 {v k f : Int} (v1 : 1 ≤ v) (v3 : v ≤ 3) (hf : 0 ≤ f ∧ f < 4611686018427387904) (z : Bool) (L : List (Sl Int)) (hB : ∀ e ∈ L, isB e.l ∧ e.l.length ≤ 10000000) (hL : L.length ≤ 1000000000) : ∀ (n i : Nat) (acc : List zjs) (full za : Bool) (last : Int), L.length = i + n → acc.length ≤ 4096 → (last < 16 ↔ full = false) →
  ∃ z', Ev (fun q => znn q z L v last (i : Int) k f za acc) (v, ⟨k, f, ⟨z', (walkS v f ((L.drop i).map (·.l)) i acc full).2.2.1⟩⟩, ((walkS v f ((L.drop i).map (·.l)) i acc full).1 : Int), (walkS v f ((L.drop i).map (·.l)) i acc full).2.1)
 | 0, i, acc, full, za, last, hk, ha, hl => by
  refine ⟨za, Ev.succ (Ev.ne (Ev.ret' ?_)) (fun q => rfl)⟩
  rw [y11 (by omega)]
  simp only [y63, walkS]
  rw [show L.length = i by omega]
 | n + 1, i, acc, full, za, last, hk, ha, hl => by
  have hi : i < L.length := by omega
  have hg : L[((i : Int)).toNat]? = some L[i] := by simp [hi]
  obtain ⟨hb, hbl⟩ := hB L[i] (y25 hi)
  have wn : wrp .i64 (f + (acc.length : Int)) = f + acc.length := by rw [zcg6 (by omega) (by omega)]
  have wi : wrp .i64 ((i : Int) + 1) = ((i + 1 : Nat) : Int) := by rw [zcg6 (by omega) (by omega)]; omega
  obtain ⟨r, hr, hr2, hr3⟩ := zcn0 v1 v3 L[i] hb hbl (f + acc.length) (zchu (by omega) (by omega))
  have hr' : Ev (fun q => znm q v L[i] (wrp .i64 (f + (acc.length : Int)))) r := by rw [wn]; exact hr
  obtain ⟨s1, s2⟩ := zcn1 (v := v) (f := f) (d := L[i].l) (acc := acc) (i := i) (D := (L.drop (i + 1)).map (·.l)) (full := full)
  rw [y8 hi, y33]
  cases hR : readB v L[i].l (f + acc.length) with
  | none =>
   rw [hR] at hr2
   rw [s1 hR]
   refine ⟨za, Ev.succ (Ev.po (Ev.po (Ev.opt hg (Ev.bind hr' (Ev.neg (by rw [hr2]; decide) (Ev.ret _)))))) (fun q => rfl)⟩
  | some l =>
   rw [hR] at hr2
   have hx := hr3 l hR
   obtain ⟨q1, q2, q3⟩ := s2 l hR
   rw [q3]
   by_cases hfull : full = true
   ·rw [if_pos hfull]
    have h16 : ¬ last < 16 := fun e => by rw [hl.1 e] at hfull; cases hfull
    have wt : wrp .i64 ((acc.length : Int) + (r.1.xs.length : Int)) = acc.length + l.length := by rw [hx, zcg6 (by omega) (by omega)]
    by_cases h4 : 4096 < acc.length + l.length
    ·rw [if_pos h4]
     refine ⟨za, Ev.succ (Ev.po (Ev.po (Ev.opt hg (Ev.bind hr' (Ev.pos (by rw [hr2]; rfl) (Ev.neg h16 (Ev.pos (by rw [wt]; omega) (Ev.ret _)))))))) (fun q => rfl)⟩
    ·rw [if_neg h4]
     obtain ⟨z', ih⟩ := zcn2 (k := k) v1 v3 hf z L hB hL n (i + 1) (acc ++ l) (decide (l.length = 16)) (za && (decide (l.length = 0))) (l.length : Int) (by omega) (by rw [y9]; omega) (by simp only [decide_eq_false_iff_not]; omega)
     refine ⟨z', Ev.succ (Ev.po (Ev.po (Ev.opt hg (Ev.bind hr' (Ev.pos (by rw [hr2]; rfl) (Ev.neg h16 (Ev.neg (by rw [wt]; omega) (Ev.pos (by rw [hx]; omega) ?_)))))))) (fun q => rfl)⟩
     rw [hx, wi]; exact ih
   ·rw [if_neg hfull]
    have h16 : last < 16 := hl.2 (by simpa using hfull)
    refine ⟨za, Ev.succ (Ev.po (Ev.po (Ev.opt hg (Ev.bind hr' (Ev.pos (by rw [hr2]; rfl) (Ev.pos h16 (Ev.ret _))))))) (fun q => rfl)⟩
theorem zcn3 {v k f : Int} (v1 : 1 ≤ v) (v3 : v ≤ 3) (hf : 0 ≤ f ∧ f < 4611686018427387904) (z : Bool) (L : List (Sl Int)) (hB : ∀ e ∈ L, isB e.l ∧ e.l.length ≤ 10000000) (hL : L.length ≤ 1000000000) (h1 : 1 ≤ L.length) :
  ∃ z', Ev (fun q => zno q z L v k f) (v, ⟨k, f, ⟨z', (walkS v f ((L.drop 1).map (·.l)) 1 [] true).2.2.1⟩⟩, ((walkS v f ((L.drop 1).map (·.l)) 1 [] true).1 : Int), (walkS v f ((L.drop 1).map (·.l)) 1 [] true).2.1) := by
 by_cases h2 : L.length = 1
 ·refine ⟨true, Ev.succ (Ev.ne (Ev.ret' ?_)) (fun q => rfl)⟩
  rw [y11 (by omega)]
  simp only [y63, walkS]
  rw [h2]
 ·have hi : 1 < L.length := by omega
  have hg : L[1]? = some L[1] := y6 hi
  obtain ⟨hb, hbl⟩ := hB L[1] (y25 hi)
  have wn : wrp .i64 (f + 0) = f + (([] : List zjs).length : Int) := by rw [zcg6 (by omega) (by omega)]; simp
  have wi : wrp .i64 2 = ((1 + 1 : Nat) : Int) := by rw [zcg6 (by omega) (by omega)]; rfl
  obtain ⟨r, hr, hr2, hr3⟩ := zcn0 v1 v3 L[1] hb hbl (f + (([] : List zjs).length : Int)) (zchu (by simp; omega) (by simp; omega))
  have hr' : Ev (fun q => znm q v L[1] (wrp .i64 (f + 0))) r := by rw [wn]; exact hr
  obtain ⟨s1, s2⟩ := zcn1 (v := v) (f := f) (d := L[1].l) (acc := []) (i := 1) (D := (L.drop (1 + 1)).map (·.l)) (full := true)
  rw [y8 hi, y33]
  cases hR : readB v L[1].l (f + (([] : List zjs).length : Int)) with
  | none =>
   rw [hR] at hr2
   rw [s1 hR]
   refine ⟨true, Ev.succ (Ev.po (Ev.opt hg (Ev.bind hr' (Ev.neg (by rw [hr2]; decide) (Ev.ret _))))) (fun q => rfl)⟩
  | some l =>
   rw [hR] at hr2
   have hx := hr3 l hR
   obtain ⟨q1, q2, q3⟩ := s2 l hR
   rw [q3, if_pos rfl]
   have wt : wrp .i64 (0 + (r.1.xs.length : Int)) = (([] : List zjs).length : Int) + l.length := by rw [hx, zcg6 (by omega) (by omega)]; simp
   rw [if_neg (by rw [y24]; omega)]
   rw [y24] at wt
   obtain ⟨z', ih⟩ := zcn2 (k := k) v1 v3 hf z L hB hL (L.length - 2) (1 + 1) ([] ++ l) (decide (l.length = 16)) (decide (l.length = 0)) (l.length : Int) (by omega) (by rw [y46]; omega) (by simp only [decide_eq_false_iff_not]; omega)
   refine ⟨z', Ev.succ (Ev.po (Ev.opt hg (Ev.bind hr' (Ev.pos (by rw [hr2]; rfl) (Ev.neg (by rw [wt]; omega) (Ev.pos (by rw [hx]; omega) ?_)))))) (fun q => rfl)⟩
   rw [hx, wi]; exact ih
theorem zcn4 (s : Sl (Sl Int)) (hB : ∀ e ∈ s.l, isB e.l ∧ e.l.length ≤ 10000000) (hL : s.l.length ≤ 1000000000) (h1 : 1 ≤ s.l.length) :
  ∃ z, Ev (fun q => znp q s) ((walkA (s.l.map (·.l))).2.2.1, ⟨(walkA (s.l.map (·.l))).2.2.2.1, (walkA (s.l.map (·.l))).2.2.2.2.1, ⟨z, (walkA (s.l.map (·.l))).2.2.2.2.2⟩⟩, ((walkA (s.l.map (·.l))).1 : Int), (walkA (s.l.map (·.l))).2.1) := by
 obtain ⟨zs, L⟩ := s
 simp only at hB hL h1 ⊢
 have hg : L[0]? = some L[0] := y6 (by omega)
 obtain ⟨hb, hbl⟩ := hB L[0] (y25 (by omega))
 have hd : L = L[0] :: L.drop 1 := by
  have := y8 (l := L) (i := 0) (by omega)
  rwa [y37] at this
 have hm : L.map (·.l) = L[0].l :: (L.drop 1).map (·.l) := by
  conv => lhs; rw [hd]
  rw [y33]
 rw [hm]
 generalize hdl : L[0].l = d at *
 have main : ∀ r : Int × Int × Int × Int × Bool, headR d = r → r.1 ≠ 0 → walkA (d :: (L.drop 1).map (·.l)) = (0, r.1, 0, 0, 0, []) := fun r hr h0 => by
  simp only [walkA]; rw [hr, if_neg h0]
 unfold headR at main
 by_cases c1 : d.length = 0
 ·refine ⟨true, Ev.succ (Ev.opt hg (Ev.pos (by rw [hdl]; omega) (Ev.ret' ?_))) (fun q => rfl)⟩
  rw [main (3, 0, 0, 0, false) (by rw [if_pos c1]) (by decide)]; rfl
 have he : d[0]? = some d[0] := y6 (by omega)
 have he' : L[0].l[0]? = some d[0] := by rw [hdl]; exact he
 by_cases c2 : d[0] = 108
 ·have c2' : d[0]? = some 108 := by rw [he, c2]
  have b0 := zcjo hb 1
  have n1 := zcjh (l := d.drop 1)
  have n2 := zcjh (l := (d.drop 1).drop (getN (d.drop 1)).2.toNat)
  have b1 := zcjo b0 (getN (d.drop 1)).2.toNat
  have n3 := zcjh (l := ((d.drop 1).drop (getN (d.drop 1)).2.toNat).drop (getN ((d.drop 1).drop (getN (d.drop 1)).2.toNat)).2.toNat)
  have b2 := zcjo b1 (getN ((d.drop 1).drop (getN (d.drop 1)).2.toNat)).2.toNat
  have n1' := n1.2.1
  have n2' := n2.2.1
  have n3' := n3.2.1
  rw [y12] at n1'
  rw [y12, y12] at n2'
  rw [y12, y12, y12] at n3'
  have w1 : wrp .i64 (1 + (getN (d.drop 1)).2) = 1 + (getN (d.drop 1)).2 := by rw [zcg6 (by omega) (by omega)]
  have e1 : d.drop (1 + (getN (d.drop 1)).2).toNat = (d.drop 1).drop (getN (d.drop 1)).2.toNat := by rw [y49]; congr 1; omega
  have w2 : wrp .i64 (1 + (getN (d.drop 1)).2 + (getN ((d.drop 1).drop (getN (d.drop 1)).2.toNat)).2) = 1 + (getN (d.drop 1)).2 + (getN ((d.drop 1).drop (getN (d.drop 1)).2.toNat)).2 := by rw [zcg6 (by omega) (by omega)]
  have e2 : d.drop (1 + (getN (d.drop 1)).2 + (getN ((d.drop 1).drop (getN (d.drop 1)).2.toNat)).2).toNat = ((d.drop 1).drop (getN (d.drop 1)).2.toNat).drop (getN ((d.drop 1).drop (getN (d.drop 1)).2.toNat)).2.toNat := by
   have g : ∀ (a b c : Nat), d.drop (a + b + c) = ((d.drop a).drop b).drop c := fun a b c => by rw [y49, y49, y56]
   rw [← g]; congr 1; omega
  have w3 : wrp .i64 (1 + (getN (d.drop 1)).2 + (getN ((d.drop 1).drop (getN (d.drop 1)).2.toNat)).2 + (getN (((d.drop 1).drop (getN (d.drop 1)).2.toNat).drop (getN ((d.drop 1).drop (getN (d.drop 1)).2.toNat)).2.toNat)).2) = 1 + (getN (d.drop 1)).2 + (getN ((d.drop 1).drop (getN (d.drop 1)).2.toNat)).2 + (getN (((d.drop 1).drop (getN (d.drop 1)).2.toNat).drop (getN ((d.drop 1).drop (getN (d.drop 1)).2.toNat)).2.toNat)).2 := by rw [zcg6 (by omega) (by omega)]
  have e3 : ((((d.drop 1).drop (getN (d.drop 1)).2.toNat).drop (getN ((d.drop 1).drop (getN (d.drop 1)).2.toNat)).2.toNat).drop (getN (((d.drop 1).drop (getN (d.drop 1)).2.toNat).drop (getN ((d.drop 1).drop (getN (d.drop 1)).2.toNat)).2.toNat)).2.toNat).length = d.length - (1 + (getN (d.drop 1)).2 + (getN ((d.drop 1).drop (getN (d.drop 1)).2.toNat)).2 + (getN (((d.drop 1).drop (getN (d.drop 1)).2.toNat).drop (getN ((d.drop 1).drop (getN (d.drop 1)).2.toNat)).2.toNat)).2).toNat := by
   rw [y12, y12, y12, y12]; omega
  have pre : ∀ {r}, Ev (fun q => if (getN (d.drop 1)).2 = 0 then (some (0, (⟨0, 0, ⟨true, []⟩⟩ : zjt), 0, 3)) else (if (getN ((d.drop 1).drop (getN (d.drop 1)).2.toNat)).2 = 0 then (some (0, (⟨0, 0, ⟨true, []⟩⟩ : zjt), 0, 3)) else (if (getN (((d.drop 1).drop (getN (d.drop 1)).2.toNat).drop (getN ((d.drop 1).drop (getN (d.drop 1)).2.toNat)).2.toNat)).2 = 0 then (some (0, (⟨0, 0, ⟨true, []⟩⟩ : zjt), 0, 3)) else (if 1 + (getN (d.drop 1)).2 + (getN ((d.drop 1).drop (getN (d.drop 1)).2.toNat)).2 + (getN (((d.drop 1).drop (getN (d.drop 1)).2.toNat).drop (getN ((d.drop 1).drop (getN (d.drop 1)).2.toNat)).2.toNat)).2 = (d.length : Int) then (if (getN (d.drop 1)).1 < 1 then (some (0, (⟨0, 0, ⟨true, []⟩⟩ : zjt), 0, 6)) else (if 3 < (getN (d.drop 1)).1 then (some (0, (⟨0, 0, ⟨true, []⟩⟩ : zjt), 0, 6)) else (if 6 ≤ (getN ((d.drop 1).drop (getN (d.drop 1)).2.toNat)).1 then (some (0, (⟨0, 0, ⟨true, []⟩⟩ : zjt), 0, 1)) else (zno q zs L (getN (d.drop 1)).1 (getN ((d.drop 1).drop (getN (d.drop 1)).2.toNat)).1 (getN (((d.drop 1).drop (getN (d.drop 1)).2.toNat).drop (getN ((d.drop 1).drop (getN (d.drop 1)).2.toNat)).2.toNat)).1)))) else (some (0, (⟨0, 0, ⟨true, []⟩⟩ : zjt), 0, 3)))))) r → Ev (fun q => znp q ⟨zs, L⟩) r := fun {r} h => by
   refine Ev.succ (Ev.opt hg (Ev.neg (by rw [hdl]; omega) (Ev.opt he' (Ev.pos c2 (Ev.pos (by rw [hdl]; omega) (Ev.bind (s := getN (d.drop 1)) ?_ ?_)))))) (fun q => rfl)
   ·rw [hdl]; exact zcj8 ⟨L[0].z, d.drop 1⟩ b0 (by simp only [y12]; omega)
   rw [hdl, w1, e1]
   refine Ev.po (Ev.po (Ev.bind (zcj8 ⟨L[0].z, _⟩ b1 (by simp only [y12]; omega)) ?_))
   simp only [w2, e2]
   refine Ev.po (Ev.po (Ev.bind (zcj8 ⟨L[0].z, _⟩ b2 (by simp only [y12]; omega)) ?_))
   simp only [w3]
   exact h
  by_cases c3 : (getN (d.drop 1)).2 = 0
  ·refine ⟨true, pre (Ev.pos c3 (Ev.ret' ?_))⟩
   rw [main (3, 0, 0, 0, false) (by rw [if_neg c1, if_pos c2', if_pos c3]) (by decide)]; rfl
  by_cases c4 : (getN ((d.drop 1).drop (getN (d.drop 1)).2.toNat)).2 = 0
  ·refine ⟨true, pre (Ev.neg c3 (Ev.pos c4 (Ev.ret' ?_)))⟩
   rw [main (3, 0, 0, 0, false) (by rw [if_neg c1, if_pos c2', if_neg c3, if_pos c4]) (by decide)]; rfl
  by_cases c5 : (getN (((d.drop 1).drop (getN (d.drop 1)).2.toNat).drop (getN ((d.drop 1).drop (getN (d.drop 1)).2.toNat)).2.toNat)).2 = 0
  ·refine ⟨true, pre (Ev.neg c3 (Ev.neg c4 (Ev.pos c5 (Ev.ret' ?_))))⟩
   rw [main (3, 0, 0, 0, false) (by rw [if_neg c1, if_pos c2', if_neg c3, if_neg c4, if_pos c5]) (by decide)]; rfl
  by_cases c6 : 0 < ((((d.drop 1).drop (getN (d.drop 1)).2.toNat).drop (getN ((d.drop 1).drop (getN (d.drop 1)).2.toNat)).2.toNat).drop (getN (((d.drop 1).drop (getN (d.drop 1)).2.toNat).drop (getN ((d.drop 1).drop (getN (d.drop 1)).2.toNat)).2.toNat)).2.toNat).length
  ·have c6' := c6
   rw [e3] at c6'
   refine ⟨true, pre (Ev.neg c3 (Ev.neg c4 (Ev.neg c5 (Ev.ne (Ev.ret' ?_)))))⟩
   rw [main (3, 0, 0, 0, false) (by rw [if_neg c1, if_pos c2', if_neg c3, if_neg c4, if_neg c5, if_pos c6]) (by decide)]; rfl
  have c6' := c6
  rw [e3] at c6'
  by_cases c7 : 1 ≤ (getN (d.drop 1)).1 ∧ (getN (d.drop 1)).1 ≤ 3
  ·by_cases c8 : 6 ≤ (getN ((d.drop 1).drop (getN (d.drop 1)).2.toNat)).1
   ·refine ⟨true, pre (Ev.neg c3 (Ev.neg c4 (Ev.neg c5 (Ev.po (Ev.ne (Ev.ne (Ev.pos c8 (Ev.ret' ?_))))))))⟩
    rw [main (1, 0, 0, 0, false) (by rw [if_neg c1, if_pos c2', if_neg c3, if_neg c4, if_neg c5, if_neg c6, if_pos c7, if_pos c8]) (by decide)]; rfl
   ·obtain ⟨z', hw⟩ := zcn3 (k := (getN ((d.drop 1).drop (getN (d.drop 1)).2.toNat)).1) c7.1 c7.2 ⟨n3.2.2.2.1, n3.2.2.2.2⟩ zs L hB hL h1
    refine ⟨z', pre (Ev.neg c3 (Ev.neg c4 (Ev.neg c5 (Ev.po (Ev.ne (Ev.ne (Ev.neg c8 (Ev.cast hw ?_))))))))⟩
    have hh : headR d = (0, (getN (d.drop 1)).1, (getN ((d.drop 1).drop (getN (d.drop 1)).2.toNat)).1, (getN (((d.drop 1).drop (getN (d.drop 1)).2.toNat).drop (getN ((d.drop 1).drop (getN (d.drop 1)).2.toNat)).2.toNat)).1, true) := by
     unfold headR
     rw [if_neg c1, if_pos c2', if_neg c3, if_neg c4, if_neg c5, if_neg c6, if_pos c7, if_neg c8]
    simp only [walkA, hh, if_true]
  ·refine ⟨true, pre (Ev.neg c3 (Ev.neg c4 (Ev.neg c5 (Ev.po (Ev.ite (fun h => Ev.ret' ?_) fun h => Ev.po (Ev.ret' ?_))))))⟩
   ·rw [main (6, 0, 0, 0, false) (by rw [if_neg c1, if_pos c2', if_neg c3, if_neg c4, if_neg c5, if_neg c6, if_neg c7]) (by decide)]; rfl
   ·rw [main (6, 0, 0, 0, false) (by rw [if_neg c1, if_pos c2', if_neg c3, if_neg c4, if_neg c5, if_neg c6, if_neg c7]) (by decide)]; rfl
 ·refine ⟨true, Ev.succ (Ev.opt hg (Ev.neg (by rw [hdl]; omega) (Ev.opt he' (Ev.neg c2 (Ev.ret' ?_))))) (fun q => rfl)⟩
  rw [main (3, 0, 0, 0, false) (by rw [if_neg c1, if_neg (by rw [he]; simpa using c2)]) (by decide)]; rfl
theorem zcn5 (s : Sl Int) (hb : isB s.l) (hl : s.l.length ≤ 4294967296) : ∃ z X, Ev (fun q => zmr q s) (⟨z, true, X⟩, (((allF s.l).2.1 : Nat) : Int), (allF s.l).2.2) ∧ X.map (·.l) = (allF s.l).1 ∧ (X ≠ [] → z = false) := by
 obtain ⟨z, X, h, hm, h3⟩ := zcnc (D := fun q s => zmp q s) (W := zmq) (fun q z L i z2 h => rfl) s.z s.l hb hl (fun i hi => zckd ⟨s.z, s.l.drop i⟩ (zcjo hb i) (by simp; omega)) (s.l.length + 1) 0 true [] (by omega) (by omega) (by simp)
 rw [y37] at h hm
 refine ⟨z, X, Ev.succ h (fun q => rfl) |>.cast ?_, hm, fun h => h3 (.inr h)⟩
 simp [allF]
theorem zcn6 (s : Sl Int) (hb : isB s.l) (hl : s.l.length ≤ 4294967296) : ∃ z X, Ev (fun q => zms q s) (⟨z, true, X⟩, (allE s.l).2) ∧ X.map (·.l) = (allE s.l).1 ∧ (X ≠ [] → z = false) := by
 obtain ⟨z, X, h, hm, h3⟩ := zcn5 s hb hl
 unfold allE
 by_cases he : (allF s.l).2.2 = 0
 ·rw [if_pos he]; exact ⟨z, X, Ev.succ (Ev.bind h (Ev.pos he (Ev.ret _))) (fun q => rfl), hm, h3⟩
 ·rw [if_neg he]; exact ⟨true, [], Ev.succ (Ev.bind h (Ev.neg he (Ev.ret _))) (fun q => rfl), rfl, fun h => absurd rfl h⟩
theorem zcn7 (z : Bool) (L : List (Sl Int)) (hL : L.length ≤ 1000000000) (hB : ∀ e ∈ L, isB e.l ∧ e.l.length ≤ 1048576) : ∀ (k i : Nat) (h0z : Bool) (h0l : List (Sl Int)), L.length = i + k → h0l.length = i →
  ∃ z' X, Ev (fun q => znt q z L (i : Int) h0z h0l) ⟨z', true, h0l ++ X⟩ ∧ X.map (·.l) = ((L.drop i).map fun e => encF e.l) ∧ (h0z = false ∨ X ≠ [] → z' = false)
 | 0, i, h0z, h0l, hk, hh => by
  refine ⟨h0z, [], Ev.succ (Ev.ne (Ev.ret' (by simp))) (fun q => rfl), ?_, fun h => h.elim id (fun h => absurd rfl h)⟩
  rw [y11 (by omega)]; rfl
 | k + 1, i, h0z, h0l, hk, hh => by
  have hi : i < L.length := by omega
  have he : L[((i : Int)).toNat]? = some L[i] := by simp [hi]
  obtain ⟨hb, hl⟩ := hB L[i] (y25 hi)
  obtain ⟨zf, hf⟩ := zcj3 L[i] hb hl
  obtain ⟨z', X, ih, hX, hz⟩ := zcn7 z L hL hB k (i + 1) false (h0l ++ [⟨zf, encF L[i].l⟩]) (by omega) (by simp [hh])
  rw [show ((i + 1 : Nat) : Int) = wrp .i64 ((i : Int) + 1) by rw [zcg6 (by omega) (by omega)]; omega] at ih
  refine ⟨z', ⟨zf, encF L[i].l⟩ :: X, Ev.succ (Ev.po (Ev.po (Ev.opt he (Ev.bind hf (Ev.po (Ev.cast ih ?_)))))) (fun q => rfl), ?_, fun _ => hz (.inl rfl)⟩
  ·simp
  ·rw [y8 hi, y33, y33, hX]
theorem zcn8 (s : Sl (Sl Int)) (hL : s.l.length ≤ 1000000000) (hB : ∀ e ∈ s.l, isB e.l ∧ e.l.length ≤ 1048576) : ∃ z' X, Ev (fun q => znu q s) ⟨z', true, X⟩ ∧ X.map (·.l) = (s.l.map fun e => encF e.l) ∧ (X ≠ [] → z' = false) := by
 obtain ⟨z', X, h, hX, hz⟩ := zcn7 s.z s.l hL hB s.l.length 0 true [] (by omega) rfl
 exact ⟨z', X, Ev.succ (Ev.cast h (by simp)) (fun q => rfl), by simpa using hX, fun h => hz (.inr h)⟩
theorem zcn9 {a b : List Int} (ha : a.length ≤ 1048576) (hb : b.length ≤ 1048576) (h : encF a = encF b) : a = b := by
 have d1 := zcjt (l := a) (x := []) ha
 have d2 := zcjt (l := b) (x := []) hb
 rw [h, d2] at d1
 exact (congrArg Prod.fst d1).symm
theorem zcoa (s : Sl Int) (hb : isB s.l) (hl : s.l.length ≤ 80000) : ∃ sz, Ev (fun q => znx q s) (⟨(segD s.l).1.1, (segD s.l).1.2.1, ⟨sz, (segD s.l).1.2.2⟩⟩, (segD s.l).2.2) := by
 obtain ⟨z0, X, hA, hX, hz0⟩ := zcn6 s hb (by omega)
 obtain ⟨hM, hMl⟩ := zcnh hb
 have hXl : X.length = (allE s.l).1.length := by rw [← hX, y23]
 unfold segD
 by_cases he : (allE s.l).2 = 0
 ·simp only [if_pos he]
  by_cases h2 : (allE s.l).1.length < 2
  ·simp only [if_pos h2]
   exact ⟨true, Ev.succ (Ev.bind hA (Ev.pos he (Ev.pos (by simp only; omega) (Ev.ret _)))) (fun q => rfl)⟩
  ·simp only [if_neg h2]
   have hw : wrp .i64 ((X.length : Int) - 1) = ((X.length - 1 : Nat) : Int) := by rw [zcg6 (by omega) (by omega)]; omega
   have hzf : z0 = false := hz0 (fun e => by rw [e] at hXl; simp at hXl; omega)
   subst hzf
   have hB : ∀ e ∈ X, isB e.l ∧ e.l.length ≤ 1048576 := fun e he => hM e.l (by rw [← hX]; exact y60 (f := fun x : Sl Int => x.l) he)
   have hB' : ∀ e ∈ X.take (X.length - 1), isB e.l ∧ e.l.length ≤ 1048576 := fun e he => hB e (y43 he)
   have hlt : (X.take (X.length - 1)).length = X.length - 1 := by rw [y19]; omega
   have htk : (X.take (X.length - 1)).map (·.l) = (allE s.l).1.take ((allE s.l).1.length - 1) := by rw [List.map_take, hX, hXl]
   obtain ⟨zw, hW⟩ := zcn4 ⟨false, X.take (X.length - 1)⟩ (fun e he => ⟨(hB' e he).1, by have := (hB' e he).2; omega⟩) (by simp only; omega) (by simp only; omega)
   simp only [htk] at hW
   have pre : ∀ {r} , Ev (fun q => (znp q ⟨false, (List.take (X.length - 1) X)⟩).bind fun r7 => (if r7.2.2.2 = 0 then ((znu q ⟨false, (List.take (X.length - 1) X)⟩).bind fun r8 => (if 0 < r8.xs.length then ((r8.xs[0]?).bind fun e9 => (if 1 ≤ r8.xs.length then ((znw q e9 ⟨r8.n, (List.drop 1 r8.xs)⟩).bind fun r10 => (if (X.length - 1) < X.length then ((X[(X.length - 1)]?).bind fun e11 => (if r10.xs = e11.l then (some (r7.2.1, (0 : Int))) else (some ((⟨0, 0, ⟨true, []⟩⟩ : zjt), 16)))) else none)) else none)) else none)) else (some ((⟨0, 0, ⟨true, []⟩⟩ : zjt), r7.2.2.2)))) r → Ev (fun q => znx q s) r := fun {r} h => by
    refine Ev.succ (Ev.bind hA (Ev.pos he (Ev.neg (by simp only; omega) (Ev.pos ?_ (Ev.pos ?_ (Ev.neg (show ¬ (false = true) by decide) ?_)))))) (fun q => rfl)
    ·simp only [hw]; omega
    ·simp only [hw, y27]; omega
    ·simp only [hw, y27]; exact h
   by_cases hw0 : (walkA ((allE s.l).1.take ((allE s.l).1.length - 1))).2.1 = 0
   ·simp only [if_pos hw0]
    obtain ⟨zf, Y, hF, hY, hzY⟩ := zcn8 ⟨false, X.take (X.length - 1)⟩ (by simp only; omega) hB'
    have hYm : Y.map (·.l) = ((allE s.l).1.take ((allE s.l).1.length - 1)).map encF := by rw [hY, ← htk, List.map_map]; rfl
    have hYl : Y.length = X.length - 1 := by
     have := congrArg List.length hY
     rw [y23, y23, hlt] at this; exact this
    have hg0 : Y[0]? = some Y[0] := y6 (by omega)
    have hYc : Y = Y[0] :: Y.drop 1 := by
     have := y8 (l := Y) (i := 0) (by omega)
     rwa [y37] at this
    have hlenY : ∀ e ∈ Y, e.l.length ≤ 4294967296 := fun e he => by
     have : e.l ∈ Y.map (·.l) := y60 (f := fun x : Sl Int => x.l) he
     rw [hY] at this
     obtain ⟨a, ha, hae⟩ := List.mem_map.1 this
     have h1 := (hB' a ha).2
     have h2 := (zcmc a.l).1
     rw [← hae]; omega
    have hFt := zcml Y[0] ⟨zf, Y.drop 1⟩ (hlenY _ (y25 _)) (by simp only [y12]; omega) (fun e he => hlenY e (y52 he))
    have hcons : Y[0].l :: (Y.drop 1).map (·.l) = ((allE s.l).1.take ((allE s.l).1.length - 1)).map encF := by
     rw [← hYm]
     conv => rhs; rw [hYc]
     rw [y33]
    simp only [hcons] at hFt
    have hg : X[X.length - 1]? = some X[X.length - 1] := y6 (by omega)
    obtain ⟨b1, b2⟩ := hB X[X.length - 1] (y25 (by omega))
    have hlast : X[X.length - 1].l = (allE s.l).1.getD ((allE s.l).1.length - 1) [] := by
     rw [← hXl, ← hX, y14, y41, hg]; rfl
    have hfl := zcmh (((allE s.l).1.take ((allE s.l).1.length - 1)).map encF)
    rw [y23, y19] at hfl
    by_cases hc : footD (((allE s.l).1.take ((allE s.l).1.length - 1)).map encF) = X[X.length - 1].l
    ·rw [if_pos (by rw [hc, hlast])]
     exact ⟨zw, pre (Ev.bind hW (Ev.pos hw0 (Ev.bind hF (Ev.pos (by simp only; omega) (Ev.opt hg0 (Ev.pos (by simp only; omega) (Ev.bind hFt (Ev.po (Ev.opt hg (Ev.pos hc (Ev.ret _))))))))))) ⟩
    ·rw [if_neg (fun e => hc (by rw [hlast]; exact zcn9 (by omega) (by rw [← hlast]; exact b2) e))]
     exact ⟨true, pre (Ev.bind hW (Ev.pos hw0 (Ev.bind hF (Ev.pos (by simp only; omega) (Ev.opt hg0 (Ev.pos (by simp only; omega) (Ev.bind hFt (Ev.po (Ev.opt hg (Ev.neg hc (Ev.ret _))))))))))) ⟩
   ·simp only [if_neg hw0]
    exact ⟨true, pre (Ev.bind hW (Ev.neg hw0 (Ev.ret _)))⟩
 ·simp only [if_neg he]
  exact ⟨true, Ev.succ (Ev.bind hA (Ev.neg he (Ev.ret _))) (fun q => rfl)⟩
theorem zcob {X : List (Sl Int)} {L : List (List Int)} (h : X.map (·.l) = L.map encF) : (flat X).length = lenF L := by rw [zcmb, h]; rfl
theorem zcoc : ∀ {f : Nat} {l : List Int}, isB l → l.length < f → lenF (walkF f l).1 ≤ l.length
 | 0, l, hb, hf => by omega
 | f + 1, l, hb, hf => by
  simp only [walkF]
  split
  ·simp [lenF]
  ·split
   ·rename_i h1 h2
    obtain ⟨k1, k2, k3, k4, k5⟩ := zcju (l := l) (x := (decF l).1) (n := (decF l).2.1) hb (by rw [← h2])
    have := zcoc (f := f) (l := l.drop (decF l).2.1.toNat) (zcjo hb _) (by rw [y12]; omega)
    simp only [zcno, k5, y19]
    rw [y12] at this
    omega
   ·simp [lenF]
theorem zcod (L : List (List Int)) (n : Nat) : lenF (L.take n) ≤ lenF L := by
 have : lenF L = lenF (L.take n) + lenF (L.drop n) := by
  unfold lenF
  conv => lhs; rw [← List.take_append_drop n L]
  rw [List.map_append, List.flatten_append, y9]
 omega
theorem zcoe (s : Sl Int) (hb : isB s.l) (hl : s.l.length ≤ 80000) : ∃ sz, Ev (fun q => zod q s) (⟨(recS s.l).1.1, (recS s.l).1.2.1, ⟨sz, (recS s.l).1.2.2⟩⟩, (recS s.l).2.1, (recS s.l).2.2) := by
 obtain ⟨z0, X, hA, hX, hz0⟩ := zcn5 s hb (by omega)
 have hM := zcng (f := s.l.length + 1) hb
 have hMl := zckf (f := s.l.length + 1) hb
 have hSum := zcoc (f := s.l.length + 1) hb (by omega)
 have hXl : X.length = (allF s.l).1.length := by rw [← hX, y23]
 have hXm : X.length ≤ 80000 := by rw [hXl]; unfold allF; omega
 unfold recS
 by_cases h0 : (allF s.l).1.length = 0
 ·simp only [if_pos h0]
  exact ⟨true, Ev.succ (Ev.bind hA (Ev.pos (by simp only; omega) (Ev.ret _))) (fun q => rfl)⟩
 ·simp only [if_neg h0]
  have hzf : z0 = false := hz0 (fun e => by rw [e] at hXl; simp at hXl; omega)
  subst hzf
  have hB : ∀ e ∈ X, isB e.l ∧ e.l.length ≤ 1048576 := fun e he => hM e.l (by
   show e.l ∈ (allF s.l).1
   rw [← hX]; exact y60 (f := fun x : Sl Int => x.l) he)
  obtain ⟨zw, hW⟩ := zcn4 ⟨false, X⟩ (fun e he => ⟨(hB e he).1, by have := (hB e he).2; omega⟩) (by simp only; omega) (by simp only; omega)
  simp only [hX] at hW
  have hle := zcnn (L := (allF s.l).1)
  by_cases hw0 : (walkA (allF s.l).1).1 = 0
  ·simp only [if_pos hw0]
   exact ⟨true, Ev.succ (Ev.bind hA (Ev.neg (by simp only; omega) (Ev.bind hW (Ev.pos (by simp only; omega) (Ev.ret _))))) (fun q => rfl)⟩
  ·simp only [if_neg hw0]
   obtain ⟨zf, Y, hF, hY, _⟩ := zcn8 ⟨false, X.take (walkA (allF s.l).1).1⟩ (by simp only [y19]; omega) (fun e he => hB e (y43 he))
   have hYm : Y.map (·.l) = ((allF s.l).1.take (walkA (allF s.l).1).1).map encF := by
    rw [hY, ← hX, ← List.map_take, List.map_map]; rfl
   have hjl := zcob hYm
   have hlt := zcod (allF s.l).1 (walkA (allF s.l).1).1
   have hSum' : lenF (allF s.l).1 ≤ s.l.length := hSum
   have hYl : Y.length ≤ 80000 := by
    have := congrArg List.length hY
    rw [y23, y23, y19] at this; omega
   obtain ⟨zj, hJ⟩ := zcl6 ⟨zf, Y⟩ (by simp only; omega) (by simp only; omega)
   have hF' : Ev (fun q => znu q ⟨false, List.take (((walkA (allF s.l).1).1 : Nat) : Int).toNat X⟩) ⟨zf, true, Y⟩ := by rw [y27]; exact hF
   refine ⟨zw, Ev.succ (Ev.bind hA (Ev.neg (by first | omega | (simp only; omega)) (Ev.bind hW (Ev.neg (by first | omega | (simp only; omega)) (Ev.pos (by first | omega | (simp only; omega)) (Ev.pos (by first | omega | (simp only [y27]; omega)) (Ev.neg (show ¬ (false = true) by decide) (Ev.bind hF' ?_)))))))) (fun q => rfl)⟩
   refine Ev.bind hJ (Ev.ret' ?_)
   simp only [hjl]
theorem zcof {v f : Int} : ∀ {D : List (List Int)} {i : Nat} {acc : List zjs} {full : Bool}, acc.length ≤ 4096 → (walkS v f D i acc full).2.2.1.length ≤ 4096 ∧ ((walkS v f D i acc full).2.1 = 0 → (walkS v f D i acc full).2.2.1.length ≤ acc.length + 16 * D.length)
 | [], i, acc, full, ha => by simp only [walkS]; exact ⟨ha, fun _ => by omega⟩
 | d :: D, i, acc, full, ha => by
  simp only [walkS]
  split
  ·exact ⟨ha, fun h => by simp only at h; omega⟩
  ·rename_i l hR
   split
   ·rename_i h0
    obtain ⟨c1, c2, c3, c4, c5⟩ := zcm1 h0
    have := zcof (v := v) (f := f) (D := D) (i := i + 1) (acc := acc ++ l) (full := decide (l.length = 16)) (by rw [y9]; omega)
    rw [y9] at this
    refine ⟨this.1, fun h => ?_⟩
    have := this.2 h
    rw [y20]; omega
   ·rename_i h0
    exact ⟨ha, fun h => absurd h h0⟩
theorem zcog {L : List (List Int)} : (walkA L).2.2.2.2.2.length ≤ 4096 ∧ ((walkA L).2.1 = 0 → L ≠ [] → (walkA L).2.2.2.2.2.length ≤ 16 * (L.length - 1) ∧ 0 ≤ (walkA L).2.2.2.2.1 ∧ (walkA L).2.2.2.2.1 < 4611686018427387904) := by
 cases L with
 | nil => exact ⟨by simp [walkA], fun _ h => absurd rfl h⟩
 | cons d D =>
  simp only [walkA]
  split
  ·rename_i hh
   have hb := zcof (v := (headR d).2.1) (f := (headR d).2.2.2.1) (D := D) (i := 1) (acc := []) (full := true) (by simp)
   obtain ⟨o1, o2, o3, o4, o5, o6, o7⟩ := zcm2 hh
   refine ⟨hb.1, fun h _ => ⟨?_, o5, o6⟩⟩
   have := hb.2 h
   rw [y24] at this
   simp only [y20]; omega
  ·rename_i hh
   exact ⟨by simp, fun h _ => absurd h hh⟩
theorem zcoh (b : List Int) : (segD b).1.2.2.length ≤ 4096 ∧ ((segD b).2.2 = 0 → (segD b).1.2.2.length ≤ 16 * ((segD b).2.1.length - 1) ∧ 1 ≤ (segD b).2.1.length ∧ 0 ≤ (segD b).1.2.1 ∧ (segD b).1.2.1 < 4611686018427387904 ∧ (allE b).2 = 0 ∧ (segD b).2.1 = ((allE b).1.take ((allE b).1.length - 1)).map encF) := by
 unfold segD
 by_cases he : (allE b).2 = 0
 ·simp only [if_pos he]
  by_cases h2 : (allE b).1.length < 2
  ·simp only [if_pos h2]; exact ⟨by simp, fun h => by omega⟩
  ·simp only [if_neg h2]
   have hb := zcog (L := (allE b).1.take ((allE b).1.length - 1))
   by_cases hw : (walkA ((allE b).1.take ((allE b).1.length - 1))).2.1 = 0
   ·simp only [if_pos hw]
    split
    ·refine ⟨hb.1, fun _ => ?_⟩
     obtain ⟨q1, q2, q3⟩ := hb.2 hw (fun e => by have := congrArg List.length e; rw [y19, y24] at this; omega)
     rw [y19] at q1
     simp only [y23, y19]
     exact ⟨by omega, by omega, q2, q3, he, trivial⟩
    ·exact ⟨by simp, fun h => by simp only at h; omega⟩
   ·simp only [if_neg hw]; exact ⟨by simp, fun h => absurd h hw⟩
 ·simp only [if_neg he]; exact ⟨by simp, fun h => absurd h he⟩
theorem zcoi (b : List Int) : (recS b).1.2.2.length ≤ 4096 := by
 unfold recS
 split
 ·simp
 ·split
  ·simp
  ·exact (zcog (L := (allF b).1)).1
theorem zcoj : ∀ (a0 : Sl Int), okSl (fun x => inR .u8 x) a0 → ∃ q, zoh q a0 = some true := by
 intro s hs
 have hb := isB_of hs
 refine Ev.get (Ev.succ (Ev.bind zcmp (Ev.ite (fun h => Ev.ret _) fun h => ?_)) (fun q => rfl))
 obtain ⟨z1, h1⟩ := zcnl s hs.1 hb (by omega)
 obtain ⟨z2, h2⟩ := zcoa s hb (by omega)
 obtain ⟨z3, h3⟩ := zcnr s hs.1 hb (by omega)
 obtain ⟨z4, h4⟩ := zcoe s hb (by omega)
 have l1 : (segD s.l).1.2.2.length ≤ 1099511627776 := by have := (zcoh s.l).1; omega
 have l2 : (recS s.l).1.2.2.length ≤ 1099511627776 := by have := zcoi s.l; omega
 refine Ev.bind h1 (Ev.bind h2 (Ev.bind h3 (Ev.bind h4 (Ev.bind (zcnu _ _ l1) (Ev.bind (zcnu _ _ l2) (Ev.pos rfl (Ev.pos (by simp) (Ev.pos rfl (Ev.pos (by simp) (Ev.pos rfl (Ev.ret' ?_)))))))))))
 simp
end Go.Dvm.I
