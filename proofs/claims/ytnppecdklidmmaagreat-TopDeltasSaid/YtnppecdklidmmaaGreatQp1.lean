/- Plain laws of the functions: part 2. -/
import Derived.Test.YtnppecdklidmmaaGreatQp0
set_option linter.all false
set_option maxRecDepth 100000
namespace Go.Dvm.I
open Go Go.Dvm
theorem zchr : ∀ (l : List zj8) (s : zj6), (takeV s l).2 = 0 → (takeV s l).1.State.Kind = s.State.Kind ∧ ∀ p, lk p s.Table.l ≠ none → lk p (takeV s l).1.Table.l ≠ none
 | [], s, _ => ⟨rfl, fun p h => h⟩
 | r :: l, s, h => by
  obtain ⟨c, d, e⟩ := zcgt h
  rw [e] at h ⊢
  obtain ⟨h1, h2⟩ := zchr l (nextN s r) h
  refine ⟨h1, fun p hp => h2 p ?_⟩
  show lk p (noteL s.Table.l r.Proc r.Seq (stepV s.State r.Op).2) ≠ none
  rw [zcha]
  split
  ·simp
  ·exact hp
def diffD (a b : zj6) (zm zt : Bool) : zj9 := ⟨a.Index, b.Index, ((ahN a.State.L.l b.State.L.l : Nat) : Int), ((beN a.State.L.l b.State.L.l : Nat) : Int), ⟨zm, midL a.State.L.l b.State.L.l⟩, b.State.Sealed, b.State.To, ⟨zt, newT a.Table.l b.Table.l⟩⟩
/-- The delta between two snapshots, where there is one. -/
theorem zchs {a b : zj6} (ha : mayN a = true) (hb : mayN b = true) (hk : a.State.Kind = b.State.Kind) (hl : lacksB a.Table.l b.Table.l = false) (hi : a.Index ≤ b.Index) (zm zt : Bool) :
  diffR a b zm zt = (diffD a b zm zt, 0) := by
 unfold diffR diffD
 rw [if_pos ⟨ha, hb, hk⟩, if_neg (by rw [hl]; simp; omega)]
theorem zcht (x y : List Int) : (midL x y).length ≤ y.length := by
 unfold midL; simp only [y22, y15]; omega
/-- It makes the later one, however its lists are bounded. -/
theorem zchu {a b : zj6} (hk : a.State.Kind = b.State.Kind) (ha : mayN a = true) (hb : mayN b = true) (hl : lacksB a.Table.l b.Table.l = false) (d : zj9) (h1 : d.To = b.Index) (h2 : d.Ahead = ((ahN a.State.L.l b.State.L.l : Nat) : Int)) (h3 : d.Behind = ((beN a.State.L.l b.State.L.l : Nat) : Int)) (h4 : d.Mid.l = midL a.State.L.l b.State.L.l) (h5 : d.Sealed = b.State.Sealed) (h6 : d.Engine = b.State.To) (h7 : d.Table.l = newT a.Table.l b.Table.l) (z z' : Bool) :
  appL a d z z' = setZ z z' b := by
 have hA := zcc5 ha
 have hB := zcc5 hb
 unfold appL setZ
 rw [h1, h2, h3, h4, h5, h6, h7, y30, y30, zche, zcho (zcg2 hA.2.2.2) (zcg2 hB.2.2.2) hl, hk]
theorem zchv : ∀ {t : List zj5} {a : Int}, srt a t → ∀ e ∈ t, lk e.Proc t = some e
 | [], _, _, _, he => by cases he
 | x :: t, a, h, e, he => by
  rw [zcg0]
  rcases List.mem_cons.1 he with rfl | he
  ·rw [if_pos rfl]
  ·have h1 := zchv h.2 e he
   split
   ·rename_i c
    have := zcg3 h.2 (p := e.Proc) (by omega)
    rw [this] at h1; cases h1
   ·exact h1
theorem zchw (z0 z9 : Bool) (L : List (Sl Int)) (hL : L.length ≤ 1099511627776) (hf : (flat L).length ≤ 4294967296) (h9 : 0 < (flat L).length) : ∀ (k i : Nat) (m : Nat), L.length = i + k → m + (flat (L.drop i)).length = (flat L).length →
  Ev (fun q => zl2 q z0 L (m : Int) z9 L (L.length : Int) (i : Int)) ⟨false, true, flat L⟩
 | 0, i, m, hk, hm => by
  rw [y14 (by omega)] at hm
  have hm2 : m = (flat L).length := by simpa [flat] using hm
  have w : wrp .i64 ((m : Int) - wrp .i64 0) = (m : Int) := by rw [zb9h (x := 0) (by omega) (by omega), zb9h (by omega) (by omega)]; omega
  refine Ev.succ (Ev.ne (Ev.ne (Ev.pos (by rw [w]; omega) (Ev.pos (by rw [w]; omega) (Ev.pos (by rw [w]; omega) (Ev.neg (by rw [w]; omega) ?_)))))) (fun q => rfl)
  rw [w]
  have := zcat z0 L (decide ((m : Int) = 0)) hL L.length 0 0 (List.replicate (m : Int).toNat 0) (by omega) (by simp; omega)
  rw [y40] at this
  refine Ev.cast this ?_
  rw [decide_eq_false (by omega)]; rfl
 | k + 1, i, m, hk, hm => by
  have hi : i < L.length := by omega
  have hg : L[(i : Int).toNat]? = some L[i] := by simpa using y9 hi
  rw [y11 hi, zcas, y12] at hm
  have h := zchw z0 z9 L hL hf h9 k (i + 1) (m + L[i].l.length) (by omega) (by omega)
  refine Ev.succ (Ev.po (Ev.po (Ev.opt hg ?_))) (fun q => rfl)
  have w : wrp .i64 ((m : Int) + (L[i].l.length : Int)) = ((m + L[i].l.length : Nat) : Int) := by rw [zb9h (by omega) (by omega)]; omega
  rw [w, zb9h (by omega) (by omega), show ((i : Int) + 1) = ((i + 1 : Nat) : Int) by omega]
  exact Ev.neg (by omega) h
theorem zchx (s : Sl (Sl Int)) (hL : s.l.length ≤ 1099511627776) (hf : (flat s.l).length ≤ 4294967296) (h9 : 0 < (flat s.l).length) : Ev (fun q => zl3 q s) ⟨false, true, flat s.l⟩ :=
 Ev.succ (zchw s.z s.z s.l hL hf h9 s.l.length 0 0 (by omega) (by simp)) (fun q => rfl)
theorem zchy (s : Sl Int) (hb : isB s.l) (hl : s.l.length ≤ 1048576) : ∃ z, z = false ∧ Ev (fun q => zl4 q s) (⟨z, true, encF s.l⟩, 0) := by
 have hp := zb9q (s.l.length : Int)
 have h := zchx ⟨false, [⟨false, put (s.l.length : Int)⟩, s, ⟨false, fix4 (bsum (put (s.l.length : Int) ++ s.l)).toNat⟩]⟩ (by simp) (by simp [flat, fix4]; omega) (by simp [flat, fix4]; omega)
 refine ⟨false, rfl, Ev.succ (Ev.neg (by omega) ?_) (fun q => rfl)⟩
 refine Ev.bind (zb9r ⟨true, true, []⟩ (by omega) (by omega) (by simp)) ?_
 refine Ev.bind (zcar ⟨false, put (s.l.length : Int)⟩ s (zcay (s.l.length : Int)) hb (by simp only; omega) (by omega)) ?_
 refine Ev.bind h ?_
 exact Ev.ret' (by simp [encF, flat])
theorem zchz {l : List Int} (h : isB l) : isB (encF l) := by
 unfold encF
 refine zcaz.2 ⟨zcay _, zcaz.2 ⟨h, ?_⟩⟩
 intro c hc; simp [fix4] at hc; omega
theorem zch0 (z : Bool) (L : List zj5) (hL : L.length ≤ 1000) (hT : entsOk L) : ∀ (k i : Nat) (l : List Int), L.length = i + k → l.length ≤ 10000 + 30 * i → isB l →
  ∃ z', z' = false ∧ Ev (fun q => znr q z L (L.length : Int) (i : Int) false l true) (⟨z', true, encF (l ++ tabE (L.drop i))⟩, 0)
 | 0, i, l, hk, hl, hb => by
  obtain ⟨z', hz', hF⟩ := zchy ⟨false, l⟩ hb (by simp only; omega)
  refine ⟨z', hz', Ev.succ (Ev.ne (Ev.bind hF (Ev.ret' ?_))) (fun q => rfl)⟩
  rw [y14 (by omega)]; simp [tabE]
 | k + 1, i, l, hk, hl, hb => by
  have hi : i < L.length := by omega
  have he : L[((i : Int)).toNat]? = some L[i] := by simp [hi]
  have hr := hT L[i] (y28 hi)
  have ho := zcc3 hr
  have hE : l ++ putsB [L[i].Proc, L[i].Seq] ++ putS L[i].Resp = l ++ entB L[i] := by simp [putsB, entB]
  have hp := zceb [L[i].Proc, L[i].Seq]; have p3 := zb92 (zcde hr); have p4 := zcdf hr
  obtain ⟨z', hz', ih⟩ := zch0 z L hL hT k (i + 1) (l ++ entB L[i]) (by omega) (by rw [y12]; omega) (zcaz.2 ⟨hb, zcdg⟩)
  rw [show ((i + 1 : Nat) : Int) = wrp .i64 ((i : Int) + 1) by rw [zb9h (by omega) (by omega)]; omega] at ih
  refine ⟨z', hz', Ev.succ (Ev.po (Ev.po (Ev.opt he (Ev.bind (zcee ⟨false, true, l⟩ ⟨false, [L[i].Proc, L[i].Seq]⟩ (by simp) (by simp) ?_ (by simp only; omega)) (Ev.bind (zb9v _ (zcde hr) (by simp only [y12, y23, y27] at hp ⊢; omega)) (Ev.cast (by rw [← hE] at ih; exact ih) ?_)))))) (fun q => rfl)⟩
  ·simp only [List.all_cons, List.all_nil, idxOk, y8, decide_eq_true_eq, and_true]; omega
  ·rw [y11 hi, zcdd, hE, y35]
theorem zch1 {d : zj9} (hm : mayL d = true) : ∀ (k i : Nat) (l : List Int), d.Mid.l.length = i + k → l.length ≤ 1000 + 10 * i → isB l →
  ∃ z', z' = false ∧ Ev (fun q => zns q d.Mid.z d.Mid.l (d.Mid.l.length : Int) (i : Int) d.From d.To d.Ahead d.Behind d.Mid.z d.Mid.l d.Sealed d.Engine d.Table.z d.Table.l false l true) (⟨z', true, encF (((l ++ numsB (d.Mid.l.drop i)) ++ putsB [sealL d, (d.Table.l.length : Int)]) ++ tabE d.Table.l)⟩, 0)
 | 0, i, l, hk, hl, hb => by
  have ho := zcd9 hm
  have hn := zceg hm
  rw [y14 (by omega)]
  have hp := zceb [sealL d, (d.Table.l.length : Int)]
  simp only [y23, y27] at hp
  obtain ⟨z', hz', h1⟩ := zch0 d.Table.z d.Table.l (by omega) (zcc4 ho.2.2.2.2.2.2.2.2.2) d.Table.l.length 0 (l ++ putsB [sealL d, (d.Table.l.length : Int)]) (by omega) (by rw [y12]; omega) (zcaz.2 ⟨hb, zcec⟩)
  rw [y40] at h1
  have hP := zcee ⟨false, true, l⟩ ⟨false, [sealL d, (d.Table.l.length : Int)]⟩ (by simp) (by simp) (by simp only [List.all_cons, List.all_nil, idxOk, y8, decide_eq_true_eq, and_true]; omega) (by simp only; omega)
  have e0 : numsB [] = [] := rfl
  rw [e0, List.append_nil]
  refine ⟨z', hz', Ev.succ (Ev.ne (Ev.ite (fun c => ?_) fun c => ?_)) (fun q => rfl)⟩
  ·have e : wrp .i64 (1 + d.Engine) = sealL d := by unfold sealL; rw [if_pos c, zb9h (by omega) (by omega)]
   rw [e]
   exact Ev.bind hP h1
  ·have e : sealL d = 0 := by unfold sealL; rw [if_neg c]
   have := Ev.bind (k := fun q r6 => (znr q d.Table.z d.Table.l (d.Table.l.length : Int) 0 r6.n r6.xs r6.x)) hP h1
   rw [e] at this ⊢
   exact this
 | k + 1, i, l, hk, hl, hb => by
  have ho := zcd9 hm
  have hn := zceg hm
  have hi : i < d.Mid.l.length := by omega
  have he : d.Mid.l[((i : Int)).toNat]? = some d.Mid.l[i] := by simp [hi]
  have hr := inT_R ho.2.2.2.2.2.1 (y28 hi)
  have hp := zb92 hr
  obtain ⟨z', hz', ih⟩ := zch1 hm k (i + 1) (l ++ putS d.Mid.l[i]) (by omega) (by rw [y12]; omega) (zcaz.2 ⟨hb, zcda _⟩)
  rw [show ((i + 1 : Nat) : Int) = wrp .i64 ((i : Int) + 1) by rw [zb9h (by omega) (by omega)]; omega] at ih
  refine ⟨z', hz', Ev.succ (Ev.po (Ev.po (Ev.opt he (Ev.bind (zb9v ⟨false, true, l⟩ hr (by simp only; omega)) (Ev.cast ih ?_))))) (fun q => rfl)⟩
  rw [y11 hi, zcc7, y35 l]
theorem zch2 (d : zj9) (h1 : d.Mid.l.length ≤ 1000000) (h2 : d.Table.l.length ≤ 1000000) : ∃ z, (mayL d = true → z = false) ∧ Ev (fun q => znt q d) (if mayL d = true then (⟨z, true, encF (delD d)⟩, 0) else (⟨true, true, []⟩, 1)) := by
 by_cases h : mayL d = true
 ·have ho := zcd9 h
  have hn := zceg h
  have hp := zceb [d.From, d.To, d.Ahead, d.Behind, (d.Mid.l.length : Int)]
  simp only [y23, y27] at hp
  have hP := zcee ⟨true, true, []⟩ ⟨false, [d.From, d.To, d.Ahead, d.Behind, (d.Mid.l.length : Int)]⟩ (by simp) (by simp) (by simp only [List.all_cons, List.all_nil, idxOk, y8, decide_eq_true_eq, and_true]; omega) (by simp)
  obtain ⟨z, hzz, hE⟩ := zch1 h d.Mid.l.length 0 (putsB [d.From, d.To, d.Ahead, d.Behind, (d.Mid.l.length : Int)]) (by omega) (by omega) zcec
  rw [y40] at hE
  refine ⟨z, fun _ => hzz, ?_⟩
  rw [if_pos h]
  exact Ev.succ (Ev.bind (zcd8 d h1 h2) (Ev.pos h (Ev.bind hP hE))) (fun q => rfl)
 ·refine ⟨true, fun e => absurd e h, ?_⟩
  rw [if_neg h]
  exact Ev.succ (Ev.bind (zcd8 d h1 h2) (Ev.neg h (Ev.ret _))) (fun q => rfl)
theorem gN_put {n : Int} {x : List Int} (h1 : 0 ≤ n) (h2 : n < 4611686018427387904) : gN (put n ++ x, true) = (n, x, true) := by
 have hp := zcdr h1 h2
 unfold gN
 simp only [zcbe h1 h2, y30, List.drop_left']
 rw [decide_eq_true (show (0 : Int) < ((put n).length : Int) by omega)]
 simp
theorem gS_put {n : Int} {x : List Int} (h : inR .i64 n) : gS (putS n ++ x, true) = (n, x, true) := by
 have hp := zcdq n
 unfold gS
 simp only [zcdp h, y30, List.drop_left']
 rw [decide_eq_true (show (0 : Int) < ((putS n).length : Int) by omega)]
 simp
theorem zch3 : ∀ {l x : List Int}, inT l → numsR l.length (numsB l ++ x, true) = (l, x, true)
 | [], x, _ => by simp [numsR, numsB]
 | a :: l, x, h => by
  have e : gS (numsB (a :: l) ++ x, true) = (a, numsB l ++ x, true) := by rw [zcc7, y35]; exact gS_put (inT_R h y34)
  simp only [y23, numsR, e, zch3 (fun y hy => h y (y38 _ hy))]
theorem zch4 : ∀ {l : List zj5} {x : List Int}, entsOk l → entsR l.length (tabE l ++ x, true) = (l, x, true)
 | [], x, _ => by simp [entsR, tabE]
 | a :: l, x, h => by
  have ha := h a y34
  have ho := zcc3 ha
  have e0 : tabE (a :: l) ++ x = put a.Proc ++ (put a.Seq ++ (putS a.Resp ++ (tabE l ++ x))) := by rw [zcdd]; simp [entB]
  rw [y23, zce6, e0, gN_put (by omega) (by omega)]
  simp only
  rw [gN_put (by omega) (by omega)]
  simp only
  rw [gS_put (zcde ha)]
  simp only
  rw [zch4 (fun y hy => h y (y38 _ hy))]
theorem zch5 {d : zj9} (h : mayL d = true) (d0 d1 d2 d3 : Int) (mid : Sl Int) : tlD d0 d1 d2 d3 mid (put (sealL d) ++ (put (d.Table.l.length : Int) ++ (tabE d.Table.l ++ [])), true) = (⟨d0, d1, d2, d3, mid, d.Sealed, d.Engine, ⟨d.Table.l.isEmpty, d.Table.l⟩⟩, true) := by
 have ho := zcd9 h
 have hn := zceg h
 have hE := zch4 (l := d.Table.l) (x := []) (zcc4 ho.2.2.2.2.2.2.2.2.2)
 have g1 := gN_put (n := sealL d) (x := put (d.Table.l.length : Int) ++ (tabE d.Table.l ++ [])) (by omega) (by omega)
 have g2 := gN_put (n := (d.Table.l.length : Int)) (x := tabE d.Table.l ++ []) (by omega) (by omega)
 unfold tlD
 simp only [g1, g2, y30, hE]
 rw [if_neg (by omega)]
 have e1 : decide (0 < sealL d) = d.Sealed := by
  unfold sealL
  by_cases c : d.Sealed = true
  ·rw [if_pos c, c, decide_eq_true_eq]; omega
  ·rw [if_neg c]; simp at c; rw [c]; rfl
 have e2 : (if sealL d - 1 < 0 then 0 else sealL d - 1) = d.Engine := by
  unfold sealL
  by_cases c : d.Sealed = true
  ·rw [if_pos c, if_neg (by omega)]; omega
  ·rw [if_neg c, if_pos (by omega)]
   rcases ho.2.2.2.2.2.2.2.2.1 with e | e
   ·exact absurd e c
   ·exact e.symm
 rw [e1, e2]
 simp
def normD (d : zj9) : zj9 := ⟨d.From, d.To, d.Ahead, d.Behind, ⟨d.Mid.l.isEmpty, d.Mid.l⟩, d.Sealed, d.Engine, ⟨d.Table.l.isEmpty, d.Table.l⟩⟩
theorem zch6 {d : zj9} (h : mayL d = true) : rdD (delD d) = (normD d, true) := by
 have ho := zcd9 h
 have hn := zceg h
 have e0 : delD d = put d.From ++ (put d.To ++ (put d.Ahead ++ (put d.Behind ++ (put (d.Mid.l.length : Int) ++ (numsB d.Mid.l ++ (put (sealL d) ++ (put (d.Table.l.length : Int) ++ (tabE d.Table.l ++ [])))))))) := by
  simp [delD, putsB]
 have e1 : n1 (delD d) = (d.From, put d.To ++ (put d.Ahead ++ (put d.Behind ++ (put (d.Mid.l.length : Int) ++ (numsB d.Mid.l ++ (put (sealL d) ++ (put (d.Table.l.length : Int) ++ (tabE d.Table.l ++ []))))))), true) := by
  unfold n1; rw [e0]; exact gN_put (by omega) (by omega)
 have e2 : n2 (delD d) = (d.To, put d.Ahead ++ (put d.Behind ++ (put (d.Mid.l.length : Int) ++ (numsB d.Mid.l ++ (put (sealL d) ++ (put (d.Table.l.length : Int) ++ (tabE d.Table.l ++ [])))))), true) := by
  unfold n2; rw [e1]; exact gN_put (by omega) (by omega)
 have e3 : n3 (delD d) = (d.Ahead, put d.Behind ++ (put (d.Mid.l.length : Int) ++ (numsB d.Mid.l ++ (put (sealL d) ++ (put (d.Table.l.length : Int) ++ (tabE d.Table.l ++ []))))), true) := by
  unfold n3; rw [e2]; exact gN_put (by omega) (by omega)
 have e4 : n4 (delD d) = (d.Behind, put (d.Mid.l.length : Int) ++ (numsB d.Mid.l ++ (put (sealL d) ++ (put (d.Table.l.length : Int) ++ (tabE d.Table.l ++ [])))), true) := by
  unfold n4; rw [e3]; exact gN_put (by omega) (by omega)
 have e5 : n5 (delD d) = ((d.Mid.l.length : Int), numsB d.Mid.l ++ (put (sealL d) ++ (put (d.Table.l.length : Int) ++ (tabE d.Table.l ++ []))), true) := by
  unfold n5; rw [e4]; exact gN_put (by omega) (by omega)
 unfold rdD
 rw [e1, e2, e3, e4, e5]
 simp only [y30]
 rw [if_neg (by omega), zch3 ho.2.2.2.2.2.1]
 exact zch5 h _ _ _ _ _
theorem zch7 {d : zj9} (h : mayL d = true) : (delD d).length ≤ 10000 := by
 have ho := zcd9 h
 have hn := zceg h
 have h1 := zceb [d.From, d.To, d.Ahead, d.Behind, (d.Mid.l.length : Int)]
 have h2 := zceb [sealL d, (d.Table.l.length : Int)]
 have h3 := zcc9 ho.2.2.2.2.2.1
 have h4 := zcdh (zcc4 ho.2.2.2.2.2.2.2.2.2)
 simp only [y23, y27] at h1 h2
 simp only [delD, y12]; omega
theorem zch8 {d : zj9} (h : mayL d = true) : dcD (encF (delD d)) = (normD d, 0) := by
 have hl := zch7 h
 have hd := zcbh (l := delD d) (x := []) (by omega)
 rw [List.append_nil] at hd
 unfold dcD
 simp only [hd, zch6 h, if_true]
 exact if_pos (show mayL (normD d) = true from h)
theorem zch9 {a b : zj6} (ha : mayN a = true) (hb : mayN b = true) (zm zt : Bool) : mayL (diffD a b zm zt) = true := by
 have hA := zcc5 ha
 have hB := zcc5 hb
 have hsb := zcc2 hB.2.2.1
 have hka := zcc1 (zcc2 hA.2.2.1).2.2.2
 have hkb := zcc1 hsb.2.2.2
 have hle := beN_le a.State.L.l b.State.L.l
 have hml := zcht a.State.L.l b.State.L.l
 have hmid : ∀ x ∈ midL a.State.L.l b.State.L.l, -1099511627776 ≤ x ∧ x ≤ 1099511627776 := fun x hx => hkb.2.2.2 x (by
  unfold midL at hx
  exact y54 (y46 hx))
 have htab : tabB (-1) (newT a.Table.l b.Table.l) = true := zchp (last := -1) (zchj _ (zcg2 hB.2.2.2)) fun e he => zcc4 hB.2.2.2 e (zchl _ he)
 have p1 : [a.Index, b.Index, ((ahN a.State.L.l b.State.L.l : Nat) : Int), ((beN a.State.L.l b.State.L.l : Nat) : Int)].all idxOk = true := by
  simp only [List.all_cons, List.all_nil, idxOk, y8, decide_eq_true_eq, and_true]; omega
 have p2 : (midL a.State.L.l b.State.L.l).all midOk = true := by
  rw [y56]
  intro x hx
  have := hmid x hx
  simp only [midOk, y8, decide_eq_true_eq]; omega
 have p3 : (b.State.Sealed || decide (b.State.To = 0)) = true := by
  by_cases c : b.State.Sealed = true
  ·rw [c]; rfl
  ·rw [decide_eq_true (hsb.2.2.1 (by simpa using c)), Bool.or_true]
 have q1 : (midL a.State.L.l b.State.L.l).length ≤ 128 := by omega
 have q2 : 0 ≤ b.State.To := by omega
 have q3 : b.State.To < 3 := by omega
 unfold mayL
 exact Bool.and_eq_true_iff.2 ⟨p1, Bool.and_eq_true_iff.2 ⟨decide_eq_true q1, Bool.and_eq_true_iff.2 ⟨p2, Bool.and_eq_true_iff.2 ⟨decide_eq_true q2, Bool.and_eq_true_iff.2 ⟨decide_eq_true q3, Bool.and_eq_true_iff.2 ⟨p3, htab⟩⟩⟩⟩⟩⟩
def chainB : List zj8 → Int → Bool
 | [], _ => true
 | r :: l, f => decide (FitsR r) && (decide (r.Index = f) && chainB l (f + 1))
theorem zcia {r : zj8} (h : FitsR r) : 0 ≤ r.Index ∧ r.Index < 4611686018427387904 := ⟨h.1, h.2.1⟩
/-- The number of the last record of a process. -/
def lastS : List zj8 → Int → Int
 | [], _ => 0
 | r :: l, p => if p = r.Proc then r.Seq else lastS l p
/-- A map that has, of each process, the last one's number: by the records turned round. -/
def mapR : List zj8 → List (Int × Int)
 | [] => []
 | r :: l => mset (mapR l) r.Proc r.Seq
theorem zcib (m : List (Int × Int)) (n y p : Int) : mget (mset m n y) p = if p = n then y else mget m p := by
 induction m with
 | nil => simp [mset, mget]
 | cons e m ih =>
  obtain ⟨k, v⟩ := e
  simp only [mset]
  by_cases h : n = k
  ·subst h
   rw [if_pos rfl]
   simp only [mget]
   by_cases hp : p = n
   ·rw [if_pos hp, if_pos hp]
   ·rw [if_neg hp, if_neg hp, if_neg hp]
  ·rw [if_neg h]
   simp only [mget]
   by_cases hp : p = k
   ·rw [if_pos hp, if_pos hp, if_neg (fun e => h (by rw [← e, hp]))]
   ·rw [if_neg hp, if_neg hp, ih]
theorem zcic (l : List zj8) (p : Int) : mget (mapR l) p = lastS l p := by
 induction l with
 | nil => rfl
 | cons r l ih => simp only [mapR, zcib, lastS, ih]
/-- A block's records as bytes, behind others (these turned round). -/
def blkB : List zj8 → List zj8 → List Int
 | _, [] => []
 | pr, r :: l => (put r.Proc ++ (putS (r.Seq - lastS pr r.Proc) ++ (opB r.Op ++ putS r.Resp))) ++ blkB (r :: pr) l
theorem zcid {l : List zj8} (h : ∀ r ∈ l, FitsR r) (p : Int) : 0 ≤ lastS l p ∧ lastS l p < 4611686018427387904 := by
 induction l with
 | nil => simp [lastS]
 | cons r l ih =>
  simp only [lastS]
  split
  ·have := h r y34
   exact ⟨this.2.2.2.2.1, this.2.2.2.2.2.1⟩
  ·exact ih fun r hr => h r (y38 _ hr)
theorem zcie (z : Bool) (L : List zj8) (hf : ∀ r ∈ L, FitsR r) (hL : L.length ≤ 1000000) : ∀ (k i : Nat) (l : List Int), L.length = i + k → l.length + 60 * k ≤ 4294967296 →
  Ev (fun q => zln q z L (L.length : Int) (i : Int) (mapR (L.take i).reverse) false l true) (⟨false, true, l ++ blkB (L.take i).reverse (L.drop i)⟩, 0)
 | 0, i, l, hk, hl => by
  refine Ev.succ (Ev.ne (Ev.ret' ?_)) (fun q => rfl)
  rw [y14 (by omega)]; simp [blkB]
 | k + 1, i, l, hk, hl => by
  have hi : i < L.length := by omega
  have he : L[((i : Int)).toNat]? = some L[i] := by simp [hi]
  have hfit := hf L[i] (y28 hi)
  have hr := hfit
  obtain ⟨h1, h2, h3, h4, h5, h6, h7, h8, h9⟩ := hfit
  have hpr : ∀ r ∈ (L.take i).reverse, FitsR r := fun r hr => hf r (y46 (List.mem_reverse.1 hr))
  have hlast := zcid hpr L[i].Proc
  have hw : wrp .i64 (L[i].Seq - mget (mapR (L.take i).reverse) L[i].Proc) = L[i].Seq - lastS (L.take i).reverse L[i].Proc := by
   rw [zcic, zb9h (by omega) (by omega)]
  have p1 := zb9q L[i].Proc
  have i1 : inR .i64 (L[i].Seq - lastS (L.take i).reverse L[i].Proc) := zb93 (by omega) (by omega)
  have i2 : inR .i64 L[i].Resp := zb93 (by omega) (by omega)
  have p2 := zb92 i1
  have p3 := zb94 h7
  have p4 := zb92 i2
  refine Ev.succ (Ev.po (Ev.po (Ev.opt he (Ev.bind (zb9r ⟨false, true, l⟩ h3 (by omega) (by simp only; omega)) ?_)))) (fun q => rfl)
  simp only [hw]
  refine Ev.bind (zb9v _ i1 (by simp only [y12]; omega)) (Ev.bind (zb95 _ h7 (by simp only [y12]; omega)) (Ev.bind (zb9v _ i2 (by simp only [y12]; omega)) ?_))
  rw [show wrp .i64 ((i : Int) + 1) = ((i + 1 : Nat) : Int) by rw [zb9h (by omega) (by omega)]; omega]
  have ht : (L.take (i + 1)).reverse = L[i] :: (L.take i).reverse := by
   rw [List.take_succ, y9 hi]; simp
  have ih := zcie z L hf hL k (i + 1) (((l ++ put L[i].Proc) ++ putS (L[i].Seq - lastS (L.take i).reverse L[i].Proc)) ++ opB L[i].Op ++ putS L[i].Resp) (by omega) (by simp only [y12]; omega)
  rw [ht] at ih
  simp only [mapR] at ih
  refine Ev.cast ih ?_
  rw [y11 hi]
  simp [blkB]
theorem zcif {l : List zj8} {f : Int} (h : chainB l f = true) : ∀ r ∈ l, FitsR r := by
 induction l generalizing f with
 | nil => intro r hr; simp at hr
 | cons a l ih =>
  simp only [chainB, y8, decide_eq_true_eq] at h
  intro r hr
  rcases List.mem_cons.1 hr with e | e
  ·rw [e]; exact h.1
  ·exact ih h.2.2 r e
/-- May records stand in one block? -/
def blkOk (l : List zj8) : Bool := match l with
 | [] => false
 | r :: _ => chainB l r.Index && decide ((l.length : Int) ≤ 256)
def blkE (l : List zj8) : List Int := match l with
 | [] => []
 | r :: _ => put r.Index ++ (put (l.length : Int) ++ blkB [] l)
theorem zcig (z : Bool) (e : zj8) (L' : List zj8) (hL : (e :: L').length ≤ 1000000) : ∀ (k i : Nat), (e :: L').length = i + k → (0 < i → FitsR e) →
  Ev (fun q => zlf q z (e :: L') z (e :: L') ((e :: L').length : Int) (i : Int)) (chainB ((e :: L').drop i) (e.Index + i) && decide (((e :: L').length : Int) ≤ 256))
 | 0, i, hk, hE => by
  refine Ev.succ (Ev.ne (Ev.pos (by simp) (Ev.ret' ?_))) (fun q => rfl)
  rw [y14 (by omega)]; rfl
 | k + 1, i, hk, hE => by
  have hi : i < (e :: L').length := by omega
  have hE' : decide (FitsR (e :: L')[i]) = true → FitsR e := by
   intro h
   by_cases h0 : 0 < i
   ·exact hE h0
   ·have : i = 0 := by omega
    subst this; simpa using h
  have he : (e :: L')[((i : Int)).toNat]? = some (e :: L')[i] := by simp [hi]
  refine Ev.succ (Ev.po (Ev.po (Ev.opt he (Ev.bind (zb91 _) ?_)))) (fun q => rfl)
  rw [y11 hi]
  simp only [chainB]
  refine Ev.ite (fun h => Ev.opt (s := e) rfl (Ev.ite (fun h2 => ?_) fun h2 => Ev.ret' ?_)) fun h => Ev.ret' ?_
  ·have hfe := zcia (hE' h)
   rw [zb9h (by omega) (by omega)] at h2
   have h' : FitsR (e :: L')[i] := by simpa using h
   have := zcig z e L' hL k (i + 1) (by omega) (fun _ => hE' h)
   rw [show wrp .i64 ((i : Int) + 1) = ((i + 1 : Nat) : Int) by rw [zb9h (by omega) (by omega)]; omega]
   refine Ev.cast this ?_
   simp only [h', decide_true, y62, h2]
   rw [show e.Index + ((i + 1 : Nat) : Int) = e.Index + (i : Int) + 1 by omega]
  ·have hfe := zcia (hE' h)
   rw [zb9h (by omega) (by omega)] at h2
   simp [h2]
  ·have h' : ¬ FitsR (e :: L')[i] := by simpa using h
   simp [h']
theorem zcih (s : Sl zj8) (hL : s.l.length ≤ 1000000) : Ev (fun q => zlg q s) (blkOk s.l) := by
 obtain ⟨z, l⟩ := s
 cases l with
 | nil =>
  refine Ev.succ (g := fun q => zlf q z [] z [] ((([] : List zj8).length : Nat) : Int) 0) ?_ (fun q => rfl)
  refine ⟨1, fun q hq => ?_⟩
  obtain ⟨n, rfl⟩ : ∃ n, q = n + 1 := ⟨q - 1, by omega⟩
  simp [zlf, blkOk]
 | cons e L' =>
  have := zcig z e L' hL (e :: L').length 0 (by simp) (by omega)
  refine Ev.succ (Ev.cast this ?_) (fun q => rfl)
  simp [blkOk]
theorem zcii (s : Sl zj8) (hL : s.l.length ≤ 1000000) : Ev (fun q => zlo q s) (if blkOk s.l = true then (⟨false, true, blkE s.l⟩, 0) else (⟨true, true, []⟩, 1)) := by
 refine Ev.succ (Ev.bind (zcih s hL) (Ev.ite (fun h => ?_) fun h => ?_)) (fun q => rfl)
 ·rw [if_pos h]
  obtain ⟨z, l⟩ := s
  cases l with
  | nil => simp [blkOk] at h
  | cons e L' =>
   have hf := zcif (l := e :: L') (f := e.Index) (by simp only [blkOk, y8] at h; exact h.1)
   have hl256 : ((e :: L').length : Int) ≤ 256 := by simp only [blkOk, y8, decide_eq_true_eq] at h; exact h.2
   have hfe := zcia (hf e y34)
   have p1 := zb9q e.Index
   have p2 := zb9q ((e :: L').length : Int)
   refine Ev.opt (s := e) rfl (Ev.bind (zb9r _ hfe.1 hfe.2 (by simp)) (Ev.bind (zb9r _ (by omega) (by omega) (by simp only [y49]; omega)) ?_))
   have := zcie z (e :: L') hf hL (e :: L').length 0 (([] ++ put e.Index) ++ put ((e :: L').length : Int)) (by simp) (by simp only [y12, y27]; omega)
   refine Ev.cast this ?_
   simp [blkE]
 ·rw [if_neg h]; exact Ev.ret _
theorem zcij (a : zj6) (d : zj9) (hz : a.Table.z = true → a.Table.l = []) (ha : mayN a = true) (h1 : 0 ≤ d.Ahead) (h2 : 0 ≤ d.Behind) (h3 : d.Ahead + d.Behind ≤ (a.State.L.l.length : Int)) (h4 : a.Index = d.From) (h5 : d.From ≤ d.To) (h6 : d.Mid.l.length ≤ 1000) (h7 : d.Table.l.length ≤ 1000) (hm : mayN (appL a d false false) = true) :
  ∃ zc zt, (zt = true → noteAll a.Table.l d.Table.l = []) ∧ Ev (fun q => zph q a d) (appL a d zc zt, 0) := by
 have hb := zcdy ha
 have hk := zcc1 (zcc2 (zcc5 ha).2.2.1).2.2.2
 have hM := zcb9 a hb.1 hb.2
 have w1 : wrp .i64 ((a.State.L.l.length : Int) - d.Ahead) = (a.State.L.l.length : Int) - d.Ahead := zb9h (by omega) (by omega)
 have w2 : wrp .i64 ((a.State.L.l.length : Int) - d.Behind) = ((a.State.L.l.length - d.Behind.toNat : Nat) : Int) := by rw [zb9h (by omega) (by omega)]; omega
 obtain ⟨zc, hC⟩ := zccp ⟨false, [⟨a.State.L.z, a.State.L.l.take d.Ahead.toNat⟩, d.Mid, ⟨a.State.L.z, a.State.L.l.drop (a.State.L.l.length - d.Behind.toNat)⟩]⟩ (by simp) (by simp [flat]; omega)
 have hfl : flat [⟨a.State.L.z, a.State.L.l.take d.Ahead.toNat⟩, d.Mid, ⟨a.State.L.z, a.State.L.l.drop (a.State.L.l.length - d.Behind.toNat)⟩] = a.State.L.l.take d.Ahead.toNat ++ (d.Mid.l ++ a.State.L.l.drop (a.State.L.l.length - d.Behind.toNat)) := by simp [flat]
 simp only at hC
 rw [hfl] at hC
 unfold appL at hm ⊢
 generalize hCC : a.State.L.l.take d.Ahead.toNat ++ (d.Mid.l ++ a.State.L.l.drop (a.State.L.l.length - d.Behind.toNat)) = C at hC hm ⊢
 have hClen : C.length ≤ 1000000 := by rw [← hCC]; simp only [y12, y22, y15]; omega
 have pre : ∀ {r : zj6 × Int}, Ev (fun q => zpg q d.Table.z d.Table.l (d.Table.l.length : Int) d.To a.State.Kind d.Sealed d.Engine a.Table.z a.Table.l zc C true) r → Ev (fun q => zph q a d) r := fun h => by
  refine Ev.succ (Ev.bind hM (Ev.pos ha (Ev.ne (Ev.ne (Ev.ne (Ev.neg (by rw [w1]; omega) (Ev.pos h4 (Ev.ne (Ev.pos h1 (Ev.pos (by omega) ?_)))))))))) (fun q => rfl)
  rw [w2, y30]
  exact Ev.po (Ev.po (Ev.bind hC h))
 by_cases h0 : d.Table.l.length = 0
 ·have hn : d.Table.l = [] := y37 h0
  have hna : noteAll a.Table.l d.Table.l = a.Table.l := by rw [hn]; rfl
  rw [hna] at hm ⊢
  have hM2 := zcb9 ⟨d.To, ⟨a.State.Kind, ⟨zc, C⟩, d.Sealed, d.Engine⟩, ⟨a.Table.z, a.Table.l⟩⟩ hClen hb.2
  refine ⟨zc, a.Table.z, hz, pre (Ev.succ (Ev.ne (Ev.bind hM2 (Ev.pos hm ?_))) (fun q => rfl))⟩
  exact Ev.ret _
 ·have hi : 0 < d.Table.l.length := by omega
  have he : d.Table.l[0]? = some d.Table.l[0] := y9 hi
  have hd : d.Table.l = d.Table.l[0] :: d.Table.l.drop 1 := by
   have := y11 hi
   rwa [y40] at this
  have hA : noteAll a.Table.l d.Table.l = noteAll (noteL a.Table.l d.Table.l[0].Proc d.Table.l[0].Seq d.Table.l[0].Resp) (d.Table.l.drop 1) := by
   have := congrArg (noteAll a.Table.l) hd
   exact this
  rw [hA] at hm ⊢
  generalize d.Table.l[0] = e at he hm ⊢
  have hN := zcf4 a.Table hz (by omega) ⟨0, e.Proc, e.Seq, ⟨0, 0, 0⟩, e.Resp⟩
  have hn := zcfw a.Table.l e.Proc e.Seq e.Resp
  have htl := zcc6 (zcc5 ha).2.2.2 (by omega)
  have htl2 : a.Table.l.length ≤ 100 := by
   rcases htl with h | h
   ·omega
   ·rw [h]; simp
  have ih := zchq d.Table d.To a.State.Kind d.Sealed d.Engine zc C hClen h7 (d.Table.l.length - 1) 1 (noteL a.Table.l e.Proc e.Seq e.Resp) (by omega) (by omega) hm
  rw [show ((1 : Nat) : Int) = wrp .i64 1 by rw [zb9h (by omega) (by omega)]; rfl] at ih
  refine ⟨zc, false, (fun h => by cases h), pre (Ev.succ (Ev.po (Ev.opt he (Ev.bind hN ?_))) (fun q => rfl))⟩
  exact ih
theorem zcik {a b : zj6} (hz : a.Table.z = true → a.Table.l = []) (hk : a.State.Kind = b.State.Kind) (ha : mayN a = true) (hb : mayN b = true) (hl : lacksB a.Table.l b.Table.l = false) (hi : a.Index ≤ b.Index) (d : zj9) (h0 : d.From = a.Index) (h1 : d.To = b.Index) (h2 : d.Ahead = ((ahN a.State.L.l b.State.L.l : Nat) : Int)) (h3 : d.Behind = ((beN a.State.L.l b.State.L.l : Nat) : Int)) (h4 : d.Mid.l = midL a.State.L.l b.State.L.l) (h5 : d.Sealed = b.State.Sealed) (h6 : d.Engine = b.State.To) (h7 : d.Table.l = newT a.Table.l b.Table.l) :
  ∃ zc zt, (zt = true → b.Table.l = []) ∧ Ev (fun q => zph q a d) (setZ zc zt b, 0) := by
 have key := fun z z' => zchu hk ha hb hl d h1 h2 h3 h4 h5 h6 h7 z z'
 have hle := beN_le a.State.L.l b.State.L.l
 have hB := zcc5 hb
 have hkb := zcc1 (zcc2 hB.2.2.1).2.2.2
 have hml := zcht a.State.L.l b.State.L.l
 have htl := zccu a.Table.l b.Table.l
 have htb := zcc6 hB.2.2.2 (by omega)
 have htb2 : b.Table.l.length ≤ 100 := by
  rcases htb with h | h
  ·omega
  ·rw [h]; simp
 obtain ⟨zc, zt, hz2, h⟩ := zcij a d hz ha (by omega) (by omega) (by omega) h0.symm (by omega) (by rw [h4]; omega) (by rw [h7]; omega) (by rw [key]; exact hb)
 rw [key] at h
 have hA := zcc5 ha
 rw [h7, zcho (zcg2 hA.2.2.2) (zcg2 hB.2.2.2) hl] at hz2
 exact ⟨zc, zt, hz2, h⟩
theorem zcil {a b : zj6} (ma : mayN a = true) (mb : mayN b = true) (hk : a.State.Kind = b.State.Kind) (hl : lacksB a.Table.l b.Table.l = false) (hi : a.Index ≤ b.Index)
  (a1 : a.State.L.l.length ≤ 1000000) (a2 : a.Table.l.length ≤ 1000000) (b1 : b.State.L.l.length ≤ 1000000) (b2 : b.Table.l.length ≤ 1000000) (hzb : b.State.L.z = true → b.State.L.l = []) :
  ∃ (d : zj9) (c : List Int) (x : zj9), Ev (fun q => znd q a b) (d, 0) ∧ Ev (fun q => znt q d) (⟨false, true, c⟩, 0) ∧ Ev (fun q => zo9 q ⟨false, c⟩) (x, 0) ∧
   ∀ y y', (y' = true → a.Table.l = []) → ∃ zc zt, (zt = true → b.Table.l = []) ∧ Ev (fun q => zph q (setZ y y' a) x) (setZ zc zt b, 0) := by
 obtain ⟨zm, zt, hD⟩ := zccy a b a1 a2 b1 b2 hzb
 rw [zchs ma mb hk hl hi] at hD
 have hM := zch9 ma mb zm zt
 have hmn := zceg hM
 obtain ⟨z, hzf, hE⟩ := zch2 (diffD a b zm zt) (by omega) (by omega)
 rw [if_pos hM, hzf hM] at hE
 have hlen := zch7 hM
 have hel := zcdk (delD (diffD a b zm zt))
 have hpl := zb9q ((delD (diffD a b zm zt)).length : Int)
 have hDc := zch8 hM
 have hF := zcfs ⟨false, encF (delD (diffD a b zm zt))⟩ (fun h => by cases h) (zchz zcef) (by simp only; omega)
 simp only [hDc] at hF
 exact ⟨_, _, _, hD, hE, hF, fun y y' hy => zcik (a := setZ y y' a) (b := b) hy hk ma mb hl hi (normD (diffD a b zm zt)) rfl rfl rfl rfl rfl rfl rfl rfl⟩
theorem zcim (s : Sl Int) (hb : isB s.l) (hl : s.l.length ≤ 1048576) : ∃ z, Ev (fun q => zl6 q s) ⟨z, true, encF s.l⟩ := by
 obtain ⟨z, h⟩ := zca0 s hb hl
 exact ⟨z, Ev.succ (Ev.bind h (Ev.ret _)) (fun q => rfl)⟩
def headD (v kind first : Int) : List Int := (([108] ++ put v) ++ put kind) ++ put first
def headBad (kind first : Int) : Prop := kind < 0 ∨ 6 ≤ kind ∨ first < 0 ∨ 4611686018427387904 ≤ first
instance (k f : Int) : Decidable (headBad k f) := by unfold headBad; infer_instance
theorem zcin (v kind first : Int) : isB (headD v kind first) ∧ (headD v kind first).length ≤ 31 := by
 have p1 := zb9q v
 have p2 := zb9q kind
 have p3 := zb9q first
 refine ⟨zcaz.2 ⟨zcaz.2 ⟨zcaz.2 ⟨by intro c hc; simp at hc; omega, zcay _⟩, zcay _⟩, zcay _⟩, ?_⟩
 simp only [headD, y12, y23, y27]; omega
theorem zcio (v : Int) : Ev (fun q => zl5 q v) (decide (1 ≤ v ∧ v ≤ 3)) :=
 Ev.succ (Ev.ite (fun h => Ev.ret' (by simp [h])) fun h => Ev.ret' (by simp [h])) (fun q => rfl)
theorem zcip (v kind first : Int) : ∃ z, Ev (fun q => zl7 q v kind first) (if v < 1 ∨ 3 < v then (⟨true, true, []⟩, 6) else if headBad kind first then (⟨true, true, []⟩, 1) else (⟨z, true, encF (headD v kind first)⟩, 0)) := by
 obtain ⟨hb, hl⟩ := zcin v kind first
 obtain ⟨z, hfr⟩ := zcim ⟨false, headD v kind first⟩ hb (by simp only; omega)
 refine ⟨z, Ev.succ (Ev.bind (zcio v) (Ev.ite (fun h => ?_) fun h => ?_)) (fun q => rfl)⟩
 ·simp only [decide_eq_true_eq] at h
  rw [if_neg (by omega)]
  have p1 := zb9q v
  have p2 := zb9q kind
  refine Ev.ite (fun h1 => ?_) fun h1 => Ev.ite (fun h2 => ?_) fun h2 => Ev.ite (fun h3 => ?_) fun h3 => Ev.ite (fun h4 => ?_) fun h4 => ?_
  ·rw [if_pos (.inl h1)]; exact Ev.ret _
  ·rw [if_pos (.inr (.inl h2))]; exact Ev.ret _
  ·rw [if_pos (.inr (.inr (.inl h3)))]; exact Ev.ret _
  ·rw [if_pos (.inr (.inr (.inr h4)))]; exact Ev.ret _
  ·rw [if_neg (by unfold headBad; omega)]
   exact Ev.bind (zb9r _ (by omega) (by omega) (by simp)) (Ev.bind (zb9r _ (by omega) (by omega) (by simp only [y12, y23, y27]; omega)) (Ev.bind (zb9r _ (by omega) (by omega) (by simp only [y12, y23, y27]; omega)) (Ev.bind hfr (Ev.ret _))))
 ·simp only [decide_eq_true_eq] at h
  rw [if_pos (by omega)]; exact Ev.ret _
theorem zciq (f : Int) (hf : f = 0) : ∃ z h, h.length ≤ 60 ∧ Ev (fun q => zl7 q 3 0 f) (⟨z, true, h⟩, 0) := by
 obtain ⟨z, h⟩ := zcip 3 0 f
 rw [if_neg (by omega), if_neg (by unfold headBad; omega)] at h
 have hl := (zcin 3 0 f).2
 have hel := zcdk (headD 3 0 f)
 have hpl := zb9q ((headD 3 0 f).length : Int)
 exact ⟨z, _, by omega, h⟩
def S0 : zj6 := ⟨0, ⟨0, ⟨false, [0]⟩, false, 0⟩, ⟨true, []⟩⟩
theorem zcir (k : Int) (hk : k = 0) : Ev (fun q => zke q k) ⟨0, ⟨false, [0]⟩, false, 0⟩ := by
 have h : Ev (fun q => zke q k) ⟨k, ⟨false, [0]⟩, false, 0⟩ := Ev.succ (Ev.pos hk (Ev.ret _)) (fun q => rfl)
 rw [hk] at h ⊢; exact h
theorem zcis (s : Sl zj6) (x : zj6) (h : s.l[0]? = some x) (h1 : s.l.length = 1) : Ev (fun q => zkf q s) (x, true) := by
 have w : wrp .i64 ((s.l.length : Int) - 1) = 0 := by rw [zb9h (by omega) (by omega)]; omega
 have hj : s.l[(wrp .i64 ((s.l.length : Int) - 1)).toNat]? = some x := by rw [w]; exact h
 refine Ev.succ ?_ (fun q => rfl)
 exact Ev.ne (Ev.pos (by rw [w]; omega) (Ev.opt hj (Ev.ret _)))
theorem zcit (s : Sl Int) (h1 : s.l.length = 0) : Ev (fun q => zl8 q s) (0, false) := Ev.succ (Ev.po (Ev.ret _)) (fun q => rfl)
theorem zciu (n : Int) (h : n = 2) : Ev (fun q => zl9 q n) true := Ev.succ (Ev.po (Ev.ret' (by rw [decide_eq_true_eq]; omega))) (fun q => rfl)
theorem zciv (s : Sl zj5) (hz : s.z = true → s.l = []) (hl : s.l.length ≤ 4294967296) : ∃ z, (z = true → s.l = []) ∧ Ev (fun q => zkh q s) ⟨z, true, s.l⟩ := by
 by_cases c : s.z = true
 ·exact ⟨true, fun _ => hz c, Ev.succ (Ev.pos c (Ev.ret' (by rw [hz c]))) (fun q => rfl)⟩
 ·exact ⟨false, (fun h => by cases h), Ev.succ (Ev.neg c (Ev.pos hl (Ev.ret _))) (fun q => rfl)⟩
theorem zciw (s : Sl Int) (hz : s.z = true → s.l = []) (hl : s.l.length ≤ 4294967296) : ∃ z, (z = true → s.l = []) ∧ Ev (fun q => zkg q s) ⟨z, true, s.l⟩ := by
 by_cases c : s.z = true
 ·exact ⟨true, fun _ => hz c, Ev.succ (Ev.pos c (Ev.ret' (by rw [hz c]))) (fun q => rfl)⟩
 ·exact ⟨false, (fun h => by cases h), Ev.succ (Ev.neg c (Ev.pos hl (Ev.ret _))) (fun q => rfl)⟩
theorem zcix (s : zj6) (hz : zOk s.State.L.z s.Table.z s) (h1 : s.State.L.l.length ≤ 4294967296) (h2 : s.Table.l.length ≤ 4294967296) : ∃ z z', zOk z z' s ∧ Ev (fun q => zki q s) (setZ z z' s) := by
 obtain ⟨z, g1, g2⟩ := zciw s.State.L hz.1 h1
 obtain ⟨z', g3, g4⟩ := zciv s.Table hz.2 h2
 refine ⟨z, z', ⟨g1, g3⟩, Ev.succ (Ev.bind g2 (Ev.bind g4 ?_)) (fun q => rfl)⟩
 exact Ev.ret' rfl
theorem zciy (l : List zj6) : Ev (fun q => zmc q l) l.length := by
 have h0 : Ev (fun q => zma q l) l.length := Ev.succ (Ev.ret _) (fun q => rfl)
 have h1 : Ev (fun q => zmb q l) l.length := Ev.succ h0 (fun q => rfl)
 exact Ev.succ (Ev.bind h1 (Ev.ret _)) (fun q => rfl)
theorem zciz (n : Nat) (i : Int) (l : List zj6) : Ev (fun q => zmf q n i l) () := by
 have h0 : Ev (fun q => zmd q n i l) () := Ev.succ (Ev.ret _) (fun q => rfl)
 have h1 : Ev (fun q => zme q n i l) () := Ev.succ h0 (fun q => rfl)
 exact Ev.succ (Ev.bind h1 (Ev.ret _)) (fun q => rfl)
theorem S0_z : zOk S0.State.L.z S0.Table.z S0 := ⟨fun h => (by cases h), fun _ => rfl⟩
theorem zci0 (n : Nat) (x : zj6) (hz : zOk x.State.L.z x.Table.z x) (h1 : x.State.L.l.length ≤ 4294967296) (h2 : x.Table.l.length ≤ 4294967296) : Ev (fun q => zmh q n [x]) (n, x.Index, [x]) := by
 obtain ⟨z, z', _, h⟩ := zcix x hz h1 h2
 have hl := zcis ⟨false, [x]⟩ x rfl rfl
 refine Ev.succ (Ev.bind hl (Ev.bind h (Ev.bind (zciz n x.Index [x]) ?_))) (fun q => rfl)
 exact Ev.succ (Ev.ret _) (fun q => rfl)
theorem zci1 : Ev (fun q => zmi q) (1, 0, [S0]) := by
 have h0 := zci0 1 S0 S0_z (by decide) (by decide)
 have h1 := zciy [S0]
 have h2 := zcir 0 rfl
 exact Ev.succ (Ev.bind h2 (Ev.bind h1 h0)) (fun q => rfl)
theorem zci2 (a : Nat) (b c d e : Int) (f : Bool) (g : List Int) (h : Bool) (i : Int) (j : Bool) (k : List zj5) (l : List zj6) : Ev (fun q => zmk q a b c d e f g h i j k l) (a, b, c, d, e, f, g, h, i, j, k, l) := by
 have h1 : Ev (fun q => zmj q a b c d e f g h i j k l) (a, b, c, d, e, f, g, h, i, j, k, l) := Ev.succ (Ev.ret _) (fun q => rfl)
 exact Ev.succ (Ev.bind (zcir 0 rfl) h1) (fun q => rfl)
abbrev TN := Nat × Int × Int × Int × Int × Bool × (List Int) × Bool × Int × Bool × (List zj5) × (List zj6)
theorem zci3 (t : Nat × Int × List zj6) (x : zj6) (h : Ev (fun q => zmi q) t) (h1 : t.2.1 = 0) (h2 : t.2.2 = [x]) (hx : x.Index = 0) (hz : zOk x.State.L.z x.Table.z x) (b1 : x.State.L.l.length ≤ 800000) (b2 : x.Table.l.length ≤ 800000) :
  ∃ y y', zOk y y' x ∧ Ev (fun q => zml q) (t.1, t.2.1, wrp .i64 (t.2.1 + 0), 0, x.State.Kind, y, x.State.L.l, x.State.Sealed, x.State.To, y', x.Table.l, t.2.2) := by
 have w0 : wrp .i64 (t.2.1 + 0) = 0 := by rw [h1, zb9h (by omega) (by omega)]; rfl
 obtain ⟨z, z', hz1, ho⟩ := zcix x hz (by omega) (by omega)
 have hl := zcis ⟨false, t.2.2⟩ x (by rw [h2]; rfl) (by rw [h2]; rfl)
 have w1 : wrp .i64 ((setZ z z' x).Index - t.2.1) = 0 := by rw [show (setZ z z' x).Index = 0 from hx, h1, zb9h (by omega) (by omega)]; rfl
 obtain ⟨y, y', hy, hT⟩ := zcgw (setZ z z' x) ⟨true, []⟩ (by simp) hz1 b1 b2
 have hI : (setZ z z' x).Index = 0 := hx
 have eT : takeV (setZ z z' x) [] = (setZ false false (setZ z z' x), 0) := rfl
 simp only [eT] at hT hy
 refine ⟨y, y', hy, Ev.succ (Ev.bind h (Ev.bind hl (Ev.bind ho (Ev.ne (Ev.ne (Ev.po (Ev.po (Ev.bind hT (Ev.pos rfl ?_))))))))) (fun q => rfl)⟩
 refine Ev.cast (zci2 _ _ _ _ _ _ _ _ _ _ _ _) ?_
 simp only [setZ, hx]
theorem zci4 (o : zj7) : isB (opB o) := zcaz.2 ⟨zcay _, zcaz.2 ⟨zcax _, zcax _⟩⟩
theorem zci5 : ∀ (l pr : List zj8), isB (blkB pr l)
 | [], pr => by intro c hc; simp [blkB] at hc
 | r :: l, pr => zcaz.2 ⟨zcaz.2 ⟨zcay _, zcaz.2 ⟨zcax _, zcaz.2 ⟨zci4 _, zcax _⟩⟩⟩, zci5 l _⟩
theorem zci6 : ∀ {l pr : List zj8}, (∀ r ∈ l, FitsR r) → (∀ r ∈ pr, FitsR r) → (blkB pr l).length ≤ 60 * l.length
 | [], pr, _, _ => by simp [blkB]
 | r :: l, pr, hf, hp => by
  have hr := hf r y34
  obtain ⟨h1, h2, h3, h4, h5, h6, h7, h8, h9⟩ := hr
  have hlast := zcid hp r.Proc
  have p1 := zb9q r.Proc
  have p2 := zb92 (show inR .i64 (r.Seq - lastS pr r.Proc) from zb93 (by omega) (by omega))
  have p3 := zb94 h7
  have p4 := zb92 (show inR .i64 r.Resp from zb93 (by omega) (by omega))
  have ih := zci6 (l := l) (pr := r :: pr) (fun r hr => hf r (y38 _ hr)) (fun q hq => (List.mem_cons.1 hq).elim (fun e => e ▸ hf r y34) (hp q))
  simp only [blkB, y12, y23]; omega
theorem zci7 {a : Nat} {b c d e : Int} {f : Bool} {g : List Int} {h : Bool} {i : Int} {j : Bool} {k : List zj5} {l : List zj6} {m : List zj8} {n : Bool} {o : List Int} {p : Bool} {r : List Int} {s t : Bool} {u : List Int} {v : Bool} :
  Ev (fun q => zmo q a b c d e f g h i j k l m n o p r s t u v) () := by
 have h0 : Ev (fun q => zmm q a b c d e f g h i j k l m n o p r s t u v) () := Ev.succ (Ev.ret _) (fun q => rfl)
 have h1 : Ev (fun q => zmn q a b c d e f g h i j k l m n o p r s t u v) () := Ev.succ h0 (fun q => rfl)
 exact Ev.succ (Ev.bind h1 (Ev.ret _)) (fun q => rfl)
theorem zci8 (t : TN) (h : Ev (fun q => zml q) t) (h1 : t.2.1 = 0) (hz : zOk t.2.2.2.2.2.1 t.2.2.2.2.2.2.2.2.2.1 ⟨t.2.2.2.1, ⟨t.2.2.2.2.1, ⟨t.2.2.2.2.2.1, t.2.2.2.2.2.2.1⟩, t.2.2.2.2.2.2.2.1, t.2.2.2.2.2.2.2.2.1⟩, ⟨t.2.2.2.2.2.2.2.2.2.1, t.2.2.2.2.2.2.2.2.2.2.1⟩⟩)
  (h2 : t.2.2.2.1 = 0) (h3 : t.2.2.2.2.1 = 0) (h4 : t.2.2.2.2.2.2.1 = [0]) (h5 : t.2.2.2.2.2.2.2.1 = false) (h6 : t.2.2.2.2.2.2.2.2.1 = 0) (h7 : t.2.2.2.2.2.2.2.2.2.2.1 = []) : Ev (fun q => zmp q) true := by
 have w0 : wrp .i64 (t.2.1 + 0) = 0 := by rw [h1, zb9h (by omega) (by omega)]; rfl
 have w1 : wrp .i64 (wrp .i64 (t.2.1 + 0) + 1) = 1 := by rw [w0, zb9h (by omega) (by omega)]; rfl
 obtain ⟨r, hr⟩ : ∃ r : zj8, r = ⟨wrp .i64 (t.2.1 + 0), 0, wrp .i64 (wrp .i64 (t.2.1 + 0) + 1), ⟨1, 5, 0⟩, 0⟩ := ⟨_, rfl⟩
 have hr' : r = ⟨0, 0, 1, ⟨1, 5, 0⟩, 0⟩ := by rw [hr, w1, w0]
 have hf : FitsR r := by rw [hr']; simp [FitsR, fitsOp, cutI]
 obtain ⟨s, hs⟩ : ∃ s : zj6, s = ⟨t.2.2.2.1, ⟨t.2.2.2.2.1, ⟨t.2.2.2.2.2.1, t.2.2.2.2.2.2.1⟩, t.2.2.2.2.2.2.2.1, t.2.2.2.2.2.2.2.2.1⟩, ⟨t.2.2.2.2.2.2.2.2.2.1, t.2.2.2.2.2.2.2.2.2.2.1⟩⟩ := ⟨_, rfl⟩
 have hs1 : s.State.L.l = [0] := by rw [hs]; exact h4
 have hs2 : s.Table.l = [] := by rw [hs]; exact h7
 have hs3 : s.Index = 0 := by rw [hs]; exact h2
 have hzs : zOk s.State.L.z s.Table.z s := by rw [hs]; exact hz
 have hok : blkOk [r] = true := by simp [blkOk, chainB, hf]
 have hB := zcii ⟨false, [r]⟩ (by simp)
 rw [if_pos hok] at hB
 have hlen := zci6 (l := [r]) (pr := []) (by intro x hx; simp at hx; rw [hx]; exact hf) (by simp)
 have hE : (blkE [r]).length ≤ 100 := by
  have p1 := zb9q r.Index
  have p2 := zb9q (([r] : List zj8).length : Int)
  simp only [blkE, y12]; simp only [y23, y27] at hlen p2 ⊢; omega
 have hI : isB (blkE [r]) := zcaz.2 ⟨zcay _, zcaz.2 ⟨zcay _, zci5 _ _⟩⟩
 obtain ⟨zf, hF⟩ := zca0 ⟨false, blkE [r]⟩ hI (by simp only; omega)
 have hel := zcdk (blkE [r])
 have hpl := zb9q ((blkE [r]).length : Int)
 obtain ⟨zh, hd, hhl, hH⟩ := zciq (wrp .i64 (t.2.1 + 0)) w0
 obtain ⟨y, y', hy, hT⟩ := zcgw s ⟨false, [r]⟩ (by simp) hzs (by rw [hs1]; simp) (by rw [hs2]; simp)
 have hTV : takeV s [r] = (setZ false false (nextN s r), 0) := by
  rw [zcgs, if_pos (by rw [hs3, hr']), if_pos hf]; rfl
 simp only at hT hy
 rw [hTV] at hT hy
 have hL : (setZ y y' (setZ false false (nextN s r))).State.L.l = [5] := by
  show (stepV s.State r.Op).1.1 = [5]
  have e : s.State = ⟨0, ⟨t.2.2.2.2.2.1, [0]⟩, false, 0⟩ := by rw [hs, h3, h4, h5, h6]
  rw [e, hr']
  have e1 : cutI (wrp .i64 (0 + cutI 5)) = 5 := by rw [show cutI 5 = 5 by simp [cutI], zb9h (by omega) (by omega)]; simp [cutI]
  have w5 : wrp .i64 5 = 5 := zb9h (by omega) (by omega)
  simp [stepV, numV, mayS, kindOk, cutsB, cutI, w5]
 have hTb : (setZ y y' (setZ false false (nextN s r))).Table.l.length ≤ 4294967296 := by
  have := zcfw s.Table.l r.Proc r.Seq (stepV s.State r.Op).2
  rw [hs2] at this
  show (noteL s.Table.l r.Proc r.Seq (stepV s.State r.Op).2).length ≤ 4294967296
  rw [hs2]; simp at this ⊢; omega
 have hzv : zOk (setZ y y' (setZ false false (nextN s r))).State.L.z (setZ y y' (setZ false false (nextN s r))).Table.z (setZ y y' (setZ false false (nextN s r))) := hy
 simp only at hT
 generalize setZ y y' (setZ false false (nextN s r)) = v at hT hL hTb hzv
 obtain ⟨u, u', _, hO⟩ := zcix v hzv (by rw [hL]; simp) hTb
 have hO2 : (setZ u u' v).State.L.l = [5] := hL
 generalize setZ u u' v = v2 at hO hO2
 have hO3 : v2.State.L.l[0]? = some 5 := by rw [hO2]; rfl
 have hw : ¬ 10000 < wrp .i64 (0 + (((hd.length + (encF (blkE [r])).length) : Nat) : Int)) := by
  rw [zb9h (by omega) (by omega)]; omega
 simp only at hB hF
 subst hr hs
 refine Ev.succ ?_ (fun q => rfl)
 refine Ev.bind h (Ev.bind hB (Ev.pos rfl (Ev.bind hF (Ev.bind hH (Ev.bind zci7 (Ev.bind (zcit _ rfl) (Ev.neg (by simp) (Ev.pos (by simp only; omega) (Ev.bind (zciu 2 rfl) (Ev.pos rfl (Ev.neg hw (Ev.bind hT (Ev.bind hO (Ev.pos (by rw [hO2]; rfl) (Ev.opt hO3 ?_)))))))))))))))
 exact Ev.ret' (by simp)
theorem zci9 : Ev (fun q => zmp q) true := by
 obtain ⟨y, y', hy, h⟩ := zci3 (1, 0, [S0]) S0 zci1 rfl rfl rfl S0_z (by decide) (by decide)
 exact zci8 _ h rfl hy rfl rfl rfl rfl rfl rfl
theorem zcja : ∀ (a0 : zj6) (a1 : (Sl zj8)) (a2 : Int), zj6.ok a0 → okSl (fun x => zj8.ok x) a1 → inR .i64 a2 → ∃ q, zpo q a0 a1 a2 = some true := by
 intro s l k hs hl hk
 refine Ev.get (Ev.succ (Ev.bind zci9 (Ev.pos rfl (Ev.ite (fun h1 => Ev.ret _) fun h1 => Ev.ite (fun h2 => Ev.ret _) fun h2 => Ev.ite (fun h3 => Ev.ret _) fun h3 => Ev.ite (fun h4 => Ev.ret _) fun h4 => Ev.ite (fun h5 => Ev.ret _) fun h5 => ?_))) (fun q => rfl))
 have hzs : zOk s.State.L.z s.Table.z s := ⟨hs.2.1.2.1.1, hs.2.2.1⟩
 have hkn : k.toNat ≤ l.l.length := by omega
 obtain ⟨z1, z2, hz12, hT1⟩ := zcgw s ⟨l.z, l.l.take k.toNat⟩ (by simp only [y22]; omega) hzs (by omega) (by omega)
 obtain ⟨z3, z4, hz34, hT2⟩ := zcgw s l (by omega) hzs (by omega) (by omega)
 simp only at hz12 hT1
 have hsplit : l.l = l.l.take k.toNat ++ l.l.drop k.toNat := (List.take_append_drop _ _).symm
 have hlA := zcgx (l.l.take k.toNat) s
 have hlB := zcgx l.l s
 have hlt : (l.l.take k.toNat).length ≤ 60 := by rw [y22]; omega
 refine Ev.bind (zcca s (by omega) (by omega)) (Ev.po (Ev.pos hkn (Ev.bind hT1 (Ev.bind hT2 (Ev.ite (fun hm => Ev.ite (fun cA => Ev.ite (fun cB => ?_) fun cB => Ev.ret _) fun cA => Ev.ret _) fun hm => Ev.ret _)))))
 simp only at cA cB
 have happ := zcgu (l.l.take k.toNat) (l.l.drop k.toNat) s cA
 rw [← hsplit] at happ
 have kA := zchr (l.l.take k.toNat) s cA
 have fA := zcgy (l.l.take k.toNat) s cA
 generalize takeV s (l.l.take k.toNat) = A at *
 have kB := zchr (l.l.drop k.toNat) A.1 (by rw [← happ]; exact cB)
 have fB := zcgy (l.l.drop k.toNat) A.1 (by rw [← happ]; exact cB)
 rw [← happ] at kB fB
 generalize takeV s l.l = B at *
 have a1 : (setZ z1 z2 A.1).State.L.l.length ≤ 1000000 := by simp only [setZ]; omega
 have a2 : (setZ z1 z2 A.1).Table.l.length ≤ 1000000 := by simp only [setZ]; omega
 have b1 : (setZ z3 z4 B.1).State.L.l.length ≤ 1000000 := by simp only [setZ]; omega
 have b2 : (setZ z3 z4 B.1).Table.l.length ≤ 1000000 := by simp only [setZ]; omega
 refine Ev.bind (zcb9 _ a1 a2) (Ev.ite (fun mA => ?_) fun mA => Ev.ret _)
 refine Ev.bind (zcb9 _ b1 b2) (Ev.ite (fun mB => ?_) fun mB => Ev.ret _)
 replace mA : mayN (setZ z1 z2 A.1) = true := mA
 replace mB : mayN (setZ z3 z4 B.1) = true := mB
 have hS := zcc5 hm
 have hSA := zcc5 mA
 have lkA : lacksB s.Table.l (setZ z1 z2 A.1).Table.l = false := zchn fun e he => kA.2 e.Proc (by rw [zchv (zcg2 hS.2.2.2) e he]; simp)
 have lkB : lacksB (setZ z1 z2 A.1).Table.l (setZ z3 z4 B.1).Table.l = false := zchn fun e he => kB.2 e.Proc (by have h := zchv (zcg2 hSA.2.2.2) e he; show lk e.Proc (setZ z1 z2 A.1).Table.l ≠ none; rw [h]; simp)
 have iA : s.Index ≤ (setZ z1 z2 A.1).Index := by show s.Index ≤ A.1.Index; rw [fA.2.1]; omega
 have iB : (setZ z1 z2 A.1).Index ≤ (setZ z3 z4 B.1).Index := by show A.1.Index ≤ B.1.Index; rw [fB.2.1]; omega
 obtain ⟨d, c, x, hD, hE, hX, hAp⟩ := zcil (a := s) (b := setZ z1 z2 A.1) hm mA kA.1.symm lkA iA (by omega) (by omega) a1 a2 hz12.1
 obtain ⟨d2, c2, x2, hD2, hE2, hX2, hAp2⟩ := zcil (a := setZ z1 z2 A.1) (b := setZ z3 z4 B.1) mA mB kB.1.symm lkB iB a1 a2 b1 b2 hz34.1
 obtain ⟨y1, y2, hy, hA1⟩ := hAp s.State.L.z s.Table.z hzs.2
 obtain ⟨y3, y4, hy3, hA2⟩ := hAp2 y1 y2 hy
 have hS1 := zcdo (setZ y1 y2 (setZ z1 z2 A.1)) (setZ z1 z2 A.1) (by simp only [setZ] at a1 ⊢; omega) (by simp only [setZ] at a2 ⊢; omega)
 have hS2 := zcdo (setZ y3 y4 (setZ z3 z4 B.1)) (setZ z3 z4 B.1) (by simp only [setZ] at b1 ⊢; omega) (by simp only [setZ] at b2 ⊢; omega)
 rw [show sameN (setZ y1 y2 (setZ z1 z2 A.1)) (setZ z1 z2 A.1) = true from zcgz y1 y2 z1 z2 A.1] at hS1
 rw [show sameN (setZ y3 y4 (setZ z3 z4 B.1)) (setZ z3 z4 B.1) = true from zcgz y3 y4 z3 z4 B.1] at hS2
 refine Ev.bind hD (Ev.bind hD2 (Ev.bind hE (Ev.bind hE2 (Ev.bind hX (Ev.bind hX2 (Ev.bind hA1 (Ev.bind hA2 (Ev.pos rfl (Ev.pos rfl (Ev.pos rfl (Ev.pos rfl (Ev.pos rfl (Ev.pos rfl (Ev.pos rfl (Ev.pos rfl (Ev.bind hS1 (Ev.pos rfl (Ev.bind hS2 ?_))))))))))))))))))
 exact Ev.ret _
end Go.Dvm.I
