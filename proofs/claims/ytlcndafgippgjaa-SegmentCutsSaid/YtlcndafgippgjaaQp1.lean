/- Plain laws of the functions: part 2. -/
import Derived.Test.YtlcndafgippgjaaQp0
set_option linter.all false
set_option maxRecDepth 100000
namespace Go.Dvm.I
open Go Go.Dvm
theorem zb1h {v : Int} : ∀ {j k : Nat} {l : List zjs}, l.length ≤ 16 * k → (datB v k l).take j = datB v j (l.take (16 * j))
 | 0, k, l, h => by simp [datB]
 | j + 1, 0, l, h => by
  have : l = [] := List.eq_nil_of_length_eq_zero (by omega)
  subst this; simp [datB]
 | j + 1, k + 1, l, h => by
  simp only [datB]
  by_cases h0 : l.length = 0
  ·rw [if_pos h0, if_pos (by rw [List.length_take]; omega), List.take_nil]
  ·rw [if_neg h0, if_neg (by rw [List.length_take]; omega), List.take_succ_cons, zb1h (by rw [List.length_drop]; omega)]
   rw [List.take_take, List.drop_take, show min 16 (16 * (j + 1)) = 16 by omega, show 16 * (j + 1) - 16 = 16 * j by omega]
theorem zb1i {v : Int} : ∀ {j k : Nat} {l : List zjs}, l.length ≤ 16 * k → 16 * j < l.length → (datB v k l)[j]? = some (dataB v ((l.drop (16 * j)).take 16))
 | j, 0, l, h, hj => by omega
 | 0, k + 1, l, h, hj => by
  simp only [datB]
  rw [if_neg (by omega)]; simp
 | j + 1, k + 1, l, h, hj => by
  simp only [datB]
  rw [if_neg (by omega), List.getElem?_cons_succ, zb1i (by rw [List.length_drop]; omega) (by rw [List.length_drop]; omega), List.drop_drop]
  rw [show 16 + 16 * j = 16 * (j + 1) by omega]
theorem zb1j {v : Int} : ∀ {j k : Nat} {l : List zjs}, l.length ≤ 16 * k → (j < (datB v k l).length ↔ 16 * j < l.length)
 | j, 0, l, h => by simp only [datB, List.length_nil]; omega
 | 0, k + 1, l, h => by
  simp only [datB]
  by_cases h0 : l.length = 0
  ·rw [if_pos h0, List.length_nil]; omega
  ·rw [if_neg h0, List.length_cons]; omega
 | j + 1, k + 1, l, h => by
  simp only [datB]
  by_cases h0 : l.length = 0
  ·rw [if_pos h0, List.length_nil]; omega
  ·have := zb1j (v := v) (j := j) (k := k) (l := l.drop 16) (by rw [List.length_drop]; omega)
   rw [List.length_drop] at this
   rw [if_neg h0, List.length_cons]; omega
theorem zb1k {v : Int} {r : zjs} (v1 : 1 ≤ v) (v3 : v ≤ 3) (h : FitsR r) : 7 ≤ (recB v r).length := by
 have w : ∀ f : Int, 1 ≤ (valB f r).length := fun f => zbxy h
 have w1 := w 1
 have w2 := w 2
 have w4 := w 4
 have p0 := zbxv (n := v) (by omega) (by omega)
 have p1 := zbxv (n := 1) (by omega) (by omega)
 have p2 := zbxv (n := 2) (by omega) (by omega)
 have p4 := zbxv (n := 4) (by omega) (by omega)
 unfold recB fieldsOf
 split
 ·simp only [fieldsB, List.length_append]; omega
 ·split
  ·simp only [fieldsB, List.length_append]; omega
  ·simp only [fieldsB, List.length_append]; omega
theorem zb1l {v f : Int} {F : List (List Int)} {l : List zjs} {j : Nat} (v1 : 1 ≤ v) (v3 : v ≤ 3) (hF : F.length = j + 1) (hj : j ≤ 6) (hf : 0 ≤ f) (hc : chainB l (f + 16 * j) = true) (h0 : l ≠ []) (e : footD F = dataB v l) : False := by
 cases l with
 | nil => exact h0 rfl
 | cons r l =>
  have hr := zbye hc r List.mem_cons_self
  have hi := zbx7 hr
  have hix : r.Index = f + 16 * j := by simp only [chainB, Bool.and_eq_true, decide_eq_true_eq] at hc; exact hc.2.1
  unfold footD dataB at e
  rw [hF, show ((j + 1 : Nat) : Int) - 1 = (j : Int) by omega] at e
  split at e
  ·simp only [blkE] at e
   obtain ⟨e1, e2⟩ := zbvn (by omega) hi e
   have hj0 : j = 0 := by omega
   subst hj0
   have : F.dropLast = [] := List.eq_nil_of_length_eq_zero (by rw [List.length_dropLast]; omega)
   rw [this] at e2
   have p := zbxv (n := ((r :: l).length : Int)) (by omega) (by
    by_cases hb : ((r :: l).length : Int) < 4611686018427387904
    ·exact hb
    ·exfalso
     have := congrArg List.length e2
     unfold put at this
     rw [if_neg (by omega), if_pos (by omega)] at this
     simp only [lensB, List.flatMap_nil, List.nil_append, List.length_nil, blkB, List.length_append] at this
     have := zbxv (n := r.Proc) hr.2.2.1 (by have := hr.2.2.2.1; omega)
     omega)
   have := congrArg List.length e2
   simp only [lensB, List.flatMap_nil, List.length_nil, List.length_append] at this
   omega
  ·simp only [recsB, List.append_assoc] at e
   have hge := zb1k v1 v3 hr
   have hle := zbx6 hr (v := v)
   obtain ⟨e1, e2⟩ := zbvn (by omega) (by omega) e
   omega
theorem zb1m : ∀ (W : List (List Int)) (cut : Nat), cut < (BB W).length → ∃ i, i < W.length ∧ (BB (W.take i)).length ≤ cut ∧ cut < (BB (W.take (i + 1))).length
 | [], cut, h => by simp [BB] at h
 | d :: W, cut, h => by
  by_cases h1 : cut < (encF d).length
  ·exact ⟨0, by simp, by simp [BB], by simpa [BB] using h1⟩
  ·rw [zbxb, List.length_append] at h
   obtain ⟨i, i1, i2, i3⟩ := zb1m W (cut - (encF d).length) (by omega)
   refine ⟨i + 1, by rw [List.length_cons]; omega, ?_, ?_⟩
   ·rw [List.take_succ_cons, zbxb, List.length_append]; omega
   ·rw [List.take_succ_cons, zbxb, List.length_append]; omega
theorem zb1n (W : List (List Int)) {i j : Nat} (h : i ≤ j) : (BB (W.take i)).length ≤ (BB (W.take j)).length := by
 have : W.take j = W.take i ++ (W.take j).drop i := by
  have := List.take_append_drop i (W.take j)
  rw [List.take_take, Nat.min_eq_left h] at this
  exact this.symm
 rw [this, BB_app, List.length_append]; omega
theorem zb1o {v k f : Int} {l : List zjs} (v1 : 1 ≤ v) (v3 : v ≤ 3) (h : segOk k f l) (h100 : l.length ≤ 100) {cut : Nat} (hcut : cut < (segE v k f l).length) : (segD ((segE v k f l).take cut)).2.2 ≠ 0 := by
 obtain ⟨hf, hl, hc⟩ := zb1f h
 have hk := notBad h.1
 have hall := zb00 (v := v) (k := k) (f := f) hf hl
 rw [segE_W] at hcut ⊢
 have hfoot : segW v k f l ++ [footD (segF v k f l)] = segW v k f l ++ [footD (segF v k f l)] := rfl
 generalize hW : segW v k f l ++ [footD (segF v k f l)] = W at *
 obtain ⟨i, i1, i2, i3⟩ := zb1m W cut hcut
 have hwc := zbxd W i cut (((BB W).take cut).length + 1) (fun d hd => (hall d hd).2) (by omega) i2 (by omega) (fun _ => i3) (by omega)
 have hAF : allF ((BB W).take cut) = (W.take i, (BB (W.take i)).length, if (BB (W.take i)).length = cut then 0 else 2) := hwc
 have hWl : W.length = (segW v k f l).length + 1 := by rw [← hW]; simp
 have hWi : W.take i = (segW v k f l).take i := by rw [← hW, List.take_append_of_le_length (by omega)]
 intro h0
 unfold segD allE at h0
 rw [hAF] at h0
 by_cases hb : (BB (W.take i)).length = cut
 ·simp only [if_pos hb, if_true] at h0
  have hlt : (W.take i).length = i := by rw [List.length_take]; omega
  rw [hlt] at h0
  by_cases hi2 : i < 2
  ·rw [if_pos hi2] at h0; simp only at h0; omega
  rw [if_neg hi2] at h0
  have hM : (W.take i).take (i - 1) = headD v k f :: datB v (i - 2) (l.take (16 * (i - 2))) := by
   rw [hWi, List.take_take, show min (i - 1) i = (i - 2) + 1 by omega]
   unfold segW
   rw [List.take_succ_cons, zb1h (by omega)]
  have hj : 16 * (i - 2) < l.length := by
   have : i - 2 < (datB v l.length l).length := by
    have : (segW v k f l).length = (datB v l.length l).length + 1 := by simp [segW]
    omega
   exact (zb1j (by omega)).1 this
  have hwa := zb01 v1 v3 (zb1e h (16 * (i - 2))) (i - 2) (by rw [List.length_take]; omega)
  rw [hM, hwa] at h0
  simp only [if_true] at h0
  have hlast : (W.take i).getD (i - 1) [] = dataB v ((l.drop (16 * (i - 2))).take 16) := by
   rw [hWi, List.getD_eq_getElem?_getD, List.getElem?_take_of_lt (by omega)]
   unfold segW
   rw [show i - 1 = (i - 2) + 1 by omega, List.getElem?_cons_succ, zb1i (by omega) hj]; rfl
  rw [hlast] at h0
  split at h0
  ·rename_i heq
   have hcd := zbyk (zbyl hc (16 * (i - 2))) 16
   have hfd : ∀ r ∈ (l.drop (16 * (i - 2))).take 16, FitsR r := zbye hcd
   have hdl := zbyp (v := v) hfd
   have hl16 : ((l.drop (16 * (i - 2))).take 16).length ≤ 16 := by simp; omega
   have hlM : (headD v k f :: datB v (i - 2) (l.take (16 * (i - 2)))).length = i - 1 := by rw [← hM, List.length_take, hlt]; omega
   have hff := zbzb ((headD v k f :: datB v (i - 2) (l.take (16 * (i - 2)))).map encF)
   rw [List.length_map, hlM] at hff
   have d1 := zbw4 (l := footD ((headD v k f :: datB v (i - 2) (l.take (16 * (i - 2)))).map encF)) (x := []) (by omega)
   have d2 := zbw4 (l := dataB v ((l.drop (16 * (i - 2))).take 16)) (x := []) (by omega)
   rw [heq, d2] at d1
   have e := (congrArg Prod.fst d1).symm
   refine zb1l (f := f) (j := i - 2) v1 v3 (by rw [List.length_map, hlM]; omega) (by omega) hk.2.2.1 ?_ ?_ e
   ·have := hcd
    rw [show f + ((16 * (i - 2) : Nat) : Int) = f + 16 * ((i - 2 : Nat) : Int) by omega] at this
    exact this
   ·intro e2
    have := congrArg List.length e2
    simp only [List.length_take, List.length_drop, List.length_nil] at this; omega
  ·simp only at h0; omega
 ·simp [hb] at h0
theorem zb1p {v k f : Int} {l : List zjs} (v1 : 1 ≤ v) (v3 : v ≤ 3) (h : segOk k f l) {cut : Nat} (hcut : cut < (segE v k f l).length) :
  (cut < (encF (headD v k f)).length ∧ recS ((segE v k f l).take cut) = ((0, 0, []), 0, false)) ∨
  ∃ i, i ≤ (datB v l.length l).length ∧ (BB ((segW v k f l).take (i + 1))).length ≤ cut ∧ (i < (datB v l.length l).length → cut < (BB ((segW v k f l).take (i + 2))).length) ∧
   recS ((segE v k f l).take cut) = ((k, f, (l.take (16 * i)).map (upR v)), ((BB ((segW v k f l).take (i + 1))).length : Int), true) := by
 obtain ⟨hf, hl, hc⟩ := zb1f h
 have hall := zb00 (v := v) (k := k) (f := f) hf hl
 rw [segE_W] at hcut ⊢
 generalize hW : segW v k f l ++ [footD (segF v k f l)] = W at *
 obtain ⟨i, i1, i2, i3⟩ := zb1m W cut hcut
 have hwc := zbxd W i cut (((BB W).take cut).length + 1) (fun d hd => (hall d hd).2) (by omega) i2 (by omega) (fun _ => i3) (by omega)
 have hAF : allF ((BB W).take cut) = (W.take i, (BB (W.take i)).length, if (BB (W.take i)).length = cut then 0 else 2) := hwc
 have hWl : W.length = (segW v k f l).length + 1 := by rw [← hW]; simp
 have hWd : (segW v k f l).length = (datB v l.length l).length + 1 := by simp [segW]
 have hWi : ∀ n, n ≤ (segW v k f l).length → W.take n = (segW v k f l).take n := fun n hn => by rw [← hW, List.take_append_of_le_length hn]
 cases i with
 | zero =>
  left
  refine ⟨?_, ?_⟩
  ·rw [hWi 1 (by omega)] at i3
   simpa [segW, BB] using i3
  ·unfold recS; rw [hAF]; simp
 | succ i =>
  right
  refine ⟨i, by omega, ?_, fun hi => ?_, ?_⟩
  ·rw [hWi (i + 1) (by omega)] at i2; exact i2
  ·rw [hWi (i + 2) (by omega)] at i3; exact i3
  ·have hM : (allF ((BB W).take cut)).1 = headD v k f :: datB v i (l.take (16 * i)) := by
    rw [hAF]; simp only
    rw [hWi (i + 1) (by omega)]
    unfold segW
    rw [List.take_succ_cons, zb1h (by omega)]
   rw [zb1g v1 v3 (zb1e h (16 * i)) i (by rw [List.length_take]; omega) hM]
   have : headD v k f :: datB v i (l.take (16 * i)) = (segW v k f l).take (i + 1) := by
    unfold segW
    rw [List.take_succ_cons, zb1h (by omega)]
   rw [this]
theorem zb1q {v : Int} {l : List zjs} (h0 : l ≠ []) (hl : l.length ≤ 16) : bodyB v l = encF (dataB v l) := by
 unfold bodyB
 have : l.length ≠ 0 := fun e => h0 (List.eq_nil_of_length_eq_zero e)
 rw [zbzj (k := l.length) (k' := 1) (by omega) (by omega)]
 simp only [blocksB]
 rw [if_neg this, List.take_of_length_le hl]; simp
theorem zb1r {v k f : Int} {l : List zjs} {j : Nat} (h : 16 * j < l.length) : (BB ((segW v k f l).take (j + 2))).length = (BB ((segW v k f l).take (j + 1))).length + (encF (dataB v ((l.drop (16 * j)).take 16))).length := by
 have hg : (segW v k f l)[j + 1]? = some (dataB v ((l.drop (16 * j)).take 16)) := by
  unfold segW; rw [List.getElem?_cons_succ, zb1i (by omega) h]
 rw [List.take_succ, hg, BB_app]
 simp [BB]
theorem zb1s {v k f : Int} {l : List zjs} (v1 : 1 ≤ v) (v3 : v ≤ 3) (h : segOk k f l) (h100 : l.length ≤ 100) (hok : ∀ r ∈ l, zjs.ok r) {cut i : Nat} (hi : i ≤ (datB v l.length l).length) (c1 : (BB ((segW v k f l).take (i + 1))).length ≤ cut) (c2 : i < (datB v l.length l).length → cut < (BB ((segW v k f l).take (i + 2))).length) (hcl : cut ≤ 100000) (z z2 : Bool) :
  ∀ (n j : Nat), i = j + n → Ev (fun q => zmy q v (cut : Int) ((BB ((segW v k f l).take (i + 1))).length : Int) ((min (16 * j) l.length : Nat) : Int) ((BB ((segW v k f l).take (j + 1))).length : Int) ((16 * j : Nat) : Int) k f z l k f z2 ((l.take (16 * i)).map (upR v))) true := by
 obtain ⟨hf, hl, hc⟩ := zb1f h
 have fin : ∀ (many : Nat), many = min (16 * i) l.length → Ev (fun q => if 0 ≤ (many : Int) then (if (many : Int).toNat ≤ l.length then ((zmf q v (⟨k, f, ⟨z, (List.take (many : Int).toNat l)⟩⟩ : zjt)).bind fun r10 => ((zmi q (⟨k, f, ⟨z2, ((l.take (16 * i)).map (upR v))⟩⟩ : zjt) r10).bind fun r11 => (if r11 = true then (some (decide (((BB ((segW v k f l).take (i + 1))).length : Int) = ((BB ((segW v k f l).take (i + 1))).length : Int)))) else (some false)))) else none) else none) true := fun many hm => by
  obtain ⟨zu, hU⟩ := zb06 v1 v3 ⟨k, f, ⟨z, List.take (many : Int).toNat l⟩⟩ (by simp only [List.length_take]; omega)
  have ht : List.take (many : Int).toNat l = l.take (16 * i) := by
   rw [Int.toNat_natCast, hm]
   rcases Nat.le_total (16 * i) l.length with q | q
   ·rw [Nat.min_eq_left q]
   ·rw [Nat.min_eq_right q, List.take_length, List.take_of_length_le q]
  refine Ev.pos (by omega) (Ev.pos (by omega) (Ev.bind hU (Ev.bind (zb04 _ _ (by simp only [List.length_map, List.length_take]; omega)) (Ev.pos ?_ (Ev.ret' (by simp))))))
  simp only [ht, and_self, decide_true]
 have body : ∀ (j : Nat) (X : List zjs), 16 * j < l.length → X = (l.drop (16 * j)).take 16 → ∃ zz, Ev (fun q => zk4 q v ⟨z, X⟩) (⟨zz, true, encF (dataB v X)⟩, 0) := fun j X hj hX => by
  have hcx : chainB X (f + ((16 * j : Nat) : Int)) = true := by rw [hX]; exact zbyk (zbyl hc _) 16
  have hX0 : X ≠ [] := fun e => by
   have := congrArg List.length (hX.symm.trans e)
   simp only [List.length_take, List.length_drop, List.length_nil] at this; omega
  have hXl : X.length ≤ 16 := by rw [hX]; simp; omega
  obtain ⟨zz, e⟩ := zby7 v ⟨z, X⟩ (fun r hr => by simp only at hr; rw [hX] at hr; exact hok r (List.mem_of_mem_drop (List.mem_of_mem_take hr))) (by simp only; omega)
  simp only [if_neg (show ¬ (v < 1 ∨ 3 < v) by omega), if_pos (zbzk hcx (by omega)), zb1q hX0 hXl] at e
  exact ⟨zz, e⟩
 intro n
 induction n with
 | zero =>
  intro j hij
  have : j = i := by omega
  subst this
  by_cases hj : 16 * j < l.length
  ·have hlt := (zb1j (v := v) (k := l.length) (l := l) (by omega)).2 hj
   have hc2 := c2 hlt
   rw [zb1r hj] at hc2
   have w1 : wrp .i64 (((16 * j : Nat) : Int) + 16) = ((16 * j + 16 : Nat) : Int) := by rw [zbuo (by omega) (by omega)]; omega
   have hwA : ∀ X, X = (l.drop (16 * j)).take 16 → wrp .i64 (((BB ((segW v k f l).take (j + 1))).length : Int) + ((encF (dataB v X)).length : Int)) = (((BB ((segW v k f l).take (j + 1))).length + (encF (dataB v X)).length : Nat) : Int) := fun X hX => by
    have := zby3 (dataB v X)
    have h3 := zbyp (v := v) (l := X) (by rw [hX]; exact zbye (zbyk (zbyl hc _) 16))
    have : X.length ≤ 16 := by rw [hX]; simp; omega
    rw [zbuo (by omega) (by omega)]; omega
   refine Ev.succ (Ev.pos (by omega) (Ev.ite (fun h1 => ?_) fun h1 => ?_)) (fun q => rfl)
   ·rw [w1] at h1
    have e1 : List.drop ((16 * j : Nat) : Int).toNat (List.take l.length l) = (l.drop (16 * j)).take 16 := by
     rw [List.take_length, Int.toNat_natCast, List.take_of_length_le (by rw [List.length_drop]; omega)]
    obtain ⟨zz, hB⟩ := body j _ hj e1
    rw [← e1] at hc2
    refine Ev.pos (by omega) (Ev.pos (by omega) (Ev.bind hB (Ev.pos rfl (Ev.pos (by rw [hwA _ e1]; omega) (fin _ rfl)))))
   ·rw [w1] at h1 ⊢
    have e1 : List.drop ((16 * j : Nat) : Int).toNat (List.take ((16 * j + 16 : Nat) : Int).toNat l) = (l.drop (16 * j)).take 16 := by
     rw [Int.toNat_natCast, Int.toNat_natCast, List.drop_take]; congr 1; omega
    obtain ⟨zz, hB⟩ := body j _ hj e1
    rw [← e1] at hc2
    refine Ev.pos (by omega) (Ev.pos (by omega) (Ev.pos (by omega) (Ev.bind hB (Ev.pos rfl (Ev.pos (by rw [hwA _ e1]; omega) (fin _ rfl))))))
  ·exact Ev.succ (Ev.neg (by omega) (fin _ rfl)) (fun q => rfl)
 | succ n ih =>
  intro j hij
  have hj : 16 * j < l.length := (zb1j (v := v) (k := l.length) (l := l) (by omega)).1 (by omega)
  have hmono := zb1n (segW v k f l) (show j + 1 + 1 ≤ i + 1 by omega)
  have hsucc : (BB ((segW v k f l).take (j + 1 + 1))).length = (BB ((segW v k f l).take (j + 1))).length + (encF (dataB v ((l.drop (16 * j)).take 16))).length := zb1r (v := v) (k := k) (f := f) hj
  have w1 : wrp .i64 (((16 * j : Nat) : Int) + 16) = ((16 * (j + 1) : Nat) : Int) := by rw [zbuo (by omega) (by omega)]; omega
  have ih' := ih (j + 1) (by omega)
  have hwA : ∀ X, X = (l.drop (16 * j)).take 16 → wrp .i64 (((BB ((segW v k f l).take (j + 1))).length : Int) + ((encF (dataB v X)).length : Int)) = ((BB ((segW v k f l).take (j + 1 + 1))).length : Int) := fun X hX => by
   rw [hsucc, hX, zbuo (by omega) (by omega)]; omega
  refine Ev.succ (Ev.pos (by omega) (Ev.ite (fun h1 => ?_) fun h1 => ?_)) (fun q => rfl)
  ·rw [w1] at h1
   have e1 : List.drop ((16 * j : Nat) : Int).toNat (List.take l.length l) = (l.drop (16 * j)).take 16 := by
    rw [List.take_length, Int.toNat_natCast, List.take_of_length_le (by rw [List.length_drop]; omega)]
   obtain ⟨zz, hB⟩ := body j _ hj e1
   rw [show min (16 * (j + 1)) l.length = l.length by omega] at ih'
   refine Ev.pos (by omega) (Ev.pos (by omega) (Ev.bind hB (Ev.pos rfl (Ev.neg (by rw [hwA _ e1]; omega) ?_))))
   rw [hwA _ e1, w1]
   exact ih'
  ·rw [w1] at h1 ⊢
   have e1 : List.drop ((16 * j : Nat) : Int).toNat (List.take ((16 * (j + 1) : Nat) : Int).toNat l) = (l.drop (16 * j)).take 16 := by
    rw [Int.toNat_natCast, Int.toNat_natCast, List.drop_take]; congr 1; omega
   obtain ⟨zz, hB⟩ := body j _ hj e1
   rw [show min (16 * (j + 1)) l.length = 16 * (j + 1) by omega] at ih'
   refine Ev.pos (by omega) (Ev.pos (by omega) (Ev.pos (by omega) (Ev.bind hB (Ev.pos rfl (Ev.neg (by rw [hwA _ e1]; omega) ?_)))))
   rw [hwA _ e1]
   exact ih'
theorem zb1t : ∀ (a0 : Int) (a1 : zjt) (a2 : Int), inR .i64 a0 → zjt.ok a1 → inR .i64 a2 → ∃ q, zmz q a0 a1 a2 = some true := by
 intro v s n hv hs hn
 refine Ev.get (Ev.succ (Ev.bind zbzi (Ev.pos rfl (Ev.ite (fun h => Ev.ret _) fun h => Ev.ite (fun h1 => Ev.ret _) fun h1 => ?_))) (fun q => rfl))
 obtain ⟨cut, rfl⟩ : ∃ b : Nat, n = (b : Int) := ⟨n.toNat, by omega⟩
 have hE := zbzg v s (by omega)
 by_cases hver : v < 1 ∨ 3 < v
 ·rw [if_pos hver] at hE
  exact Ev.bind hE (Ev.neg (by simp only; omega) (Ev.ret _))
 rw [if_neg hver] at hE
 by_cases ho : segOk s.Kind s.First s.Records.l
 ·rw [if_pos ho] at hE
  obtain ⟨hf, hl, hc⟩ := zb1f ho
  have hlen := zb1b (v := v) (k := s.Kind) (f := s.First) hf
  refine Ev.bind hE (Ev.pos rfl (Ev.ite (fun h2 => Ev.ret _) fun h2 => ?_))
  simp only at h2
  have hcut : cut < (segE v s.Kind s.First s.Records.l).length := by omega
  have hbt := zbwy (zb1c (v := v) (k := s.Kind) (f := s.First) hf (by omega)) cut
  have htl : ((segE v s.Kind s.First s.Records.l).take cut).length ≤ 90000 := by rw [List.length_take]; omega
  obtain ⟨sz1, hD⟩ := zb0j ⟨false, (segE v s.Kind s.First s.Records.l).take cut⟩ (fun h => by cases h) hbt htl
  obtain ⟨sz2, hR⟩ := zb0p ⟨false, (segE v s.Kind s.First s.Records.l).take cut⟩ (fun h => by cases h) hbt htl
  obtain ⟨z0, eH⟩ := zbyy v s.Kind s.First
  rw [if_neg hver, if_neg ho.1] at eH
  have hne := zb1o (v := v) (by omega) (by omega) ho (by omega) hcut
  refine Ev.pos (by omega) (Ev.pos (by simp only [Int.toNat_natCast]; omega) (Ev.neg (show ¬ (false = true) by decide) ?_))
  simp only [Int.toNat_natCast]
  refine Ev.bind hD (Ev.bind hR (Ev.bind eH (Ev.neg hne ?_)))
  rcases zb1p (v := v) (by omega) (by omega) ho hcut with ⟨q1, q2⟩ | ⟨i, q1, q2, q3, q4⟩
  ·simp only [q2]
   refine Ev.pos (by rw [decide_eq_false (by omega)]; rfl) (Ev.neg (show ¬ (false = true) by decide) (Ev.pos (by trivial) (Ev.ret' (by simp))))
  ·have hge : (encF (headD v s.Kind s.First)).length ≤ cut := by
    have := zb1n (segW v s.Kind s.First s.Records.l) (show 1 ≤ i + 1 by omega)
    have h1 : (BB ((segW v s.Kind s.First s.Records.l).take 1)).length = (encF (headD v s.Kind s.First)).length := by simp [segW, BB]
    omega
   simp only [q4]
   have main := zb1s (v := v) (by omega) (by omega) ho (by omega) hs.2.2.2.2 q1 q2 q3 (by omega) s.Records.z sz2 i 0 (by omega)
   have h1 : (BB ((segW v s.Kind s.First s.Records.l).take (0 + 1))).length = (encF (headD v s.Kind s.First)).length := by simp [segW, BB]
   rw [h1] at main
   simp only [Nat.mul_zero, Nat.zero_min] at main
   refine Ev.pos (by rw [decide_eq_true (by omega)]; rfl) (Ev.pos (by trivial) main)
 ·rw [if_neg ho] at hE
  exact Ev.bind hE (Ev.neg (by simp only; omega) (Ev.ret _))
end Go.Dvm.I
