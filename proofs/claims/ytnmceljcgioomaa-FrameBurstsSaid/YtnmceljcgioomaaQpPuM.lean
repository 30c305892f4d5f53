/- Plain laws of the functions. -/
import Derived.Test.YtnmceljcgioomaaQpPuL
set_option linter.all false
set_option maxRecDepth 100000
namespace Go.Dvm.I
open Go Go.Dvm

theorem grp_take : ∀ {n m : Nat} {c : Int}, m < (grp n).length → c ∈ (grp n).take m → 128 ≤ c := by
  intro n
  induction n using Nat.strongRecOn with
  | ind n ih =>
    intro m c hm hc
    by_cases h : n < 128
    · rw [grp_lt h] at hm hc
      have : m = 0 := by simp at hm; omega
      subst this; simp at hc
    · rw [grp_ge h] at hm hc
      cases m with
      | zero => simp at hc
      | succ m =>
        rw [List.take_succ_cons] at hc
        rcases List.mem_cons.1 hc with rfl | hc
        · omega
        · exact ih (n / 128) (by omega) (by simpa using hm) hc
/-- A frame that is cut off. -/
theorem decF_cut {d : List Int} {m : Nat} (hd : d.length ≤ 1048576) (h0 : 0 < m) (hm : m < (encF d).length) : decF ((encF d).take m) = ([], 0, 2) := by
  have hp : put (d.length : Int) = grp d.length := by rw [put_ok (by omega) (by omega)]; rfl
  have hp10 := put_len (d.length : Int)
  have hg3 : (grp d.length).length ≤ 3 := grp_len 2 (by omega)
  by_cases h : m < (put (d.length : Int)).length
  · have e : (encF d).take m = (put (d.length : Int)).take m := by
      unfold encF; rw [List.take_append_of_le_length (by omega)]
    unfold decF
    rw [e, if_pos]
    unfold openB
    rw [decide_eq_true_eq]
    refine ⟨by simp; omega, fun c hc => ?_⟩
    rw [hp] at hc h
    exact grp_take h hc
  · have e : (encF d).take m = put (d.length : Int) ++ (d ++ fix4 (bsum (put (d.length : Int) ++ d)).toNat).take (m - (put (d.length : Int)).length) := by
      unfold encF; rw [List.take_append, List.take_of_length_le (by omega)]
    have hlen : ((encF d).take m).length = m := by rw [List.length_take]; omega
    unfold decF
    rw [e] at hlen ⊢
    rw [openB_put (by omega) (by omega), getN_put (by omega) (by omega), hlen]
    have hpp : 1 ≤ (put (d.length : Int)).length := by rw [hp]; exact grp_pos _
    have he : (encF d).length = (put (d.length : Int)).length + d.length + 4 := by simp [encF, fix4]; omega
    rw [if_neg (by simp), if_neg (by simp only; omega), if_neg (by simp only; omega), if_pos (by simp only; omega)]
def BB (D : List (List Int)) : List Int := D.flatMap encF
theorem BB_cons (d : List Int) (D : List (List Int)) : BB (d :: D) = encF d ++ BB D := by simp [BB]
theorem encF_pos {d : List Int} (h : d.length ≤ 1048576) : 5 ≤ (encF d).length := by
  have : 1 ≤ (put (d.length : Int)).length := by rw [put_ok (by omega) (by omega)]; exact grp_pos _
  simp [encF, fix4]; omega
theorem walk_cut : ∀ (D : List (List Int)) (i cut f : Nat), (∀ d ∈ D, d.length ≤ 1048576) → i ≤ D.length → (BB (D.take i)).length ≤ cut → cut ≤ (BB D).length → (i < D.length → cut < (BB (D.take (i + 1))).length) → ((BB D).take cut).length < f →
    walkF f ((BB D).take cut) = (D.take i, (BB (D.take i)).length, if (BB (D.take i)).length = cut then 0 else 2)
  | [], i, cut, f, hD, hi, h1, h2, h3, hf => by
    have : i = 0 := by simpa using hi
    subst this
    have hc : cut = 0 := by simpa [BB] using h2
    subst hc
    obtain ⟨f, rfl⟩ : ∃ g, f = g + 1 := ⟨f - 1, by omega⟩
    simp [walkF, BB]
  | d :: D, i, cut, f, hD, hi, h1, h2, h3, hf => by
    obtain ⟨f, rfl⟩ : ∃ g, f = g + 1 := ⟨f - 1, by omega⟩
    have hd := hD d List.mem_cons_self
    have h5 := encF_pos hd
    cases i with
    | zero =>
      have hlt := h3 (by simp)
      simp only [List.take_succ_cons, List.take_zero, BB_cons] at hlt
      have hlt' : cut < (encF d).length := by simpa [BB] using hlt
      have e : (BB (d :: D)).take cut = (encF d).take cut := by rw [BB_cons, List.take_append_of_le_length (by omega)]
      rw [e] at hf ⊢
      by_cases h0 : cut = 0
      · subst h0; simp [walkF, BB]
      · simp only [walkF]
        rw [if_neg (by intro e; have := congrArg List.length e; rw [List.length_take] at this; simp only [List.length_nil] at this; omega), decF_cut hd (by omega) hlt']
        simp [BB]; omega
    | succ i =>
      simp only [List.take_succ_cons, BB_cons, List.length_append, List.length_cons] at h1 h2 h3 hi ⊢
      have e : (encF d ++ BB D).take cut = encF d ++ (BB D).take (cut - (encF d).length) := by
        rw [List.take_append, List.take_of_length_le (by omega)]
      rw [BB_cons, e] at hf
      rw [List.length_append] at hf
      rw [e]
      have ih := walk_cut D i (cut - (encF d).length) f (fun x hx => hD x (List.mem_cons_of_mem _ hx)) (by omega) (by omega) (by omega) (fun h => by have := h3 (by omega); omega) (by omega)
      simp only [walkF]
      have hne : encF d ++ (BB D).take (cut - (encF d).length) ≠ [] := by intro e; have := congrArg List.length e; rw [List.length_append] at this; simp only [List.length_nil] at this; omega
      rw [if_neg hne, decF_encF hd]
      simp only [if_true, Int.toNat_natCast, List.drop_left]
      rw [ih]
      simp only [Prod.mk.injEq, true_and]
      split <;> split <;> first | rfl | omega

theorem BB_app (a b : List (List Int)) : BB (a ++ b) = BB a ++ BB b := by simp [BB]
theorem BB_isB {D : List (List Int)} (h : ∀ d ∈ D, isB d) : isB (BB D) := by
  intro c hc
  obtain ⟨d, hd, hc⟩ := List.mem_flatMap.1 hc
  unfold encF at hc
  rcases List.mem_append.1 hc with h1 | h1
  · exact put_isB _ c h1
  · rcases List.mem_append.1 h1 with h2 | h2
    · exact h d hd c h2
    · simp [fix4] at h2; omega

/-- The end: what is told of the bytes that are left. -/
theorem cut_exit {D : List (List Int)} {L : List (Sl Int)} (hLD : L.map (·.l) = D) (hD : ∀ d ∈ D, d.length ≤ 1048576) (hB : ∀ d ∈ D, isB d) (hn : D.length ≤ 30) {i cut : Nat} (hi : i ≤ D.length) (h1 : (BB (D.take i)).length ≤ cut) (h2 : cut ≤ (BB D).length) (h3 : i < D.length → cut < (BB (D.take (i + 1))).length) (hc : cut ≤ 4294967296)
    (z z0 : Bool) {X : List Int} (hX : X = (BB D).take cut) (hz : z = true → X = []) :
    Ev (fun q => (frame_Whole q ⟨z, X⟩).bind fun r5 => ((frame_All q ⟨z, X⟩).bind fun r6 => (if (i : Int).toNat ≤ L.length then ((ferrymanref03_Same q ⟨r5.1.n, r5.1.xs⟩ ⟨z0, (List.take (i : Int).toNat L)⟩).bind fun r7 => (if (((BB (D.take i)).length : Nat) : Int) = (cut : Int) then ((ferrymanref03_Same q ⟨r6.1.n, r6.1.xs⟩ ⟨z0, (List.take (i : Int).toNat L)⟩).bind fun r8 => (if true = true then (if r7 = true then (if r5.2 = (((BB (D.take i)).length : Nat) : Int) then (if r6.2 = 0 then (some r8) else (some false)) else (some false)) else (some false)) else (some false))) else (if true = true then (if r7 = true then (if r5.2 = (((BB (D.take i)).length : Nat) : Int) then (if r6.2 = 2 then (some (decide ((r6.1.xs.length : Int) = 0))) else (some false)) else (some false)) else (some false)) else (some false)))) else none))) true := by
  have hall : allF X = (D.take i, (BB (D.take i)).length, if (BB (D.take i)).length = cut then 0 else 2) := by
    unfold allF; rw [hX]; exact walk_cut D i cut _ hD hi h1 h2 h3 (by omega)
  have hXb : isB X := by rw [hX]; exact isB_take (BB_isB hB) _
  have hXl : X.length ≤ 4294967296 := by rw [hX, List.length_take]; omega
  obtain ⟨z5, X5, e5, m5⟩ := frame_Whole_ev ⟨z, X⟩ hz hXb hXl
  obtain ⟨z6, X6, e6, m6⟩ := frame_All_ev ⟨z, X⟩ hz hXb hXl
  have hLl : L.length = D.length := by rw [← hLD]; simp
  have htk : (List.take (i : Int).toNat L).map (·.l) = D.take i := by rw [List.map_take, hLD, Int.toNat_natCast]
  simp only [hall] at e5 m5
  have hi30 : (D.take i).length ≤ 30 := by simp; omega
  have l5 : X5.length ≤ 30 := by have := congrArg List.length m5; rw [List.length_map] at this; omega
  have s5 := Same_ev ⟨z5, X5⟩ ⟨z0, List.take (i : Int).toNat L⟩ (by simp only; omega)
  simp only [m5, htk, decide_true] at s5
  unfold allE at e6 m6
  simp only [hall] at e6 m6
  refine Ev.bind e5 (Ev.bind e6 (Ev.pos (by simp; omega) (Ev.bind s5 ?_)))
  by_cases he : (BB (D.take i)).length = cut
  · rw [if_pos he, if_pos rfl] at e6 m6
    have l6 : X6.length ≤ 30 := by have := congrArg List.length m6; rw [List.length_map] at this; simp only at this; omega
    have s6 := Same_ev ⟨z6, X6⟩ ⟨z0, List.take (i : Int).toNat L⟩ (by simp only; omega)
    simp only [m6, htk, decide_true] at s6
    exact Ev.pos (by omega) (Ev.bind s6 (Ev.pos rfl (Ev.pos rfl (Ev.pos rfl (Ev.pos (by simp [he]) (Ev.ret _))))))
  · rw [if_neg he, if_neg (by decide)] at e6 m6
    have l6 : X6 = [] := by simpa using m6
    subst l6
    exact Ev.neg (by omega) (Ev.pos rfl (Ev.pos rfl (Ev.pos rfl (Ev.pos (by simp [he]) (Ev.ret' (by simp))))))

theorem ends_get {D : List (List Int)} {E : List Int} (hE : E = (List.range D.length).map fun j => (((BB (D.take (j + 1))).length : Nat) : Int)) {i : Nat} (hi : i < D.length) : E[i]? = some ((((BB (D.take (i + 1))).length : Nat) : Int)) := by
  rw [hE, List.getElem?_map, List.getElem?_range hi]; rfl
theorem Cuts_l1_ev {D : List (List Int)} {L : List (Sl Int)} {E : List Int} (hLD : L.map (·.l) = D) (hD : ∀ d ∈ D, d.length ≤ 1048576) (hB : ∀ d ∈ D, isB d) (hn : D.length ≤ 30) (hE : E = (List.range D.length).map fun j => (((BB (D.take (j + 1))).length : Nat) : Int)) {cut : Nat} (h2 : cut ≤ (BB D).length) (hc : cut ≤ 4294967296) (z0 z z1 : Bool) (hz : z = true → BB D = []) :
    ∀ (k i : Nat), D.length = i + k → (BB (D.take i)).length ≤ cut → Ev (fun q => ferrymanlaw03_FrameCuts_l1 q z0 L (cut : Int) true (i : Int) (((BB (D.take i)).length : Nat) : Int) z (BB D) z1 E) true
  | k, i, hk, h1 => by
    have hLl : L.length = D.length := by rw [← hLD]; simp
    have hEl : E.length = D.length := by rw [hE]; simp
    by_cases hi : i < D.length
    · have hg : E[(i : Int).toNat]? = some ((((BB (D.take (i + 1))).length : Nat) : Int)) := by rw [Int.toNat_natCast]; exact ends_get hE hi
      refine Ev.succ (Ev.pos (by omega) (Ev.pos (by omega) (Ev.pos (by omega) (Ev.opt hg (Ev.ite (fun hle => ?_) fun hle => ?_))))) (fun q => rfl)
      · rw [wrp_i64 (by omega) (by omega), show ((i : Int) + 1) = ((i + 1 : Nat) : Int) by omega]
        match k, hk with
        | k + 1, hk => exact Cuts_l1_ev hLD hD hB hn hE h2 hc z0 z z1 hz k (i + 1) (by omega) (by omega)
        | 0, hk => omega
      · refine Ev.pos (by omega) (Ev.pos (by omega) (Ev.ite (fun hzt => ?_) fun hzt => ?_))
        · exact cut_exit hLD hD hB hn (by omega) h1 h2 (fun _ => by omega) hc z z0 (by rw [hz hzt]; simp) (fun _ => hz hzt)
        · exact cut_exit hLD hD hB hn (by omega) h1 h2 (fun _ => by omega) hc z z0 (by rw [Int.toNat_natCast]) (fun h => absurd h hzt)
    · have hi' : i = D.length := by omega
      refine Ev.succ (Ev.neg (by omega) (Ev.pos (by omega) (Ev.pos (by omega) (Ev.ite (fun hzt => ?_) fun hzt => ?_)))) (fun q => rfl)
      · have := cut_exit hLD hD hB hn (i := i) (by omega) h1 h2 (fun h => by omega) hc z z0 (X := BB D) (by rw [hz hzt]; simp) (fun _ => hz hzt)
        obtain ⟨N, h⟩ := this
        refine ⟨N, fun q hq => ?_⟩
        have hh := h q hq
        have e0 : (0 : Int) ≤ (i : Int) := by omega
        simp only [if_pos e0]
        exact hh
      · have := cut_exit hLD hD hB hn (i := i) (by omega) h1 h2 (fun h => by omega) hc z z0 (X := (BB D).take (cut : Int).toNat) (by rw [Int.toNat_natCast]) (fun h => absurd h hzt)
        obtain ⟨N, h⟩ := this
        refine ⟨N, fun q hq => ?_⟩
        have hh := h q hq
        have e0 : (0 : Int) ≤ (i : Int) := by omega
        simp only [if_pos e0]
        exact hh
theorem Cuts_l0_ev {D : List (List Int)} {L : List (Sl Int)} (hLD : L.map (·.l) = D) (hB : ∀ d ∈ D, isB d) (hn : D.length ≤ 30) {cut : Nat} (z0 : Bool) :
    ∀ (k i : Nat) (z z1 : Bool) (E : List Int), D.length = i + k → (∀ d ∈ D.take i, d.length ≤ 300) → (z = true → BB (D.take i) = []) → E = (List.range i).map (fun j => (((BB (D.take (j + 1))).length : Nat) : Int)) → (BB (D.take i)).length ≤ 400 * i →
    Ev (fun q => ferrymanlaw03_FrameCuts_l0 q z0 L (cut : Int) true (i : Int) z (BB (D.take i)) z1 E) true
  | k, i, z, z1, E, hk, h300, hz, hE, hlen => by
    have hLl : L.length = D.length := by rw [← hLD]; simp
    by_cases hi : i < D.length
    · have hg : L[(i : Int).toNat]? = some L[i] := by simpa using List.getElem?_eq_getElem (by omega : i < L.length)
      have hgd : D[i] = L[i].l := by simp [← hLD]
      refine Ev.succ (Ev.pos (by omega) (Ev.pos (by omega) (Ev.opt hg (Ev.ite (fun h => Ev.ret _) fun h => ?_)))) (fun q => rfl)
      obtain ⟨zf, hf⟩ := frame_Encode_ev L[i] (by rw [← hgd]; exact hB _ (List.getElem_mem hi)) (by omega)
      have hp := put_len (L[i].l.length : Int)
      have hfl : (encF L[i].l).length ≤ 400 := by simp [encF, fix4]; omega
      have htk : D.take (i + 1) = D.take i ++ [D[i]] := List.take_succ_eq_append_getElem hi
      have hBB : BB (D.take (i + 1)) = BB (D.take i) ++ encF L[i].l := by rw [htk, BB_app, hgd]; simp [BB]
      have hEl : E.length = i := by rw [hE]; simp
      refine Ev.bind hf (Ev.pos rfl (Ev.pos (by simp only; omega) (Ev.pos (by omega) ?_)))
      rw [wrp_i64 (by omega) (by omega), show ((i : Int) + 1) = ((i + 1 : Nat) : Int) by omega]
      match k, hk with
      | 0, hk => omega
      | k + 1, hk =>
        have ih := Cuts_l0_ev hLD hB hn (cut := cut) z0 k (i + 1) (z && (decide ((encF L[i].l).length = 0))) false (E ++ [((((BB (D.take i)).length + (encF L[i].l).length : Nat)) : Int)]) (by omega) (fun d hd => by
            rw [htk] at hd
            rcases List.mem_append.1 hd with h1 | h1
            · exact h300 d h1
            · have : d = D[i] := by simpa using h1
              rw [this, hgd]; omega) (fun hzz => by
            simp only [Bool.and_eq_true, decide_eq_true_eq] at hzz
            rw [hBB, hz hzz.1, List.eq_nil_of_length_eq_zero hzz.2]; rfl) (by
            rw [List.range_succ, List.map_append, ← hE, List.map_cons, List.map_nil, hBB, List.length_append]) (by rw [hBB, List.length_append]; omega)
        rw [hBB] at ih
        exact ih
    · have hi' : i = D.length := by omega
      subst hi'
      rw [List.take_length] at h300 hz hlen ⊢
      refine Ev.succ (Ev.neg (by omega) (Ev.ite (fun h => Ev.ret _) fun h => ?_)) (fun q => rfl)
      have := Cuts_l1_ev hLD (fun d hd => by have := h300 d hd; omega) hB hn hE (cut := cut) (by omega) (by omega) z0 z z1 hz D.length 0 (by omega) (by simp [BB])
      simpa [BB] using this
theorem ferrymanlaw03_FrameCuts_true : ∀ (a0 : (Sl (Sl Int))) (a1 : Int), okSl (fun x => okSl (fun x => inR .u8 x) x) a0 → inR .i64 a1 → ∃ q, ferrymanlaw03_FrameCuts q a0 a1 = some true := by
  intro s c hs _
  refine Ev.get (f := fun q => ferrymanlaw03_FrameCuts q s c) ?_
  refine Ev.succ (Ev.bind awake03_ev (Ev.ite (fun h1 => Ev.ret _) fun h1 => Ev.ite (fun h2 => Ev.ret _) fun h2 => ?_)) (fun q => rfl)
  obtain ⟨cut, rfl⟩ := Int.eq_ofNat_of_zero_le (show 0 ≤ c by omega)
  have := Cuts_l0_ev (D := s.l.map (·.l)) (L := s.l) rfl (fun d hd => by
    obtain ⟨x, hx, rfl⟩ := List.mem_map.1 hd
    exact isB_of (hs.2.2 x hx)) (by simp; omega) (cut := cut) s.z s.l.length 0 true true [] (by simp) (by simp) (by simp [BB]) (by simp) (by simp [BB])
  simpa [BB] using this
end Go.Dvm.I
