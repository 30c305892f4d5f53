/- Plain laws of the functions. -/
import Derived.Test.YtnmceljcgioomaaQpPuN
set_option linter.all false
set_option maxRecDepth 100000
namespace Go.Dvm.I
open Go Go.Dvm

theorem Concat_l0_pos (z0 z9 : Bool) (L : List (Sl Int)) (hL : L.length ≤ 1099511627776) (hf : (flat L).length ≤ 4294967296) (hpos : 0 < (flat L).length) : ∀ (k i : Nat) (m : Nat), L.length = i + k → m + (flat (L.drop i)).length = (flat L).length →
    Ev (fun q => slices_Concat_byte_byte_l0 q z0 L (m : Int) z9 L (L.length : Int) (i : Int)) ⟨false, true, flat L⟩
  | 0, i, m, hk, hm => by
    rw [List.drop_of_length_le (by omega)] at hm
    have hm2 : m = (flat L).length := by simpa [flat] using hm
    have w : wrp .i64 ((m : Int) - wrp .i64 0) = (m : Int) := by rw [wrp_i64 (x := 0) (by omega) (by omega), wrp_i64 (by omega) (by omega)]; omega
    refine Ev.succ (Ev.neg (by omega) (Ev.neg (by omega) (Ev.pos (by rw [w]; omega) (Ev.pos (by rw [w]; omega) (Ev.pos (by rw [w]; omega) (Ev.neg (by rw [w]; omega) ?_)))))) (fun q => rfl)
    rw [w]
    have := Concat_l1_ev z0 L (decide ((m : Int) = 0)) hL L.length 0 0 (List.replicate (m : Int).toNat 0) (by omega) (by simp; omega)
    rw [List.drop_zero] at this
    refine this.cast ?_
    have : ¬ (m : Int) = 0 := by omega
    simp; omega
  | k + 1, i, m, hk, hm => by
    have hi : i < L.length := by omega
    have hg : L[(i : Int).toNat]? = some L[i] := by simpa using List.getElem?_eq_getElem hi
    rw [List.drop_eq_getElem_cons hi, flat_cons, List.length_append] at hm
    have h := Concat_l0_pos z0 z9 L hL hf hpos k (i + 1) (m + L[i].l.length) (by omega) (by omega)
    refine Ev.succ (Ev.pos (by omega) (Ev.pos (by omega) (Ev.opt hg ?_))) (fun q => rfl)
    have w : wrp .i64 ((m : Int) + (L[i].l.length : Int)) = ((m + L[i].l.length : Nat) : Int) := by rw [wrp_i64 (by omega) (by omega)]; omega
    rw [w, wrp_i64 (by omega) (by omega), show ((i : Int) + 1) = ((i + 1 : Nat) : Int) by omega]
    exact Ev.neg (by omega) h
theorem Concat_pos_ev (s : Sl (Sl Int)) (hL : s.l.length ≤ 1099511627776) (hf : (flat s.l).length ≤ 4294967296) (hpos : 0 < (flat s.l).length) : Ev (fun q => slices_Concat_byte_byte q s) ⟨false, true, flat s.l⟩ :=
  Ev.succ (Concat_l0_pos s.z s.z s.l hL hf hpos s.l.length 0 0 (by omega) (by simp)) (fun q => rfl)
theorem frame_Encode_pos (s : Sl Int) (hb : isB s.l) (hl : s.l.length ≤ 1048576) : Ev (fun q => frame_Encode q s) (⟨false, true, encF s.l⟩, 0) := by
  have hp := put_len (s.l.length : Int)
  have h := Concat_pos_ev ⟨false, [⟨false, put (s.l.length : Int)⟩, s, ⟨false, fix4 (bsum (put (s.l.length : Int) ++ s.l)).toNat⟩]⟩ (by simp) (by simp [flat, fix4]; omega) (by simp [flat, fix4]; omega)
  refine Ev.succ (Ev.neg (by omega) ?_) (fun q => rfl)
  refine Ev.bind (num_Put_ev ⟨true, true, []⟩ (by omega) (by omega) (by simp)) ?_
  refine Ev.bind (frame_sum_ev ⟨false, put (s.l.length : Int)⟩ s (put_isB (s.l.length : Int)) hb (by simp only; omega) (by omega)) ?_
  refine Ev.bind h ?_
  exact Ev.ret' (by simp [encF, flat])

theorem flip8 {c : Int} {m : Nat} (h1 : 0 ≤ c) (h2 : c < 256) (hm : m < 8) : ibits .xor .u8 c (ishl .u8 1 (m : Int)) = ((c.toNat ^^^ 2 ^ m : Nat) : Int) := by
  obtain ⟨n, rfl⟩ := Int.eq_ofNat_of_zero_le h1
  have hn : n < 256 := by omega
  have : ∀ (a : Fin 256) (b : Fin 8), ibits .xor .u8 (a.val : Int) (ishl .u8 1 (b.val : Int)) = ((a.val ^^^ 2 ^ b.val : Nat) : Int) := by unfold ibits ishl; decide +kernel
  exact this ⟨n, hn⟩ ⟨m, hm⟩
theorem shl_xor (a i E : Nat) : (2 ^ a * E) ^^^ 2 ^ (a + i) = 2 ^ a * (E ^^^ 2 ^ i) := by
  have := Nat.shiftLeft_xor_distrib (a := E) (b := 2 ^ i) (i := a)
  simp only [Nat.shiftLeft_eq] at this
  rw [Nat.mul_comm (2 ^ a) (E ^^^ 2 ^ i), this, Nat.mul_comm E, ← Nat.pow_add, Nat.add_comm i a]
/-- Turned bits within 32 are seen. -/
theorem burst_seen {d h : List Int} {a E : Nat} (hd : isB d) (hh : isB h) (hl : h.length = (encF d).length) (ha : a ≤ 8 * (encF d).length) (hE : E < 4294967296) (h0 : E ≠ 0) (hn : numB h = numB (encF d) ^^^ (2 ^ a * E)) {x : List Int} (hx : isB x) (he : encF x = h) : False := by
  have k1 := frame_sum_const hd
  have k2 := frame_sum_const hx
  rw [he, hl, hn, ← Nat.xor_assoc, tI_xor, k1] at k2
  have k3 : tI (8 * (encF d).length) (2 ^ a * E) = 0 := by
    have := congrArg (goodSum ^^^ ·) k2
    simp only [← Nat.xor_assoc, Nat.xor_self, Nat.zero_xor] at this
    exact this
  obtain ⟨r, hr⟩ : ∃ r, 8 * (encF d).length = a + r := ⟨8 * (encF d).length - a, by omega⟩
  rw [hr, tI_add, tI_shift] at k3
  exact tI_ne hE h0 k3
theorem Bursts_l0_ev {d : List Int} (hd : isB d) (hdl : d.length ≤ 1000) {a : Nat} (ha : a < 8 * (encF d).length) (bits : Int) : ∀ (k i : Nat) (t : Bool) (h : List Int) (E : Nat), 32 = i + k → isB h → h.length = (encF d).length → numB h = numB (encF d) ^^^ (2 ^ a * E) → E < 2 ^ i → (t = true → E ≠ 0) →
    Ev (fun q => ferrymanlaw03_FrameBursts_l0 q (a : Int) bits true 0 t (i : Int) false h true) true
  | 0, i, t, h, E, hk, hh, hl, hn, hE, ht => by
    have hp := put_len (d.length : Int)
    have hlen : (encF d).length ≤ 1014 := by simp [encF, fix4]; omega
    obtain ⟨z, hdec⟩ := frame_Decode_ev ⟨false, h⟩ (by simp) hh (by simp only; omega)
    have hxB := decF_isB hh
    generalize hr : decF h = r at hdec hxB
    obtain ⟨x, n, e⟩ := r
    refine Ev.succ (Ev.neg (by omega) (Ev.bind hdec (Ev.pos rfl (Ev.pos rfl (Ev.ite (fun htt => Ev.ite (fun he => Ev.ret' ?_) fun he => Ev.ret _) fun _ => Ev.ret _))))) (fun q => rfl)
    simp only at he; subst he
    rw [Bool.not_eq_true', decide_eq_false_iff_not]
    simp only
    intro hnl
    obtain ⟨k1, k2, k3, k4, k5⟩ := decF_ok hh hr
    have hfull : encF x = h := by rw [k5, List.take_of_length_le (by omega)]
    have : i = 32 := by omega
    subst this
    exact burst_seen hd hh hl (by omega) hE (ht htt) hn hxB hfull
  | k + 1, i, t, h, E, hk, hh, hl, hn, hE, ht => by
    have hp := put_len (d.length : Int)
    have hlen : (encF d).length ≤ 1014 := by simp [encF, fix4]; omega
    have wi : wrp .i64 ((i : Int) + 1) = ((i + 1 : Nat) : Int) := by rw [wrp_i64 (by omega) (by omega)]; omega
    have wu : wrp .u64 (i : Int) = (i : Int) := wrp_u64 (by omega) (by omega)
    have wai : wrp .i64 ((a : Int) + (i : Int)) = ((a + i : Nat) : Int) := by rw [wrp_i64 (by omega) (by omega)]; omega
    have w8 : wrp .i64 (8 * (h.length : Int)) = ((8 * h.length : Nat) : Int) := by rw [wrp_i64 (by omega) (by omega)]; omega
    have hdv : Int.tdiv ((a + i : Nat) : Int) 8 = (((a + i) / 8 : Nat) : Int) := by rw [Int.tdiv_eq_ediv_of_nonneg (by omega)]; omega
    have hmd : Int.tmod ((a + i : Nat) : Int) 8 = (((a + i) % 8 : Nat) : Int) := by rw [Int.tmod_eq_emod_of_nonneg (by omega)]; omega
    have wd : wrp .i64 (((a + i) / 8 : Nat) : Int) = (((a + i) / 8 : Nat) : Int) := wrp_i64 (by omega) (by omega)
    have wm : wrp .u64 (((a + i) % 8 : Nat) : Int) = (((a + i) % 8 : Nat) : Int) := wrp_u64 (by omega) (by omega)
    have hp2 : 2 ^ (i + 1) = 2 * 2 ^ i := by rw [Nat.pow_succ]; omega
    have go := fun hE' => Bursts_l0_ev hd hdl ha bits k (i + 1) t h E (by omega) hh hl hn hE' ht
    refine Ev.succ (Ev.pos (by omega) (Ev.neg (by rw [wu]; omega) (Ev.ite (fun hb => ?_) fun hb => ?_))) (fun q => rfl)
    · simp only [wai, w8, hdv, hmd, wd, wm, wi]
      refine Ev.ite (fun hlt => ?_) fun hlt => go (by omega)
      have hj : (a + i) / 8 < h.length := by omega
      have hg : h[((((a + i) / 8 : Nat) : Int)).toNat]? = some h[(a + i) / 8] := by rw [Int.toNat_natCast]; exact List.getElem?_eq_getElem hj
      obtain ⟨b1, b2⟩ := hh _ (List.getElem_mem hj)
      refine Ev.pos (by omega) (Ev.pos (by omega) (Ev.opt hg (Ev.neg (by omega) (Ev.pos trivial ?_))))
      rw [flip8 b1 b2 (by omega), Int.toNat_natCast]
      have hset := numB_set hh (List.getElem?_eq_getElem hj) ((a + i) % 8) (by omega)
      have hxE : E ^^^ 2 ^ i = 2 ^ i + E := by
        have := xor_add (k := i) (c := E) (n := 1) hE
        rw [Nat.mul_one] at this
        rw [Nat.xor_comm]; exact this
      refine Bursts_l0_ev hd hdl ha bits k (i + 1) true _ (E ^^^ 2 ^ i) (by omega) ?_ (by simpa using hl) ?_ (by rw [hxE]; omega) (fun _ => by rw [hxE]; have := Nat.two_pow_pos i; omega)
      · intro c hc
        rcases List.mem_or_eq_of_mem_set hc with h1 | h1
        · exact hh c h1
        · rw [h1]
          have : h[(a + i) / 8].toNat ^^^ 2 ^ ((a + i) % 8) < 2 ^ 8 := Nat.xor_lt_two_pow (by omega) (Nat.pow_lt_pow_right (by omega) (by omega))
          omega
      · rw [hset, hn, show 8 * ((a + i) / 8) + (a + i) % 8 = a + i by omega, Nat.xor_assoc, shl_xor]
    · rw [wi]; exact go (by omega)
theorem ferrymanlaw03_FrameBursts_true : ∀ (a0 : (Sl Int)) (a1 : Int) (a2 : Int), okSl (fun x => inR .u8 x) a0 → inR .i64 a1 → inR .u32 a2 → ∃ q, ferrymanlaw03_FrameBursts q a0 a1 a2 = some true := by
  intro s a bits hs _ _
  refine Ev.get (f := fun q => ferrymanlaw03_FrameBursts q s a bits) ?_
  refine Ev.succ (Ev.bind awake03_ev (Ev.ite (fun h1 => Ev.ret _) fun h1 => ?_)) (fun q => rfl)
  have hp := put_len (s.l.length : Int)
  have hlen : (encF s.l).length ≤ 1014 := by simp [encF, fix4]; omega
  have w8 : wrp .i64 (8 * ((encF s.l).length : Int)) = ((8 * (encF s.l).length : Nat) : Int) := by rw [wrp_i64 (by omega) (by omega)]; omega
  refine Ev.bind (frame_Encode_pos s (isB_of hs) (by omega)) (Ev.ite (fun h2 => Ev.ret _) fun h2 => ?_)
  simp only [w8]
  refine Ev.ite (fun h3 => Ev.ret _) fun h3 => Ev.ite (fun h4 => Ev.ret _) fun h4 => ?_
  obtain ⟨n, rfl⟩ := Int.eq_ofNat_of_zero_le (show 0 ≤ a by omega)
  have hbF : isB (encF s.l) := by
    unfold encF
    exact isB_app.2 ⟨put_isB _, isB_app.2 ⟨isB_of hs, fix4_isB _⟩⟩
  exact Bursts_l0_ev (isB_of hs) (by omega) (by omega) bits 32 0 false (encF s.l) 0 (by omega) hbF rfl (by simp) (by simp) (fun h => by cases h)
end Go.Dvm.I
