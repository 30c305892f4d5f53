/- Plain laws of the functions. -/
import Derived.Test.YtnmceljcgioomaaQpPuI
set_option linter.all false
set_option maxRecDepth 100000
namespace Go.Dvm.I
open Go Go.Dvm

/-! The document's answer -/
theorem tdiv_u (a : B32) (k : Nat) : Int.tdiv (u a) ((2 ^ k : Nat) : Int) = u (a >>> k) := by
  rw [Int.tdiv_eq_ediv_of_nonneg (u_nn a)]
  unfold u
  rw [BitVec.toNat_ushiftRight, Nat.shiftRight_eq_div_pow]
  exact (Int.natCast_ediv _ _).symm
theorem wrp_uu (a : B32) : wrp .u32 (u a) = u a := wrp_u32 (u_nn a) (by have := u_lt a; omega)
theorem Entry_l0_ev : ∀ (k : Nat) (a : B32) (i : Int), i = 8 - k → k ≤ 8 → Ev (fun q => ferrymanref02_Entry_l0 q (u a) i) (u (biter k a))
  | 0, a, i, h1, h2 => Ev.succ (Ev.neg (by omega) (Ev.ret _)) (fun q => rfl)
  | k + 1, a, i, h1, h2 => by
    have e1 : Int.tdiv (u a) 2 = u (a >>> 1) := tdiv_u a 1
    have e2 : Int.tmod (u a) 2 = u a % 2 := Int.tmod_eq_emod_of_nonneg (u_nn a)
    have hp : (2197175160 : Int) = u poly := by unfold poly; rw [u_lit _ (by omega)]; rfl
    have wi : wrp .i64 (i + 1) = i + 1 := wrp_i64 (by omega) (by omega)
    have ih := Entry_l0_ev k (bstep a) (i + 1) (by omega) (by omega)
    refine Ev.succ (Ev.pos (by omega) ?_) (fun q => rfl)
    simp only [biter]
    rw [e1, wrp_uu, hp, xor_u, wi, e2]
    unfold bstep at ih ⊢
    refine Ev.ite (fun h => ?_) fun h => ?_
    · rw [if_pos ((odd_iff a).2 h)] at ih ⊢; exact ih
    · rw [if_neg (fun e => h ((odd_iff a).1 e))] at ih ⊢; exact ih
theorem Entry_ev (a : B32) : Ev (fun q => ferrymanref02_Entry q (u a)) (u (bentry a)) := by
  have := Entry_l0_ev 8 a 0 (by omega) (by omega)
  refine Ev.succ (g := fun q => ferrymanref02_Entry_l0 q (wrp .u32 (u a)) 0) ?_ (fun q => rfl)
  rw [wrp_uu]; exact this
theorem ref02_More_l0_ev (z : Bool) (l : List Int) (hb : isB l) (hl : l.length ≤ 1099511627776) : ∀ (k i : Nat) (x : B32), l.length = i + k → Ev (fun q => ferrymanref02_More_l0 q z l (u x) (i : Int)) (u (~~~ bmore x (l.drop i)))
  | 0, i, x, hk => by
    refine Ev.succ (Ev.neg (by omega) (Ev.ret' ?_)) (fun q => rfl)
    rw [List.drop_of_length_le (by omega), ones, xor_u]
    simp only [bmore, List.foldl_nil, BitVec.allOnes_xor]
  | k + 1, i, x, hk => by
    have hi : i < l.length := by omega
    have hg : l[(i : Int).toNat]? = some l[i] := by simpa using List.getElem?_eq_getElem hi
    obtain ⟨b1, b2⟩ := hb l[i] (List.getElem_mem hi)
    have e8 : Int.tdiv (u x) 256 = u (x >>> 8) := tdiv_u x 8
    have wi : wrp .i64 ((i : Int) + 1) = ((i + 1 : Nat) : Int) := by rw [wrp_i64 (by omega) (by omega)]; omega
    refine Ev.succ (Ev.pos (by omega) (Ev.pos (by omega) (Ev.opt hg (Ev.bind (by rw [xor8 b1 b2]; exact Entry_ev _) ?_)))) (fun q => rfl)
    rw [e8, wrp_uu, xor_u, wi]
    have := ref02_More_l0_ev z l hb hl k (i + 1) (bentry ((x ^^^ BitVec.ofInt 32 l[i]) &&& 255#32) ^^^ (x >>> 8)) (by omega)
    rw [List.drop_eq_getElem_cons hi]
    simp only [bmore, List.foldl_cons, bbyte] at this ⊢
    exact this
theorem ref02_More_ev (x : B32) (s : Sl Int) (hb : isB s.l) (hl : s.l.length ≤ 1099511627776) : Ev (fun q => ferrymanref02_More q (u x) s) (u (~~~ bmore (~~~ x) s.l)) := by
  have := ref02_More_l0_ev s.z s.l hb hl s.l.length 0 (~~~ x) (by omega)
  rw [List.drop_zero] at this
  refine Ev.succ (g := fun q => ferrymanref02_More_l0 q s.z s.l (ibits .xor .u32 4294967295 (u x)) 0) ?_ (fun q => rfl)
  rw [ones, xor_u, BitVec.allOnes_xor]
  exact this
theorem ref02_Sum_ev (s : Sl Int) (hb : isB s.l) (hl : s.l.length ≤ 1099511627776) : Ev (fun q => ferrymanref02_Sum q s) (u (bsum s.l)) := by
  have := ref02_More_ev 0#32 s hb hl
  exact Ev.succ (Ev.bind this (Ev.ret' (by simp [bsum]))) (fun q => rfl)
theorem Fix_l0_ev (v m : Nat) (hm : m ≤ 8) (hv : v < 18446744073709551616) : ∀ (k i : Nat) (z : Bool) (l : List Int), m = i + k → 0 < k → l.length + k ≤ 4294967296 → Ev (fun q => ferrymanref01_Fix_l0 q ((v / 2 ^ (8 * i) : Nat) : Int) (m : Int) (i : Int) z l) ⟨false, true, l ++ bytesFrom v i k⟩
  | 0, i, z, l, hk, h0, hl => by omega
  | k + 1, i, z, l, hk, h0, hl => by
    have hle : v / 2 ^ (8 * i) ≤ v := Nat.div_le_self _ _
    have e1 : Int.tdiv ((v / 2 ^ (8 * i) : Nat) : Int) 256 = ((v / 2 ^ (8 * (i + 1)) : Nat) : Int) := by
      rw [Int.tdiv_eq_ediv_of_nonneg (Int.natCast_nonneg _), show 8 * (i + 1) = 8 * i + 8 by omega, Nat.pow_add, ← Nat.div_div_eq_div_mul]
      exact (Int.natCast_ediv _ _).symm
    have e2 : Int.tmod ((v / 2 ^ (8 * i) : Nat) : Int) 256 = ((v / 2 ^ (8 * i) % 256 : Nat) : Int) := by
      rw [Int.tmod_eq_emod_of_nonneg (Int.natCast_nonneg _)]; exact (Int.natCast_emod _ _).symm
    have hle2 : v / 2 ^ (8 * (i + 1)) ≤ v := Nat.div_le_self _ _
    have wi : wrp .i64 ((i : Int) + 1) = ((i + 1 : Nat) : Int) := by rw [wrp_i64 (by omega) (by omega)]; omega
    refine Ev.succ (Ev.pos (by omega) (Ev.pos (by omega) ?_)) (fun q => rfl)
    have w1 : wrp .u64 ((v / 2 ^ (8 * (i + 1)) : Nat) : Int) = ((v / 2 ^ (8 * (i + 1)) : Nat) : Int) := by
      generalize v / 2 ^ (8 * (i + 1)) = B at hle2
      exact wrp_u64 (by omega) (by omega)
    have w2 : ((v / 2 ^ (8 * i) % 256 : Nat) : Int) % 256 = ((v / 2 ^ (8 * i) % 256 : Nat) : Int) := by
      generalize v / 2 ^ (8 * i) = B
      omega
    rw [e1, e2, w1, wrp_u8, wi, w2]
    by_cases hk0 : k = 0
    · subst hk0
      exact Ev.succ (Ev.neg (by omega) (Ev.ret' (by simp [bytesFrom]))) (fun q => rfl)
    · refine (Fix_l0_ev v m hm hv k (i + 1) false _ (by omega) (by omega) (by simp; omega)).cast ?_
      simp [bytesFrom]
theorem Fix4_ev (a : B32) : Ev (fun q => ferrymanref01_Fix q (wrp .u64 (u a)) 4) ⟨false, true, fix4 a.toNat⟩ := by
  have h1 := u_nn a; have h2 := u_lt a
  have := Fix_l0_ev a.toNat 4 (by omega) (by omega) 4 0 true [] (by omega) (by omega) (by simp)
  rw [bytes4] at this
  refine Ev.succ (g := fun q => ferrymanref01_Fix_l0 q (wrp .u64 (u a)) 4 0 true []) ?_ (fun q => rfl)
  rw [wrp_u64 h1 (by omega)]
  simpa [u] using this
theorem ref03_Encode_ev (s : Sl Int) (hb : isB s.l) (hl : s.l.length ≤ 1048576) : ∃ z, Ev (fun q => ferrymanref03_Encode q s) (⟨z, true, encF s.l⟩, 0) := by
  have hp := put_len (s.l.length : Int)
  have h2 := ref02_More_ev (bsum (put (s.l.length : Int))) s hb (by omega)
  have e : ~~~ bmore (~~~ bsum (put (s.l.length : Int))) s.l = bsum (put (s.l.length : Int) ++ s.l) := by
    unfold bsum; rw [BitVec.not_not, bmore_app]
  rw [e] at h2
  refine ⟨(((decide ((put (s.l.length : Int)).length = 0)) && (decide (s.l.length = 0))) && (decide ((fix4 (bsum (put (s.l.length : Int) ++ s.l)).toNat).length = 0))), Ev.succ (Ev.neg (by omega) (Ev.bind (ref01_Put_ev ⟨true, []⟩ (by omega) (by omega) (by simp)) (Ev.bind (ref02_Sum_ev ⟨false, put (s.l.length : Int)⟩ (put_isB (s.l.length : Int)) (by simp only; omega)) (Ev.bind h2 ?_)))) (fun q => rfl)⟩
  · simp only [List.nil_append]
    refine Ev.pos (by omega) (Ev.pos (by omega) (Ev.bind (Fix4_ev _) (Ev.pos (by simp [fix4]; omega) (Ev.ret' ?_))))
    simp [encF]
theorem ref03_Size_ev (n : Int) : Ev (fun q => ferrymanref03_Size q n) (sizeF n) := by
  have hp := put_len n
  refine Ev.succ ?_ (fun q => rfl)
  unfold sizeF
  refine Ev.ite (fun h => ?_) fun h => Ev.ite (fun h1 => ?_) fun h1 => ?_
  · rw [if_pos h]; exact Ev.ret _
  · rw [if_neg h, if_pos h1]; exact Ev.ret _
  · rw [if_neg h, if_neg h1]
    refine Ev.bind (ref01_Put_ev ⟨true, []⟩ (by omega) (by omega) (by simp)) (Ev.ret' ?_)
    simp only [List.nil_append]
    rw [wrp_i64 (x := ((put n).length : Int) + 4) (by omega) (by omega), wrp_i64 (by omega) (by omega)]
theorem ferrymanlaw03_FrameEncodes_true : ∀ (a0 : (Sl Int)) (a1 : Int), okSl (fun x => inR .u8 x) a0 → inR .i64 a1 → ∃ q, ferrymanlaw03_FrameEncodes q a0 a1 = some true := by
  intro s n hs _
  refine Ev.get (f := fun q => ferrymanlaw03_FrameEncodes q s n) ?_
  refine Ev.succ (Ev.bind awake03_ev (Ev.ite (fun h1 => Ev.ret _) fun h1 => ?_)) (fun q => rfl)
  obtain ⟨z, he⟩ := frame_Encode_ev s (isB_of hs) (by omega)
  obtain ⟨z2, hr⟩ := ref03_Encode_ev s (isB_of hs) (by omega)
  refine Ev.bind he (Ev.bind hr (Ev.pos rfl (Ev.pos rfl (Ev.pos rfl (Ev.bind (frame_Size_ev n) (Ev.bind (ref03_Size_ev n) (Ev.pos rfl (Ev.bind (frame_Size_ev _) ?_))))))))
  exact Ev.ret' (by rw [decide_eq_true_eq]; exact (encF_len (by omega)).symm)
end Go.Dvm.I
