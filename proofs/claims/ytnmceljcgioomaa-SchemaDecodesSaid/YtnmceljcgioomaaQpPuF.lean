/- Plain laws of the functions. -/
import Derived.Test.YtnmceljcgioomaaQpPuE
set_option linter.all false
set_option maxRecDepth 100000
namespace Go.Dvm.I
open Go Go.Dvm

theorem ishr_u64k {x : Int} (h : 0 ≤ x) (k : Nat) (hk : k ≤ 64) : ishr .u64 x (k : Int) = x / ((2 ^ k : Nat) : Int) := by
  unfold ishr
  simp only [IntKind.bits, Int.toNat_natCast, Nat.min_eq_left hk]
  rw [Int.fdiv_eq_ediv_of_nonneg _ (by exact_mod_cast Nat.zero_le _)]
  simp
/-- A number in four bytes. -/
def fix4 (v : Nat) : List Int := [((v % 256 : Nat) : Int), ((v / 256 % 256 : Nat) : Int), ((v / 65536 % 256 : Nat) : Int), ((v / 16777216 % 256 : Nat) : Int)]
theorem fixed_byte (v k : Nat) (hk : k ≤ 8) : wrp .u8 (ishr .u64 (v : Int) (wrp .i64 (8 * (k : Int)))) = ((v / 2 ^ (8 * k) % 256 : Nat) : Int) := by
  rw [wrp_i64 (by omega) (by omega), show (8 * (k : Int)) = ((8 * k : Nat) : Int) by omega, ishr_u64k (by omega) _ (by omega), wrp_u8]
  exact_mod_cast rfl
def bytesFrom (v : Nat) : Nat → Nat → List Int
  | _, 0 => []
  | i, k + 1 => ((v / 2 ^ (8 * i) % 256 : Nat) : Int) :: bytesFrom v (i + 1) k
theorem num_fixed_l0_ev {v m : Nat} (hm : m ≤ 8) : ∀ (k i : Nat) (l : List Int), m = i + k → l.length + k ≤ 4294967296 → Ev (fun q => num_fixed_l0 q (v : Int) (m : Int) (i : Int) false l) ⟨false, true, l ++ bytesFrom v i k⟩
  | 0, i, l, hk, hl => Ev.succ (Ev.neg (by omega) (Ev.ret' (by simp [bytesFrom]))) (fun q => rfl)
  | k + 1, i, l, hk, hl => by
    have w : wrp .i64 (8 * (i : Int)) = 8 * (i : Int) := wrp_i64 (by omega) (by omega)
    refine Ev.succ (Ev.pos (by omega) (Ev.neg (by rw [w]; omega) (Ev.pos (by omega) ?_))) (fun q => rfl)
    rw [fixed_byte v i (by omega), wrp_i64 (x := (i : Int) + 1) (by omega) (by omega), show ((i : Int) + 1) = ((i + 1 : Nat) : Int) by omega]
    refine (num_fixed_l0_ev hm k (i + 1) _ (by omega) (by simp; omega)).cast ?_
    simp [bytesFrom]
theorem num_fixed_ev {v m : Nat} (h0 : 0 < m) (hm : m ≤ 8) : Ev (fun q => num_fixed q (v : Int) (m : Int)) ⟨false, true, bytesFrom v 0 m⟩ := by
  obtain ⟨k, rfl⟩ : ∃ k, m = k + 1 := ⟨m - 1, by omega⟩
  have w : wrp .i64 (8 * ((0 : Nat) : Int)) = 0 := wrp_i64 (by omega) (by omega)
  have key : ∀ i : Int, i = ((0 : Nat) : Int) → Ev (fun q => num_fixed_l0 q (v : Int) ((k + 1 : Nat) : Int) i true []) ⟨false, true, bytesFrom v 0 (k + 1)⟩ := by
    intro i hi
    refine Ev.succ (Ev.pos (by omega) (Ev.neg (by rw [hi, w]; omega) (Ev.pos (by simp) ?_))) (fun q => rfl)
    rw [hi, fixed_byte v 0 (by omega), wrp_i64 (x := ((0 : Nat) : Int) + 1) (by omega) (by omega), show (((0 : Nat) : Int) + 1) = ((0 + 1 : Nat) : Int) by omega]
    refine (num_fixed_l0_ev hm k 1 _ (by omega) (by simp; omega)).cast ?_
    simp [bytesFrom]
  exact Ev.succ (key 0 rfl) (fun q => rfl)
theorem bytes4 (v : Nat) : bytesFrom v 0 4 = fix4 v := by simp [bytesFrom, fix4]
theorem num_fixed4_ev {v : Nat} (h : v < 18446744073709551616) : Ev (fun q => num_fixed q (v : Int) 4) ⟨false, true, fix4 v⟩ := by
  have := num_fixed_ev (v := v) (m := 4) (by omega) (by omega)
  rw [bytes4] at this; exact this
theorem Fixed32_ev (a : B32) : Ev (fun q => num_Fixed32 q (u a)) ⟨false, true, fix4 a.toNat⟩ := by
  have h1 := u_nn a; have h2 := u_lt a
  have e : wrp .u64 (u a) = ((a.toNat : Nat) : Int) := by rw [wrp_u64 h1 (by omega)]; rfl
  exact Ev.succ (Ev.bind (by rw [e]; exact num_fixed4_ev (by have := a.isLt; omega)) (Ev.ret _)) (fun q => rfl)
theorem frame_sum_ev (a b : Sl Int) (ha : isB a.l) (hb : isB b.l) (la : a.l.length ≤ 1099511627776) (lb : b.l.length ≤ 1099511627776) : Ev (fun q => frame_sum q a b) ⟨false, true, fix4 (bsum (a.l ++ b.l)).toNat⟩ := by
  have h2 := crc_More_ev (bsum a.l) b hb lb
  have e : ~~~ bmore (~~~ bsum a.l) b.l = bsum (a.l ++ b.l) := by
    unfold bsum; rw [BitVec.not_not, bmore_app]
  rw [e] at h2
  exact Ev.succ (Ev.bind (crc_Sum_ev a ha la) (Ev.bind h2 (Ev.bind (Fixed32_ev _) (Ev.ret _)))) (fun q => rfl)

/-! One behind the other -/
def flat (l : List (Sl Int)) : List Int := l.flatMap (·.l)
theorem flat_app (a b : List (Sl Int)) : flat (a ++ b) = flat a ++ flat b := by simp [flat]
theorem flat_cons (a : Sl Int) (b : List (Sl Int)) : flat (a :: b) = a.l ++ flat b := by simp [flat]
theorem Concat_l1_ev (z0 : Bool) (L : List (Sl Int)) (z : Bool) (hL : L.length ≤ 1099511627776) : ∀ (k i : Nat) (m : Nat) (l : List Int), L.length = i + k → m + (flat (L.drop i)).length ≤ l.length →
    Ev (fun q => slices_Concat_byte_byte_l1 q m z0 L (L.length : Int) (i : Int) z l) ⟨z, true, l.take m ++ flat (L.drop i)⟩
  | 0, i, m, l, hk, hl => by
    refine Ev.succ (Ev.neg (by omega) (Ev.ret' ?_)) (fun q => rfl)
    rw [List.drop_of_length_le (by omega)]; simp [flat]
  | k + 1, i, m, l, hk, hl => by
    have hi : i < L.length := by omega
    have hg : L[(i : Int).toNat]? = some L[i] := by simpa using List.getElem?_eq_getElem hi
    rw [List.drop_eq_getElem_cons hi, flat_cons, List.length_append] at hl
    refine Ev.succ (Ev.pos (by omega) (Ev.pos (by omega) (Ev.opt hg (Ev.pos (by omega) ?_)))) (fun q => rfl)
    rw [wrp_i64 (by omega) (by omega), show ((i : Int) + 1) = ((i + 1 : Nat) : Int) by omega]
    refine (Concat_l1_ev z0 L z hL k (i + 1) (m + L[i].l.length) _ (by omega) ?_).cast ?_
    · simp only [List.length_append, List.length_take, List.length_drop]; omega
    · congr 1
      rw [List.drop_eq_getElem_cons hi, flat_cons, ← List.append_assoc]
      congr 1
      rw [List.take_append_of_le_length (by simp only [List.length_append, List.length_take]; omega), List.take_of_length_le (by simp only [List.length_append, List.length_take]; omega)]
theorem Concat_l3_ev (z0 : Bool) (L : List (Sl Int)) (hL : L.length ≤ 1099511627776) : ∀ (k i : Nat) (z : Bool) (l : List Int), L.length = i + k → l.length + (flat (L.drop i)).length ≤ 4294967296 →
    ∃ z', Ev (fun q => slices_Concat_byte_byte_l3 q z0 L (L.length : Int) (i : Int) z l) ⟨z', true, l ++ flat (L.drop i)⟩
  | 0, i, z, l, hk, hl => ⟨z, by
    refine Ev.succ (Ev.neg (by omega) (Ev.ret' ?_)) (fun q => rfl)
    rw [List.drop_of_length_le (by omega)]; simp [flat]⟩
  | k + 1, i, z, l, hk, hl => by
    have hi : i < L.length := by omega
    have hg : L[(i : Int).toNat]? = some L[i] := by simpa using List.getElem?_eq_getElem hi
    rw [List.drop_eq_getElem_cons hi, flat_cons, List.length_append] at hl
    obtain ⟨z', h⟩ := Concat_l3_ev z0 L hL k (i + 1) (z && (decide (L[i].l.length = 0))) (l ++ L[i].l) (by omega) (by simp only [List.length_append]; omega)
    refine ⟨z', Ev.succ (Ev.pos (by omega) (Ev.pos (by omega) (Ev.opt hg (Ev.pos (by omega) ?_)))) (fun q => rfl)⟩
    rw [wrp_i64 (by omega) (by omega), show ((i : Int) + 1) = ((i + 1 : Nat) : Int) by omega]
    refine h.cast ?_
    rw [List.drop_eq_getElem_cons hi, flat_cons]; simp
theorem Concat_l0_ev (z0 z9 : Bool) (L : List (Sl Int)) (hL : L.length ≤ 1099511627776) (hf : (flat L).length ≤ 4294967296) : ∀ (k i : Nat) (m : Nat), L.length = i + k → m + (flat (L.drop i)).length = (flat L).length →
    ∃ z', Ev (fun q => slices_Concat_byte_byte_l0 q z0 L (m : Int) z9 L (L.length : Int) (i : Int)) ⟨z', true, flat L⟩
  | 0, i, m, hk, hm => by
    rw [List.drop_of_length_le (by omega)] at hm
    have hm2 : m = (flat L).length := by simpa [flat] using hm
    have w : wrp .i64 ((m : Int) - wrp .i64 0) = (m : Int) := by rw [wrp_i64 (x := 0) (by omega) (by omega), wrp_i64 (by omega) (by omega)]; omega
    by_cases h0 : 0 < m
    · refine ⟨decide (wrp .i64 ((m : Int) - wrp .i64 0) = 0), Ev.succ (Ev.neg (by omega) (Ev.neg (by omega) (Ev.pos (by rw [w]; omega) (Ev.pos (by rw [w]; omega) (Ev.pos (by rw [w]; omega) (Ev.neg (by rw [w]; omega) ?_)))))) (fun q => rfl)⟩
      rw [w]
      have := Concat_l1_ev z0 L (decide ((m : Int) = 0)) hL L.length 0 0 (List.replicate (m : Int).toNat 0) (by omega) (by simp; omega)
      rw [List.drop_zero] at this
      exact this
    · have hnil : flat L = [] := List.eq_nil_of_length_eq_zero (by omega)
      match L, hk with
      | [], _ =>
        refine ⟨true, Ev.succ (Ev.neg (by simp) (Ev.neg (by omega) ?_)) (fun q => rfl)⟩
        rw [w]
        refine Ev.neg (by omega) ?_
        exact Ev.succ (g := fun _ => some ⟨true, true, []⟩) (Ev.ret' (by simp [flat])) (fun q => rfl)
      | a :: L', hk =>
        rw [flat_cons] at hnil
        obtain ⟨z', h⟩ := Concat_l3_ev z0 (a :: L') hL L'.length 1 (decide (a.l.length = 0)) a.l (by simp; omega) (by
          have : flat (List.drop 1 (a :: L')) = flat L' := rfl
          rw [this, ← List.length_append, hnil]; simp)
        refine ⟨z', Ev.succ (Ev.neg (by omega) (Ev.neg (by omega) ?_)) (fun q => rfl)⟩
        rw [w]
        refine Ev.neg (by omega) (Ev.succ (Ev.pos (by simp) (Ev.opt (s := a) rfl (Ev.pos ?_ ?_))) (fun q => rfl))
        · have : a.l.length ≤ (a.l ++ flat L').length := by simp
          rw [hnil] at this; simp at this; simp [this]
        · rw [wrp_i64 (by omega) (by omega)]
          refine h.cast ?_
          rw [flat_cons]; rfl
  | k + 1, i, m, hk, hm => by
    have hi : i < L.length := by omega
    have hg : L[(i : Int).toNat]? = some L[i] := by simpa using List.getElem?_eq_getElem hi
    rw [List.drop_eq_getElem_cons hi, flat_cons, List.length_append] at hm
    obtain ⟨z', h⟩ := Concat_l0_ev z0 z9 L hL hf k (i + 1) (m + L[i].l.length) (by omega) (by omega)
    refine ⟨z', Ev.succ (Ev.pos (by omega) (Ev.pos (by omega) (Ev.opt hg ?_))) (fun q => rfl)⟩
    have w : wrp .i64 ((m : Int) + (L[i].l.length : Int)) = ((m + L[i].l.length : Nat) : Int) := by rw [wrp_i64 (by omega) (by omega)]; omega
    rw [w, wrp_i64 (by omega) (by omega), show ((i : Int) + 1) = ((i + 1 : Nat) : Int) by omega]
    exact Ev.neg (by omega) h
theorem Concat_ev (s : Sl (Sl Int)) (hL : s.l.length ≤ 1099511627776) (hf : (flat s.l).length ≤ 4294967296) : ∃ z', Ev (fun q => slices_Concat_byte_byte q s) ⟨z', true, flat s.l⟩ := by
  obtain ⟨z', h⟩ := Concat_l0_ev s.z s.z s.l hL hf s.l.length 0 0 (by omega) (by simp)
  exact ⟨z', Ev.succ h (fun q => rfl)⟩

theorem grp_isB : ∀ n, isB (grp n) := by
  intro n
  induction n using Nat.strongRecOn with
  | ind n ih =>
    by_cases h : n < 128
    · rw [grp_lt h]; intro c hc; simp at hc; omega
    · rw [grp_ge h]; intro c hc
      rcases List.mem_cons.1 hc with rfl | hc
      · omega
      · exact ih (n / 128) (by omega) c hc
theorem put_isB (n : Int) : isB (put n) := by
  unfold put; split
  · intro c hc; simp at hc
  · split
    · intro c hc; simp at hc
    · exact grp_isB _
theorem isB_app {a b : List Int} : isB (a ++ b) ↔ isB a ∧ isB b := by
  constructor
  · intro h; exact ⟨fun c hc => h c (List.mem_append.2 (.inl hc)), fun c hc => h c (List.mem_append.2 (.inr hc))⟩
  · rintro ⟨h1, h2⟩ c hc
    rcases List.mem_append.1 hc with h | h
    · exact h1 c h
    · exact h2 c h
/-- A frame. -/
def encF (l : List Int) : List Int := put (l.length : Int) ++ (l ++ fix4 (bsum (put (l.length : Int) ++ l)).toNat)
theorem frame_Encode_ev (s : Sl Int) (hb : isB s.l) (hl : s.l.length ≤ 1048576) : ∃ z, Ev (fun q => frame_Encode q s) (⟨z, true, encF s.l⟩, 0) := by
  have hp := put_len (s.l.length : Int)
  obtain ⟨z, h⟩ := Concat_ev ⟨false, [⟨false, put (s.l.length : Int)⟩, s, ⟨false, fix4 (bsum (put (s.l.length : Int) ++ s.l)).toNat⟩]⟩ (by simp) (by simp [flat, fix4]; omega)
  refine ⟨z, Ev.succ (Ev.neg (by omega) ?_) (fun q => rfl)⟩
  refine Ev.bind (num_Put_ev ⟨true, true, []⟩ (by omega) (by omega) (by simp)) ?_
  refine Ev.bind (frame_sum_ev ⟨false, put (s.l.length : Int)⟩ s (put_isB (s.l.length : Int)) hb (by simp only; omega) (by omega)) ?_
  refine Ev.bind h ?_
  exact Ev.ret' (by simp [encF, flat])
theorem frame_Encode_large (s : Sl Int) (hl : 1048576 < s.l.length) : Ev (fun q => frame_Encode q s) (⟨true, true, []⟩, 5) :=
  Ev.succ (Ev.pos (by omega) (Ev.ret _)) (fun q => rfl)
/-- How many bytes a frame has. -/
def sizeF (n : Int) : Int := if n < 0 then 0 else if 1048576 < n then 0 else (put n).length + 4 + n
theorem frame_Size_ev (n : Int) : Ev (fun q => frame_Size q n) (sizeF n) := by
  have hp := put_len n
  refine Ev.succ ?_ (fun q => rfl)
  unfold sizeF
  refine Ev.ite (fun h => ?_) fun h => Ev.ite (fun h1 => ?_) fun h1 => ?_
  · rw [if_pos h]; exact Ev.ret _
  · rw [if_neg h, if_pos h1]; exact Ev.ret _
  · rw [if_neg h, if_neg h1]
    refine Ev.bind (num_Put_ev ⟨true, true, []⟩ (by omega) (by omega) (by simp)) (Ev.ret' ?_)
    simp only [List.nil_append]
    rw [wrp_i64 (x := ((put n).length : Int) + 4) (by omega) (by omega), wrp_i64 (by omega) (by omega)]
theorem encF_len {l : List Int} (h : l.length ≤ 1048576) : ((encF l).length : Int) = sizeF l.length := by
  unfold sizeF; rw [if_neg (by omega), if_neg (by omega)]; simp [encF, fix4]; omega
end Go.Dvm.I
