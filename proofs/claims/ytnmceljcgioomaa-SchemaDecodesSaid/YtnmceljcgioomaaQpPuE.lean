/- Plain laws of the functions. -/
import Derived.Test.YtnmceljcgioomaaQpPuD
set_option linter.all false
set_option maxRecDepth 100000
namespace Go.Dvm.I
open Go Go.Dvm

/-! The sum of bytes, over bits -/
abbrev B32 := BitVec 32
def u (a : B32) : Int := (a.toNat : Int)
theorem u_nn (a : B32) : 0 ≤ u a := Int.natCast_nonneg _
theorem u_lt (a : B32) : u a < 4294967296 := by unfold u; have := a.isLt; omega
theorem u_inj {a b : B32} (h : u a = u b) : a = b := BitVec.eq_of_toNat_eq (by unfold u at h; omega)
theorem ofInt_u (a : B32) : BitVec.ofInt 32 (u a) = a := by
  apply BitVec.eq_of_toNat_eq; rw [BitVec.toNat_ofInt]; unfold u; have := a.isLt; omega
theorem wrp_u (a : B32) : IntKind.wrap .u32 ((a.toNat : Nat) : Int) = u a := by
  have := a.isLt
  rw [wrp_def, wrp_u32 (by omega) (by omega)]; rfl
theorem xor_u (a b : B32) : ibits .xor .u32 (u a) (u b) = u (a ^^^ b) := by
  have e : ibits .xor .u32 (u a) (u b) = IntKind.wrap .u32 (((BitVec.ofInt 32 (u a) ^^^ BitVec.ofInt 32 (u b) : B32).toNat : Nat) : Int) := by unfold ibits; rfl
  rw [e, ofInt_u, ofInt_u, wrp_u]
theorem and_u (a b : B32) : ibits .and .u32 (u a) (u b) = u (a &&& b) := by
  have e : ibits .and .u32 (u a) (u b) = IntKind.wrap .u32 (((BitVec.ofInt 32 (u a) &&& BitVec.ofInt 32 (u b) : B32).toNat : Nat) : Int) := by unfold ibits; rfl
  rw [e, ofInt_u, ofInt_u, wrp_u]
theorem u_lit (n : Nat) (h : n < 4294967296) : u (BitVec.ofNat 32 n) = (n : Int) := by
  unfold u; rw [BitVec.toNat_ofNat]; omega
theorem wrp_u32m (x : Int) : wrp .u32 x = x % 4294967296 := by
  unfold wrp; simp [IntKind.wrap, IntKind.signed, IntKind.bits]
theorem ishr_u (a : B32) (k : Nat) (hk : k ≤ 32) : ishr .u32 (u a) (k : Int) = u (a >>> k) := by
  unfold ishr u
  simp only [IntKind.bits, Int.toNat_natCast, Nat.min_eq_left hk]
  rw [Int.fdiv_eq_ediv_of_nonneg _ (by exact_mod_cast Nat.zero_le _), BitVec.toNat_ushiftRight, Nat.shiftRight_eq_div_pow]
  simp
theorem ishr_u1 (a : B32) : ishr .u32 (u a) 1 = u (a >>> 1) := ishr_u a 1 (by omega)
theorem ishr_u8 (a : B32) : ishr .u32 (u a) 8 = u (a >>> 8) := ishr_u a 8 (by omega)

def poly : B32 := 2197175160#32
def bstep (a : B32) : B32 := if a &&& 1#32 = 1#32 then (a >>> 1) ^^^ poly else a >>> 1
theorem and1 (a : B32) : a &&& 1#32 = 0#32 ∨ a &&& 1#32 = 1#32 := by
  have : (a &&& 1#32).toNat = a.toNat % 2 := by rw [BitVec.toNat_and]; exact Nat.and_one_is_mod _
  rcases Nat.mod_two_eq_zero_or_one a.toNat with h | h
  · left; exact BitVec.eq_of_toNat_eq (by rw [this, h]; rfl)
  · right; exact BitVec.eq_of_toNat_eq (by rw [this, h]; rfl)
theorem odd_iff (a : B32) : a &&& 1#32 = 1#32 ↔ u a % 2 = 1 := by
  have h : (a &&& 1#32).toNat = a.toNat % 2 := by rw [BitVec.toNat_and]; exact Nat.and_one_is_mod _
  unfold u
  constructor
  · intro e; rw [e] at h; simp at h; omega
  · intro e; exact BitVec.eq_of_toNat_eq (by rw [h]; simp; omega)
/-- The program's step. -/
theorem step_prog (a : B32) : ibits .xor .u32 (ishr .u32 (u a) 1) (ibits .and .u32 2197175160 (wrp .u32 (0 - (ibits .and .u32 (u a) 1)))) = u (bstep a) := by
  have e1 : (1 : Int) = u 1#32 := rfl
  have e2 : (2197175160 : Int) = u poly := by unfold poly; rw [u_lit _ (by omega)]; rfl
  rw [ishr_u1]
  conv => lhs; arg 4; rw [e2]; arg 4; rw [e1, and_u]
  unfold bstep
  rcases and1 a with h | h
  · rw [h, if_neg (by decide)]
    have : wrp .u32 (0 - u 0#32) = u 0#32 := by rw [wrp_u32m]; rfl
    rw [this, and_u, BitVec.and_zero, xor_u, BitVec.xor_zero]
  · rw [h, if_pos rfl]
    have : wrp .u32 (0 - u 1#32) = u (BitVec.allOnes 32) := by rw [wrp_u32m]; rfl
    rw [this, and_u, BitVec.and_allOnes, xor_u]
def biter : Nat → B32 → B32
  | 0, a => a
  | n + 1, a => biter n (bstep a)
def bentry (a : B32) : B32 := biter 8 a

theorem crc_Table_l1_ev (v2 v5 : Int) (t0 t1 : List Int) (r : List Int) : ∀ (k : Nat) (a : B32) (v10 : Int), v10 = 8 - k → k ≤ 8 → 0 ≤ v2 → v2.toNat < 256 → v2.toNat + 1 ≤ t1.length →
    Ev (fun q => crc_Table_l0 q (wrp .i64 (v5 + 1)) t0 (List.set t1 v2.toNat (u (biter k a)))) r → Ev (fun q => crc_Table_l1 q v2 (u a) v5 v10 t0 t1) r
  | 0, a, v10, h1, h2, h3, h4, h5, h => Ev.succ (Ev.neg (by omega) (Ev.pos h3 (Ev.pos h4 (Ev.pos h5 h)))) (fun q => rfl)
  | k + 1, a, v10, h1, h2, h3, h4, h5, h => by
    refine Ev.succ (Ev.pos (by omega) ?_) (fun q => rfl)
    rw [step_prog, wrp_i64 (by omega) (by omega)]
    exact crc_Table_l1_ev v2 v5 t0 t1 r k (bstep a) (v10 + 1) (by omega) (by omega) h3 h4 h5 h
/-- The table. -/
def tabN (n : Nat) : List Int := (List.range n).map fun i => u (bentry (BitVec.ofNat 32 i))
theorem tabN_get {n i : Nat} (h : i < n) : (tabN n)[i]? = some (u (bentry (BitVec.ofNat 32 i))) := by
  unfold tabN; rw [List.getElem?_map, List.getElem?_range h]; rfl
theorem tabN_len (n : Nat) : (tabN n).length = n := by simp [tabN]
theorem crc_Table_l0_ev : ∀ (k i : Nat) (t1 : List Int), i + k = 256 → t1.length = 256 → (∀ j, j < i → t1[j]? = (tabN 256)[j]?) → Ev (fun q => crc_Table_l0 q (i : Int) (List.replicate 256 0) t1) (tabN 256)
  | 0, i, t1, hk, hl, ht => by
    refine Ev.succ (Ev.neg (by omega) (Ev.pos (by omega) (Ev.pos (by omega) (Ev.pos (by simp) (Ev.pos (by simp) (Ev.ret' ?_)))))) (fun q => rfl)
    have e : t1 = tabN 256 := by
      apply List.ext_getElem?
      intro j
      by_cases hj : j < 256
      · exact ht j (by omega)
      · rw [List.getElem?_eq_none (by omega), List.getElem?_eq_none (by rw [tabN_len]; omega)]
    have h2 := tabN_len 256
    rw [e, List.take_of_length_le (i := 256) (by omega : (tabN 256).length ≤ 256), List.drop_of_length_le (by simp), List.append_nil, List.take_of_length_le (by omega)]
  | k + 1, i, t1, hk, hl, ht => by
    refine Ev.succ (Ev.pos (by omega) ?_) (fun q => rfl)
    have e : wrp .u32 (i : Int) = u (BitVec.ofNat 32 i) := by rw [u_lit _ (by omega), wrp_u32] <;> omega
    rw [e]
    refine crc_Table_l1_ev _ _ _ _ _ 8 _ 0 (by omega) (by omega) (by omega) (by omega) (by omega) ?_
    rw [wrp_i64 (by omega) (by omega), show ((i : Int) + 1) = ((i + 1 : Nat) : Int) by omega, Int.toNat_natCast]
    refine crc_Table_l0_ev k (i + 1) _ (by omega) (by simpa using hl) fun j hj => ?_
    by_cases e : i = j
    · subst e; rw [List.getElem?_set_self (by omega), tabN_get (by omega)]; rfl
    · rw [List.getElem?_set_ne e]; exact ht j (by omega)
theorem crc_Table_ev : Ev (fun q => crc_Table q) (tabN 256) :=
  Ev.succ (crc_Table_l0_ev 256 0 (List.replicate 256 0) (by omega) (by simp) (fun j hj => by omega)) (fun q => rfl)

/-- What a byte makes of a sum. -/
def bbyte (x : B32) (c : Int) : B32 := bentry ((x ^^^ BitVec.ofInt 32 c) &&& 255#32) ^^^ (x >>> 8)
def bmore (x : B32) (l : List Int) : B32 := l.foldl bbyte x
def isB (l : List Int) : Prop := ∀ c ∈ l, 0 ≤ c ∧ c < 256
theorem xor8 {x : B32} {c : Int} (h1 : 0 ≤ c) (h2 : c < 256) : ibits .xor .u8 (wrp .u8 (u x)) c = u ((x ^^^ BitVec.ofInt 32 c) &&& 255#32) := by
  have e : ibits .xor .u8 (wrp .u8 (u x)) c = IntKind.wrap .u8 (((BitVec.ofInt 8 (wrp .u8 (u x)) ^^^ BitVec.ofInt 8 c : BitVec 8).toNat : Nat) : Int) := by unfold ibits; rfl
  rw [e, wrp_def, wrp_u8, wrp_u8]
  unfold u
  rw [BitVec.toNat_and, BitVec.toNat_xor, BitVec.toNat_xor, BitVec.toNat_ofInt, BitVec.toNat_ofInt, BitVec.toNat_ofInt]
  obtain ⟨n, rfl⟩ := Int.eq_ofNat_of_zero_le h1
  have hn : n < 256 := by omega
  have e1 : (((x.toNat : Int) % 256 % ((2 ^ 8 : Nat) : Int)).toNat) = x.toNat % 256 := by omega
  have e2 : (((n : Int) % ((2 ^ 8 : Nat) : Int)).toNat) = n := by omega
  have e3 : (((n : Int) % ((2 ^ 32 : Nat) : Int)).toNat) = n := by omega
  rw [e1, e2, e3, show (255#32).toNat = 2 ^ 8 - 1 from rfl, Nat.and_two_pow_sub_one_eq_mod]
  have h3 : (x.toNat ^^^ n) % 2 ^ 8 = (x.toNat % 2 ^ 8) ^^^ (n % 2 ^ 8) := Nat.xor_mod_two_pow
  rw [h3, Nat.mod_eq_of_lt (show n < 2 ^ 8 by omega)]
  have h4 : (x.toNat % 2 ^ 8) ^^^ n < 2 ^ 8 := Nat.xor_lt_two_pow (Nat.mod_lt _ (by omega)) (by omega)
  simp only [Nat.reducePow] at h4 ⊢
  omega
theorem and255 (x : B32) : u (x &&& 255#32) < 256 := by
  unfold u
  rw [BitVec.toNat_and, show (255#32).toNat = 2 ^ 8 - 1 from rfl, Nat.and_two_pow_sub_one_eq_mod]; omega
theorem u_toNat (a : B32) : (u a).toNat = a.toNat := by unfold u; omega
theorem ones : (4294967295 : Int) = u (BitVec.allOnes 32) := rfl
theorem crc_More_l0_ev (z : Bool) (l : List Int) (hb : isB l) (hl : l.length ≤ 1099511627776) : ∀ (k i : Nat) (x : B32), l.length = i + k → Ev (fun q => crc_More_l0 q (u x) z l (l.length : Int) (i : Int) (tabN 256)) (u (~~~ bmore x (l.drop i)))
  | 0, i, x, hk => by
    refine Ev.succ (Ev.neg (by omega) (Ev.ret' ?_)) (fun q => rfl)
    rw [List.drop_of_length_le (by omega), ones, xor_u]
    simp only [bmore, List.foldl_nil, BitVec.allOnes_xor]
  | k + 1, i, x, hk => by
    have hi : i < l.length := by omega
    have hg : l[(i : Int).toNat]? = some l[i] := by simpa using List.getElem?_eq_getElem hi
    obtain ⟨b1, b2⟩ := hb l[i] (List.getElem_mem hi)
    refine Ev.succ (Ev.pos (by omega) (Ev.pos (by omega) (Ev.opt hg ?_))) (fun q => rfl)
    rw [xor8 b1 b2]
    have h255 := and255 (x ^^^ BitVec.ofInt 32 l[i])
    have hnn := u_nn ((x ^^^ BitVec.ofInt 32 l[i]) &&& 255#32)
    refine Ev.pos hnn (Ev.pos (by omega) (Ev.opt (tabN_get (by omega)) ?_))
    rw [ishr_u8, xor_u, wrp_i64 (by omega) (by omega), show ((i : Int) + 1) = ((i + 1 : Nat) : Int) by omega, u_toNat]
    have := crc_More_l0_ev z l hb hl k (i + 1) (bentry ((x ^^^ BitVec.ofInt 32 l[i]) &&& 255#32) ^^^ (x >>> 8)) (by omega)
    rw [List.drop_eq_getElem_cons hi]
    simp only [bmore, List.foldl_cons, bbyte, BitVec.ofNat_toNat, BitVec.setWidth_eq] at this ⊢
    exact this
theorem crc_More_ev (x : B32) (s : Sl Int) (hb : isB s.l) (hl : s.l.length ≤ 1099511627776) : Ev (fun q => crc_More q (u x) s) (u (~~~ bmore (~~~ x) s.l)) := by
  refine Ev.succ (Ev.bind crc_Table_ev (Ev.pos (tabN_len 256) ?_)) (fun q => rfl)
  rw [ones, xor_u, BitVec.allOnes_xor]
  have := crc_More_l0_ev s.z s.l hb hl s.l.length 0 (~~~ x) (by omega)
  rw [List.drop_zero] at this
  exact this
/-- The sum of bytes. -/
def bsum (l : List Int) : B32 := ~~~ bmore (BitVec.allOnes 32) l
theorem crc_Sum_ev (s : Sl Int) (hb : isB s.l) (hl : s.l.length ≤ 1099511627776) : Ev (fun q => crc_Sum q s) (u (bsum s.l)) := by
  have := crc_More_ev 0#32 s hb hl
  exact Ev.succ (Ev.bind this (Ev.ret' (by simp [bsum]))) (fun q => rfl)
theorem bmore_app (x : B32) (a b : List Int) : bmore (bmore x a) b = bmore x (a ++ b) := by simp [bmore]
end Go.Dvm.I
