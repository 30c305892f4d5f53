/- Plain laws of the functions. -/
import Derived.Test.YtnmceljcgioomaaQpPuM
set_option linter.all false
set_option maxRecDepth 100000
namespace Go.Dvm.I
open Go Go.Dvm

/-! Sums and turned bits -/
def tS (n : Nat) : Nat := if n % 2 = 1 then (n / 2) ^^^ 2197175160 else n / 2
def tI : Nat → Nat → Nat
  | 0, n => n
  | k + 1, n => tI k (tS n)
theorem xor_mod2 (a b : Nat) : (a ^^^ b) % 2 = (a % 2 + b % 2) % 2 := by
  have h : (a ^^^ b) % 2 ^ 1 = (a % 2 ^ 1) ^^^ (b % 2 ^ 1) := Nat.xor_mod_two_pow
  simp only [Nat.pow_one] at h
  rw [h]
  rcases Nat.mod_two_eq_zero_or_one a with e1 | e1 <;> rcases Nat.mod_two_eq_zero_or_one b with e2 | e2 <;> rw [e1, e2] <;> rfl
theorem xor_div2 (a b : Nat) : (a ^^^ b) / 2 = (a / 2) ^^^ (b / 2) := by
  have := Nat.shiftRight_xor_distrib (a := a) (b := b) (i := 1)
  simpa [Nat.shiftRight_eq_div_pow] using this
theorem xor_lc (a b c : Nat) : a ^^^ (b ^^^ c) = b ^^^ (a ^^^ c) := by rw [← Nat.xor_assoc, Nat.xor_comm a b, Nat.xor_assoc]
theorem tS_xor (a b : Nat) : tS (a ^^^ b) = tS a ^^^ tS b := by
  unfold tS
  rw [xor_div2, xor_mod2]
  rcases Nat.mod_two_eq_zero_or_one a with e1 | e1 <;> rcases Nat.mod_two_eq_zero_or_one b with e2 | e2 <;> rw [e1, e2]
  · simp
  · simp [Nat.xor_assoc]
  · simp only [Nat.reduceAdd, Nat.reduceMod, if_true, reduceCtorEq, if_false]
    rw [Nat.xor_assoc, Nat.xor_assoc, Nat.xor_comm (b / 2)]
  · simp only [Nat.reduceAdd, Nat.reduceMod, if_true]
    rw [if_neg (by decide), Nat.xor_assoc, xor_lc 2197175160, Nat.xor_self, Nat.xor_zero]
theorem tI_xor : ∀ (k a b : Nat), tI k (a ^^^ b) = tI k a ^^^ tI k b
  | 0, a, b => rfl
  | k + 1, a, b => by simp only [tI]; rw [tS_xor, tI_xor]
theorem tI_shift : ∀ (k n : Nat), tI k (2 ^ k * n) = n
  | 0, n => by simp [tI]
  | k + 1, n => by
    simp only [tI]
    have : tS (2 ^ (k + 1) * n) = 2 ^ k * n := by
      have e : 2 ^ (k + 1) * n = 2 * (2 ^ k * n) := by rw [Nat.pow_succ]; simp only [Nat.mul_assoc, Nat.mul_comm, Nat.mul_left_comm]
      unfold tS; rw [e, if_neg (by omega)]; omega
    rw [this, tI_shift]
theorem tI_add : ∀ (j k n : Nat), tI (j + k) n = tI k (tI j n)
  | 0, k, n => by simp [tI]
  | j + 1, k, n => by rw [show j + 1 + k = (j + k) + 1 by omega]; simp only [tI]; rw [tI_add]
theorem tS_lt {n : Nat} (h : n < 4294967296) : tS n < 4294967296 := by
  unfold tS; split
  · exact Nat.xor_lt_two_pow (n := 32) (by omega) (by omega)
  · omega
theorem tS_ne {n : Nat} (h : n < 4294967296) (h0 : n ≠ 0) : tS n ≠ 0 := by
  unfold tS; split
  · intro e
    have : n / 2 = 2197175160 := by
      have := congrArg (· ^^^ 2197175160) e
      simpa [Nat.xor_assoc] using this
    omega
  · omega
theorem tI_ne : ∀ {k n : Nat}, n < 4294967296 → n ≠ 0 → tI k n ≠ 0
  | 0, n, h, h0 => h0
  | k + 1, n, h, h0 => by simp only [tI]; exact tI_ne (k := k) (n := tS n) (tS_lt h) (tS_ne h h0)
theorem tI_zero : ∀ k, tI k 0 = 0
  | 0 => rfl
  | k + 1 => by simp only [tI]; exact tI_zero k
theorem bstep_T (a : B32) : (bstep a).toNat = tS a.toNat := by
  unfold bstep tS
  by_cases h : a &&& 1#32 = 1#32
  · have h2 := (odd_iff a).1 h
    unfold u at h2
    rw [if_pos h, if_pos (by omega), BitVec.toNat_xor, BitVec.toNat_ushiftRight, Nat.shiftRight_eq_div_pow]; rfl
  · have h2 : ¬ u a % 2 = 1 := fun e => h ((odd_iff a).2 e)
    unfold u at h2
    rw [if_neg h, if_neg (by omega), BitVec.toNat_ushiftRight, Nat.shiftRight_eq_div_pow]
theorem biter_T : ∀ (k : Nat) (a : B32), (biter k a).toNat = tI k a.toNat
  | 0, a => rfl
  | k + 1, a => by simp only [biter, tI]; rw [biter_T, bstep_T]
theorem xor_add {k c n : Nat} (h : c < 2 ^ k) : (2 ^ k * n) ^^^ c = 2 ^ k * n + c := by
  apply Nat.eq_of_testBit_eq
  intro j
  rw [Nat.testBit_xor, Nat.testBit_two_pow_mul_add _ h, Nat.testBit_two_pow_mul]
  by_cases hj : j < k
  · have : ¬ j ≥ k := by omega
    rw [if_pos hj]; simp [this]
  · rw [if_neg hj, Nat.testBit_lt_two_pow (Nat.lt_of_lt_of_le h (Nat.pow_le_pow_right (by omega) (by omega)))]
    have : j ≥ k := by omega
    simp [this]
theorem ofInt_byte {c : Int} (h1 : 0 ≤ c) (h2 : c < 256) : (BitVec.ofInt 32 c).toNat = c.toNat := by
  rw [BitVec.toNat_ofInt]; omega
theorem bbyte_T (x : B32) {c : Int} (h1 : 0 ≤ c) (h2 : c < 256) : (bbyte x c).toNat = tI 8 (x.toNat ^^^ c.toNat) := by
  have hx : (x ^^^ BitVec.ofInt 32 c).toNat = x.toNat ^^^ c.toNat := by rw [BitVec.toNat_xor, ofInt_byte h1 h2]
  have hlow : ((x ^^^ BitVec.ofInt 32 c) &&& 255#32).toNat = (x.toNat ^^^ c.toNat) % 256 := by
    rw [BitVec.toNat_and, hx, show (255#32).toNat = 2 ^ 8 - 1 from rfl, Nat.and_two_pow_sub_one_eq_mod]
  have hdiv : (x.toNat ^^^ c.toNat) / 256 = x.toNat / 256 := by
    have := Nat.shiftRight_xor_distrib (a := x.toNat) (b := c.toNat) (i := 8)
    simp only [Nat.shiftRight_eq_div_pow, Nat.reducePow] at this
    rw [this, Nat.div_eq_of_lt (show c.toNat < 256 by omega)]; simp
  unfold bbyte bentry
  rw [BitVec.toNat_xor, biter_T, hlow, BitVec.toNat_ushiftRight, Nat.shiftRight_eq_div_pow]
  generalize hy : x.toNat ^^^ c.toNat = y at hdiv ⊢
  have hsp : y = (2 ^ 8 * (y / 256)) ^^^ (y % 256) := by rw [xor_add (by omega)]; omega
  conv => rhs; rw [hsp, tI_xor, tI_shift]
  rw [hdiv, Nat.xor_comm]
theorem bmore_T : ∀ (l : List Int) (x : B32), isB l → (bmore x l).toNat = tI (8 * l.length) (x.toNat ^^^ numB l)
  | [], x, h => by simp [bmore, tI, numB]
  | c :: l, x, h => by
    obtain ⟨h1, h2⟩ := h c List.mem_cons_self
    have ih := bmore_T l (bbyte x c) fun c hc => h c (List.mem_cons_of_mem _ hc)
    have e : bmore x (c :: l) = bmore (bbyte x c) l := by simp [bmore]
    rw [e, ih, bbyte_T x h1 h2]
    have e2 : numB (c :: l) = (2 ^ 8 * numB l) ^^^ c.toNat := by rw [xor_add (by omega)]; simp only [numB]; omega
    rw [e2, show 8 * (c :: l).length = 8 + 8 * l.length by simp; omega, tI_add]
    congr 1
    rw [Nat.xor_comm (2 ^ 8 * numB l), ← Nat.xor_assoc, tI_xor 8 (x.toNat ^^^ c.toNat) (2 ^ 8 * numB l), tI_shift]
theorem numB_fix (v : Nat) (h : v < 4294967296) : numB (fix4 v) = v := by
  refine (numB_fix4 (l := fix4 v) (v := v) (fun c hc => ?_) (by simp [fix4]) h).2 rfl
  simp [fix4] at hc; omega
def goodSum : Nat := tI 32 4294967295
theorem fix4_isB (v : Nat) : isB (fix4 v) := fun c hc => by simp [fix4] at hc; omega
theorem compl_xor (S : B32) : S.toNat ^^^ (~~~ S).toNat = 4294967295 := by
  have e : S ^^^ ~~~ S = BitVec.allOnes 32 := by rw [← BitVec.xor_allOnes, ← BitVec.xor_assoc, BitVec.xor_self, BitVec.zero_xor]
  have e2 := congrArg BitVec.toNat e
  rw [BitVec.toNat_xor, BitVec.toNat_allOnes] at e2
  exact e2
theorem good_fix (S : B32) : (bmore S (fix4 (~~~ S).toNat)).toNat = goodSum := by
  have hlt := (~~~ S).isLt
  have h := bmore_T (fix4 (~~~ S).toNat) S (fix4_isB _)
  rw [numB_fix _ hlt, compl_xor] at h
  exact h
/-- Every frame has the same sum over all its bytes. -/
theorem frame_sum_const {d : List Int} (hb : isB d) : tI (8 * (encF d).length) (4294967295 ^^^ numB (encF d)) = goodSum := by
  have hbF : isB (encF d) := by
    unfold encF
    exact isB_app.2 ⟨put_isB _, isB_app.2 ⟨hb, fix4_isB _⟩⟩
  have h1 := bmore_T (encF d) (BitVec.allOnes 32) hbF
  have h2 : (BitVec.allOnes 32).toNat = 4294967295 := BitVec.toNat_allOnes
  rw [h2] at h1
  rw [← h1]
  have e : encF d = (put (d.length : Int) ++ d) ++ fix4 (~~~ bmore (BitVec.allOnes 32) (put (d.length : Int) ++ d)).toNat := by simp only [encF, List.append_assoc]; rfl
  rw [e, ← bmore_app]
  exact good_fix _
theorem numB_set : ∀ {l : List Int} {i : Nat} {c : Int}, isB l → l[i]? = some c → ∀ m : Nat, m < 8 → numB (l.set i (((c.toNat ^^^ 2 ^ m : Nat)) : Int)) = numB l ^^^ 2 ^ (8 * i + m)
  | [], i, c, hb, h, m, hm => by simp at h
  | a :: l, 0, c, hb, h, m, hm => by
    simp at h; subst h
    obtain ⟨h1, h2⟩ := hb a List.mem_cons_self
    have hp : 2 ^ m < 2 ^ 8 := Nat.pow_lt_pow_right (by omega) hm
    have hx : a.toNat ^^^ 2 ^ m < 2 ^ 8 := Nat.xor_lt_two_pow (by omega) hp
    simp only [List.set_cons_zero, numB, Int.toNat_natCast]
    rw [Nat.add_comm, show (256 : Nat) = 2 ^ 8 from rfl, ← xor_add hx, Nat.add_comm (a.toNat), ← xor_add (show a.toNat < 2 ^ 8 by omega), Nat.xor_assoc]
    simp
  | a :: l, i + 1, c, hb, h, m, hm => by
    obtain ⟨h1, h2⟩ := hb a List.mem_cons_self
    have ih := numB_set (l := l) (i := i) (c := c) (fun c hc => hb c (List.mem_cons_of_mem _ hc)) (by simpa using h) m hm
    simp only [List.set_cons_succ, numB]
    rw [ih, Nat.add_comm, show (256 : Nat) = 2 ^ 8 from rfl, ← xor_add (show a.toNat < 2 ^ 8 by omega), Nat.add_comm (a.toNat), ← xor_add (show a.toNat < 2 ^ 8 by omega)]
    have : 2 ^ 8 * (numB l ^^^ 2 ^ (8 * i + m)) = (2 ^ 8 * numB l) ^^^ 2 ^ (8 * (i + 1) + m) := by
      have := Nat.shiftLeft_xor_distrib (a := numB l) (b := 2 ^ (8 * i + m)) (i := 8)
      simp only [Nat.shiftLeft_eq] at this
      rw [Nat.mul_comm, this, Nat.mul_comm (numB l), ← Nat.pow_add]
      congr 2; omega
    rw [this, Nat.xor_assoc, Nat.xor_comm (2 ^ (8 * (i + 1) + m)), ← Nat.xor_assoc]
end Go.Dvm.I
