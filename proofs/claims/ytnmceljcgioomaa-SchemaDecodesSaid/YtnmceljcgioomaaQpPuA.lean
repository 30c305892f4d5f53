/- Plain laws of the functions. -/
import Derived.Test.YtnmceljcgioomaaQi
set_option linter.all false
namespace Go.Dvm.I
open Go Go.Dvm

/-- With enough rounds. -/
def Ev {R : Type} (g : Nat → Option R) (r : R) : Prop := ∃ N, ∀ q, N ≤ q → g q = some r
section
variable {R S : Type}
theorem Ev.ret (r : R) : Ev (fun _ => some r) r := ⟨0, fun _ _ => rfl⟩
theorem Ev.ret' {r r' : R} (h : r = r') : Ev (fun _ => some r) r' := ⟨0, fun _ _ => by rw [h]⟩
theorem Ev.succ {f g : Nat → Option R} {r : R} (h : Ev g r) (e : ∀ q, f (q + 1) = g q) : Ev f r := by
  obtain ⟨N, h⟩ := h
  refine ⟨N + 1, fun q hq => ?_⟩
  obtain ⟨q, rfl⟩ : ∃ p, q = p + 1 := ⟨q - 1, by omega⟩
  rw [e]; exact h q (by omega)
theorem Ev.bind {g : Nat → Option S} {k : Nat → S → Option R} {s : S} {r : R} (h : Ev g s) (h2 : Ev (fun q => k q s) r) : Ev (fun q => (g q).bind (k q)) r := by
  obtain ⟨N, h⟩ := h
  obtain ⟨M, h2⟩ := h2
  exact ⟨N + M, fun q hq => by show (g q).bind (k q) = some r; rw [h q (by omega), Option.bind_some]; exact h2 q (by omega)⟩
theorem Ev.opt {o : Option S} {k : Nat → S → Option R} {s : S} {r : R} (h : o = some s) (h2 : Ev (fun q => k q s) r) : Ev (fun q => o.bind (k q)) r := by
  subst h; exact h2
theorem Ev.pos {c : Prop} [Decidable c] {a b : Nat → Option R} {r : R} (hc : c) (h : Ev a r) : Ev (fun q => if c then a q else b q) r := by
  obtain ⟨N, h⟩ := h
  exact ⟨N, fun q hq => by show (if c then a q else b q) = some r; rw [if_pos hc]; exact h q hq⟩
theorem Ev.neg {c : Prop} [Decidable c] {a b : Nat → Option R} {r : R} (hc : ¬ c) (h : Ev b r) : Ev (fun q => if c then a q else b q) r := by
  obtain ⟨N, h⟩ := h
  exact ⟨N, fun q hq => by show (if c then a q else b q) = some r; rw [if_neg hc]; exact h q hq⟩
theorem Ev.ite {c : Prop} [Decidable c] {a b : Nat → Option R} {r : R} (h1 : c → Ev a r) (h2 : ¬ c → Ev b r) : Ev (fun q => if c then a q else b q) r := by
  by_cases hc : c
  · exact .pos hc (h1 hc)
  · exact .neg hc (h2 hc)
theorem Ev.get {f : Nat → Option R} {r : R} (h : Ev f r) : ∃ q, f q = some r := by
  obtain ⟨N, h⟩ := h; exact ⟨N, h N (Nat.le_refl _)⟩
theorem Ev.cast {f : Nat → Option R} {r r' : R} (h : Ev f r) (e : r = r') : Ev f r' := e ▸ h
end

/-! Numbers -/
theorem wrp_i64 {x : Int} (h1 : -9223372036854775808 ≤ x) (h2 : x ≤ 9223372036854775807) : wrp .i64 x = x := by
  unfold wrp; simp [IntKind.wrap, IntKind.min, IntKind.max, IntKind.signed, IntKind.bits] <;> omega
theorem wrp_u64 {x : Int} (h1 : 0 ≤ x) (h2 : x ≤ 18446744073709551615) : wrp .u64 x = x := by
  unfold wrp; simp [IntKind.wrap, IntKind.min, IntKind.max, IntKind.signed, IntKind.bits] <;> omega
theorem wrp_u32 {x : Int} (h1 : 0 ≤ x) (h2 : x ≤ 4294967295) : wrp .u32 x = x := by
  unfold wrp; simp [IntKind.wrap, IntKind.min, IntKind.max, IntKind.signed, IntKind.bits] <;> omega
theorem wrp_u8 (x : Int) : wrp .u8 x = x % 256 := by
  unfold wrp; simp [IntKind.wrap, IntKind.min, IntKind.max, IntKind.signed, IntKind.bits] <;> omega
theorem ishr_u64 {x : Int} (h1 : 0 ≤ x) : ishr .u64 x 7 = x / 128 := by
  unfold ishr; simp [IntKind.bits]
  rw [Int.fdiv_eq_ediv_of_nonneg]; omega
theorem or128 {x : Int} (h1 : 0 ≤ x) (h2 : x < 256) : ibits .or .u8 x 128 = x % 128 + 128 := by
  obtain ⟨n, rfl⟩ := Int.eq_ofNat_of_zero_le h1
  have hn : n < 256 := by omega
  have : ∀ m : Fin 256, ibits .or .u8 (m.val : Int) 128 = (m.val : Int) % 128 + 128 := by unfold ibits; decide +kernel
  exact this ⟨n, hn⟩

/-- A number's groups. -/
def grp (n : Nat) : List Int := if h : n < 128 then [(n : Int)] else ((n % 128 + 128 : Nat) : Int) :: grp (n / 128)
theorem grp_lt {n : Nat} (h : n < 128) : grp n = [(n : Int)] := by rw [grp, dif_pos h]
theorem grp_ge {n : Nat} (h : ¬ n < 128) : grp n = ((n % 128 + 128 : Nat) : Int) :: grp (n / 128) := by rw [grp, dif_neg h]
theorem grp_len : ∀ (k : Nat) {n : Nat}, n < 128 ^ (k + 1) → (grp n).length ≤ k + 1
  | 0, n, h => by rw [grp_lt (by simpa using h)]; simp
  | k + 1, n, h => by
    by_cases hn : n < 128
    · rw [grp_lt hn]; simp
    · rw [grp_ge hn]
      have := grp_len k (n := n / 128) (by rw [Nat.div_lt_iff_lt_mul (by omega)]; rw [Nat.pow_succ] at h; exact h)
      simp; omega
theorem grp_len10 {n : Nat} (h : n < 18446744073709551616) : (grp n).length ≤ 10 := grp_len 9 (by omega)
theorem grp_pos (n : Nat) : 1 ≤ (grp n).length := by
  by_cases hn : n < 128
  · rw [grp_lt hn]; simp
  · rw [grp_ge hn]; simp
theorem grp_inj : ∀ {a b : Nat} {x y : List Int}, grp a ++ x = grp b ++ y → a = b ∧ x = y := by
  intro a
  induction a using Nat.strongRecOn with
  | ind a ih =>
    intro b x y h
    by_cases ha : a < 128 <;> by_cases hb : b < 128
    · rw [grp_lt ha, grp_lt hb] at h
      simp at h; exact ⟨by omega, h.2⟩
    · rw [grp_lt ha, grp_ge hb] at h
      simp at h; omega
    · rw [grp_ge ha, grp_lt hb] at h
      simp at h; omega
    · rw [grp_ge ha, grp_ge hb] at h
      simp only [List.cons_append, List.cons.injEq] at h
      obtain ⟨h1, h2⟩ := h
      obtain ⟨h3, h4⟩ := ih (a / 128) (by omega) h2
      exact ⟨by omega, h4⟩

theorem num_groups_l0_ev : ∀ (n : Nat) (z : Bool) (l : List Int) (x : Bool), l.length + (grp n).length ≤ 4294967296 → Ev (fun q => num_groups_l0 q (n : Int) z l x) ⟨false, x, l ++ grp n⟩ := by
  intro n
  induction n using Nat.strongRecOn with
  | ind n ih =>
    intro z l x hl
    refine Ev.succ ?_ (fun q => rfl)
    by_cases hn : n < 128
    · rw [grp_lt hn] at hl ⊢
      refine Ev.neg (by omega) (Ev.pos (by simpa using hl) (Ev.ret' ?_))
      rw [wrp_u8]; congr 3; omega
    · rw [grp_ge hn] at hl ⊢
      simp only [List.length_cons] at hl
      refine Ev.pos (by omega) (Ev.pos (by omega) ?_)
      rw [ishr_u64 (by omega), wrp_u8, or128 (by omega) (by omega)]
      have := ih (n / 128) (by omega) false (l ++ [((n % 128 + 128 : Nat) : Int)]) x (by simp; omega)
      rw [show ((n : Int) % 256 % 128 + 128) = ((n % 128 + 128 : Nat) : Int) by omega, show ((n : Int) / 128) = ((n / 128 : Nat) : Int) by omega]
      simpa using this

theorem num_groups_ev {u : Int} (h1 : 0 ≤ u) (b : Ow Int) (hl : b.xs.length + (grp u.toNat).length ≤ 4294967296) : Ev (fun q => num_groups q b u) ⟨false, b.x, b.xs ++ grp u.toNat⟩ := by
  have := num_groups_l0_ev u.toNat b.n b.xs b.x hl
  rw [Int.toNat_of_nonneg h1] at this
  exact Ev.succ this (fun q => rfl)

/-- What a number puts behind bytes. -/
def put (n : Int) : List Int := if n < 0 then [] else if 4611686018427387904 ≤ n then [] else grp n.toNat
theorem put_ok {n : Int} (h1 : 0 ≤ n) (h2 : n < 4611686018427387904) : put n = grp n.toNat := by
  unfold put; rw [if_neg (by omega), if_neg (by omega)]
theorem put_len (n : Int) : (put n).length ≤ 10 := by
  unfold put; split
  · simp
  · split
    · simp
    · exact grp_len10 (by omega)
theorem num_Put_ev {n : Int} (b : Ow Int) (h1 : 0 ≤ n) (h2 : n < 4611686018427387904) (hl : b.xs.length + 10 ≤ 4294967296) : Ev (fun q => num_Put q b n) ⟨false, b.x, b.xs ++ put n⟩ := by
  refine Ev.succ ?_ (fun q => rfl)
  rw [put_ok h1 h2]
  have hg := grp_len10 (n := n.toNat) (by omega)
  refine Ev.neg (by omega) (Ev.neg (by omega) ?_)
  rw [wrp_u64 h1 (by omega)]
  exact Ev.bind (num_groups_ev h1 b (by omega)) (Ev.ret _)

/-- Zigzag. -/
def zig (n : Int) : Nat := if 0 ≤ n then 2 * n.toNat else 2 * (-n).toNat - 1
theorem zig_inj {a b : Int} (h : zig a = zig b) : a = b := by
  unfold zig at h; split at h <;> split at h <;> omega
theorem zig_lt {n : Int} (h : inR .i64 n) : zig n < 18446744073709551616 := by
  simp [inR, IntKind.min, IntKind.max, IntKind.signed, IntKind.bits] at h
  unfold zig; split <;> omega
def putS (n : Int) : List Int := grp (zig n)
theorem wrp_def (k : IntKind) (n : Int) : k.wrap n = wrp k n := by unfold wrp; rfl
theorem xor0 {x : Int} (h1 : 0 ≤ x) (h2 : x < 18446744073709551616) : ibits .xor .u64 x 0 = x := by
  have e : ibits .xor .u64 x 0 = IntKind.wrap .u64 (((BitVec.ofInt 64 x ^^^ 0#64 : BitVec 64).toNat : Nat) : Int) := by unfold ibits; rfl
  rw [e, BitVec.xor_zero, BitVec.toNat_ofInt, wrp_def, wrp_u64] <;> omega
theorem xor1 {x : Int} (h1 : 0 ≤ x) (h2 : x < 18446744073709551616) : ibits .xor .u64 x 18446744073709551615 = 18446744073709551615 - x := by
  have e : ibits .xor .u64 x 18446744073709551615 = IntKind.wrap .u64 (((BitVec.ofInt 64 x ^^^ BitVec.allOnes 64 : BitVec 64).toNat : Nat) : Int) := by unfold ibits; rfl
  rw [e, BitVec.xor_allOnes, BitVec.toNat_not, BitVec.toNat_ofInt, wrp_def, wrp_u64] <;> omega
theorem ishl1 {x : Int} (h1 : 0 ≤ x) : ishl .u64 x 1 = (2 * x) % 18446744073709551616 := by
  unfold ishl
  simp [IntKind.wrap, IntKind.signed, IntKind.bits]
  omega
theorem wrp_u64m (x : Int) : wrp .u64 x = x % 18446744073709551616 := by
  unfold wrp; simp [IntKind.wrap, IntKind.signed, IntKind.bits]
theorem ishr63 {x : Int} (h : inR .i64 x) : ishr .i64 x 63 = if 0 ≤ x then 0 else -1 := by
  simp [inR, IntKind.min, IntKind.max, IntKind.signed, IntKind.bits] at h
  unfold ishr; simp [IntKind.bits]
  rw [Int.fdiv_eq_ediv_of_nonneg _ (by omega)]
  split <;> omega
theorem num_Zig_ev {n : Int} (h : inR .i64 n) : Ev (fun q => num_Zig q n) ((zig n : Nat) : Int) := by
  refine Ev.succ (Ev.ret' ?_) (fun q => rfl)
  have hr := h
  simp [inR, IntKind.min, IntKind.max, IntKind.signed, IntKind.bits] at hr
  rw [ishr63 h]
  by_cases h0 : 0 ≤ n
  · rw [if_pos h0, wrp_u64 h0 (by omega), ishl1 h0, wrp_u64 (by omega) (by omega), xor0 (by omega) (by omega)]
    unfold zig; rw [if_pos h0]; omega
  · rw [if_neg h0, wrp_u64m n, ishl1 (by omega), show wrp .u64 (-1) = 18446744073709551615 by rw [wrp_u64m]; rfl, xor1 (by omega) (by omega)]
    unfold zig; rw [if_neg h0]; omega
theorem num_PutSigned_ev {n : Int} (b : Ow Int) (h : inR .i64 n) (hl : b.xs.length + 10 ≤ 4294967296) : Ev (fun q => num_PutSigned q b n) ⟨false, b.x, b.xs ++ putS n⟩ := by
  refine Ev.succ ?_ (fun q => rfl)
  have hg := grp_len10 (zig_lt h)
  have := num_groups_ev (u := (zig n : Nat)) (by omega) b (by simpa using (by omega : b.xs.length + (grp (zig n)).length ≤ 4294967296))
  rw [Int.toNat_natCast] at this
  exact Ev.bind (num_Zig_ev h) (Ev.bind this (Ev.ret _))
end Go.Dvm.I
