/- Plain laws of the functions: part 1. -/
import Derived.Test.YtnppecdklidmmaaGreatQi
set_option linter.all false
set_option maxRecDepth 100000
namespace Go.Dvm.I
open Go Go.Dvm
/-- With enough rounds. -/
def Ev {R : Type} (g : Nat → Option R) (r : R) : Prop := ∃ N, ∀ q, N ≤ q → g q = some r
section
variable {R S : Type}
theorem Ev.ret (r : R) : Ev (fun _ => some r) r := ⟨0, fun _ _ => rfl⟩
theorem Ev.ret' {r r' : R} (h : r = r') : Ev (fun _ => some r) r' := ⟨0, fun _ _ => by rw [h]⟩
theorem Ev.succ {f g : Nat → Option R} {r : R} (h : Ev g r) (e : ∀ q, f (q + 1) = g q) : Ev f r := by
 obtain ⟨N, h⟩ := h
 refine ⟨N + 1, fun q hq => ?_⟩
 obtain ⟨q, rfl⟩ : ∃ p, q = p + 1 := ⟨q - 1, by omega⟩
 rw [e]; exact h q (by omega)
theorem Ev.bind {g : Nat → Option S} {k : Nat → S → Option R} {s : S} {r : R} (h : Ev g s) (h2 : Ev (fun q => k q s) r) : Ev (fun q => (g q).bind (k q)) r := by
 obtain ⟨N, h⟩ := h
 obtain ⟨M, h2⟩ := h2
 exact ⟨N + M, fun q hq => by show (g q).bind (k q) = some r; rw [h q (by omega), y7]; exact h2 q (by omega)⟩
theorem Ev.opt {o : Option S} {k : Nat → S → Option R} {s : S} {r : R} (h : o = some s) (h2 : Ev (fun q => k q s) r) : Ev (fun q => o.bind (k q)) r := by
 subst h; exact h2
theorem Ev.pos {c : Prop} [Decidable c] {a b : Nat → Option R} {r : R} (hc : c) (h : Ev a r) : Ev (fun q => if c then a q else b q) r := by
 obtain ⟨N, h⟩ := h
 exact ⟨N, fun q hq => by show (if c then a q else b q) = some r; rw [if_pos hc]; exact h q hq⟩
theorem Ev.neg {c : Prop} [Decidable c] {a b : Nat → Option R} {r : R} (hc : ¬ c) (h : Ev b r) : Ev (fun q => if c then a q else b q) r := by
 obtain ⟨N, h⟩ := h
 exact ⟨N, fun q hq => by show (if c then a q else b q) = some r; rw [if_neg hc]; exact h q hq⟩
theorem Ev.po {c : Prop} [Decidable c] {a b : Nat → Option R} {r : R} (h : Ev a r) (hc : c := by omega) : Ev (fun q => if c then a q else b q) r := Ev.pos hc h
theorem Ev.ne {c : Prop} [Decidable c] {a b : Nat → Option R} {r : R} (h : Ev b r) (hc : ¬ c := by omega) : Ev (fun q => if c then a q else b q) r := Ev.neg hc h
theorem Ev.ite {c : Prop} [Decidable c] {a b : Nat → Option R} {r : R} (h1 : c → Ev a r) (h2 : ¬ c → Ev b r) : Ev (fun q => if c then a q else b q) r := by
 by_cases hc : c
 ·exact .pos hc (h1 hc)
 ·exact .neg hc (h2 hc)
theorem Ev.get {f : Nat → Option R} {r : R} (h : Ev f r) : ∃ q, f q = some r := by
 obtain ⟨N, h⟩ := h; exact ⟨N, h N (y16 _)⟩
theorem Ev.cast {f : Nat → Option R} {r r' : R} (h : Ev f r) (e : r = r') : Ev f r' := e ▸ h
end
theorem zb9h {x : Int} (h1 : -9223372036854775808 ≤ x) (h2 : x ≤ 9223372036854775807) : wrp .i64 x = x := by
 unfold wrp; simp [IntKind.wrap, IntKind.min, IntKind.max, IntKind.signed, IntKind.bits] <;> omega
theorem zb9i {x : Int} (h1 : 0 ≤ x) (h2 : x ≤ 18446744073709551615) : wrp .u64 x = x := by
 unfold wrp; simp [IntKind.wrap, IntKind.min, IntKind.max, IntKind.signed, IntKind.bits] <;> omega
theorem zb9j {x : Int} (h1 : 0 ≤ x) (h2 : x ≤ 4294967295) : wrp .u32 x = x := by
 unfold wrp; simp [IntKind.wrap, IntKind.min, IntKind.max, IntKind.signed, IntKind.bits] <;> omega
theorem wrp_u8 (x : Int) : wrp .u8 x = x % 256 := by
 unfold wrp; simp [IntKind.wrap, IntKind.min, IntKind.max, IntKind.signed, IntKind.bits] <;> omega
theorem zb9k {x : Int} (h1 : 0 ≤ x) : ishr .u64 x 7 = x / 128 := by
 unfold ishr; simp [IntKind.bits]
 rw [y55]; omega
theorem or128 {x : Int} (h1 : 0 ≤ x) (h2 : x < 256) : ibits .or .u8 x 128 = x % 128 + 128 := by
 obtain ⟨n, rfl⟩ := Int.eq_ofNat_of_zero_le h1
 have hn : n < 256 := by omega
 have : ∀ m : Fin 256, ibits .or .u8 (m.val : Int) 128 = (m.val : Int) % 128 + 128 := by unfold ibits; decide +kernel
 exact this ⟨n, hn⟩
/-- A number's groups. -/
def grp (n : Nat) : List Int := if h : n < 128 then [(n : Int)] else ((n % 128 + 128 : Nat) : Int) :: grp (n / 128)
theorem grp_lt {n : Nat} (h : n < 128) : grp n = [(n : Int)] := by rw [grp, dif_pos h]
theorem grp_ge {n : Nat} (h : ¬ n < 128) : grp n = ((n % 128 + 128 : Nat) : Int) :: grp (n / 128) := by rw [grp, dif_neg h]
theorem zb9l : ∀ (k : Nat) {n : Nat}, n < 128 ^ (k + 1) → (grp n).length ≤ k + 1
 | 0, n, h => by rw [grp_lt (by simpa using h)]; simp
 | k + 1, n, h => by
  by_cases hn : n < 128
  ·rw [grp_lt hn]; simp
  ·rw [grp_ge hn]
   have := zb9l k (n := n / 128) (by rw [Nat.div_lt_iff_lt_mul (by omega)]; rw [Nat.pow_succ] at h; exact h)
   simp; omega
theorem zb9m {n : Nat} (h : n < 18446744073709551616) : (grp n).length ≤ 10 := zb9l 9 (by omega)
theorem zb9n (n : Nat) : 1 ≤ (grp n).length := by
 by_cases hn : n < 128
 ·rw [grp_lt hn]; simp
 ·rw [grp_ge hn]; simp
theorem zb9o : ∀ (n : Nat) (z : Bool) (l : List Int) (x : Bool), l.length + (grp n).length ≤ 4294967296 → Ev (fun q => zlh q (n : Int) z l x) ⟨false, x, l ++ grp n⟩ := by
 intro n
 induction n using Nat.strongRecOn with
 | ind n ih =>
  intro z l x hl
  refine Ev.succ ?_ (fun q => rfl)
  by_cases hn : n < 128
  ·rw [grp_lt hn] at hl ⊢
   refine Ev.ne (Ev.pos (by simpa using hl) (Ev.ret' ?_))
   rw [wrp_u8]; congr 3; omega
  ·rw [grp_ge hn] at hl ⊢
   simp only [y23] at hl
   refine Ev.po (Ev.pos (by omega) ?_)
   rw [zb9k (by omega), wrp_u8, or128 (by omega) (by omega)]
   have := ih (n / 128) (by omega) false (l ++ [((n % 128 + 128 : Nat) : Int)]) x (by simp; omega)
   rw [show ((n : Int) % 256 % 128 + 128) = ((n % 128 + 128 : Nat) : Int) by omega, show ((n : Int) / 128) = ((n / 128 : Nat) : Int) by omega]
   simpa using this
theorem zb9p {u : Int} (h1 : 0 ≤ u) (b : Ow Int) (hl : b.xs.length + (grp u.toNat).length ≤ 4294967296) : Ev (fun q => zli q b u) ⟨false, b.x, b.xs ++ grp u.toNat⟩ := by
 have := zb9o u.toNat b.n b.xs b.x hl
 rw [Int.toNat_of_nonneg h1] at this
 exact Ev.succ this (fun q => rfl)
/-- What a number puts behind bytes. -/
def put (n : Int) : List Int := if n < 0 then [] else if 4611686018427387904 ≤ n then [] else grp n.toNat
theorem put_ok {n : Int} (h1 : 0 ≤ n) (h2 : n < 4611686018427387904) : put n = grp n.toNat := by
 unfold put; rw [if_neg (by omega), if_neg (by omega)]
theorem zb9q (n : Int) : (put n).length ≤ 10 := by
 unfold put; split
 ·simp
 ·split
  ·simp
  ·exact zb9m (by omega)
theorem zb9r {n : Int} (b : Ow Int) (h1 : 0 ≤ n) (h2 : n < 4611686018427387904) (hl : b.xs.length + 10 ≤ 4294967296) : Ev (fun q => zlj q b n) ⟨false, b.x, b.xs ++ put n⟩ := by
 refine Ev.succ ?_ (fun q => rfl)
 rw [put_ok h1 h2]
 have hg := zb9m (n := n.toNat) (by omega)
 refine Ev.ne (Ev.neg (by omega) ?_)
 rw [zb9i h1 (by omega)]
 exact Ev.bind (zb9p h1 b (by omega)) (Ev.ret _)
/-- Zigzag. -/
def zig (n : Int) : Nat := if 0 ≤ n then 2 * n.toNat else 2 * (-n).toNat - 1
theorem zig_lt {n : Int} (h : inR .i64 n) : zig n < 18446744073709551616 := by
 simp [inR, IntKind.min, IntKind.max, IntKind.signed, IntKind.bits] at h
 unfold zig; split <;> omega
def putS (n : Int) : List Int := grp (zig n)
theorem zb9s (k : IntKind) (n : Int) : k.wrap n = wrp k n := by unfold wrp; rfl
theorem xor0 {x : Int} (h1 : 0 ≤ x) (h2 : x < 18446744073709551616) : ibits .xor .u64 x 0 = x := by
 have e : ibits .xor .u64 x 0 = IntKind.wrap .u64 (((BitVec.ofInt 64 x ^^^ 0#64 : BitVec 64).toNat : Nat) : Int) := by unfold ibits; rfl
 rw [e, BitVec.xor_zero, y51, zb9s, zb9i] <;> omega
theorem xor1 {x : Int} (h1 : 0 ≤ x) (h2 : x < 18446744073709551616) : ibits .xor .u64 x 18446744073709551615 = 18446744073709551615 - x := by
 have e : ibits .xor .u64 x 18446744073709551615 = IntKind.wrap .u64 (((BitVec.ofInt 64 x ^^^ BitVec.allOnes 64 : BitVec 64).toNat : Nat) : Int) := by unfold ibits; rfl
 rw [e, BitVec.xor_allOnes, BitVec.toNat_not, y51, zb9s, zb9i] <;> omega
theorem ishl1 {x : Int} (h1 : 0 ≤ x) : ishl .u64 x 1 = (2 * x) % 18446744073709551616 := by
 unfold ishl
 simp [IntKind.wrap, IntKind.signed, IntKind.bits]
 omega
theorem zb9t (x : Int) : wrp .u64 x = x % 18446744073709551616 := by
 unfold wrp; simp [IntKind.wrap, IntKind.signed, IntKind.bits]
theorem ishr63 {x : Int} (h : inR .i64 x) : ishr .i64 x 63 = if 0 ≤ x then 0 else -1 := by
 simp [inR, IntKind.min, IntKind.max, IntKind.signed, IntKind.bits] at h
 unfold ishr; simp [IntKind.bits]
 rw [y55 _ (by omega)]
 split <;> omega
theorem zb9u {n : Int} (h : inR .i64 n) : Ev (fun q => zlk q n) ((zig n : Nat) : Int) := by
 refine Ev.succ (Ev.ret' ?_) (fun q => rfl)
 have hr := h
 simp [inR, IntKind.min, IntKind.max, IntKind.signed, IntKind.bits] at hr
 rw [ishr63 h]
 by_cases h0 : 0 ≤ n
 ·rw [if_pos h0, zb9i h0 (by omega), ishl1 h0, zb9i (by omega) (by omega), xor0 (by omega) (by omega)]
  unfold zig; rw [if_pos h0]; omega
 ·rw [if_neg h0, zb9t n, ishl1 (by omega), show wrp .u64 (-1) = 18446744073709551615 by rw [zb9t]; rfl, xor1 (by omega) (by omega)]
  unfold zig; rw [if_neg h0]; omega
theorem zb9v {n : Int} (b : Ow Int) (h : inR .i64 n) (hl : b.xs.length + 10 ≤ 4294967296) : Ev (fun q => zll q b n) ⟨false, b.x, b.xs ++ putS n⟩ := by
 refine Ev.succ ?_ (fun q => rfl)
 have hg := zb9m (zig_lt h)
 have := zb9p (u := (zig n : Nat)) (by omega) b (by simpa using (by omega : b.xs.length + (grp (zig n)).length ≤ 4294967296))
 rw [y30] at this
 exact Ev.bind (zb9u h) (Ev.bind this (Ev.ret _))
def cutI (n : Int) : Int := if n < -1099511627776 then -1099511627776 else if 1099511627776 < n then 1099511627776 else n
theorem zb9w (n : Int) : Ev (fun q => zkj q n) (cutI n) := by
 refine Ev.succ (Ev.ret' ?_) (fun q => rfl)
 unfold cutI; split <;> split <;> split <;> (try split) <;> omega
theorem zb9x (n : Int) : Ev (fun q => zms q n) (cutI n) := by
 refine Ev.succ ?_ (fun q => rfl)
 unfold cutI
 refine Ev.ite (fun h => ?_) fun h => Ev.ite (fun h1 => ?_) fun h1 => ?_
 ·rw [if_pos h]; exact Ev.ret _
 ·rw [if_neg h, if_pos h1]; exact Ev.ret _
 ·rw [if_neg h, if_neg h1]; exact Ev.ret _
def fitsOp (o : zj7) : Bool := decide (0 ≤ o.Code) && (decide (o.Code ≤ 10) && (decide (o.A = cutI o.A) && decide (o.B = cutI o.B)))
theorem zb9y (o : zj7) : Ev (fun q => zkk q o) (fitsOp o) := by
 refine Ev.succ ?_ (fun q => rfl)
 unfold fitsOp
 refine Ev.ite (fun h => Ev.ite (fun h1 => Ev.bind (zb9w _) (Ev.ite (fun h2 => Ev.bind (zb9w _) (Ev.ret' ?_)) fun h2 => Ev.ret' ?_)) fun h1 => Ev.ret' ?_) fun h => Ev.ret' ?_
 ·rw [decide_eq_true h, decide_eq_true h1, decide_eq_true h2]; rfl
 ·rw [decide_eq_true h, decide_eq_true h1, decide_eq_false h2]; rfl
 ·rw [decide_eq_true h, decide_eq_false h1]; rfl
 ·rw [decide_eq_false h]; rfl
theorem zb9z {n : Int} : n = cutI n ↔ -1099511627776 ≤ n ∧ n ≤ 1099511627776 := by
 unfold cutI
 by_cases h1 : n < -1099511627776
 ·rw [if_pos h1]; omega
 ·rw [if_neg h1]
  by_cases h2 : 1099511627776 < n
  ·rw [if_pos h2]; omega
  ·rw [if_neg h2]; omega
theorem zb90 {o : zj7} : fitsOp o = true ↔ 0 ≤ o.Code ∧ o.Code ≤ 10 ∧ (-1099511627776 ≤ o.A ∧ o.A ≤ 1099511627776) ∧ (-1099511627776 ≤ o.B ∧ o.B ≤ 1099511627776) := by
 simp only [fitsOp, y8, decide_eq_true_eq, zb9z]
def FitsR (r : zj8) : Prop := 0 ≤ r.Index ∧ r.Index < 4611686018427387904 ∧ 0 ≤ r.Proc ∧ r.Proc ≤ 64 ∧ 0 ≤ r.Seq ∧ r.Seq < 4611686018427387904 ∧ fitsOp r.Op = true ∧ -1125899906842624 ≤ r.Resp ∧ r.Resp ≤ 1125899906842624
instance (r : zj8) : Decidable (FitsR r) := by unfold FitsR; infer_instance
theorem zb91 (r : zj8) : Ev (fun q => zkl q r) (decide (FitsR r)) := by
 refine Ev.succ ?_ (fun q => rfl)
 refine Ev.ite (fun h1 => Ev.ite (fun h2 => Ev.ite (fun h3 => Ev.ite (fun h4 => Ev.ite (fun h5 => Ev.ite (fun h6 => Ev.bind (zb9y _) (Ev.ite (fun h7 => Ev.ite (fun h8 => Ev.ret' ?_) fun h8 => Ev.ret' ?_) fun h7 => Ev.ret' ?_)) fun h6 => Ev.ret' ?_) fun h5 => Ev.ret' ?_) fun h4 => Ev.ret' ?_) fun h3 => Ev.ret' ?_) fun h2 => Ev.ret' ?_) fun h1 => Ev.ret' ?_ <;> simp only [FitsR, *] <;> simp
def opB (o : zj7) : List Int := put o.Code ++ (putS o.A ++ putS o.B)
theorem zb92 {n : Int} (h : inR .i64 n) : (putS n).length ≤ 10 := zb9m (zig_lt h)
theorem zb93 {n : Int} (h1 : -9223372036854775808 ≤ n) (h2 : n ≤ 9223372036854775807) : inR .i64 n := by
 simp [inR, IntKind.min, IntKind.max, IntKind.signed, IntKind.bits]; omega
theorem zb94 {o : zj7} (h : fitsOp o = true) : (opB o).length ≤ 30 := by
 obtain ⟨h1, h2, h3, h4⟩ := zb90.1 h
 have := zb9q o.Code
 have := zb92 (n := o.A) (zb93 (by omega) (by omega))
 have := zb92 (n := o.B) (zb93 (by omega) (by omega))
 simp only [opB, y12]; omega
theorem zb95 {o : zj7} (b : Ow Int) (h : fitsOp o = true) (hl : b.xs.length + 30 ≤ 4294967296) : Ev (fun q => zlm q b o) (⟨false, b.x, b.xs ++ opB o⟩, 0) := by
 obtain ⟨h1, h2, h3, h4⟩ := zb90.1 h
 refine Ev.succ ?_ (fun q => rfl)
 have := zb9q o.Code
 have hA : inR .i64 o.A := zb93 (by omega) (by omega)
 have hB : inR .i64 o.B := zb93 (by omega) (by omega)
 have := zb92 hA
 have := zb92 hB
 refine Ev.bind (zb9y o) (Ev.pos h (Ev.bind (zb9r b h1 (by omega) (by omega)) (Ev.bind (zb9v _ hA (by simp; omega)) (Ev.bind (zb9v _ hB (by simp; omega)) (Ev.ret' ?_)))))
 simp [opB]
abbrev B32 := BitVec 32
def u (a : B32) : Int := (a.toNat : Int)
theorem u_nn (a : B32) : 0 ≤ u a := Int.natCast_nonneg _
theorem u_lt (a : B32) : u a < 4294967296 := by unfold u; have := a.isLt; omega
theorem zb96 (a : B32) : BitVec.ofInt 32 (u a) = a := by
 apply BitVec.eq_of_toNat_eq; rw [y51]; unfold u; have := a.isLt; omega
theorem wrp_u (a : B32) : IntKind.wrap .u32 ((a.toNat : Nat) : Int) = u a := by
 have := a.isLt
 rw [zb9s, zb9j (by omega) (by omega)]; rfl
theorem xor_u (a b : B32) : ibits .xor .u32 (u a) (u b) = u (a ^^^ b) := by
 have e : ibits .xor .u32 (u a) (u b) = IntKind.wrap .u32 (((BitVec.ofInt 32 (u a) ^^^ BitVec.ofInt 32 (u b) : B32).toNat : Nat) : Int) := by unfold ibits; rfl
 rw [e, zb96, zb96, wrp_u]
theorem and_u (a b : B32) : ibits .and .u32 (u a) (u b) = u (a &&& b) := by
 have e : ibits .and .u32 (u a) (u b) = IntKind.wrap .u32 (((BitVec.ofInt 32 (u a) &&& BitVec.ofInt 32 (u b) : B32).toNat : Nat) : Int) := by unfold ibits; rfl
 rw [e, zb96, zb96, wrp_u]
theorem u_lit (n : Nat) (h : n < 4294967296) : u (BitVec.ofNat 32 n) = (n : Int) := by
 unfold u; rw [BitVec.toNat_ofNat]; omega
theorem zb97 (x : Int) : wrp .u32 x = x % 4294967296 := by
 unfold wrp; simp [IntKind.wrap, IntKind.signed, IntKind.bits]
theorem ishr_u (a : B32) (k : Nat) (hk : k ≤ 32) : ishr .u32 (u a) (k : Int) = u (a >>> k) := by
 unfold ishr u
 simp only [IntKind.bits, y30, Nat.min_eq_left hk]
 rw [y55 _ (by exact_mod_cast Nat.zero_le _), BitVec.toNat_ushiftRight, Nat.shiftRight_eq_div_pow]
 simp
theorem zb98 (a : B32) : ishr .u32 (u a) 1 = u (a >>> 1) := ishr_u a 1 (by omega)
theorem zb99 (a : B32) : ishr .u32 (u a) 8 = u (a >>> 8) := ishr_u a 8 (by omega)
def poly : B32 := 2197175160#32
def bstep (a : B32) : B32 := if a &&& 1#32 = 1#32 then (a >>> 1) ^^^ poly else a >>> 1
theorem and1 (a : B32) : a &&& 1#32 = 0#32 ∨ a &&& 1#32 = 1#32 := by
 have : (a &&& 1#32).toNat = a.toNat % 2 := by rw [BitVec.toNat_and]; exact Nat.and_one_is_mod _
 rcases Nat.mod_two_eq_zero_or_one a.toNat with h | h
 ·left; exact BitVec.eq_of_toNat_eq (by rw [this, h]; rfl)
 ·right; exact BitVec.eq_of_toNat_eq (by rw [this, h]; rfl)
/-- The program's step. -/
theorem zcaa (a : B32) : ibits .xor .u32 (ishr .u32 (u a) 1) (ibits .and .u32 2197175160 (wrp .u32 (0 - (ibits .and .u32 (u a) 1)))) = u (bstep a) := by
 have e1 : (1 : Int) = u 1#32 := rfl
 have e2 : (2197175160 : Int) = u poly := by unfold poly; rw [u_lit _ (by omega)]; rfl
 rw [zb98]
 conv => lhs; arg 4; rw [e2]; arg 4; rw [e1, and_u]
 unfold bstep
 rcases and1 a with h | h
 ·rw [h, if_neg (by decide)]
  have : wrp .u32 (0 - u 0#32) = u 0#32 := by rw [zb97]; rfl
  rw [this, and_u, BitVec.and_zero, xor_u, BitVec.xor_zero]
 ·rw [h, if_pos rfl]
  have : wrp .u32 (0 - u 1#32) = u (BitVec.allOnes 32) := by rw [zb97]; rfl
  rw [this, and_u, BitVec.and_allOnes, xor_u]
def biter : Nat → B32 → B32
 | 0, a => a
 | n + 1, a => biter n (bstep a)
def bentry (a : B32) : B32 := biter 8 a
theorem zcab (v2 v5 : Int) (t0 t1 : List Int) (r : List Int) : ∀ (k : Nat) (a : B32) (v10 : Int), v10 = 8 - k → k ≤ 8 → 0 ≤ v2 → v2.toNat < 256 → v2.toNat + 1 ≤ t1.length →
  Ev (fun q => zlp q (wrp .i64 (v5 + 1)) t0 (List.set t1 v2.toNat (u (biter k a)))) r → Ev (fun q => zlq q v2 (u a) v5 v10 t0 t1) r
 | 0, a, v10, h1, h2, h3, h4, h5, h => Ev.succ (Ev.ne (Ev.pos h3 (Ev.pos h4 (Ev.pos h5 h)))) (fun q => rfl)
 | k + 1, a, v10, h1, h2, h3, h4, h5, h => by
  refine Ev.succ (Ev.pos (by omega) ?_) (fun q => rfl)
  rw [zcaa, zb9h (by omega) (by omega)]
  exact zcab v2 v5 t0 t1 r k (bstep a) (v10 + 1) (by omega) (by omega) h3 h4 h5 h
/-- The table. -/
def tabN (n : Nat) : List Int := (List.range n).map fun i => u (bentry (BitVec.ofNat 32 i))
theorem zcac {n i : Nat} (h : i < n) : (tabN n)[i]? = some (u (bentry (BitVec.ofNat 32 i))) := by
 unfold tabN; rw [y44, List.getElem?_range h]; rfl
theorem zcad (n : Nat) : (tabN n).length = n := by simp [tabN]
theorem zcae : ∀ (k i : Nat) (t1 : List Int), i + k = 256 → t1.length = 256 → (∀ j, j < i → t1[j]? = (tabN 256)[j]?) → Ev (fun q => zlp q (i : Int) (List.replicate 256 0) t1) (tabN 256)
 | 0, i, t1, hk, hl, ht => by
  refine Ev.succ (Ev.ne (Ev.po (Ev.po (Ev.pos (by simp) (Ev.pos (by simp) (Ev.ret' ?_)))))) (fun q => rfl)
  have e : t1 = tabN 256 := by
   apply List.ext_getElem?
   intro j
   by_cases hj : j < 256
   ·exact ht j (by omega)
   ·rw [y52 (by omega), y52 (by rw [zcad]; omega)]
  have h2 := zcad 256
  rw [e, List.take_of_length_le (i := 256) (by omega : (tabN 256).length ≤ 256), y14 (by simp), List.append_nil, List.take_of_length_le (by omega)]
 | k + 1, i, t1, hk, hl, ht => by
  refine Ev.succ (Ev.pos (by omega) ?_) (fun q => rfl)
  have e : wrp .u32 (i : Int) = u (BitVec.ofNat 32 i) := by rw [u_lit _ (by omega), zb9j] <;> omega
  rw [e]
  refine zcab _ _ _ _ _ 8 _ 0 (by omega) (by omega) (by omega) (by omega) (by omega) ?_
  rw [zb9h (by omega) (by omega), show ((i : Int) + 1) = ((i + 1 : Nat) : Int) by omega, y30]
  refine zcae k (i + 1) _ (by omega) (by simpa using hl) fun j hj => ?_
  by_cases e : i = j
  ·subst e; rw [y25 (by omega), zcac (by omega)]; rfl
  ·rw [y31 e]; exact ht j (by omega)
theorem zcaf : Ev (fun q => zlr q) (tabN 256) :=
 Ev.succ (zcae 256 0 (List.replicate 256 0) (by omega) (by simp) (fun j hj => by omega)) (fun q => rfl)
/-- What a byte makes of a sum. -/
def bbyte (x : B32) (c : Int) : B32 := bentry ((x ^^^ BitVec.ofInt 32 c) &&& 255#32) ^^^ (x >>> 8)
def bmore (x : B32) (l : List Int) : B32 := l.foldl bbyte x
def isB (l : List Int) : Prop := ∀ c ∈ l, 0 ≤ c ∧ c < 256
theorem xor8 {x : B32} {c : Int} (h1 : 0 ≤ c) (h2 : c < 256) : ibits .xor .u8 (wrp .u8 (u x)) c = u ((x ^^^ BitVec.ofInt 32 c) &&& 255#32) := by
 have e : ibits .xor .u8 (wrp .u8 (u x)) c = IntKind.wrap .u8 (((BitVec.ofInt 8 (wrp .u8 (u x)) ^^^ BitVec.ofInt 8 c : BitVec 8).toNat : Nat) : Int) := by unfold ibits; rfl
 rw [e, zb9s, wrp_u8, wrp_u8]
 unfold u
 rw [BitVec.toNat_and, BitVec.toNat_xor, BitVec.toNat_xor, y51, y51, y51]
 obtain ⟨n, rfl⟩ := Int.eq_ofNat_of_zero_le h1
 have hn : n < 256 := by omega
 have e1 : (((x.toNat : Int) % 256 % ((2 ^ 8 : Nat) : Int)).toNat) = x.toNat % 256 := by omega
 have e2 : (((n : Int) % ((2 ^ 8 : Nat) : Int)).toNat) = n := by omega
 have e3 : (((n : Int) % ((2 ^ 32 : Nat) : Int)).toNat) = n := by omega
 rw [e1, e2, e3, show (255#32).toNat = 2 ^ 8 - 1 from rfl, Nat.and_two_pow_sub_one_eq_mod]
 have h3 : (x.toNat ^^^ n) % 2 ^ 8 = (x.toNat % 2 ^ 8) ^^^ (n % 2 ^ 8) := Nat.xor_mod_two_pow
 rw [h3, Nat.mod_eq_of_lt (show n < 2 ^ 8 by omega)]
 have h4 : (x.toNat % 2 ^ 8) ^^^ n < 2 ^ 8 := Nat.xor_lt_two_pow (Nat.mod_lt _ (by omega)) (by omega)
 simp only [Nat.reducePow] at h4 ⊢
 omega
theorem and255 (x : B32) : u (x &&& 255#32) < 256 := by
 unfold u
 rw [BitVec.toNat_and, show (255#32).toNat = 2 ^ 8 - 1 from rfl, Nat.and_two_pow_sub_one_eq_mod]; omega
theorem zcag (a : B32) : (u a).toNat = a.toNat := by unfold u; omega
theorem ones : (4294967295 : Int) = u (BitVec.allOnes 32) := rfl
theorem zcah (z : Bool) (l : List Int) (hb : isB l) (hl : l.length ≤ 1099511627776) : ∀ (k i : Nat) (x : B32), l.length = i + k → Ev (fun q => zls q (u x) z l (l.length : Int) (i : Int) (tabN 256)) (u (~~~ bmore x (l.drop i)))
 | 0, i, x, hk => by
  refine Ev.succ (Ev.ne (Ev.ret' ?_)) (fun q => rfl)
  rw [y14 (by omega), ones, xor_u]
  simp only [bmore, List.foldl_nil, BitVec.allOnes_xor]
 | k + 1, i, x, hk => by
  have hi : i < l.length := by omega
  have hg : l[(i : Int).toNat]? = some l[i] := by simpa using y9 hi
  obtain ⟨b1, b2⟩ := hb l[i] (y28 hi)
  refine Ev.succ (Ev.po (Ev.po (Ev.opt hg ?_))) (fun q => rfl)
  rw [xor8 b1 b2]
  have h255 := and255 (x ^^^ BitVec.ofInt 32 l[i])
  have hnn := u_nn ((x ^^^ BitVec.ofInt 32 l[i]) &&& 255#32)
  refine Ev.pos hnn (Ev.po (Ev.opt (zcac (by omega)) ?_))
  rw [zb99, xor_u, zb9h (by omega) (by omega), show ((i : Int) + 1) = ((i + 1 : Nat) : Int) by omega, zcag]
  have := zcah z l hb hl k (i + 1) (bentry ((x ^^^ BitVec.ofInt 32 l[i]) &&& 255#32) ^^^ (x >>> 8)) (by omega)
  rw [y11 hi]
  simp only [bmore, List.foldl_cons, bbyte, BitVec.ofNat_toNat, BitVec.setWidth_eq] at this ⊢
  exact this
theorem zcai (x : B32) (s : Sl Int) (hb : isB s.l) (hl : s.l.length ≤ 1099511627776) : Ev (fun q => zlt q (u x) s) (u (~~~ bmore (~~~ x) s.l)) := by
 refine Ev.succ (Ev.bind zcaf (Ev.pos (zcad 256) ?_)) (fun q => rfl)
 rw [ones, xor_u, BitVec.allOnes_xor]
 have := zcah s.z s.l hb hl s.l.length 0 (~~~ x) (by omega)
 rw [y40] at this
 exact this
/-- The sum of bytes. -/
def bsum (l : List Int) : B32 := ~~~ bmore (BitVec.allOnes 32) l
theorem zcaj (s : Sl Int) (hb : isB s.l) (hl : s.l.length ≤ 1099511627776) : Ev (fun q => zlu q s) (u (bsum s.l)) := by
 have := zcai 0#32 s hb hl
 exact Ev.succ (Ev.bind this (Ev.ret' (by simp [bsum]))) (fun q => rfl)
theorem zcak (x : B32) (a b : List Int) : bmore (bmore x a) b = bmore x (a ++ b) := by simp [bmore]
theorem zcal {x : Int} (h : 0 ≤ x) (k : Nat) (hk : k ≤ 64) : ishr .u64 x (k : Int) = x / ((2 ^ k : Nat) : Int) := by
 unfold ishr
 simp only [IntKind.bits, y30, Nat.min_eq_left hk]
 rw [y55 _ (by exact_mod_cast Nat.zero_le _)]
 simp
/-- A number in four bytes. -/
def fix4 (v : Nat) : List Int := [((v % 256 : Nat) : Int), ((v / 256 % 256 : Nat) : Int), ((v / 65536 % 256 : Nat) : Int), ((v / 16777216 % 256 : Nat) : Int)]
theorem zcam (v k : Nat) (hk : k ≤ 8) : wrp .u8 (ishr .u64 (v : Int) (wrp .i64 (8 * (k : Int)))) = ((v / 2 ^ (8 * k) % 256 : Nat) : Int) := by
 rw [zb9h (by omega) (by omega), show (8 * (k : Int)) = ((8 * k : Nat) : Int) by omega, zcal (by omega) _ (by omega), wrp_u8]
 exact_mod_cast rfl
def bytesFrom (v : Nat) : Nat → Nat → List Int
 | _, 0 => []
 | i, k + 1 => ((v / 2 ^ (8 * i) % 256 : Nat) : Int) :: bytesFrom v (i + 1) k
theorem zcan {v m : Nat} (hm : m ≤ 8) : ∀ (k i : Nat) (l : List Int), m = i + k → l.length + k ≤ 4294967296 → Ev (fun q => zlv q (v : Int) (m : Int) (i : Int) false l) ⟨false, true, l ++ bytesFrom v i k⟩
 | 0, i, l, hk, hl => Ev.succ (Ev.ne (Ev.ret' (by simp [bytesFrom]))) (fun q => rfl)
 | k + 1, i, l, hk, hl => by
  have w : wrp .i64 (8 * (i : Int)) = 8 * (i : Int) := zb9h (by omega) (by omega)
  refine Ev.succ (Ev.po (Ev.neg (by rw [w]; omega) (Ev.pos (by omega) ?_))) (fun q => rfl)
  rw [zcam v i (by omega), zb9h (x := (i : Int) + 1) (by omega) (by omega), show ((i : Int) + 1) = ((i + 1 : Nat) : Int) by omega]
  refine (zcan hm k (i + 1) _ (by omega) (by simp; omega)).cast ?_
  simp [bytesFrom]
theorem zcao {v m : Nat} (h0 : 0 < m) (hm : m ≤ 8) : Ev (fun q => zlw q (v : Int) (m : Int)) ⟨false, true, bytesFrom v 0 m⟩ := by
 obtain ⟨k, rfl⟩ : ∃ k, m = k + 1 := ⟨m - 1, by omega⟩
 have w : wrp .i64 (8 * ((0 : Nat) : Int)) = 0 := zb9h (by omega) (by omega)
 have key : ∀ i : Int, i = ((0 : Nat) : Int) → Ev (fun q => zlv q (v : Int) ((k + 1 : Nat) : Int) i true []) ⟨false, true, bytesFrom v 0 (k + 1)⟩ := by
  intro i hi
  refine Ev.succ (Ev.po (Ev.neg (by rw [hi, w]; omega) (Ev.pos (by simp) ?_))) (fun q => rfl)
  rw [hi, zcam v 0 (by omega), zb9h (x := ((0 : Nat) : Int) + 1) (by omega) (by omega), show (((0 : Nat) : Int) + 1) = ((0 + 1 : Nat) : Int) by omega]
  refine (zcan hm k 1 _ (by omega) (by simp; omega)).cast ?_
  simp [bytesFrom]
 exact Ev.succ (key 0 rfl) (fun q => rfl)
theorem bytes4 (v : Nat) : bytesFrom v 0 4 = fix4 v := by simp [bytesFrom, fix4]
theorem zcap {v : Nat} (h : v < 18446744073709551616) : Ev (fun q => zlw q (v : Int) 4) ⟨false, true, fix4 v⟩ := by
 have := zcao (v := v) (m := 4) (by omega) (by omega)
 rw [bytes4] at this; exact this
theorem zcaq (a : B32) : Ev (fun q => zlx q (u a)) ⟨false, true, fix4 a.toNat⟩ := by
 have h1 := u_nn a; have h2 := u_lt a
 have e : wrp .u64 (u a) = ((a.toNat : Nat) : Int) := by rw [zb9i h1 (by omega)]; rfl
 exact Ev.succ (Ev.bind (by rw [e]; exact zcap (by have := a.isLt; omega)) (Ev.ret _)) (fun q => rfl)
theorem zcar (a b : Sl Int) (ha : isB a.l) (hb : isB b.l) (la : a.l.length ≤ 1099511627776) (lb : b.l.length ≤ 1099511627776) : Ev (fun q => zly q a b) ⟨false, true, fix4 (bsum (a.l ++ b.l)).toNat⟩ := by
 have h2 := zcai (bsum a.l) b hb lb
 have e : ~~~ bmore (~~~ bsum a.l) b.l = bsum (a.l ++ b.l) := by
  unfold bsum; rw [BitVec.not_not, zcak]
 rw [e] at h2
 exact Ev.succ (Ev.bind (zcaj a ha la) (Ev.bind h2 (Ev.bind (zcaq _) (Ev.ret _)))) (fun q => rfl)
def flat (l : List (Sl Int)) : List Int := l.flatMap (·.l)
theorem zcas (a : Sl Int) (b : List (Sl Int)) : flat (a :: b) = a.l ++ flat b := by simp [flat]
theorem zcat (z0 : Bool) (L : List (Sl Int)) (z : Bool) (hL : L.length ≤ 1099511627776) : ∀ (k i : Nat) (m : Nat) (l : List Int), L.length = i + k → m + (flat (L.drop i)).length ≤ l.length →
  Ev (fun q => zlz q m z0 L (L.length : Int) (i : Int) z l) ⟨z, true, l.take m ++ flat (L.drop i)⟩
 | 0, i, m, l, hk, hl => by
  refine Ev.succ (Ev.ne (Ev.ret' ?_)) (fun q => rfl)
  rw [y14 (by omega)]; simp [flat]
 | k + 1, i, m, l, hk, hl => by
  have hi : i < L.length := by omega
  have hg : L[(i : Int).toNat]? = some L[i] := by simpa using y9 hi
  rw [y11 hi, zcas, y12] at hl
  refine Ev.succ (Ev.po (Ev.po (Ev.opt hg (Ev.pos (by omega) ?_)))) (fun q => rfl)
  rw [zb9h (by omega) (by omega), show ((i : Int) + 1) = ((i + 1 : Nat) : Int) by omega]
  refine (zcat z0 L z hL k (i + 1) (m + L[i].l.length) _ (by omega) ?_).cast ?_
  ·simp only [y12, y22, y15]; omega
  ·congr 1
   rw [y11 hi, zcas, ← y35]
   congr 1
   rw [List.take_append_of_le_length (by simp only [y12, y22]; omega), List.take_of_length_le (by simp only [y12, y22]; omega)]
theorem zcau (z0 : Bool) (L : List (Sl Int)) (hL : L.length ≤ 1099511627776) : ∀ (k i : Nat) (z : Bool) (l : List Int), L.length = i + k → l.length + (flat (L.drop i)).length ≤ 4294967296 →
  ∃ z', Ev (fun q => zl0 q z0 L (L.length : Int) (i : Int) z l) ⟨z', true, l ++ flat (L.drop i)⟩
 | 0, i, z, l, hk, hl => ⟨z, by
  refine Ev.succ (Ev.ne (Ev.ret' ?_)) (fun q => rfl)
  rw [y14 (by omega)]; simp [flat]⟩
 | k + 1, i, z, l, hk, hl => by
  have hi : i < L.length := by omega
  have hg : L[(i : Int).toNat]? = some L[i] := by simpa using y9 hi
  rw [y11 hi, zcas, y12] at hl
  obtain ⟨z', h⟩ := zcau z0 L hL k (i + 1) (z && (decide (L[i].l.length = 0))) (l ++ L[i].l) (by omega) (by simp only [y12]; omega)
  refine ⟨z', Ev.succ (Ev.po (Ev.po (Ev.opt hg (Ev.pos (by omega) ?_)))) (fun q => rfl)⟩
  rw [zb9h (by omega) (by omega), show ((i : Int) + 1) = ((i + 1 : Nat) : Int) by omega]
  refine h.cast ?_
  rw [y11 hi, zcas]; simp
theorem zcav (z0 z9 : Bool) (L : List (Sl Int)) (hL : L.length ≤ 1099511627776) (hf : (flat L).length ≤ 4294967296) : ∀ (k i : Nat) (m : Nat), L.length = i + k → m + (flat (L.drop i)).length = (flat L).length →
  ∃ z', Ev (fun q => zl2 q z0 L (m : Int) z9 L (L.length : Int) (i : Int)) ⟨z', true, flat L⟩
 | 0, i, m, hk, hm => by
  rw [y14 (by omega)] at hm
  have hm2 : m = (flat L).length := by simpa [flat] using hm
  have w : wrp .i64 ((m : Int) - wrp .i64 0) = (m : Int) := by rw [zb9h (x := 0) (by omega) (by omega), zb9h (by omega) (by omega)]; omega
  by_cases h0 : 0 < m
  ·refine ⟨decide (wrp .i64 ((m : Int) - wrp .i64 0) = 0), Ev.succ (Ev.ne (Ev.ne (Ev.pos (by rw [w]; omega) (Ev.pos (by rw [w]; omega) (Ev.pos (by rw [w]; omega) (Ev.neg (by rw [w]; omega) ?_)))))) (fun q => rfl)⟩
   rw [w]
   have := zcat z0 L (decide ((m : Int) = 0)) hL L.length 0 0 (List.replicate (m : Int).toNat 0) (by omega) (by simp; omega)
   rw [y40] at this
   exact this
  ·have hnil : flat L = [] := y37 (by omega)
   match L, hk with
   | [], _ =>
    refine ⟨true, Ev.succ (Ev.neg (by simp) (Ev.neg (by omega) ?_)) (fun q => rfl)⟩
    rw [w]
    refine Ev.neg (by omega) ?_
    exact Ev.succ (g := fun _ => some ⟨true, true, []⟩) (Ev.ret' (by simp [flat])) (fun q => rfl)
   | a :: L', hk =>
    rw [zcas] at hnil
    obtain ⟨z', h⟩ := zcau z0 (a :: L') hL L'.length 1 (decide (a.l.length = 0)) a.l (by simp; omega) (by
     have : flat (List.drop 1 (a :: L')) = flat L' := rfl
     rw [this, ← y12, hnil]; simp)
    refine ⟨z', Ev.succ (Ev.ne (Ev.neg (by omega) ?_)) (fun q => rfl)⟩
    rw [w]
    refine Ev.ne (Ev.succ (Ev.pos (by simp) (Ev.opt (s := a) rfl (Ev.pos ?_ ?_))) (fun q => rfl))
    ·have : a.l.length ≤ (a.l ++ flat L').length := by simp
     rw [hnil] at this; simp at this; simp [this]
    ·rw [zb9h (by omega) (by omega)]
     refine h.cast ?_
     rw [zcas]; rfl
 | k + 1, i, m, hk, hm => by
  have hi : i < L.length := by omega
  have hg : L[(i : Int).toNat]? = some L[i] := by simpa using y9 hi
  rw [y11 hi, zcas, y12] at hm
  obtain ⟨z', h⟩ := zcav z0 z9 L hL hf k (i + 1) (m + L[i].l.length) (by omega) (by omega)
  refine ⟨z', Ev.succ (Ev.po (Ev.po (Ev.opt hg ?_))) (fun q => rfl)⟩
  have w : wrp .i64 ((m : Int) + (L[i].l.length : Int)) = ((m + L[i].l.length : Nat) : Int) := by rw [zb9h (by omega) (by omega)]; omega
  rw [w, zb9h (by omega) (by omega), show ((i : Int) + 1) = ((i + 1 : Nat) : Int) by omega]
  exact Ev.neg (by omega) h
theorem zcaw (s : Sl (Sl Int)) (hL : s.l.length ≤ 1099511627776) (hf : (flat s.l).length ≤ 4294967296) : ∃ z', Ev (fun q => zl3 q s) ⟨z', true, flat s.l⟩ := by
 obtain ⟨z', h⟩ := zcav s.z s.z s.l hL hf s.l.length 0 0 (by omega) (by simp)
 exact ⟨z', Ev.succ h (fun q => rfl)⟩
theorem zcax : ∀ n, isB (grp n) := by
 intro n
 induction n using Nat.strongRecOn with
 | ind n ih =>
  by_cases h : n < 128
  ·rw [grp_lt h]; intro c hc; simp at hc; omega
  ·rw [grp_ge h]; intro c hc
   rcases List.mem_cons.1 hc with rfl | hc
   ·omega
   ·exact ih (n / 128) (by omega) c hc
theorem zcay (n : Int) : isB (put n) := by
 unfold put; split
 ·intro c hc; simp at hc
 ·split
  ·intro c hc; simp at hc
  ·exact zcax _
theorem zcaz {a b : List Int} : isB (a ++ b) ↔ isB a ∧ isB b := by
 constructor
 ·intro h; exact ⟨fun c hc => h c (List.mem_append.2 (.inl hc)), fun c hc => h c (List.mem_append.2 (.inr hc))⟩
 ·rintro ⟨h1, h2⟩ c hc
  rcases List.mem_append.1 hc with h | h
  ·exact h1 c h
  ·exact h2 c h
/-- A frame. -/
def encF (l : List Int) : List Int := put (l.length : Int) ++ (l ++ fix4 (bsum (put (l.length : Int) ++ l)).toNat)
theorem zca0 (s : Sl Int) (hb : isB s.l) (hl : s.l.length ≤ 1048576) : ∃ z, Ev (fun q => zl4 q s) (⟨z, true, encF s.l⟩, 0) := by
 have hp := zb9q (s.l.length : Int)
 obtain ⟨z, h⟩ := zcaw ⟨false, [⟨false, put (s.l.length : Int)⟩, s, ⟨false, fix4 (bsum (put (s.l.length : Int) ++ s.l)).toNat⟩]⟩ (by simp) (by simp [flat, fix4]; omega)
 refine ⟨z, Ev.succ (Ev.neg (by omega) ?_) (fun q => rfl)⟩
 refine Ev.bind (zb9r ⟨true, true, []⟩ (by omega) (by omega) (by simp)) ?_
 refine Ev.bind (zcar ⟨false, put (s.l.length : Int)⟩ s (zcay (s.l.length : Int)) hb (by simp only; omega) (by omega)) ?_
 refine Ev.bind h ?_
 exact Ev.ret' (by simp [encF, flat])
/-- The number that bytes begin with, from the i-th group on. -/
def rd : Nat → List Int → Option (Nat × Nat)
 | _, [] => none
 | i, c :: l => if 10 ≤ i then none else if i = 9 ∧ 1 < c then none else if c = 0 ∧ 0 < i then none else if c < 128 then some (c.toNat, 1) else (rd (i + 1) l).map fun p => ((c % 128).toNat + 128 * p.1, p.2 + 1)
def resN : Option (Nat × Nat) → Int × Int
 | none => (0, 0)
 | some p => (p.1, p.2)
theorem and127 {x : Int} (h1 : 0 ≤ x) (h2 : x < 256) : ibits .and .u8 x 127 = x % 128 := by
 obtain ⟨n, rfl⟩ := Int.eq_ofNat_of_zero_le h1
 have hn : n < 256 := by omega
 have : ∀ m : Fin 256, ibits .and .u8 (m.val : Int) 127 = (m.val : Int) % 128 := by unfold ibits; decide +kernel
 exact this ⟨n, hn⟩
theorem or64 {a b : Nat} (ha : a < 18446744073709551616) (hb : b < 18446744073709551616) : ibits .or .u64 (a : Int) (b : Int) = ((a ||| b : Nat) : Int) := by
 have e : ibits .or .u64 (a : Int) (b : Int) = IntKind.wrap .u64 (((BitVec.ofInt 64 (a : Int) ||| BitVec.ofInt 64 (b : Int) : BitVec 64).toNat : Nat) : Int) := by unfold ibits; rfl
 have e1 : (BitVec.ofInt 64 (a : Int)).toNat = a := by rw [y51]; omega
 have e2 : (BitVec.ofInt 64 (b : Int)).toNat = b := by rw [y51]; omega
 have e3 : a ||| b < 2 ^ 64 := Nat.or_lt_two_pow (by omega) (by omega)
 rw [e, BitVec.toNat_or, e1, e2, zb9s, zb9i (by omega) (by omega)]
theorem ishl64 {x k : Nat} (hk : k ≤ 64) : ishl .u64 (x : Int) (k : Int) = ((x * 2 ^ k % 18446744073709551616 : Nat) : Int) := by
 unfold ishl
 simp only [IntKind.bits, y30, Nat.min_eq_left hk]
 rw [zb9s, zb9t]
 have : ((x : Int) * 2 ^ k) = ((x * 2 ^ k : Nat) : Int) := by rw [Int.natCast_mul, Int.natCast_pow]; rfl
 rw [this]
 exact (Int.natCast_emod _ _).symm
theorem zca1 {acc i : Nat} {c : Int} (hi : i ≤ 9) (h1 : 0 ≤ c) (h2 : c < 256) (ha : acc < 2 ^ (7 * i)) (h9 : i = 9 → c ≤ 1) :
  ibits .or .u64 (acc : Int) (ishl .u64 (wrp .u64 (ibits .and .u8 c 127)) (wrp .i64 (7 * (i : Int)))) = ((acc + (c % 128).toNat * 2 ^ (7 * i) : Nat) : Int) ∧ acc + (c % 128).toNat * 2 ^ (7 * i) < 18446744073709551616 ∧ acc + (c % 128).toNat * 2 ^ (7 * i) < 2 ^ (7 * (i + 1)) := by
 have hm : (c % 128).toNat < 128 := by omega
 have hp : 2 ^ (7 * i) ≤ 2 ^ 63 := Nat.pow_le_pow_right (by omega) (by omega)
 have hp1 : 2 ^ (7 * (i + 1)) = 128 * 2 ^ (7 * i) := by rw [show 7 * (i + 1) = 7 + 7 * i by omega, Nat.pow_add]
 have h4 : acc + (c % 128).toNat * 2 ^ (7 * i) < 2 ^ (7 * (i + 1)) := by
  rw [hp1]
  have : ((c % 128).toNat + 1) * 2 ^ (7 * i) ≤ 128 * 2 ^ (7 * i) := y19 _ (by omega)
  rw [y33] at this; omega
 have h5 : acc + (c % 128).toNat * 2 ^ (7 * i) < 18446744073709551616 := by
  by_cases e : i = 9
  ·have hc := h9 e
   have : (c % 128).toNat ≤ 1 := by omega
   subst e
   have h6 : (c % 128).toNat * 2 ^ (7 * 9) ≤ 1 * 2 ^ (7 * 9) := y19 _ this
   simp only [Nat.reduceMul, Nat.reducePow] at ha h6 ⊢
   omega
  ·have : 2 ^ (7 * (i + 1)) ≤ 2 ^ 63 := Nat.pow_le_pow_right (by omega) (by omega)
   simp only [Nat.reducePow] at this
   omega
 refine ⟨?_, h5, h4⟩
 rw [and127 h1 h2, zb9i (by omega) (by omega), zb9h (by omega) (by omega), show (7 * (i : Int)) = ((7 * i : Nat) : Int) by omega, show (c % 128) = (((c % 128).toNat : Nat) : Int) by omega, ishl64 (by omega)]
 have h6 : (c % 128).toNat * 2 ^ (7 * i) < 18446744073709551616 := by omega
 simp only [y30]
 rw [Nat.mod_eq_of_lt h6, or64 (by omega) h6]
 congr 1
 have := Nat.two_pow_add_eq_or_of_lt ha (c % 128).toNat
 rw [Nat.or_comm, Nat.mul_comm, ← this]; omega
theorem zca2 (z : Bool) (L : List Int) (hb : isB L) (m : Nat) (hm : m = min 10 L.length) : ∀ (k i acc : Nat), m = i + k → acc < 2 ^ (7 * i) →
  Ev (fun q => zny q z L (acc : Int) (m : Int) (i : Int)) (match rd i (L.drop i) with | none => (0, 0) | some p => (((acc + p.1 * 2 ^ (7 * i) : Nat) : Int), ((i + p.2 : Nat) : Int)))
 | 0, i, acc, hk, ha => by
  refine Ev.succ (Ev.ne (Ev.ret' ?_)) (fun q => rfl)
  have : rd i (L.drop i) = none := by
   cases h : L.drop i with
   | nil => rfl
   | cons c l =>
    have : (L.drop i).length = l.length + 1 := by rw [h]; rfl
    rw [y15] at this
    simp only [rd]; rw [if_pos (by omega)]
  rw [this]
 | k + 1, i, acc, hk, ha => by
  have hi : i < L.length := by omega
  have hi9 : i ≤ 9 := by omega
  have hg : L[(i : Int).toNat]? = some L[i] := by simpa using y9 hi
  obtain ⟨b1, b2⟩ := hb L[i] (y28 hi)
  have w7 : wrp .i64 (7 * (i : Int)) = 7 * (i : Int) := zb9h (by omega) (by omega)
  have wi : wrp .i64 ((i : Int) + 1) = ((i + 1 : Nat) : Int) := by rw [zb9h (by omega) (by omega)]; omega
  rw [y11 hi]
  simp only [rd]
  rw [if_neg (by omega)]
  generalize hc : L[i] = c at hg b1 b2
  -- the ends
  have done : (i = 9 → c ≤ 1) → c < 128 → (((ibits .or .u64 (acc : Int) (ishl .u64 (wrp .u64 (ibits .and .u8 c 127)) (wrp .i64 (7 * (i : Int))))), (wrp .i64 ((i : Int) + 1))) : Int × Int) = (((acc + c.toNat * 2 ^ (7 * i) : Nat) : Int), ((i + 1 : Nat) : Int)) := by
   intro h9 h128
   rw [(zca1 hi9 b1 b2 ha h9).1, wi, show (c % 128).toNat = c.toNat by omega]
  have rest : i ≠ 9 → ¬ c < 128 → Ev (fun q => zny q z L (ibits .or .u64 (acc : Int) (ishl .u64 (wrp .u64 (ibits .and .u8 c 127)) (wrp .i64 (7 * (i : Int))))) (m : Int) (wrp .i64 ((i : Int) + 1))) (match (rd (i + 1) (L.drop (i + 1))).map (fun p => ((c % 128).toNat + 128 * p.1, p.2 + 1)) with | none => (0, 0) | some p => (((acc + p.1 * 2 ^ (7 * i) : Nat) : Int), ((i + p.2 : Nat) : Int))) := by
   intro h9 h128
   obtain ⟨g1, g2, g3⟩ := zca1 hi9 b1 b2 ha (fun e => absurd e h9)
   rw [g1, wi]
   refine (zca2 z L hb m hm k (i + 1) _ (by omega) g3).cast ?_
   cases rd (i + 1) (L.drop (i + 1)) with
   | none => rfl
   | some p =>
    simp only [y41]
    have : 2 ^ (7 * (i + 1)) = 128 * 2 ^ (7 * i) := by rw [show 7 * (i + 1) = 7 + 7 * i by omega, Nat.pow_add]
    rw [this]
    congr 2
    ·rw [y33, Nat.mul_assoc 128, Nat.mul_left_comm p.1 128]; omega
    ·omega
  refine Ev.succ (Ev.po (Ev.po (Ev.opt hg (Ev.neg (by rw [w7]; omega) ?_)))) (fun q => rfl)
  refine Ev.ite (fun h9 => Ev.ite (fun h1 => ?_) fun h1 => Ev.ite (fun h0 => Ev.pos (by omega) ?_) fun h0 => Ev.pos (by omega) ?_) fun h9 => Ev.ite (fun h0 => Ev.ite (fun hp => ?_) fun hp => Ev.pos (by omega) ?_) fun h0 => Ev.ite (fun h128 => ?_) fun h128 => ?_
  ·rw [if_pos ⟨by omega, h1⟩]; exact Ev.ret _
  ·rw [if_neg (by omega), if_pos ⟨h0, by omega⟩]; exact Ev.ret _
  ·rw [if_neg (by omega), if_neg (by omega), if_pos (by omega)]; exact Ev.ret' (done (by omega) (by omega))
  ·rw [if_neg (by omega), if_pos ⟨h0, by omega⟩]; exact Ev.ret _
  ·rw [if_neg (by omega), if_neg (by omega), if_pos (by omega)]; exact Ev.ret' (done (by omega) (by omega))
  ·rw [if_neg (by omega), if_neg (by omega), if_pos h128]; exact Ev.ret' (done (by omega) h128)
  ·rw [if_neg (by omega), if_neg (by omega), if_neg h128]; exact rest (by omega) h128
theorem zca3 (s : Sl Int) (hb : isB s.l) : Ev (fun q => znz q s) (resN (rd 0 s.l)) := by
 have h := zca2 s.z s.l hb (min 10 s.l.length) rfl (min 10 s.l.length) 0 0 (by omega) (by simp)
 have e : (if 10 < (s.l.length : Int) then 10 else (s.l.length : Int)) = ((min 10 s.l.length : Nat) : Int) := by split <;> omega
 refine Ev.succ (g := fun q => zny q s.z s.l 0 (if 10 < (s.l.length : Int) then 10 else (s.l.length : Int)) 0) ?_ (fun q => rfl)
 rw [e]
 refine h.cast ?_
 rw [y40]
 cases rd 0 s.l with
 | none => rfl
 | some p => simp [resN]
def getN (l : List Int) : Int × Int := match rd 0 l with
 | none => (0, 0)
 | some p => if 4611686018427387904 ≤ p.1 then (0, 0) else ((p.1 : Int), (p.2 : Int))
theorem zca4 (s : Sl Int) (hb : isB s.l) : Ev (fun q => zn0 q s) (getN s.l) := by
 refine Ev.succ (Ev.bind (zca3 s hb) ?_) (fun q => rfl)
 unfold getN
 cases rd 0 s.l with
 | none => exact Ev.neg (by simp [resN]) (Ev.ret' (by rw [zb9h] <;> simp [resN]))
 | some p =>
  simp only [resN]
  refine Ev.ite (fun h => ?_) fun h => ?_
  ·rw [if_pos (by omega)]; exact Ev.ret _
  ·rw [if_neg (by omega), zb9h (by omega) (by omega)]; exact Ev.ret _
theorem rd_len : ∀ {l : List Int} {i : Nat} {p : Nat × Nat}, rd i l = some p → 1 ≤ p.2 ∧ p.2 ≤ l.length ∧ i + p.2 ≤ 10
 | [], i, p, h => by simp [rd] at h
 | c :: l, i, p, h => by
  simp only [rd] at h
  split at h
  ·cases h
  ·split at h
   ·cases h
   ·split at h
    ·cases h
    ·split at h
     ·simp at h; subst h; simp; omega
     ·cases hr : rd (i + 1) l with
      | none => simp [hr] at h
      | some r =>
       simp [hr] at h; subst h
       have := rd_len hr
       simp; omega
theorem zca5 {l : List Int} : 0 ≤ (getN l).2 ∧ (getN l).2 ≤ l.length ∧ (getN l).2 ≤ 10 ∧ 0 ≤ (getN l).1 ∧ (getN l).1 < 4611686018427387904 := by
 unfold getN
 cases h : rd 0 l with
 | none => simp
 | some p =>
  have := rd_len h
  simp only
  split <;> simp <;> omega
/-- What was put is read. -/
theorem rd_grp : ∀ {n : Nat} {i : Nat} {x : List Int}, n < 2 ^ (64 - 7 * i) → i ≤ 9 → (0 < i → n ≠ 0) → rd i (grp n ++ x) = some (n, (grp n).length) := by
 intro n
 induction n using Nat.strongRecOn with
 | ind n ih =>
  intro i x h hi h0
  by_cases hn : n < 128
  ·rw [grp_lt hn]
   simp only [List.cons_append, y49, rd, y23, y27]
   rw [if_neg (by omega), if_neg ?_, if_neg (by omega), if_pos (by omega)]
   ·simp
   ·rintro ⟨rfl, h1⟩
    simp at h; omega
  ·rw [grp_ge hn]
   simp only [List.cons_append, rd, y23]
   have hi8 : i ≠ 9 := by rintro rfl; simp at h; omega
   rw [if_neg (by omega), if_neg (by omega), if_neg (by omega), if_neg (by omega)]
   have hd : n / 128 < 2 ^ (64 - 7 * (i + 1)) := by
    rw [Nat.div_lt_iff_lt_mul (by omega), show (128 : Nat) = 2 ^ 7 from rfl, ← Nat.pow_add]
    by_cases e : i ≤ 8
    ·rw [show 64 - 7 * (i + 1) + 7 = 64 - 7 * i by omega]; exact h
    ·omega
   rw [ih (n / 128) (by omega) hd (by omega) (by omega)]
   simp only [y41, y6, y10, and_true]
   omega
/-- Where the first byte below 128 stands. -/
def idxLow : List Int → Nat → Int
 | [], _ => -1
 | a :: l, i => if a < 128 then (i : Int) else idxLow l (i + 1)
def allHi (l : List Int) : Prop := ∀ c ∈ l, 128 ≤ c
instance (l : List Int) : Decidable (allHi l) := by unfold allHi; infer_instance
theorem zca6 : ∀ {l : List Int} {i : Nat}, ¬ 0 ≤ idxLow l i ↔ allHi l
 | [], i => by simp [idxLow, allHi]
 | a :: l, i => by
  have ih := zca6 (l := l) (i := i + 1)
  simp only [idxLow, allHi, List.mem_cons, forall_eq_or_imp] at ih ⊢
  by_cases h : a < 128
  ·rw [if_pos h]; constructor
   ·intro h'; omega
   ·rintro ⟨h1, _⟩; omega
  ·rw [if_neg h, ih]
   constructor
   ·intro h'; exact ⟨by omega, h'⟩
   ·exact fun h' => h'.2
theorem zca7 (z : Bool) (L : List Int) (hL : L.length ≤ 1099511627776) : ∀ (k i : Nat), L.length = i + k → Ev (fun q => znv q z L (L.length : Int) (i : Int)) (idxLow (L.drop i) i)
 | 0, i, hk => by
  refine Ev.succ (Ev.ne (Ev.ret' ?_)) (fun q => rfl)
  rw [y14 (by omega)]; rfl
 | k + 1, i, hk => by
  have hi : i < L.length := by omega
  have hg : L[(i : Int).toNat]? = some L[i] := by simpa using y9 hi
  have h1 : Ev (fun q => znu q L[i]) (decide (L[i] < 128)) := Ev.succ (Ev.ret _) (fun q => rfl)
  refine Ev.succ (Ev.po (Ev.po (Ev.opt hg (Ev.bind h1 ?_)))) (fun q => rfl)
  rw [y11 hi]
  simp only [idxLow]
  refine Ev.ite (fun h => ?_) fun h => ?_
  ·rw [if_pos (by simpa using h)]; exact Ev.ret _
  ·rw [if_neg (by simpa using h), zb9h (by omega) (by omega), show ((i : Int) + 1) = ((i + 1 : Nat) : Int) by omega]
   exact zca7 z L hL k (i + 1) (by omega)
def openB (l : List Int) : Bool := decide (l.length < 10 ∧ allHi l)
theorem zca8 (s : Sl Int) : Ev (fun q => znx q s) (openB s.l) := by
 refine Ev.succ (Ev.ite (fun h => ?_) fun h => Ev.ret' ?_) (fun q => rfl)
 ·have := zca7 s.z s.l (by omega) s.l.length 0 (by omega)
  rw [y40] at this
  refine Ev.bind (Ev.succ this (fun q => rfl)) (Ev.ret' ?_)
  unfold openB
  rw [← decide_not, decide_eq_decide, zca6]
  exact ⟨fun h1 => ⟨by omega, h1⟩, fun h1 => h1.2⟩
 ·unfold openB
  symm; rw [decide_eq_false_iff_not]; omega
theorem zca9 (z z2 : Bool) (A B : List Int) (hl : A.length = B.length) (hL : A.length ≤ 1099511627776) : ∀ (k i : Nat), A.length = i + k → Ev (fun q => zn1 q z A z2 B (A.length : Int) (i : Int)) (decide (A.drop i = B.drop i))
 | 0, i, hk => by
  refine Ev.succ (Ev.ne (Ev.ret' ?_)) (fun q => rfl)
  rw [y14 (by omega), y14 (by omega)]; simp
 | k + 1, i, hk => by
  have hi : i < A.length := by omega
  have hi2 : i < B.length := by omega
  have hg : A[(i : Int).toNat]? = some A[i] := by simpa using y9 hi
  have hg2 : B[(i : Int).toNat]? = some B[i] := by simpa using y9 hi2
  refine Ev.succ (Ev.po (Ev.po (Ev.opt hg (Ev.opt hg2 ?_)))) (fun q => rfl)
  rw [y11 hi, y11 hi2]
  refine Ev.ite (fun h => ?_) fun h => Ev.ret' (by symm; rw [decide_eq_false_iff_not]; intro e; exact h (List.cons.inj e).1)
  rw [zb9h (by omega) (by omega), show ((i : Int) + 1) = ((i + 1 : Nat) : Int) by omega]
  refine (zca9 z z2 A B hl hL k (i + 1) (by omega)).cast ?_
  rw [decide_eq_decide, List.cons.injEq]; simp only [h, true_and]
theorem zcba (a b : Sl Int) (hL : a.l.length ≤ 1099511627776) : Ev (fun q => zn2 q a b) (decide (a.l = b.l)) := by
 refine Ev.succ (Ev.ite (fun h => ?_) fun h => Ev.ret' ?_) (fun q => rfl)
 ·have := zca9 a.z b.z a.l b.l (by omega) hL a.l.length 0 (by omega)
  rw [y40, y40] at this; exact this
 ·symm; rw [decide_eq_false_iff_not]; intro e; rw [e] at h; exact h rfl
/-- The data of the frame that bytes begin with, how many bytes it has, and the error. -/
def decF (l : List Int) : List Int × Int × Int :=
 if openB l = true then ([], 0, 2) else if (getN l).2 = 0 then ([], 0, 3) else if 1048576 < (getN l).1 then ([], 0, 5) else if (l.length : Int) < (getN l).2 + 4 + (getN l).1 then ([], 0, 2)
 else if (l.drop ((getN l).2 + (getN l).1).toNat).take 4 = fix4 (bsum (l.take ((getN l).2 + (getN l).1).toNat)).toNat then ((l.take ((getN l).2 + (getN l).1).toNat).drop (getN l).2.toNat, (getN l).2 + (getN l).1 + 4, 0) else ([], 0, 4)
theorem zcbb {l : List Int} (h : isB l) (n : Nat) : isB (l.take n) := fun c hc => h c (y46 hc)
theorem zcbc {l : List Int} (h : isB l) (n : Nat) : isB (l.drop n) := fun c hc => h c (y54 hc)
theorem zcbd (s : Sl Int) (hz : s.z = true → s.l = []) (hb : isB s.l) (hl : s.l.length ≤ 4294967296) : ∃ z, Ev (fun q => zn4 q s) (⟨z, true, (decF s.l).1⟩, (decF s.l).2.1, (decF s.l).2.2) := by
 unfold decF
 by_cases h1 : openB s.l = true
 ·rw [if_pos h1]
  exact ⟨true, Ev.succ (Ev.bind (zca8 s) (Ev.pos h1 (Ev.ret _))) (fun q => rfl)⟩
 rw [if_neg h1]
 by_cases h2 : (getN s.l).2 = 0
 ·rw [if_pos h2]
  exact ⟨true, Ev.succ (Ev.bind (zca8 s) (Ev.neg h1 (Ev.bind (zca4 s hb) (Ev.pos h2 (Ev.ret _))))) (fun q => rfl)⟩
 rw [if_neg h2]
 by_cases h3 : 1048576 < (getN s.l).1
 ·rw [if_pos h3]
  exact ⟨true, Ev.succ (Ev.bind (zca8 s) (Ev.neg h1 (Ev.bind (zca4 s hb) (Ev.neg h2 (Ev.pos h3 (Ev.ret _)))))) (fun q => rfl)⟩
 rw [if_neg h3]
 obtain ⟨g1, g2, g3, g4, g5⟩ := zca5 (l := s.l)
 generalize hk : (getN s.l).2 = k at *
 generalize hn : (getN s.l).1 = n at *
 have hg : getN s.l = (n, k) := by rw [← hk, ← hn]
 have hget := zca4 s hb
 rw [hg] at hget
 have w1 : wrp .i64 (k + 4) = k + 4 := zb9h (by omega) (by omega)
 have w2 : wrp .i64 (k + 4 + n) = k + 4 + n := zb9h (by omega) (by omega)
 have w3 : wrp .i64 (k + n) = k + n := zb9h (by omega) (by omega)
 have w4 : wrp .i64 (k + n + 4) = k + n + 4 := zb9h (by omega) (by omega)
 by_cases h4 : (s.l.length : Int) < k + 4 + n
 ·rw [if_pos h4]
  exact ⟨true, Ev.succ (Ev.bind (zca8 s) (Ev.neg h1 (Ev.bind hget (Ev.neg h2 (Ev.neg h3 (Ev.pos (by simp only; rw [w1, w2]; exact h4) (Ev.ret _))))))) (fun q => rfl)⟩
 rw [if_neg h4]
 have hzf : s.z = false := by
  cases hz' : s.z
  ·rfl
  ·have := hz hz'; rw [this] at h4; simp at h4; omega
 have hsum := zcar ⟨s.z, List.take k.toNat s.l⟩ ⟨s.z, List.drop k.toNat (List.take (k + n).toNat s.l)⟩ (zcbb hb _) (zcbc (zcbb hb _) _) (by simp; omega) (by simp; omega)
 have heq := zcba ⟨s.z, List.drop (k + n).toNat (List.take (k + n + 4).toNat s.l)⟩ ⟨false, fix4 (bsum (List.take k.toNat s.l ++ List.drop k.toNat (List.take (k + n).toNat s.l))).toNat⟩ (by simp; omega)
 have hcl : Ev (fun q => zn3 q ⟨s.z, List.drop k.toNat (List.take (k + n).toNat s.l)⟩) ⟨false, true, List.drop k.toNat (List.take (k + n).toNat s.l)⟩ :=
  Ev.succ (Ev.neg (by simp [hzf]) (Ev.pos (by simp; omega) (Ev.ret _))) (fun q => rfl)
 have ht : List.take k.toNat s.l ++ List.drop k.toNat (List.take (k + n).toNat s.l) = List.take (k + n).toNat s.l := by
  have := List.take_append_drop k.toNat (List.take (k + n).toNat s.l)
  rw [List.take_take, Nat.min_eq_left (by omega)] at this; exact this
 rw [ht] at heq hsum
 have hd : List.drop (k + n).toNat (List.take (k + n + 4).toNat s.l) = List.take 4 (List.drop (k + n).toNat s.l) := by
  rw [List.drop_take]; congr 1; omega
 rw [hd] at heq
 have pre : ∀ {r : Ow Int × Int × Int}, Ev (fun q => (zn2 q ⟨s.z, List.take 4 (List.drop (k + n).toNat s.l)⟩ ⟨false, fix4 (bsum (List.take (k + n).toNat s.l)).toNat⟩).bind fun r4 => (if r4 = true then ((zn3 q ⟨s.z, (List.drop k.toNat (List.take (k + n).toNat s.l))⟩).bind fun r5 => (some (r5, k + n + 4, 0))) else (some (⟨true, true, []⟩, 0, 4)))) r → Ev (fun q => zn4 q s) r := by
  intro r h
  refine Ev.succ (Ev.bind (zca8 s) (Ev.neg h1 (Ev.bind hget (Ev.neg h2 (Ev.neg h3 ?_))))) (fun q => rfl)
  simp only [w1, w2, w3, w4]
  refine Ev.neg h4 (Ev.po (Ev.po (Ev.po (Ev.po (Ev.po (Ev.po (Ev.po (Ev.po (Ev.po (Ev.bind hsum ?_))))))))))
  rw [hd]
  exact h
 by_cases h5 : List.take 4 (List.drop (k + n).toNat s.l) = fix4 (bsum (List.take (k + n).toNat s.l)).toNat
 ·rw [if_pos h5]
  exact ⟨false, pre (Ev.bind heq (Ev.pos (by simpa using h5) (Ev.bind hcl (Ev.ret _))))⟩
 ·rw [if_neg h5]
  exact ⟨true, pre (Ev.bind heq (Ev.neg (by simpa using h5) (Ev.ret _)))⟩
theorem rd_put {n : Int} {x : List Int} (h1 : 0 ≤ n) (h2 : n < 4611686018427387904) : rd 0 (put n ++ x) = some (n.toNat, (put n).length) := by
 rw [put_ok h1 h2]; exact rd_grp (by simp; omega) (by omega) (by omega)
theorem zcbe {n : Int} {x : List Int} (h1 : 0 ≤ n) (h2 : n < 4611686018427387904) : getN (put n ++ x) = (n, ((put n).length : Int)) := by
 unfold getN; rw [rd_put h1 h2]; simp only; rw [if_neg (by omega)]; simp; omega
theorem zcbf : ∀ n, ∃ c ∈ grp n, c < 128 := by
 intro n
 induction n using Nat.strongRecOn with
 | ind n ih =>
  by_cases h : n < 128
  ·rw [grp_lt h]; exact ⟨_, y34, by omega⟩
  ·rw [grp_ge h]
   obtain ⟨c, h1, h2⟩ := ih (n / 128) (by omega)
   exact ⟨c, y38 _ h1, h2⟩
theorem zcbg {n : Int} {x : List Int} (h1 : 0 ≤ n) (h2 : n < 4611686018427387904) : openB (put n ++ x) = false := by
 unfold openB; rw [decide_eq_false_iff_not]
 rintro ⟨_, h⟩
 obtain ⟨c, hc, hl⟩ := zcbf n.toNat
 rw [put_ok h1 h2] at h
 have := h c (List.mem_append.2 (.inl hc)); omega
/-- A frame is decoded as what was framed. -/
theorem zcbh {l x : List Int} (hl : l.length ≤ 1048576) : decF (encF l ++ x) = (l, ((encF l).length : Int), 0) := by
 have hp := zb9q (l.length : Int)
 unfold decF
 have e : encF l ++ x = put (l.length : Int) ++ (l ++ (fix4 (bsum (put (l.length : Int) ++ l)).toNat ++ x)) := by simp [encF]
 rw [e, zcbg (by omega) (by omega), zcbe (by omega) (by omega)]
 have ht : List.take (((put (l.length : Int)).length : Int) + (l.length : Int)).toNat (put (l.length : Int) ++ (l ++ (fix4 (bsum (put (l.length : Int) ++ l)).toNat ++ x))) = put (l.length : Int) ++ l := by
  rw [← y35, List.take_left' (by simp; omega)]
 have hd : List.drop (((put (l.length : Int)).length : Int) + (l.length : Int)).toNat (put (l.length : Int) ++ (l ++ (fix4 (bsum (put (l.length : Int) ++ l)).toNat ++ x))) = fix4 (bsum (put (l.length : Int) ++ l)).toNat ++ x := by
  rw [← y35, List.drop_left' (by simp; omega)]
 have hg := zb9n l.length
 have hpp : 1 ≤ (put (l.length : Int)).length := by rw [put_ok (by omega) (by omega)]; simpa using hg
 simp only [ht, hd]
 rw [if_neg (by simp), if_neg (by omega), if_neg (by omega), if_neg (by simp [fix4]; omega), if_pos (by simp [fix4])]
 simp [encF, fix4]
 omega
theorem rd_inv : ∀ {l : List Int} {i v k : Nat}, isB l → rd i l = some (v, k) → l.take k = grp v ∧ (0 < i → v ≠ 0)
 | [], i, v, k, hb, h => by simp [rd] at h
 | c :: l, i, v, k, hb, h => by
  obtain ⟨b1, b2⟩ := hb c y34
  simp only [rd] at h
  split at h
  ·cases h
  ·split at h
   ·cases h
   ·split at h
    ·cases h
    ·rename_i h1 h2 h3
     split at h
     ·simp at h; obtain ⟨rfl, rfl⟩ := h
      refine ⟨?_, fun hi e => h3 ⟨by omega, hi⟩⟩
      rw [grp_lt (by omega)]; simp; omega
     ·cases hr : rd (i + 1) l with
      | none => simp [hr] at h
      | some r =>
       obtain ⟨v', k'⟩ := r
       simp [hr] at h
       obtain ⟨rfl, rfl⟩ := h
       obtain ⟨e1, e2⟩ := rd_inv (fun c hc => hb c (y38 _ hc)) hr
       have hv := e2 (by omega)
       refine ⟨?_, fun _ => by omega⟩
       rw [grp_ge (by omega), List.take_succ_cons, e1]
       congr 1
       ·omega
       ·congr 1; omega
theorem zcbi {l x : List Int} {n : Int} (hb : isB l) (h : decF l = (x, n, 0)) : x.length ≤ 1048576 ∧ 0 ≤ n ∧ n.toNat ≤ l.length ∧ 5 ≤ n ∧ encF x = l.take n.toNat := by
 unfold decF at h
 split at h
 ·simp at h
 split at h
 ·simp at h
 split at h
 ·simp at h
 split at h
 ·simp at h
 split at h
 ·rename_i h1 h2 h3 h4 h5
  obtain ⟨g1, g2, g3, g4, g5⟩ := zca5 (l := l)
  have hrd : rd 0 l = some ((getN l).1.toNat, (getN l).2.toNat) := by
   unfold getN at h2 ⊢
   cases hr : rd 0 l with
   | none => rw [hr] at h2; simp at h2
   | some p =>
    rw [hr] at h2; simp only at h2 ⊢
    split at h2
    ·simp at h2
    ·rename_i hlt; rw [if_neg hlt]; simp
  obtain ⟨e1, _⟩ := rd_inv hb hrd
  generalize (getN l).2 = k at *
  generalize (getN l).1 = m at *
  simp only [y10, and_true] at h
  obtain ⟨hx, hn⟩ := h
  have hlx : x.length = m.toNat := by rw [← hx]; simp; omega
  refine ⟨by omega, by omega, by omega, by omega, ?_⟩
  have hput : put (x.length : Int) = l.take k.toNat := by
   rw [put_ok (by omega) (by omega), e1]; congr 1
  have hcat : l.take k.toNat ++ x = l.take (k + m).toNat := by
   rw [← hx]
   have := List.take_append_drop k.toNat (List.take (k + m).toNat l)
   rw [List.take_take, Nat.min_eq_left (by omega)] at this; exact this
  unfold encF
  rw [hput, hcat, ← h5, ← y35, hcat, ← hn, show (k + m + 4).toNat = (k + m).toNat + 4 by omega, List.take_add]
 ·simp at h
theorem zcbj {l x : List Int} {n e : Int} (h : decF l = (x, n, e)) (he : e ≠ 0) : x = [] ∧ n = 0 := by
 unfold decF at h
 split at h
 ·simp_all
 split at h
 ·simp_all
 split at h
 ·simp_all
 split at h
 ·simp_all
 split at h
 ·simp at h; omega
 ·simp_all
theorem zcbk {l : List Int} (hb : isB l) : isB (decF l).1 := by
 have nil : isB [] := fun c hc => by simp at hc
 unfold decF
 split; exact nil
 split; exact nil
 split; exact nil
 split; exact nil
 split
 ·exact zcbc (zcbb hb _) _
 ·exact nil
def zag (u : Nat) : Int := if u % 2 = 0 then ((u / 2 : Nat) : Int) else -((u / 2 : Nat) : Int) - 1
theorem zcbl (n : Int) : zag (zig n) = n := by unfold zag zig; split <;> split <;> omega
theorem zcbm (u : Nat) : zig (zag u) = u := by unfold zag zig; split <;> split <;> omega
theorem ixor0 {x : Int} (h1 : 0 ≤ x) (h2 : x < 9223372036854775808) : ibits .xor .i64 x 0 = x := by
 have e : ibits .xor .i64 x 0 = IntKind.wrap .i64 (((BitVec.ofInt 64 x ^^^ 0#64 : BitVec 64).toNat : Nat) : Int) := by unfold ibits; rfl
 rw [e, BitVec.xor_zero, y51, zb9s, zb9h] <;> omega
theorem zcbn {x : Int} (h1 : 9223372036854775808 ≤ x) (h2 : x < 18446744073709551616) : wrp .i64 x = x - 18446744073709551616 := by
 unfold wrp; simp [IntKind.wrap, IntKind.min, IntKind.max, IntKind.signed, IntKind.bits] <;> omega
theorem ixor1 {x : Int} (h1 : 0 ≤ x) (h2 : x < 9223372036854775808) : ibits .xor .i64 x (-1) = -x - 1 := by
 have e : ibits .xor .i64 x (-1) = IntKind.wrap .i64 (((BitVec.ofInt 64 x ^^^ BitVec.allOnes 64 : BitVec 64).toNat : Nat) : Int) := by unfold ibits; rfl
 rw [e, BitVec.xor_allOnes, BitVec.toNat_not, y51, zb9s, zcbn] <;> omega
theorem and1u {u : Nat} (h : u < 18446744073709551616) : ibits .and .u64 (u : Int) 1 = ((u % 2 : Nat) : Int) := by
 have e : ibits .and .u64 (u : Int) 1 = IntKind.wrap .u64 (((BitVec.ofInt 64 (u : Int) &&& 1#64 : BitVec 64).toNat : Nat) : Int) := by unfold ibits; rfl
 have e1 : (BitVec.ofInt 64 (u : Int)).toNat = u := by rw [y51]; omega
 rw [e, BitVec.toNat_and, e1, show (1#64 : BitVec 64).toNat = 1 from rfl, Nat.and_one_is_mod, zb9s, zb9i (by omega) (by omega)]
theorem ishr1 {x : Int} (h1 : 0 ≤ x) : ishr .u64 x 1 = x / 2 := by
 unfold ishr; simp [IntKind.bits]
 rw [y55]; omega
theorem zcbo {u : Nat} (h : u < 18446744073709551616) : Ev (fun q => zn5 q (u : Int)) (zag u) := by
 refine Ev.succ (Ev.ret' ?_) (fun q => rfl)
 rw [ishr1 (by omega), and1u h, zb9h (by omega) (by omega)]
 unfold zag
 split
 ·rename_i e
  rw [e, show wrp .i64 ((0 : Nat) : Int) = 0 from zb9h (by omega) (by omega), show wrp .i64 (0 - 0) = 0 from zb9h (by omega) (by omega), ixor0 (by omega) (by omega)]; omega
 ·rename_i e
  rw [show u % 2 = 1 by omega, show wrp .i64 ((1 : Nat) : Int) = 1 from zb9h (by omega) (by omega), show wrp .i64 (0 - 1) = -1 from zb9h (by omega) (by omega), ixor1 (by omega) (by omega)]; omega
theorem rd_lt : ∀ {l : List Int} {i : Nat} {p : Nat × Nat}, isB l → i ≤ 9 → rd i l = some p → p.1 < 2 ^ (64 - 7 * i)
 | [], i, p, hb, hi, h => by simp [rd] at h
 | c :: l, i, p, hb, hi, h => by
  obtain ⟨b1, b2⟩ := hb c y34
  simp only [rd] at h
  split at h
  ·cases h
  ·split at h
   ·cases h
   ·rename_i h9
    split at h
    ·cases h
    ·split at h
     ·simp at h; subst h
      simp only
      by_cases e : i = 9
      ·subst e; simp; omega
      ·have : 2 ^ 7 ≤ 2 ^ (64 - 7 * i) := Nat.pow_le_pow_right (by omega) (by omega)
       omega
     ·cases hr : rd (i + 1) l with
      | none => simp [hr] at h
      | some r =>
       simp [hr] at h; subst h
       by_cases e : i = 9
       ·exfalso; subst e; exact h9 ⟨rfl, by omega⟩
       ·have := rd_lt (fun c hc => hb c (y38 _ hc)) (by omega) hr
        have e2 : 2 ^ (64 - 7 * i) = 128 * 2 ^ (64 - 7 * (i + 1)) := by rw [show 64 - 7 * i = 7 + (64 - 7 * (i + 1)) by omega, Nat.pow_add]
        simp only
        rw [e2]; omega
def getS (l : List Int) : Int × Int := match rd 0 l with
 | none => (0, 0)
 | some p => (zag p.1, (p.2 : Int))
theorem zcbp (s : Sl Int) (hb : isB s.l) : Ev (fun q => zn6 q s) (getS s.l) := by
 refine Ev.succ (Ev.bind (zca3 s hb) ?_) (fun q => rfl)
 unfold getS
 cases h : rd 0 s.l with
 | none => exact Ev.pos (by simp [resN]) (Ev.ret _)
 | some p =>
  have h1 := rd_len h
  have h2 := rd_lt hb (by omega) h
  simp only [resN]
  exact Ev.neg (by simp; omega) (Ev.bind (zcbo (by simpa using h2)) (Ev.ret _))
theorem zcbq {l : List Int} : 0 ≤ (getS l).2 ∧ (getS l).2 ≤ l.length ∧ (getS l).2 ≤ 10 := by
 unfold getS
 cases h : rd 0 l with
 | none => simp
 | some p =>
  have := rd_len h
  simp only; omega
theorem zcbr (s : Sl Int) (hz : s.z = false) (hl : s.l.length ≤ 4294967296) : Ev (fun q => zkg q s) ⟨false, true, s.l⟩ :=
 Ev.succ (Ev.neg (by simp [hz]) (Ev.pos hl (Ev.ret _))) (fun q => rfl)
def cutsB (l : List Int) : Prop := ∀ n ∈ l, n = cutI n
instance (l : List Int) : Decidable (cutsB l) := by unfold cutsB; infer_instance
theorem zcbs (n : Int) : Ev (fun q => zkm q n) (!(decide (n = cutI n))) := Ev.succ (Ev.bind (zb9w n) (Ev.ret _)) (fun q => rfl)
theorem zcbt (z : Bool) (L : List Int) (h0 : Int) (h1z : Bool) (h1l : List Int) (h2 : Bool) (h3 : Int) (hL : L.length ≤ 1000000) : ∀ (k i : Nat), L.length = i + k →
  ∃ r, Ev (fun q => zkp q z L (L.length : Int) (i : Int) h0 h1z h1l h2 h3) r ∧ (0 ≤ r ↔ ¬ cutsB (L.drop i))
 | 0, i, hk => by
  refine ⟨-1, Ev.succ (Ev.ne (Ev.ret _)) (fun q => rfl), ?_⟩
  rw [y14 (by omega)]; simp [cutsB]
 | k + 1, i, hk => by
  have hi : i < L.length := by omega
  have he : L[((i : Int)).toNat]? = some L[i] := by simp [hi]
  have hd := y11 hi
  by_cases h : L[i] = cutI L[i]
  ·obtain ⟨r, hr, hi2⟩ := zcbt z L h0 h1z h1l h2 h3 hL k (i + 1) (by omega)
   rw [show ((i + 1 : Nat) : Int) = wrp .i64 ((i : Int) + 1) by rw [zb9h (by omega) (by omega)]; omega] at hr
   refine ⟨r, Ev.succ (Ev.po (Ev.po (Ev.opt he (Ev.bind (zcbs _) (Ev.neg (by simpa using h) hr))))) (fun q => rfl), ?_⟩
   rw [hi2, hd]; unfold cutsB; simp only [List.mem_cons, forall_eq_or_imp]
   exact ⟨fun a b => a b.2, fun a b => a ⟨h, b⟩⟩
  ·refine ⟨i, Ev.succ (Ev.po (Ev.po (Ev.opt he (Ev.bind (zcbs _) (Ev.pos (by simpa using h) (Ev.ret _)))))) (fun q => rfl), ?_⟩
   rw [hd]; unfold cutsB; simp only [List.mem_cons, forall_eq_or_imp]
   exact ⟨fun _ b => h b.1, fun _ => by omega⟩
theorem zcbu (z : Bool) (L : List Int) (h0 : Int) (h1z : Bool) (h1l : List Int) (h2 : Bool) (h3 : Int) (hL : L.length ≤ 1000000) : ∃ r, Ev (fun q => zkq q z L h0 h1z h1l h2 h3) r ∧ (0 ≤ r ↔ ¬ cutsB L) := by
 obtain ⟨r, h, h4⟩ := zcbt z L h0 h1z h1l h2 h3 hL L.length 0 (by omega)
 exact ⟨r, Ev.succ h (fun q => rfl), by simpa using h4⟩
def prs (least : Int) : Int → List Int → Bool
 | last, a :: b :: t => decide (last < a) && (decide (a ≤ 255) && (decide (least ≤ b) && (decide (b ≤ 1099511627776) && prs least a t)))
 | _, _ => true
def pairsOk (least : Int) (l : List Int) : Bool := prs least (-1) l && (decide (l.length % 2 = 0) && decide (l.length ≤ 128))
theorem zcbv (z : Bool) (L : List Int) (least : Int) (hL : L.length ≤ 1000000) : ∀ (k i : Nat) (last : Int), L.length ≤ i + 2 * k → i ≤ 2000000 →
  Ev (fun q => zkn q z L least last (i : Int)) (prs least last (L.drop i) && (decide (L.length % 2 = 0) && decide (L.length ≤ 128)))
 | k, i, last, hk, hi9 => by
  have w1 : wrp .i64 ((i : Int) + 1) = ((i + 1 : Nat) : Int) := by rw [zb9h (by omega) (by omega)]; omega
  have w2 : wrp .i64 ((i : Int) + 2) = ((i + 2 : Nat) : Int) := by rw [zb9h (by omega) (by omega)]; omega
  by_cases h : i + 1 < L.length
  ·cases k with
   | zero => omega
   | succ k =>
    have he : L[((i : Int)).toNat]? = some L[i] := by rw [y30]; exact y9 (by omega)
    have he2 : L[(wrp .i64 ((i : Int) + 1)).toNat]? = some L[i + 1] := by rw [w1, y30]; exact y9 h
    have hd : L.drop i = L[i] :: L[i + 1] :: L.drop (i + 2) := by rw [y11 (by omega), y11 h]
    rw [hd]
    simp only [prs]
    refine Ev.succ (Ev.pos (by rw [w1]; omega) (Ev.po (Ev.opt he (Ev.ite (fun c => Ev.ret' ?_) fun c => Ev.ite (fun c2 => Ev.ret' ?_) fun c2 => Ev.pos (by rw [w1]; omega) (Ev.opt he2 (Ev.ite (fun c3 => Ev.ret' ?_) fun c3 => Ev.ite (fun c4 => Ev.ret' ?_) fun c4 => ?_)))))) (fun q => rfl)
    ·rw [decide_eq_false (show ¬ last < L[i] by omega)]; rfl
    ·rw [decide_eq_false (show ¬ L[i] ≤ 255 by omega)]; simp
    ·rw [decide_eq_false (show ¬ least ≤ L[i + 1] by omega)]; simp
    ·rw [decide_eq_false (show ¬ L[i + 1] ≤ 1099511627776 by omega)]; simp
    ·rw [decide_eq_true (show last < L[i] by omega), decide_eq_true (show L[i] ≤ 255 by omega), decide_eq_true (show least ≤ L[i + 1] by omega), decide_eq_true (show L[i + 1] ≤ 1099511627776 by omega), w2]
     simp only [y62]
     exact zcbv z L least hL k (i + 2) L[i] (by omega) (by omega)
  ·have hp : prs least last (L.drop i) = true := by
    have hl : (L.drop i).length ≤ 1 := by rw [y15]; omega
    generalize L.drop i = X at hl
    match X, hl with
    | [], _ => rfl
    | [a], _ => rfl
   rw [hp, y62]
   have ht : Int.tmod (L.length : Int) 2 = ((L.length % 2 : Nat) : Int) := by rw [Int.tmod_eq_emod_of_nonneg (by omega)]; omega
   refine Ev.succ (Ev.neg (by rw [w1]; omega) (Ev.ite (fun c => Ev.ret' ?_) fun c => Ev.ret' ?_)) (fun q => rfl)
   ·rw [ht] at c
    rw [decide_eq_true (show L.length % 2 = 0 by omega), y62]
    by_cases h4 : L.length ≤ 128
    ·rw [decide_eq_true h4, decide_eq_true (by omega)]
    ·rw [decide_eq_false h4, decide_eq_false (by omega)]
   ·rw [ht] at c
    rw [decide_eq_false (show ¬ L.length % 2 = 0 by omega)]; rfl
theorem zcbw (s : Sl Int) (least : Int) (hL : s.l.length ≤ 1000000) : Ev (fun q => zko q s least) (pairsOk least s.l) := by
 have := zcbv s.z s.l least hL s.l.length 0 (-1) (by omega) (by omega)
 exact Ev.succ this (fun q => rfl)
theorem zcbx (z : Bool) (L : List Int) (least : Int) (hL : L.length ≤ 1000000) (h2 : L.length % 2 = 0) : ∀ (k i : Nat) (last : Int), L.length ≤ i + 2 * k → i ≤ 2000000 → i % 2 = 0 → (∀ e, 0 < i → L[i - 2]? = some e → e = last ∧ 0 ≤ last) → (i = 0 → last = -1) →
  Ev (fun q => zmq q z L least (i : Int)) (prs least last (L.drop i))
 | k, i, last, hk, hi9, hi2, hla, hl0 => by
  have w1 : wrp .i64 ((i : Int) + 1) = ((i + 1 : Nat) : Int) := by rw [zb9h (by omega) (by omega)]; omega
  have w2 : wrp .i64 ((i : Int) + 2) = ((i + 2 : Nat) : Int) := by rw [zb9h (by omega) (by omega)]; omega
  by_cases h : i < L.length
  ·have h' : i + 1 < L.length := by omega
   cases k with
   | zero => omega
   | succ k =>
    have he : L[((i : Int)).toNat]? = some L[i] := by rw [y30]; exact y9 (by omega)
    have he2 : L[(wrp .i64 ((i : Int) + 1)).toNat]? = some L[i + 1] := by rw [w1, y30]; exact y9 h'
    have hd : L.drop i = L[i] :: L[i + 1] :: L.drop (i + 2) := by rw [y11 (by omega), y11 h']
    rw [hd]
    simp only [prs]
    have tail : last < L[i] → ¬ L[i] < 0 → ¬ 255 < L[i] → Ev (fun q => if 0 ≤ (wrp .i64 ((i : Int) + 1)) then ((L[(wrp .i64 ((i : Int) + 1)).toNat]?).bind fun e4 => (if e4 < least then (some false) else (if 1099511627776 < e4 then (some false) else (zmq q z L least (wrp .i64 ((i : Int) + 2)))))) else none) (decide (last < L[i]) && (decide (L[i] ≤ 255) && (decide (least ≤ L[i + 1]) && (decide (L[i + 1] ≤ 1099511627776) && prs least L[i] (L.drop (i + 2)))))) := fun c0 c1 c2 => by
     rw [decide_eq_true c0, decide_eq_true (show L[i] ≤ 255 by omega)]
     refine Ev.pos (by rw [w1]; omega) (Ev.opt he2 (Ev.ite (fun c3 => Ev.ret' ?_) fun c3 => Ev.ite (fun c4 => Ev.ret' ?_) fun c4 => ?_))
     ·rw [decide_eq_false (show ¬ least ≤ L[i + 1] by omega)]; simp
     ·rw [decide_eq_false (show ¬ L[i + 1] ≤ 1099511627776 by omega)]; simp
     ·rw [decide_eq_true (show least ≤ L[i + 1] by omega), decide_eq_true (show L[i + 1] ≤ 1099511627776 by omega), w2]
      simp only [y62]
      refine zcbx z L least hL h2 k (i + 2) L[i] (by omega) (by omega) (by omega) (fun e _ hx => ?_) (by omega)
      rw [Nat.add_sub_cancel, y9 h] at hx
      simp only [y6] at hx
      exact ⟨hx.symm, by omega⟩
    refine Ev.succ (Ev.po (Ev.po (Ev.opt he (Ev.ite (fun c => Ev.ret' ?_) fun c => Ev.ite (fun c2 => Ev.ret' ?_) fun c2 => Ev.ite (fun c3 => ?_) fun c3 => ?_)))) (fun q => rfl)
    ·by_cases h0 : 0 < i
     ·have := (hla L[i - 2] h0 (y9 (by omega))).2
      rw [decide_eq_false (show ¬ last < L[i] by omega)]; rfl
     ·rw [decide_eq_false (show ¬ last < L[i] by have := hl0 (by omega); omega)]; rfl
    ·rw [decide_eq_false (show ¬ L[i] ≤ 255 by omega)]; simp
    ·have w3 : wrp .i64 ((i : Int) - 2) = ((i - 2 : Nat) : Int) := by rw [zb9h (by omega) (by omega)]; omega
     have he3 : L[(wrp .i64 ((i : Int) - 2)).toNat]? = some L[i - 2] := by rw [w3, y30]; exact y9 (by omega)
     have hq := hla L[i - 2] (by omega) (y9 (by omega))
     refine Ev.pos (by rw [w3]; omega) (Ev.opt he3 (Ev.ite (fun c4 => Ev.ret' ?_) fun c4 => tail (by omega) c c2))
     rw [decide_eq_false (show ¬ last < L[i] by omega)]; rfl
    ·exact tail (by have := hl0 (by omega); omega) c c2
  ·rw [y14 (by omega)]
   exact Ev.succ (Ev.ne (Ev.ret _)) (fun q => rfl)
theorem zcby (s : Sl Int) (least : Int) (hL : s.l.length ≤ 1000000) : Ev (fun q => zmr q s least) (pairsOk least s.l) := by
 have ht : Int.tmod (s.l.length : Int) 2 = ((s.l.length % 2 : Nat) : Int) := by rw [Int.tmod_eq_emod_of_nonneg (by omega)]; omega
 unfold pairsOk
 refine Ev.succ (Ev.ite (fun c => Ev.ite (fun c2 => Ev.ret' ?_) fun c2 => ?_) fun c => Ev.ret' ?_) (fun q => rfl)
 ·rw [decide_eq_false (show ¬ s.l.length ≤ 128 by omega)]; simp
 ·rw [ht] at c
  rw [decide_eq_true (show s.l.length ≤ 128 by omega), decide_eq_true (show s.l.length % 2 = 0 by omega)]
  have := zcbx s.z s.l least hL (by omega) s.l.length 0 (-1) (by omega) (by omega) (by omega) (fun e h => by omega) (fun _ => rfl)
  refine Ev.cast this ?_
  simp
 ·rw [ht] at c
  rw [decide_eq_false (show ¬ s.l.length % 2 = 0 by omega)]; simp
def kindOk (k : Int) (l : List Int) : Bool :=
 if k = 0 ∨ k = 1 then decide (l.length = 1 ∧ cutsB l) else if k = 2 ∨ k = 3 then decide (l.length ≤ 64 ∧ cutsB l) else if k = 4 then pairsOk (-1099511627776) l else if k = 5 then pairsOk 0 l else false
def mayS (s : zj4) : Bool := if s.To < 0 then false else if 3 ≤ s.To then false else if s.Sealed = true then kindOk s.Kind s.L.l else if s.To = 0 then kindOk s.Kind s.L.l else false
theorem zcbz (s : zj4) (hL : s.L.l.length ≤ 1000000) : Ev (fun q => ((zkq q s.L.z s.L.l s.Kind s.L.z s.L.l s.Sealed s.To).bind fun r1 => (if s.Kind = 0 then (if (s.L.l.length : Int) = 1 then (some (!(decide (0 ≤ r1)))) else (some false)) else (if s.Kind = 1 then (if (s.L.l.length : Int) = 1 then (some (!(decide (0 ≤ r1)))) else (some false)) else (if s.Kind = 2 then (if (s.L.l.length : Int) ≤ 64 then (some (!(decide (0 ≤ r1)))) else (some false)) else (if s.Kind = 3 then (if (s.L.l.length : Int) ≤ 64 then (some (!(decide (0 ≤ r1)))) else (some false)) else (if s.Kind = 4 then ((zko q s.L (-1099511627776)).bind fun r2 => (some r2)) else (if s.Kind = 5 then ((zko q s.L 0).bind fun r3 => (some r3)) else (some false))))))))) (kindOk s.Kind s.L.l) := by
 obtain ⟨r, h, hr⟩ := zcbu s.L.z s.L.l s.Kind s.L.z s.L.l s.Sealed s.To hL
 have one : ∀ {P : Prop} [Decidable P], P → Ev (fun _ : Nat => (some (!(decide (0 ≤ r))) : Option Bool)) (decide (P ∧ cutsB s.L.l)) := fun {P} _ hp => Ev.ret' (by
  by_cases hc : cutsB s.L.l
  ·rw [decide_eq_false (fun e => hr.1 e hc)]; symm; simp only [Bool.not_false, decide_eq_true_eq]; exact ⟨hp, hc⟩
  ·rw [decide_eq_true (hr.2 hc)]; symm; simp only [Bool.not_true, decide_eq_false_iff_not]; exact fun e => hc e.2)
 have no : ∀ {P : Prop} [Decidable P], ¬ P → Ev (fun _ : Nat => (some false : Option Bool)) (decide (P ∧ cutsB s.L.l)) := fun {P} _ hp => Ev.ret' (by
  symm; simp only [decide_eq_false_iff_not]; exact fun e => hp e.1)
 refine Ev.bind h ?_
 unfold kindOk
 by_cases k0 : s.Kind = 0
 ·rw [if_pos (show s.Kind = 0 ∨ s.Kind = 1 from .inl k0)]
  by_cases hl : s.L.l.length = 1
  ·exact Ev.pos k0 (Ev.po (one hl))
  ·exact Ev.pos k0 (Ev.ne (no hl))
 by_cases k1 : s.Kind = 1
 ·rw [if_pos (show s.Kind = 0 ∨ s.Kind = 1 from .inr k1)]
  by_cases hl : s.L.l.length = 1
  ·exact Ev.neg k0 (Ev.pos k1 (Ev.po (one hl)))
  ·exact Ev.neg k0 (Ev.pos k1 (Ev.ne (no hl)))
 rw [if_neg (show ¬ (s.Kind = 0 ∨ s.Kind = 1) by omega)]
 by_cases k2 : s.Kind = 2
 ·rw [if_pos (show s.Kind = 2 ∨ s.Kind = 3 from .inl k2)]
  by_cases hl : s.L.l.length ≤ 64
  ·exact Ev.neg k0 (Ev.neg k1 (Ev.pos k2 (Ev.po (one hl))))
  ·exact Ev.neg k0 (Ev.neg k1 (Ev.pos k2 (Ev.ne (no hl))))
 by_cases k3 : s.Kind = 3
 ·rw [if_pos (show s.Kind = 2 ∨ s.Kind = 3 from .inr k3)]
  by_cases hl : s.L.l.length ≤ 64
  ·exact Ev.neg k0 (Ev.neg k1 (Ev.neg k2 (Ev.pos k3 (Ev.po (one hl)))))
  ·exact Ev.neg k0 (Ev.neg k1 (Ev.neg k2 (Ev.pos k3 (Ev.ne (no hl)))))
 rw [if_neg (show ¬ (s.Kind = 2 ∨ s.Kind = 3) by omega)]
 refine Ev.neg k0 (Ev.neg k1 (Ev.neg k2 (Ev.neg k3 (Ev.ite (fun k4 => ?_) fun k4 => Ev.ite (fun k5 => ?_) fun k5 => ?_))))
 ·rw [if_pos k4]; exact Ev.bind (zcbw _ _ hL) (Ev.ret _)
 ·rw [if_neg k4, if_pos k5]; exact Ev.bind (zcbw _ _ hL) (Ev.ret _)
 ·rw [if_neg k4, if_neg k5]; exact Ev.ret _
theorem zcb0 (s : zj4) (hL : s.L.l.length ≤ 1000000) : Ev (fun q => zkr q s) (mayS s) := by
 have hb := zcbz s hL
 unfold mayS
 refine Ev.succ (Ev.ite (fun h => ?_) fun h => Ev.ite (fun h2 => ?_) fun h2 => Ev.ite (fun h3 => ?_) fun h3 => Ev.ite (fun h4 => ?_) fun h4 => ?_) (fun q => rfl)
 ·rw [if_pos h]; exact Ev.ret _
 ·rw [if_neg h, if_pos h2]; exact Ev.ret _
 ·rw [if_neg h, if_neg h2, if_pos h3]; exact hb
 ·rw [if_neg h, if_neg h2, if_neg h3, if_pos h4]; exact hb
 ·rw [if_neg h, if_neg h2, if_neg h3, if_neg h4]; exact Ev.ret _
theorem zcb1 (h0 : Int) (z : Bool) (L : List Int) (h2 : Bool) (h3 : Int) (hL : L.length ≤ 1000000) : ∀ (k i : Nat), L.length = i + k →
  ∃ r, Ev (fun q => zmt q (i : Int) h0 z L h2 h3) r ∧ (r = true ↔ cutsB (L.drop i))
 | 0, i, hk => by
  refine ⟨true, Ev.succ (Ev.ne (Ev.ret _)) (fun q => rfl), ?_⟩
  rw [y14 (by omega)]; simp [cutsB]
 | k + 1, i, hk => by
  have hi : i < L.length := by omega
  have he : L[((i : Int)).toNat]? = some L[i] := by simp [hi]
  have hd := y11 hi
  by_cases h : L[i] = cutI L[i]
  ·obtain ⟨r, hr, hi2⟩ := zcb1 h0 z L h2 h3 hL k (i + 1) (by omega)
   rw [show ((i + 1 : Nat) : Int) = wrp .i64 ((i : Int) + 1) by rw [zb9h (by omega) (by omega)]; omega] at hr
   refine ⟨r, Ev.succ (Ev.po (Ev.po (Ev.opt he (Ev.bind (zb9x _) (Ev.pos h hr))))) (fun q => rfl), ?_⟩
   rw [hi2, hd]; unfold cutsB; simp only [List.mem_cons, forall_eq_or_imp]
   exact ⟨fun a => ⟨h, a⟩, fun a => a.2⟩
  ·refine ⟨false, Ev.succ (Ev.po (Ev.po (Ev.opt he (Ev.bind (zb9x _) (Ev.neg h (Ev.ret _)))))) (fun q => rfl), ?_⟩
   rw [hd]
   exact ⟨fun e => (by cases e), fun a => absurd (a _ y34) h⟩
theorem zcb2 (s : zj4) (hL : s.L.l.length ≤ 1000000) : Ev (fun q => (if s.Kind < 0 then (some false) else (if 6 ≤ s.Kind then (some false) else (if s.Kind = 4 then ((zmr q s.L (-1099511627776)).bind fun r1 => (some r1)) else (if s.Kind = 5 then ((zmr q s.L 0).bind fun r2 => (some r2)) else (if 64 < (s.L.l.length : Int) then (some false) else (if (s.L.l.length : Int) = 1 then (zmt q 0 s.Kind s.L.z s.L.l s.Sealed s.To) else (if s.Kind ≤ 1 then (some false) else (zmt q 0 s.Kind s.L.z s.L.l s.Sealed s.To))))))))) (kindOk s.Kind s.L.l) := by
 obtain ⟨r, h, hr⟩ := zcb1 s.Kind s.L.z s.L.l s.Sealed s.To hL s.L.l.length 0 (by omega)
 rw [y40] at hr
 have one : ∀ {P : Prop} [Decidable P], P → r = (decide (P ∧ cutsB s.L.l)) := fun {P} _ hp => by
  by_cases hc : cutsB s.L.l
  ·rw [hr.2 hc]; symm; simp only [decide_eq_true_eq]; exact ⟨hp, hc⟩
  ·have : r = false := by cases r; rfl; exact absurd (hr.1 rfl) hc
   rw [this]; symm; simp only [decide_eq_false_iff_not]; exact fun e => hc e.2
 have no : ∀ {P : Prop} [Decidable P], ¬ P → false = (decide (P ∧ cutsB s.L.l)) := fun {P} _ hp => by
  symm; simp only [decide_eq_false_iff_not]; exact fun e => hp e.1
 unfold kindOk
 refine Ev.ite (fun c => Ev.ret' ?_) fun c => Ev.ite (fun c2 => Ev.ret' ?_) fun c2 => Ev.ite (fun k4 => ?_) fun k4 => Ev.ite (fun k5 => ?_) fun k5 => ?_
 ·rw [if_neg (show ¬ (s.Kind = 0 ∨ s.Kind = 1) by omega), if_neg (show ¬ (s.Kind = 2 ∨ s.Kind = 3) by omega), if_neg (show ¬ s.Kind = 4 by omega), if_neg (show ¬ s.Kind = 5 by omega)]
 ·rw [if_neg (show ¬ (s.Kind = 0 ∨ s.Kind = 1) by omega), if_neg (show ¬ (s.Kind = 2 ∨ s.Kind = 3) by omega), if_neg (show ¬ s.Kind = 4 by omega), if_neg (show ¬ s.Kind = 5 by omega)]
 ·rw [if_neg (show ¬ (s.Kind = 0 ∨ s.Kind = 1) by omega), if_neg (show ¬ (s.Kind = 2 ∨ s.Kind = 3) by omega), if_pos k4]; exact Ev.bind (zcby _ _ hL) (Ev.ret _)
 ·rw [if_neg (show ¬ (s.Kind = 0 ∨ s.Kind = 1) by omega), if_neg (show ¬ (s.Kind = 2 ∨ s.Kind = 3) by omega), if_neg k4, if_pos k5]; exact Ev.bind (zcby _ _ hL) (Ev.ret _)
 ·by_cases k01 : s.Kind = 0 ∨ s.Kind = 1
  ·rw [if_pos k01]
   refine Ev.ite (fun c3 => Ev.ret' ?_) fun c3 => Ev.ite (fun c4 => Ev.cast h ?_) fun c4 => Ev.po (Ev.ret' ?_)
   ·exact no (by omega)
   ·exact one (by omega)
   ·exact no (by omega)
  ·rw [if_neg k01, if_pos (show s.Kind = 2 ∨ s.Kind = 3 by omega)]
   refine Ev.ite (fun c3 => Ev.ret' ?_) fun c3 => Ev.ite (fun c4 => Ev.cast h ?_) fun c4 => Ev.ne (Ev.cast h ?_)
   ·exact no (by omega)
   ·exact one (by omega)
   ·exact one (by omega)
theorem zcb3 (s : zj4) (hL : s.L.l.length ≤ 1000000) : Ev (fun q => zmu q s) (mayS s) := by
 have hb := zcb2 s hL
 unfold mayS
 refine Ev.succ (Ev.ite (fun h => ?_) fun h => Ev.ite (fun h2 => ?_) fun h2 => Ev.ite (fun h3 => ?_) fun h3 => Ev.ite (fun h4 => ?_) fun h4 => ?_) (fun q => rfl)
 ·rw [if_pos h]; exact Ev.ret _
 ·rw [if_neg h, if_pos (by omega)]; exact Ev.ret _
 ·rw [if_neg h, if_neg (by omega), if_pos h3]; exact hb
 ·rw [if_neg h, if_neg (by omega), if_neg h3, if_pos h4]; exact hb
 ·rw [if_neg h, if_neg (by omega), if_neg h3, if_neg h4]; exact Ev.ret _
def entOk (e : zj5) : Bool := decide (0 ≤ e.Proc) && (decide (e.Proc ≤ 64) && (decide (0 ≤ e.Seq) && (decide (e.Seq < 4611686018427387904) && (decide (-1125899906842624 ≤ e.Resp) && decide (e.Resp ≤ 1125899906842624)))))
theorem zcb4 (e : zj5) : Ev (fun q => zmy q e) (entOk e) := by
 unfold entOk
 exact Ev.succ (Ev.ite (fun h1 => Ev.ite (fun h2 => Ev.ite (fun h3 => Ev.ite (fun h4 => Ev.ite (fun h5 => Ev.ret' (by simp [*])) fun h5 => Ev.ret' (by simp [*])) fun h4 => Ev.ret' (by simp [*])) fun h3 => Ev.ret' (by simp [*])) fun h2 => Ev.ret' (by simp [*])) fun h1 => Ev.ret' (by simp [*])) (fun q => rfl)
def tabB : Int → List zj5 → Bool
 | _, [] => true
 | last, e :: t => entOk e && (decide (last < e.Proc) && tabB e.Proc t)
theorem zcb5 (z z2 : Bool) (L : List zj5) (hL : L.length ≤ 1000000) : ∀ (k i : Nat) (last : Int), L.length = i + k → (∀ e, 0 < i → L[i - 1]? = some e → e.Proc = last) → (i = 0 → last = -1) →
  Ev (fun q => zmz q z L z2 L (L.length : Int) (i : Int)) (tabB last (L.drop i))
 | 0, i, last, hk, h1, h0 => by
  refine Ev.succ (Ev.ne (Ev.ret' ?_)) (fun q => rfl)
  rw [y14 (by omega)]; rfl
 | k + 1, i, last, hk, h1, h0 => by
  have hi : i < L.length := by omega
  have he : L[((i : Int)).toNat]? = some L[i] := by simp [hi]
  rw [y11 hi]
  simp only [tabB]
  have w1 : wrp .i64 ((i : Int) + 1) = ((i + 1 : Nat) : Int) := by rw [zb9h (by omega) (by omega)]; omega
  have ih := zcb5 z z2 L hL k (i + 1) L[i].Proc (by omega) (fun e _ hx => by
   rw [Nat.add_sub_cancel, y9 hi] at hx
   simp only [y6] at hx; rw [hx]) (by omega)
  refine Ev.succ (Ev.po (Ev.po (Ev.opt he (Ev.bind (zcb4 _) (Ev.ite (fun c => Ev.ite (fun c2 => ?_) fun c2 => ?_) fun c => Ev.ret' ?_))))) (fun q => rfl)
  ·have w3 : wrp .i64 ((i : Int) - 1) = ((i - 1 : Nat) : Int) := by rw [zb9h (by omega) (by omega)]; omega
   have he3 : L[(wrp .i64 ((i : Int) - 1)).toNat]? = some L[i - 1] := by rw [w3, y30]; exact y9 (by omega)
   have hq := h1 L[i - 1] (by omega) (y9 (by omega))
   refine Ev.pos (by rw [w3]; omega) (Ev.opt he3 (Ev.ite (fun c4 => Ev.ret' ?_) fun c4 => ?_))
   ·rw [c, decide_eq_false (show ¬ last < L[i].Proc by omega)]; rfl
   ·rw [c, decide_eq_true (show last < L[i].Proc by omega), w1]; simpa using ih
  ·have := h0 (by omega)
   have hp : 0 ≤ L[i].Proc := by unfold entOk at c; simp only [y8, decide_eq_true_eq] at c; exact c.1
   rw [c, decide_eq_true (show last < L[i].Proc by omega), w1]; simpa using ih
  ·simp only [Bool.not_eq_true] at c; rw [c]; rfl
theorem zcb6 (s : Sl zj5) (hL : s.l.length ≤ 1000000) : Ev (fun q => zm0 q s) (tabB (-1) s.l) :=
 Ev.succ (zcb5 s.z s.z s.l hL s.l.length 0 (-1) (by omega) (fun e h => by omega) (fun _ => rfl)) (fun q => rfl)
theorem zcb7 (z : Bool) (L : List zj5) (hL : L.length ≤ 1000000) : ∀ (k i : Nat) (last : Int), L.length = i + k → (∀ e, 0 < i → L[i - 1]? = some e → e.Proc = last) → (i = 0 → last = -1) →
  Ev (fun q => zmv q z L (i : Int)) (tabB last (L.drop i))
 | 0, i, last, hk, h1, h0 => by
  refine Ev.succ (Ev.ne (Ev.ret' ?_)) (fun q => rfl)
  rw [y14 (by omega)]; rfl
 | k + 1, i, last, hk, h1, h0 => by
  have hi : i < L.length := by omega
  have he : L[((i : Int)).toNat]? = some L[i] := by simp [hi]
  rw [y11 hi]
  simp only [tabB]
  have w1 : wrp .i64 ((i : Int) + 1) = ((i + 1 : Nat) : Int) := by rw [zb9h (by omega) (by omega)]; omega
  have ih := zcb7 z L hL k (i + 1) L[i].Proc (by omega) (fun e _ hx => by
   rw [Nat.add_sub_cancel, y9 hi] at hx
   simp only [y6] at hx; rw [hx]) (by omega)
  refine Ev.succ (Ev.po (Ev.po (Ev.opt he (Ev.ite (fun c1 => Ev.ret' ?_) fun c1 => Ev.ite (fun c2 => Ev.ret' ?_) fun c2 => Ev.ite (fun c3 => Ev.ret' ?_) fun c3 => Ev.ite (fun c4 => Ev.ret' ?_) fun c4 => Ev.ite (fun c5 => Ev.ret' ?_) fun c5 => Ev.ite (fun c6 => Ev.ret' ?_) fun c6 => Ev.ite (fun c7 => ?_) fun c7 => ?_)))) (fun q => rfl)
  ·unfold entOk; rw [decide_eq_false (show ¬ 0 ≤ L[i].Proc by omega)]; simp
  ·unfold entOk; rw [decide_eq_false (show ¬ L[i].Proc ≤ 64 by omega)]; simp
  ·unfold entOk; rw [decide_eq_false (show ¬ 0 ≤ L[i].Seq by omega)]; simp
  ·unfold entOk; rw [decide_eq_false (show ¬ L[i].Seq < 4611686018427387904 by omega)]; simp
  ·unfold entOk; rw [decide_eq_false (show ¬ -1125899906842624 ≤ L[i].Resp by omega)]; simp
  ·unfold entOk; rw [decide_eq_false (show ¬ L[i].Resp ≤ 1125899906842624 by omega)]; simp
  ·have c : entOk L[i] = true := by unfold entOk; simp only [y8, decide_eq_true_eq]; omega
   have w3 : wrp .i64 ((i : Int) - 1) = ((i - 1 : Nat) : Int) := by rw [zb9h (by omega) (by omega)]; omega
   have he3 : L[(wrp .i64 ((i : Int) - 1)).toNat]? = some L[i - 1] := by rw [w3, y30]; exact y9 (by omega)
   have hq := h1 L[i - 1] (by omega) (y9 (by omega))
   refine Ev.pos (by rw [w3]; omega) (Ev.opt he3 (Ev.ite (fun c4 => Ev.ret' ?_) fun c4 => ?_))
   ·rw [c, decide_eq_false (show ¬ last < L[i].Proc by omega)]; rfl
   ·rw [c, decide_eq_true (show last < L[i].Proc by omega), w1]; simpa using ih
  ·have c : entOk L[i] = true := by unfold entOk; simp only [y8, decide_eq_true_eq]; omega
   have := h0 (by omega)
   rw [c, decide_eq_true (show last < L[i].Proc by omega), w1]; simpa using ih
theorem zcb8 (s : Sl zj5) (hL : s.l.length ≤ 1000000) : Ev (fun q => zmw q s) (tabB (-1) s.l) :=
 Ev.succ (zcb7 s.z s.l hL s.l.length 0 (-1) (by omega) (fun e h => by omega) (fun _ => rfl)) (fun q => rfl)
def mayN (s : zj6) : Bool := decide (0 ≤ s.Index) && (decide (s.Index < 4611686018427387904) && (mayS s.State && tabB (-1) s.Table.l))
theorem zcb9 (s : zj6) (h1 : s.State.L.l.length ≤ 1000000) (h2 : s.Table.l.length ≤ 1000000) : Ev (fun q => zm1 q s) (mayN s) := by
 unfold mayN
 refine Ev.succ (Ev.ite (fun c1 => Ev.ite (fun c2 => Ev.bind (zcb0 _ h1) (Ev.ite (fun c3 => Ev.bind (zcb6 _ h2) (Ev.ret' ?_)) fun c3 => Ev.ret' ?_)) fun c2 => Ev.ret' ?_) fun c1 => Ev.ret' ?_) (fun q => rfl)
 ·simp [c1, c2, c3]
 ·simp [c3]
 ·simp [c2]
 ·simp [c1]
theorem zcca (s : zj6) (h1 : s.State.L.l.length ≤ 1000000) (h2 : s.Table.l.length ≤ 1000000) : Ev (fun q => zmx q s) (mayN s) := by
 unfold mayN
 refine Ev.succ (Ev.bind (zcb3 _ h1) (Ev.bind (zcb8 _ h2) (Ev.ite (fun c1 => Ev.ite (fun c2 => Ev.ite (fun c3 => Ev.ret' ?_) fun c3 => Ev.ret' ?_) fun c2 => Ev.ret' ?_) fun c1 => Ev.ret' ?_))) (fun q => rfl)
 ·simp [c1, c2, c3]
 ·simp [c3]
 ·simp only [Bool.not_eq_true] at c2; simp [c2]
 ·simp only [Bool.not_eq_true] at c1; simp [c1]
instance : DecidableEq zj5 := fun a b => if h : a.Proc = b.Proc ∧ a.Seq = b.Seq ∧ a.Resp = b.Resp then isTrue (by cases a; cases b; simp_all) else isFalse (fun e => h (by rw [e]; exact ⟨rfl, rfl, rfl⟩))
theorem zccb {a b : zj5} (h1 : a.Proc = b.Proc) (h2 : a.Seq = b.Seq) (h3 : a.Resp = b.Resp) : a = b := by cases a; cases b; simp_all
/-- A process's entry. -/
def findE (p : Int) : List zj5 → Option zj5
 | [] => none
 | e :: t => if e.Proc = p then some e else findE p t
theorem zccc (z : Bool) (L : List zj5) (p : Int) (hL : L.length ≤ 1000000) : ∀ (k i : Nat), L.length = i + k →
  ∃ r, Ev (fun q => zm2 q z L (L.length : Int) (i : Int) p) r ∧ ((r < 0 ∧ findE p (L.drop i) = none) ∨ (0 ≤ r ∧ ∃ e, L[r.toNat]? = some e ∧ findE p (L.drop i) = some e))
 | 0, i, hk => by
  refine ⟨-1, Ev.succ (Ev.ne (Ev.ret _)) (fun q => rfl), .inl ⟨by omega, ?_⟩⟩
  rw [y14 (by omega)]; rfl
 | k + 1, i, hk => by
  have hi : i < L.length := by omega
  have he : L[((i : Int)).toNat]? = some L[i] := by simp [hi]
  rw [y11 hi]
  simp only [findE]
  by_cases h : L[i].Proc = p
  ·rw [if_pos h]
   exact ⟨i, Ev.succ (Ev.po (Ev.po (Ev.opt he (Ev.pos h (Ev.ret _))))) (fun q => rfl), .inr ⟨by omega, L[i], he, rfl⟩⟩
  ·rw [if_neg h]
   obtain ⟨r, hr, hr2⟩ := zccc z L p hL k (i + 1) (by omega)
   rw [show ((i + 1 : Nat) : Int) = wrp .i64 ((i : Int) + 1) by rw [zb9h (by omega) (by omega)]; omega] at hr
   exact ⟨r, Ev.succ (Ev.po (Ev.po (Ev.opt he (Ev.neg h hr)))) (fun q => rfl), hr2⟩
theorem zccd (s : Sl zj5) (p : Int) (hL : s.l.length ≤ 1000000) : ∃ r, Ev (fun q => zm4 q s p) r ∧ ((r < 0 ∧ findE p s.l = none) ∨ (0 ≤ r ∧ ∃ e, s.l[r.toNat]? = some e ∧ findE p s.l = some e)) := by
 obtain ⟨r, h, h2⟩ := zccc s.z s.l p hL s.l.length 0 (by omega)
 rw [y40] at h2
 exact ⟨r, Ev.succ (Ev.bind (Ev.succ h (fun q => rfl)) (Ev.ret _)) (fun q => rfl), h2⟩
/-- How many numbers two lists begin with alike. -/
def com : List Int → List Int → Nat
 | a :: x, b :: y => if a = b then com x y + 1 else 0
 | _, _ => 0
theorem com_le : ∀ (x y : List Int), com x y ≤ x.length ∧ com x y ≤ y.length
 | [], y => by simp [com]
 | a :: x, [] => by simp [com]
 | a :: x, b :: y => by
  simp only [com]
  split
  ·have := com_le x y; simp only [y23]; omega
  ·simp
theorem zcce {x y : List Int} {i : Nat} (hx : i < x.length) (hy : i < y.length) : com (x.drop i) (y.drop i) = if x[i] = y[i] then com (x.drop (i + 1)) (y.drop (i + 1)) + 1 else 0 := by
 rw [y11 hx, y11 hy]; rfl
theorem zccf {x y : List Int} {i : Nat} (h : x.length ≤ i ∨ y.length ≤ i) : com (x.drop i) (y.drop i) = 0 := by
 rcases h with h | h
 ·rw [y14 h]; cases y.drop i <;> rfl
 ·rw [y14 h]; cases x.drop i <;> rfl
theorem zccg (z1 z2 : Bool) (x y : List Int) (hL : x.length ≤ 1000000) : ∀ (k i : Nat), x.length = i + k →
  Ev (fun q => zm5 q z1 x z2 y (i : Int)) ((i + com (x.drop i) (y.drop i) : Nat) : Int)
 | 0, i, hk => by
  refine Ev.succ (Ev.ne (Ev.ret' ?_)) (fun q => rfl)
  rw [zccf (.inl (by omega))]; rfl
 | k + 1, i, hk => by
  have hi : i < x.length := by omega
  have he : x[((i : Int)).toNat]? = some x[i] := by simp [hi]
  by_cases hy : i < y.length
  ·have he2 : y[((i : Int)).toNat]? = some y[i] := by simp [hy]
   rw [zcce hi hy]
   refine Ev.succ (Ev.po (Ev.po (Ev.po (Ev.opt he (Ev.opt he2 (Ev.ite (fun h => ?_) fun h => ?_)))))) (fun q => rfl)
   ·rw [if_pos h]
    have := zccg z1 z2 x y hL k (i + 1) (by omega)
    rw [show ((i + 1 : Nat) : Int) = wrp .i64 ((i : Int) + 1) by rw [zb9h (by omega) (by omega)]; omega] at this
    refine Ev.cast this ?_
    omega
   ·rw [if_neg h]; exact Ev.ret' (by omega)
  ·rw [zccf (.inr (by omega))]
   exact Ev.succ (Ev.po (Ev.ne (Ev.ret' (by omega)))) (fun q => rfl)
theorem zcch (a b : Sl Int) (hL : a.l.length ≤ 1000000) : Ev (fun q => zm6 q a b) ((com a.l b.l : Nat) : Int) := by
 have := zccg a.z b.z a.l b.l hL a.l.length 0 (by omega)
 exact Ev.succ (Ev.cast this (by simp)) (fun q => rfl)
theorem zcci {x : List Int} {i : Nat} (h : i < x.length) : x[x.length - 1 - i]? = some (x.reverse[i]'(by rw [List.length_reverse]; exact h)) := by
 rw [List.getElem_reverse, y9 (by omega)]
theorem zccj (z1 z2 : Bool) (x y : List Int) (hL : x.length ≤ 1000000) (hL2 : y.length ≤ 1000000) : ∀ (k i : Nat), x.length = i + k →
  Ev (fun q => zm7 q z1 x z2 y (i : Int)) ((i + com (x.reverse.drop i) (y.reverse.drop i) : Nat) : Int)
 | 0, i, hk => by
  refine Ev.succ (Ev.ne (Ev.ret' ?_)) (fun q => rfl)
  rw [zccf (.inl (by rw [List.length_reverse]; omega))]; rfl
 | k + 1, i, hk => by
  have hi : i < x.length := by omega
  have hir : i < x.reverse.length := by rw [List.length_reverse]; exact hi
  have w1 : wrp .i64 (wrp .i64 ((x.length : Int) - 1) - (i : Int)) = ((x.length - 1 - i : Nat) : Int) := by rw [zb9h (x := (x.length : Int) - 1) (by omega) (by omega), zb9h (by omega) (by omega)]; omega
  have he : x[(wrp .i64 (wrp .i64 ((x.length : Int) - 1) - (i : Int))).toNat]? = some x.reverse[i] := by rw [w1, y30]; exact zcci hi
  by_cases hy : i < y.length
  ·have hyr : i < y.reverse.length := by rw [List.length_reverse]; exact hy
   have w2 : wrp .i64 (wrp .i64 ((y.length : Int) - 1) - (i : Int)) = ((y.length - 1 - i : Nat) : Int) := by rw [zb9h (x := (y.length : Int) - 1) (by omega) (by omega), zb9h (by omega) (by omega)]; omega
   have he2 : y[(wrp .i64 (wrp .i64 ((y.length : Int) - 1) - (i : Int))).toNat]? = some y.reverse[i] := by rw [w2, y30]; exact zcci hy
   rw [zcce hir hyr]
   refine Ev.succ (Ev.po (Ev.po (Ev.pos (by rw [w1]; omega) (Ev.opt he (Ev.pos (by rw [w2]; omega) (Ev.opt he2 (Ev.ite (fun h => ?_) fun h => ?_))))))) (fun q => rfl)
   ·rw [if_pos h]
    have := zccj z1 z2 x y hL hL2 k (i + 1) (by omega)
    rw [show ((i + 1 : Nat) : Int) = wrp .i64 ((i : Int) + 1) by rw [zb9h (by omega) (by omega)]; omega] at this
    refine Ev.cast this ?_
    omega
   ·rw [if_neg h]; exact Ev.ret' (by omega)
  ·rw [zccf (.inr (by rw [List.length_reverse]; omega))]
   exact Ev.succ (Ev.po (Ev.ne (Ev.ret' (by omega)))) (fun q => rfl)
theorem zcck (a b : Sl Int) (hL : a.l.length ≤ 1000000) (hL2 : b.l.length ≤ 1000000) : Ev (fun q => zm8 q a b) ((com a.l.reverse b.l.reverse : Nat) : Int) := by
 have := zccj a.z b.z a.l b.l hL hL2 a.l.length 0 (by omega)
 exact Ev.succ (Ev.cast this (by simp)) (fun q => rfl)
/-- The entries that are new. -/
def newT (ta : List zj5) : List zj5 → List zj5
 | [] => []
 | e :: t => if findE e.Proc ta = some e then newT ta t else e :: newT ta t
def lacksB (ta tb : List zj5) : Bool := match ta with
 | [] => false
 | e :: t => decide (findE e.Proc tb = none) || lacksB t tb
theorem zccl (z : Bool) (L : List zj5) (x0 x1 : Int) (x2z : Bool) (x2l : List Int) (x3 : Bool) (x4 : Int) (x5z : Bool) (x5l : List zj5) (y0 y1 : Int) (y2z : Bool) (y2l : List Int) (y3 : Bool) (y4 : Int) (tz : Bool) (T : List zj5) (hL : L.length ≤ 1000000) (hT : T.length ≤ 1000000) : ∀ (k i : Nat), L.length = i + k →
  ∃ r, Ev (fun q => zm9 q z L (L.length : Int) (i : Int) x0 x1 x2z x2l x3 x4 x5z x5l y0 y1 y2z y2l y3 y4 tz T) r ∧ (0 ≤ r ↔ lacksB (L.drop i) T = true)
 | 0, i, hk => by
  refine ⟨-1, Ev.succ (Ev.ne (Ev.ret _)) (fun q => rfl), ?_⟩
  rw [y14 (by omega)]; simp [lacksB]
 | k + 1, i, hk => by
  have hi : i < L.length := by omega
  have he : L[((i : Int)).toNat]? = some L[i] := by simp [hi]
  obtain ⟨r, hr, hr2⟩ := zccd ⟨tz, T⟩ L[i].Proc hT
  rw [y11 hi]
  simp only [lacksB]
  rcases hr2 with ⟨h1, h2⟩ | ⟨h1, e, h2, h3⟩
  ·refine ⟨i, Ev.succ (Ev.po (Ev.po (Ev.opt he (Ev.bind hr (Ev.pos h1 (Ev.ret _)))))) (fun q => rfl), ?_⟩
   simp only at h2
   rw [decide_eq_true h2]; simp
  ·obtain ⟨r', hr', hr2'⟩ := zccl z L x0 x1 x2z x2l x3 x4 x5z x5l y0 y1 y2z y2l y3 y4 tz T hL hT k (i + 1) (by omega)
   rw [show ((i + 1 : Nat) : Int) = wrp .i64 ((i : Int) + 1) by rw [zb9h (by omega) (by omega)]; omega] at hr'
   refine ⟨r', Ev.succ (Ev.po (Ev.po (Ev.opt he (Ev.bind hr (Ev.neg (by omega) hr'))))) (fun q => rfl), ?_⟩
   simp only at h3
   rw [decide_eq_false (by rw [h3]; exact fun c => by cases c), Bool.false_or]
   exact hr2'
theorem zccm (z0 : Bool) (L : List (Sl Int)) (z : Bool) (hL : L.length ≤ 1099511627776) : ∀ (k i : Nat) (m : Nat) (l : List Int), L.length = i + k → m + (flat (L.drop i)).length ≤ l.length →
  Ev (fun q => zpa q m z0 L (L.length : Int) (i : Int) z l) ⟨z, true, l.take m ++ flat (L.drop i)⟩
 | 0, i, m, l, hk, hl => by
  refine Ev.succ (Ev.ne (Ev.ret' ?_)) (fun q => rfl)
  rw [y14 (by omega)]; simp [flat]
 | k + 1, i, m, l, hk, hl => by
  have hi : i < L.length := by omega
  have hg : L[(i : Int).toNat]? = some L[i] := by simpa using y9 hi
  rw [y11 hi, zcas, y12] at hl
  refine Ev.succ (Ev.po (Ev.po (Ev.opt hg (Ev.pos (by omega) ?_)))) (fun q => rfl)
  rw [zb9h (by omega) (by omega), show ((i : Int) + 1) = ((i + 1 : Nat) : Int) by omega]
  refine (zccm z0 L z hL k (i + 1) (m + L[i].l.length) _ (by omega) ?_).cast ?_
  ·simp only [y12, y22, y15]; omega
  ·congr 1
   rw [y11 hi, zcas, ← y35]
   congr 1
   rw [List.take_append_of_le_length (by simp only [y12, y22]; omega), List.take_of_length_le (by simp only [y12, y22]; omega)]
theorem zccn (z0 : Bool) (L : List (Sl Int)) (hL : L.length ≤ 1099511627776) : ∀ (k i : Nat) (z : Bool) (l : List Int), L.length = i + k → l.length + (flat (L.drop i)).length ≤ 4294967296 →
  ∃ z', Ev (fun q => zpb q z0 L (L.length : Int) (i : Int) z l) ⟨z', true, l ++ flat (L.drop i)⟩
 | 0, i, z, l, hk, hl => ⟨z, by
  refine Ev.succ (Ev.ne (Ev.ret' ?_)) (fun q => rfl)
  rw [y14 (by omega)]; simp [flat]⟩
 | k + 1, i, z, l, hk, hl => by
  have hi : i < L.length := by omega
  have hg : L[(i : Int).toNat]? = some L[i] := by simpa using y9 hi
  rw [y11 hi, zcas, y12] at hl
  obtain ⟨z', h⟩ := zccn z0 L hL k (i + 1) (z && (decide (L[i].l.length = 0))) (l ++ L[i].l) (by omega) (by simp only [y12]; omega)
  refine ⟨z', Ev.succ (Ev.po (Ev.po (Ev.opt hg (Ev.pos (by omega) ?_)))) (fun q => rfl)⟩
  rw [zb9h (by omega) (by omega), show ((i : Int) + 1) = ((i + 1 : Nat) : Int) by omega]
  refine h.cast ?_
  rw [y11 hi, zcas]; simp
theorem zcco (z0 z9 : Bool) (L : List (Sl Int)) (hL : L.length ≤ 1099511627776) (hf : (flat L).length ≤ 4294967296) : ∀ (k i : Nat) (m : Nat), L.length = i + k → m + (flat (L.drop i)).length = (flat L).length →
  ∃ z', Ev (fun q => zpd q z0 L (m : Int) z9 L (L.length : Int) (i : Int)) ⟨z', true, flat L⟩
 | 0, i, m, hk, hm => by
  rw [y14 (by omega)] at hm
  have hm2 : m = (flat L).length := by simpa [flat] using hm
  have w : wrp .i64 ((m : Int) - wrp .i64 0) = (m : Int) := by rw [zb9h (x := 0) (by omega) (by omega), zb9h (by omega) (by omega)]; omega
  by_cases h0 : 0 < m
  ·refine ⟨decide (wrp .i64 ((m : Int) - wrp .i64 0) = 0), Ev.succ (Ev.ne (Ev.ne (Ev.pos (by rw [w]; omega) (Ev.pos (by rw [w]; omega) (Ev.pos (by rw [w]; omega) (Ev.neg (by rw [w]; omega) ?_)))))) (fun q => rfl)⟩
   rw [w]
   have := zccm z0 L (decide ((m : Int) = 0)) hL L.length 0 0 (List.replicate (m : Int).toNat 0) (by omega) (by simp; omega)
   rw [y40] at this
   exact this
  ·have hnil : flat L = [] := y37 (by omega)
   match L, hk with
   | [], _ =>
    refine ⟨true, Ev.succ (Ev.neg (by simp) (Ev.neg (by omega) ?_)) (fun q => rfl)⟩
    rw [w]
    refine Ev.neg (by omega) ?_
    exact Ev.succ (g := fun _ => some ⟨true, true, []⟩) (Ev.ret' (by simp [flat])) (fun q => rfl)
   | a :: L', hk =>
    rw [zcas] at hnil
    obtain ⟨z', h⟩ := zccn z0 (a :: L') hL L'.length 1 (decide (a.l.length = 0)) a.l (by simp; omega) (by
     have : flat (List.drop 1 (a :: L')) = flat L' := rfl
     rw [this, ← y12, hnil]; simp)
    refine ⟨z', Ev.succ (Ev.ne (Ev.neg (by omega) ?_)) (fun q => rfl)⟩
    rw [w]
    refine Ev.ne (Ev.succ (Ev.pos (by simp) (Ev.opt (s := a) rfl (Ev.pos ?_ ?_))) (fun q => rfl))
    ·have : a.l.length ≤ (a.l ++ flat L').length := by simp
     rw [hnil] at this; simp at this; simp [this]
    ·rw [zb9h (by omega) (by omega)]
     refine h.cast ?_
     rw [zcas]; rfl
 | k + 1, i, m, hk, hm => by
  have hi : i < L.length := by omega
  have hg : L[(i : Int).toNat]? = some L[i] := by simpa using y9 hi
  rw [y11 hi, zcas, y12] at hm
  obtain ⟨z', h⟩ := zcco z0 z9 L hL hf k (i + 1) (m + L[i].l.length) (by omega) (by omega)
  refine ⟨z', Ev.succ (Ev.po (Ev.po (Ev.opt hg ?_))) (fun q => rfl)⟩
  have w : wrp .i64 ((m : Int) + (L[i].l.length : Int)) = ((m + L[i].l.length : Nat) : Int) := by rw [zb9h (by omega) (by omega)]; omega
  rw [w, zb9h (by omega) (by omega), show ((i : Int) + 1) = ((i + 1 : Nat) : Int) by omega]
  exact Ev.neg (by omega) h
theorem zccp (s : Sl (Sl Int)) (hL : s.l.length ≤ 1099511627776) (hf : (flat s.l).length ≤ 4294967296) : ∃ z', Ev (fun q => zpe q s) ⟨z', true, flat s.l⟩ := by
 obtain ⟨z', h⟩ := zcco s.z s.z s.l hL hf s.l.length 0 0 (by omega) (by simp)
 exact ⟨z', Ev.succ h (fun q => rfl)⟩
theorem zccq (z z2 : Bool) (A B : List Int) (hl : A.length = B.length) (hL : A.length ≤ 1099511627776) : ∀ (k i : Nat), A.length = i + k → Ev (fun q => zpi q z A z2 B (A.length : Int) (i : Int)) (decide (A.drop i = B.drop i))
 | 0, i, hk => by
  refine Ev.succ (Ev.ne (Ev.ret' ?_)) (fun q => rfl)
  rw [y14 (by omega), y14 (by omega)]; simp
 | k + 1, i, hk => by
  have hi : i < A.length := by omega
  have hi2 : i < B.length := by omega
  have hg : A[(i : Int).toNat]? = some A[i] := by simpa using y9 hi
  have hg2 : B[(i : Int).toNat]? = some B[i] := by simpa using y9 hi2
  refine Ev.succ (Ev.po (Ev.po (Ev.opt hg (Ev.opt hg2 ?_)))) (fun q => rfl)
  rw [y11 hi, y11 hi2]
  refine Ev.ite (fun h => ?_) fun h => Ev.ret' (by symm; rw [decide_eq_false_iff_not]; intro e; exact h (List.cons.inj e).1)
  rw [zb9h (by omega) (by omega), show ((i : Int) + 1) = ((i + 1 : Nat) : Int) by omega]
  refine (zccq z z2 A B hl hL k (i + 1) (by omega)).cast ?_
  rw [decide_eq_decide, List.cons.injEq]; simp only [h, true_and]
theorem zccr (a b : Sl Int) (hL : a.l.length ≤ 1099511627776) : Ev (fun q => zpj q a b) (decide (a.l = b.l)) := by
 refine Ev.succ (Ev.ite (fun h => ?_) fun h => Ev.ret' ?_) (fun q => rfl)
 ·have := zccq a.z b.z a.l b.l (by omega) hL a.l.length 0 (by omega)
  rw [y40, y40] at this; exact this
 ·symm; rw [decide_eq_false_iff_not]; intro e; rw [e] at h; exact h rfl
theorem zccs {ta t : List zj5} {e : zj5} (h : findE e.Proc ta ≠ some e) : newT ta (e :: t) = e :: newT ta t := by simp only [newT]; rw [if_neg h]
theorem zcct {ta t : List zj5} {e : zj5} (h : findE e.Proc ta = some e) : newT ta (e :: t) = newT ta t := by simp only [newT]; rw [if_pos h]
theorem zccu (ta : List zj5) : ∀ t : List zj5, (newT ta t).length ≤ t.length
 | [] => by simp [newT]
 | e :: t => by
  have := zccu ta t
  simp only [newT]; split
  ·rw [y23]; omega
  ·simp only [y23]; omega
theorem zccv (s : Sl Int) (hz : s.z = true → s.l = []) (hl : s.l.length ≤ 4294967296) : ∃ z, Ev (fun q => zkg q s) ⟨z, true, s.l⟩ := by
 by_cases h : s.z = true
 ·exact ⟨true, Ev.succ (Ev.pos h (Ev.ret' (by rw [hz h]))) (fun q => rfl)⟩
 ·exact ⟨false, Ev.succ (Ev.neg h (Ev.pos hl (Ev.ret _))) (fun q => rfl)⟩
theorem zccw (z : Bool) (L : List zj5) (x0 x1 : Int) (x2z : Bool) (x2l : List Int) (x3 : Bool) (x4 : Int) (tz : Bool) (ta : List zj5) (d0 d1 d2 d3 : Int) (d5 : Bool) (d6 : Int) (hz : Bool) (hm : List Int) (hx : Bool) (hL : L.length ≤ 1000000) (hT : ta.length ≤ 1000000) : ∀ (k i : Nat) (acc : List zj5), L.length = i + k → acc.length ≤ i →
  Ev (fun q => znb q z L (L.length : Int) (i : Int) x0 x1 x2z x2l x3 x4 tz ta d0 d1 d2 d3 d5 d6 hz hm hx acc) (⟨d0, d1, d2, d3, ⟨hz, hm⟩, d5, d6, ⟨false, acc ++ newT ta (L.drop i)⟩⟩, 0)
 | 0, i, acc, hk, ha => by
  refine Ev.succ (Ev.ne (Ev.ret' ?_)) (fun q => rfl)
  rw [y14 (by omega)]; simp [newT]
 | k + 1, i, acc, hk, ha => by
  have hi : i < L.length := by omega
  have he : L[((i : Int)).toNat]? = some L[i] := by simp [hi]
  have w1 : wrp .i64 ((i : Int) + 1) = ((i + 1 : Nat) : Int) := by rw [zb9h (by omega) (by omega)]; omega
  obtain ⟨r, hr, hr2⟩ := zccd ⟨tz, ta⟩ L[i].Proc hT
  simp only at hr2
  have ihN := zccw z L x0 x1 x2z x2l x3 x4 tz ta d0 d1 d2 d3 d5 d6 hz hm hx hL hT k (i + 1) (acc ++ [L[i]]) (by omega) (by simp; omega)
  have ihO := zccw z L x0 x1 x2z x2l x3 x4 tz ta d0 d1 d2 d3 d5 d6 hz hm hx hL hT k (i + 1) acc (by omega) (by omega)
  rw [← w1] at ihN ihO
  rw [y11 hi]
  refine Ev.succ (Ev.po (Ev.po (Ev.opt he (Ev.bind hr ?_)))) (fun q => rfl)
  have new : findE L[i].Proc ta ≠ some L[i] → Ev (fun q => if (acc.length + 1) ≤ 4294967296 then (znb q z L (L.length : Int) (wrp .i64 ((i : Int) + 1)) x0 x1 x2z x2l x3 x4 tz ta d0 d1 d2 d3 d5 d6 hz hm hx (acc ++ [L[i]])) else none) (⟨d0, d1, d2, d3, ⟨hz, hm⟩, d5, d6, ⟨false, acc ++ newT ta (L[i] :: L.drop (i + 1))⟩⟩, 0) := fun hne => by
   rw [zccs hne]
   exact Ev.po (Ev.cast ihN (by simp))
  rcases hr2 with ⟨q1, q2⟩ | ⟨q1, e, q2, q3⟩
  ·exact Ev.pos q1 (new (by rw [q2]; exact fun c => by cases c))
  ·refine Ev.ne (Ev.pos q1 (Ev.opt q2 (Ev.ite (fun c1 => Ev.ite (fun c2 => Ev.ite (fun c3 => ?_) fun c3 => ?_) fun c2 => ?_) fun c1 => ?_)))
   ·rw [zcct (by rw [q3, zccb c1 c2 c3])]; exact ihO
   ·exact new (by rw [q3]; intro c; cases c; exact c3 rfl)
   ·exact new (by rw [q3]; intro c; cases c; exact c2 rfl)
   ·exact new (by rw [q3]; intro c; cases c; exact c1 rfl)
theorem zccx (z : Bool) (L : List zj5) (x0 x1 : Int) (x2z : Bool) (x2l : List Int) (x3 : Bool) (x4 : Int) (tz : Bool) (ta : List zj5) (d0 d1 d2 d3 : Int) (d5 : Bool) (d6 : Int) (hz : Bool) (hm : List Int) (hx : Bool) (hL : L.length ≤ 1000000) (hT : ta.length ≤ 1000000) : ∀ (k i : Nat), L.length = i + k →
  ∃ z', Ev (fun q => znc q z L (L.length : Int) (i : Int) x0 x1 x2z x2l x3 x4 tz ta d0 d1 d2 d3 d5 d6 hz hm hx) (⟨d0, d1, d2, d3, ⟨hz, hm⟩, d5, d6, ⟨z', newT ta (L.drop i)⟩⟩, 0)
 | 0, i, hk => by
  refine ⟨true, Ev.succ (Ev.ne (Ev.ret' ?_)) (fun q => rfl)⟩
  rw [y14 (by omega)]; simp [newT]
 | k + 1, i, hk => by
  have hi : i < L.length := by omega
  have he : L[((i : Int)).toNat]? = some L[i] := by simp [hi]
  have w1 : wrp .i64 ((i : Int) + 1) = ((i + 1 : Nat) : Int) := by rw [zb9h (by omega) (by omega)]; omega
  obtain ⟨r, hr, hr2⟩ := zccd ⟨tz, ta⟩ L[i].Proc hT
  simp only at hr2
  have ihN := zccw z L x0 x1 x2z x2l x3 x4 tz ta d0 d1 d2 d3 d5 d6 hz hm hx hL hT k (i + 1) [L[i]] (by omega) (by simp)
  obtain ⟨z', ihO⟩ := zccx z L x0 x1 x2z x2l x3 x4 tz ta d0 d1 d2 d3 d5 d6 hz hm hx hL hT k (i + 1) (by omega)
  rw [← w1] at ihN ihO
  rw [y11 hi]
  have fin : ∀ {r' : zj9 × Int} , Ev (fun q => if r < 0 then (znb q z L (L.length : Int) (wrp .i64 ((i : Int) + 1)) x0 x1 x2z x2l x3 x4 tz ta d0 d1 d2 d3 d5 d6 hz hm hx [L[i]]) else (if 0 ≤ r then ((ta[r.toNat]?).bind fun e9 => (if e9.Proc = L[i].Proc then (if e9.Seq = L[i].Seq then (if e9.Resp = L[i].Resp then (znc q z L (L.length : Int) (wrp .i64 ((i : Int) + 1)) x0 x1 x2z x2l x3 x4 tz ta d0 d1 d2 d3 d5 d6 hz hm hx) else (znb q z L (L.length : Int) (wrp .i64 ((i : Int) + 1)) x0 x1 x2z x2l x3 x4 tz ta d0 d1 d2 d3 d5 d6 hz hm hx [L[i]])) else (znb q z L (L.length : Int) (wrp .i64 ((i : Int) + 1)) x0 x1 x2z x2l x3 x4 tz ta d0 d1 d2 d3 d5 d6 hz hm hx [L[i]])) else (znb q z L (L.length : Int) (wrp .i64 ((i : Int) + 1)) x0 x1 x2z x2l x3 x4 tz ta d0 d1 d2 d3 d5 d6 hz hm hx [L[i]]))) else none)) r' → Ev (fun q => znc q z L (L.length : Int) (i : Int) x0 x1 x2z x2l x3 x4 tz ta d0 d1 d2 d3 d5 d6 hz hm hx) r' := fun h => Ev.succ (Ev.po (Ev.po (Ev.opt he (Ev.bind hr h)))) (fun q => rfl)
  rcases hr2 with ⟨q1, q2⟩ | ⟨q1, e, q2, q3⟩
  ·rw [zccs (by rw [q2]; exact fun c => by cases c)]
   exact ⟨false, fin (Ev.pos q1 ihN)⟩
  ·by_cases c : e = L[i]
   ·rw [zcct (by rw [q3, c])]
    exact ⟨z', fin (Ev.ne (Ev.pos q1 (Ev.opt q2 (Ev.pos (by rw [c]) (Ev.pos (by rw [c]) (Ev.pos (by rw [c]) ihO))))))⟩
   ·rw [zccs (by rw [q3]; intro c2; cases c2; exact c rfl)]
    refine ⟨false, fin (Ev.ne (Ev.pos q1 (Ev.opt q2 (Ev.ite (fun c1 => Ev.ite (fun c2 => Ev.ite (fun c3 => absurd (zccb c1 c2 c3) c) fun c3 => ihN) fun c2 => ihN) fun c1 => ihN))))⟩
/-- What stays ahead, what stays behind, what stands between. -/
def ahN (x y : List Int) : Nat := com x y
def beN (x y : List Int) : Nat := com (x.drop (com x y)).reverse (y.drop (com x y)).reverse
def midL (x y : List Int) : List Int := (y.drop (com x y)).take ((y.drop (com x y)).length - beN x y)
def noD : zj9 := ⟨0, 0, 0, 0, ⟨true, []⟩, false, 0, ⟨true, []⟩⟩
def diffR (a b : zj6) (zm zt : Bool) : zj9 × Int :=
 if mayN a = true ∧ mayN b = true ∧ a.State.Kind = b.State.Kind then
  (if lacksB a.Table.l b.Table.l = true ∨ b.Index < a.Index then (noD, 15) else (⟨a.Index, b.Index, ((ahN a.State.L.l b.State.L.l : Nat) : Int), ((beN a.State.L.l b.State.L.l : Nat) : Int), ⟨zm, midL a.State.L.l b.State.L.l⟩, b.State.Sealed, b.State.To, ⟨zt, newT a.Table.l b.Table.l⟩⟩, 0))
 else (noD, 1)
theorem beN_le (x y : List Int) : ahN x y ≤ x.length ∧ ahN x y ≤ y.length ∧ beN x y ≤ x.length - ahN x y ∧ beN x y ≤ y.length - ahN x y := by
 have h1 := com_le x y
 have h2 := com_le (x.drop (com x y)).reverse (y.drop (com x y)).reverse
 simp only [List.length_reverse, y15] at h2
 unfold ahN beN; omega
theorem zccy (a b : zj6) (h1 : a.State.L.l.length ≤ 1000000) (h2 : a.Table.l.length ≤ 1000000) (h3 : b.State.L.l.length ≤ 1000000) (h4 : b.Table.l.length ≤ 1000000) (hz : b.State.L.z = true → b.State.L.l = []) : ∃ zm zt, Ev (fun q => znd q a b) (diffR a b zm zt) := by
 unfold diffR
 by_cases c1 : mayN a = true
 ·by_cases c2 : mayN b = true
  ·by_cases c3 : a.State.Kind = b.State.Kind
   ·simp only [if_pos (show mayN a = true ∧ mayN b = true ∧ a.State.Kind = b.State.Kind from ⟨c1, c2, c3⟩)]
    by_cases c4 : b.Index < a.Index
    ·refine ⟨true, true, Ev.succ (Ev.bind (zcb9 a h1 h2) (Ev.pos c1 (Ev.bind (zcb9 b h3 h4) (Ev.pos c2 (Ev.pos c3 (Ev.pos c4 (Ev.ret' ?_))))))) (fun q => rfl)⟩
     rw [if_pos (.inr c4)]; rfl
    ·obtain ⟨r, hr, hr2⟩ := zccl a.Table.z a.Table.l a.Index a.State.Kind a.State.L.z a.State.L.l a.State.Sealed a.State.To a.Table.z a.Table.l b.Index b.State.Kind b.State.L.z b.State.L.l b.State.Sealed b.State.To b.Table.z b.Table.l h2 h4 a.Table.l.length 0 (by omega)
     rw [y40] at hr2
     have hr' : Ev (fun q => zna q a.Table.z a.Table.l a.Index a.State.Kind a.State.L.z a.State.L.l a.State.Sealed a.State.To a.Table.z a.Table.l b.Index b.State.Kind b.State.L.z b.State.L.l b.State.Sealed b.State.To b.Table.z b.Table.l) r := Ev.succ hr (fun q => rfl)
     by_cases c5 : lacksB a.Table.l b.Table.l = true
     ·refine ⟨true, true, Ev.succ (Ev.bind (zcb9 a h1 h2) (Ev.pos c1 (Ev.bind (zcb9 b h3 h4) (Ev.pos c2 (Ev.pos c3 (Ev.neg c4 (Ev.bind hr' (Ev.pos (hr2.2 c5) (Ev.ret' ?_))))))))) (fun q => rfl)⟩
      rw [if_pos (.inl c5)]; rfl
     ·simp only [if_neg (show ¬ (lacksB a.Table.l b.Table.l = true ∨ b.Index < a.Index) from fun e => e.elim c5 c4)]
      obtain ⟨q1, q2, q3, q4⟩ := beN_le a.State.L.l b.State.L.l
      have hA := zcch a.State.L b.State.L h1
      have hB := zcck ⟨a.State.L.z, a.State.L.l.drop (com a.State.L.l b.State.L.l)⟩ ⟨b.State.L.z, b.State.L.l.drop (com a.State.L.l b.State.L.l)⟩ (by simp only [y15]; omega) (by simp only [y15]; omega)
      unfold ahN at q1 q2 q3 q4
      have w : wrp .i64 (((b.State.L.l.length - com a.State.L.l b.State.L.l : Nat) : Int) - (((beN a.State.L.l b.State.L.l : Nat) : Int))) = ((b.State.L.l.length - com a.State.L.l b.State.L.l - beN a.State.L.l b.State.L.l : Nat) : Int) := by rw [zb9h (by omega) (by omega)]; omega
      obtain ⟨zm, hC⟩ := zccv ⟨b.State.L.z, (b.State.L.l.drop (com a.State.L.l b.State.L.l)).take (b.State.L.l.length - com a.State.L.l b.State.L.l - beN a.State.L.l b.State.L.l)⟩ (fun h => by simp only at h ⊢; rw [hz h]; simp) (by simp only [y22, y15]; omega)
      obtain ⟨zt, hD⟩ := zccx b.Table.z b.Table.l a.Index a.State.Kind a.State.L.z a.State.L.l a.State.Sealed a.State.To a.Table.z a.Table.l a.Index b.Index ((ahN a.State.L.l b.State.L.l : Nat) : Int) ((beN a.State.L.l b.State.L.l : Nat) : Int) b.State.Sealed b.State.To zm ((b.State.L.l.drop (com a.State.L.l b.State.L.l)).take (b.State.L.l.length - com a.State.L.l b.State.L.l - beN a.State.L.l b.State.L.l)) true h4 h2 b.Table.l.length 0 (by omega)
      rw [y40] at hD
      refine ⟨zm, zt, Ev.succ (Ev.bind (zcb9 a h1 h2) (Ev.pos c1 (Ev.bind (zcb9 b h3 h4) (Ev.pos c2 (Ev.pos c3 (Ev.neg c4 (Ev.bind hr' (Ev.neg (fun e => c5 (hr2.1 e)) (Ev.bind hA (Ev.po (Ev.po (Ev.pos (by omega) ?_)))))))))))) (fun q => rfl)⟩
      simp only [y30]
      refine Ev.bind hB ?_
      show Ev (fun q => if 0 ≤ (wrp .i64 (((b.State.L.l.length - com a.State.L.l b.State.L.l : Nat) : Int) - (((beN a.State.L.l b.State.L.l : Nat) : Int)))) then (if (wrp .i64 (((b.State.L.l.length - com a.State.L.l b.State.L.l : Nat) : Int) - (((beN a.State.L.l b.State.L.l : Nat) : Int)))).toNat ≤ (b.State.L.l.length - com a.State.L.l b.State.L.l) then ((zkg q ⟨b.State.L.z, (List.take ((wrp .i64 (((b.State.L.l.length - com a.State.L.l b.State.L.l : Nat) : Int) - (((beN a.State.L.l b.State.L.l : Nat) : Int)))).toNat) (List.drop (com a.State.L.l b.State.L.l) b.State.L.l))⟩).bind fun r6 => (znc q b.Table.z b.Table.l (b.Table.l.length : Int) 0 a.Index a.State.Kind a.State.L.z a.State.L.l a.State.Sealed a.State.To a.Table.z a.Table.l a.Index b.Index ((com a.State.L.l b.State.L.l : Nat) : Int) ((beN a.State.L.l b.State.L.l : Nat) : Int) b.State.Sealed b.State.To r6.n r6.xs r6.x)) else none) else none) _
      rw [w]
      simp only [y30]
      refine Ev.po (Ev.po (Ev.bind hC (Ev.cast hD ?_)))
      unfold midL
      rw [y15]
   ·refine ⟨true, true, Ev.succ (Ev.bind (zcb9 a h1 h2) (Ev.pos c1 (Ev.bind (zcb9 b h3 h4) (Ev.pos c2 (Ev.neg c3 (Ev.ret' ?_)))))) (fun q => rfl)⟩
    rw [if_neg (fun e => c3 e.2.2)]; rfl
  ·refine ⟨true, true, Ev.succ (Ev.bind (zcb9 a h1 h2) (Ev.pos c1 (Ev.bind (zcb9 b h3 h4) (Ev.neg c2 (Ev.ret' ?_))))) (fun q => rfl)⟩
   rw [if_neg (fun e => c2 e.2.1)]; rfl
 ·refine ⟨true, true, Ev.succ (Ev.bind (zcb9 a h1 h2) (Ev.neg c1 (Ev.ret' ?_))) (fun q => rfl)⟩
  rw [if_neg (fun e => c1 e.1)]; rfl
theorem zccz {least : Int} : ∀ {l : List Int} {last : Int}, prs least last l = true → l.length % 2 = 0 → -1 ≤ last → -1099511627776 ≤ least → ∀ x ∈ l, -1099511627776 ≤ x ∧ x ≤ 1099511627776
 | [], last, h, h2, h3, h4, x, hx => by cases hx
 | [a], last, h, h2, h3, h4, x, hx => by simp at h2
 | a :: b :: t, last, h, h2, h3, h4, x, hx => by
  simp only [prs, y8, decide_eq_true_eq] at h
  simp only [y23] at h2
  rcases List.mem_cons.1 hx with e | e
  ·omega
  ·rcases List.mem_cons.1 e with e | e
   ·omega
   ·exact zccz h.2.2.2.2 (by omega) (by omega) h4 x e
theorem zcc0 {l : List Int} (h : cutsB l) : ∀ x ∈ l, -1099511627776 ≤ x ∧ x ≤ 1099511627776 := fun x hx => zb9z.1 (h x hx)
theorem zcc1 {k : Int} {l : List Int} (h : kindOk k l = true) : 0 ≤ k ∧ k ≤ 5 ∧ l.length ≤ 128 ∧ ∀ x ∈ l, -1099511627776 ≤ x ∧ x ≤ 1099511627776 := by
 unfold kindOk at h
 split at h
 ·simp only [decide_eq_true_eq] at h; exact ⟨by omega, by omega, by omega, zcc0 h.2⟩
 ·split at h
  ·simp only [decide_eq_true_eq] at h; exact ⟨by omega, by omega, by omega, zcc0 h.2⟩
  ·split at h
   ·simp only [pairsOk, y8, decide_eq_true_eq] at h; exact ⟨by omega, by omega, by omega, zccz h.1 h.2.1 (by omega) (by omega)⟩
   ·split at h
    ·simp only [pairsOk, y8, decide_eq_true_eq] at h; exact ⟨by omega, by omega, by omega, zccz h.1 h.2.1 (by omega) (by omega)⟩
    ·cases h
theorem zcc2 {s : zj4} (h : mayS s = true) : 0 ≤ s.To ∧ s.To ≤ 2 ∧ (s.Sealed = false → s.To = 0) ∧ kindOk s.Kind s.L.l = true := by
 unfold mayS at h
 split at h
 ·cases h
 ·split at h
  ·cases h
  ·split at h
   ·rename_i h1 h2 h3; exact ⟨by omega, by omega, fun e => (by rw [e] at h3; cases h3), h⟩
   ·split at h
    ·rename_i h1 h2 h3 h4; exact ⟨by omega, by omega, fun _ => h4, h⟩
    ·cases h
theorem zcc3 {e : zj5} (h : entOk e = true) : 0 ≤ e.Proc ∧ e.Proc ≤ 64 ∧ 0 ≤ e.Seq ∧ e.Seq < 4611686018427387904 ∧ -1125899906842624 ≤ e.Resp ∧ e.Resp ≤ 1125899906842624 := by
 simpa only [entOk, y8, decide_eq_true_eq] using h
theorem zcc4 : ∀ {t : List zj5} {last : Int}, tabB last t = true → ∀ e ∈ t, entOk e = true
 | [], last, h, e, he => by cases he
 | a :: t, last, h, e, he => by
  simp only [tabB, y8] at h
  rcases List.mem_cons.1 he with r | r
  ·rw [r]; exact h.1
  ·exact zcc4 h.2.2 e r
theorem zcc5 {s : zj6} (h : mayN s = true) : 0 ≤ s.Index ∧ s.Index < 4611686018427387904 ∧ mayS s.State = true ∧ tabB (-1) s.Table.l = true := by
 simpa only [mayN, y8, decide_eq_true_eq] using h
/-- A table has at most 65 entries. -/
theorem zcc6 : ∀ {t : List zj5} {last : Int}, tabB last t = true → -1 ≤ last → (t.length : Int) + last ≤ 64 ∨ t = []
 | [], last, h, h1 => .inr rfl
 | a :: t, last, h, h1 => by
  simp only [tabB, y8, decide_eq_true_eq] at h
  have ha := zcc3 h.1
  rcases zcc6 h.2.2 (by omega) with e | e
  ·left; rw [y23]; omega
  ·left; rw [e]; simp only [y23, y27]; omega
def sealN (s : zj4) : Int := if s.Sealed = true then s.To + 1 else 0
def numsB (l : List Int) : List Int := l.flatMap putS
theorem zcc7 (x : Int) (l : List Int) : numsB (x :: l) = putS x ++ numsB l := by simp [numsB]
def inT (l : List Int) : Prop := ∀ x ∈ l, -1099511627776 ≤ x ∧ x ≤ 1099511627776
theorem inT_R {l : List Int} (h : inT l) {x : Int} (hx : x ∈ l) : inR .i64 x := by have := h x hx; exact zb93 (by omega) (by omega)
theorem zcc8 {x : Int} {l : List Int} (h : inT (x :: l)) : inR .i64 x ∧ inT l := ⟨inT_R h y34, fun y hy => h y (y38 _ hy)⟩
theorem zcc9 : ∀ {l : List Int}, inT l → (numsB l).length ≤ 10 * l.length
 | [], h => by simp [numsB]
 | x :: l, h => by
  have h2 := zcc9 (zcc8 h).2
  have h1 := zb92 (zcc8 h).1
  rw [zcc7, y12, y23]; omega
theorem zcda (n : Int) : isB (putS n) := zcax _
theorem zcdb : ∀ {l : List Int}, isB (numsB l)
 | [] => fun c hc => by simp [numsB] at hc
 | x :: l => by rw [zcc7]; exact zcaz.2 ⟨zcda _, zcdb⟩
def stateB (s : zj4) : List Int := ((put s.Kind ++ put (sealN s)) ++ put (s.L.l.length : Int)) ++ numsB s.L.l
theorem zcdc {s : zj4} (h : inT s.L.l) : (stateB s).length ≤ 30 + 10 * s.L.l.length := by
 have h1 := zb9q s.Kind; have h2 := zb9q (sealN s); have h3 := zb9q (s.L.l.length : Int); have h4 := zcc9 h
 simp only [stateB, y12]; omega
def entB (e : zj5) : List Int := put e.Proc ++ (put e.Seq ++ putS e.Resp)
def tabE (l : List zj5) : List Int := l.flatMap entB
theorem zcdd (e : zj5) (l : List zj5) : tabE (e :: l) = entB e ++ tabE l := by simp [tabE]
def entsOk (l : List zj5) : Prop := ∀ e ∈ l, entOk e = true
theorem zcde {e : zj5} (h : entOk e = true) : inR .i64 e.Resp := by have := zcc3 h; exact zb93 (by omega) (by omega)
theorem zcdf {e : zj5} (h : entOk e = true) : (entB e).length ≤ 30 := by
 have h1 := zb9q e.Proc; have h2 := zb9q e.Seq; have h3 := zb92 (zcde h)
 simp only [entB, y12]; omega
theorem zcdg {e : zj5} : isB (entB e) := zcaz.2 ⟨zcay _, zcaz.2 ⟨zcay _, zcda _⟩⟩
theorem zcdh : ∀ {l : List zj5}, entsOk l → (tabE l).length ≤ 30 * l.length
 | [], h => by simp [tabE]
 | e :: l, h => by
  have h1 := zcdf (h e y34)
  have h2 := zcdh (l := l) fun x hx => h x (y38 _ hx)
  rw [zcdd, y12, y23]; omega
theorem zcdi : ∀ {l : List zj5}, isB (tabE l)
 | [] => fun c hc => by simp [tabE] at hc
 | e :: l => by rw [zcdd]; exact zcaz.2 ⟨zcdg, zcdi⟩
def wholeB (s : zj6) : List Int := ((put ((stateB s.State).length : Int) ++ stateB s.State) ++ put (s.Table.l.length : Int)) ++ tabE s.Table.l
theorem zcdj {s : zj6} (h : mayN s = true) : (wholeB s).length ≤ 5000 ∧ (stateB s.State).length ≤ 1310 ∧ s.Table.l.length ≤ 65 := by
 have hm := zcc5 h
 have hk := zcc1 (zcc2 hm.2.2.1).2.2.2
 have h1 := zcdc (s := s.State) hk.2.2.2
 have h2 := zcdh (zcc4 hm.2.2.2)
 have h3 := zcc6 hm.2.2.2 (by omega)
 have h4 : s.Table.l.length ≤ 65 := by
  rcases h3 with e | e
  ·omega
  ·rw [e]; simp
 have p1 := zb9q ((stateB s.State).length : Int); have p2 := zb9q (s.Table.l.length : Int)
 simp only [wholeB, y12]; omega
theorem zcdk (l : List Int) : (encF l).length = (put (l.length : Int)).length + l.length + 4 := by
 simp only [encF, fix4, y12, y23, y27]; omega
theorem zcdl (z z2 : Bool) (A B : List zj5) (hl : A.length = B.length) (hL : A.length ≤ 1099511627776) : ∀ (k i : Nat), A.length = i + k → Ev (fun q => zpl q z A z2 B (A.length : Int) (i : Int)) (decide (A.drop i = B.drop i))
 | 0, i, hk => by
  refine Ev.succ (Ev.ne (Ev.ret' ?_)) (fun q => rfl)
  rw [y14 (by omega), y14 (by omega)]; simp
 | k + 1, i, hk => by
  have hi : i < A.length := by omega
  have hi2 : i < B.length := by omega
  have hg : A[(i : Int).toNat]? = some A[i] := by simpa using y9 hi
  have hg2 : B[(i : Int).toNat]? = some B[i] := by simpa using y9 hi2
  have no : ¬ A[i] = B[i] → false = decide (A[i] :: A.drop (i + 1) = B[i] :: B.drop (i + 1)) := fun h => by
   symm; rw [decide_eq_false_iff_not]; intro e; exact h (List.cons.inj e).1
  rw [y11 hi, y11 hi2]
  refine Ev.succ (Ev.po (Ev.po (Ev.opt hg (Ev.opt hg2 (Ev.ite (fun c1 => Ev.ite (fun c2 => Ev.ite (fun c3 => ?_) fun c3 => Ev.ret' (no fun e => c3 (by rw [e]))) fun c2 => Ev.ret' (no fun e => c2 (by rw [e]))) fun c1 => Ev.ret' (no fun e => c1 (by rw [e]))))))) (fun q => rfl)
  rw [zb9h (by omega) (by omega), show ((i : Int) + 1) = ((i + 1 : Nat) : Int) by omega]
  refine (zcdl z z2 A B hl hL k (i + 1) (by omega)).cast ?_
  rw [decide_eq_decide, List.cons.injEq]; simp only [zccb c1 c2 c3, true_and]
theorem zcdm (a b : Sl zj5) (hL : a.l.length ≤ 1099511627776) : Ev (fun q => zpm q a b) (decide (a.l = b.l)) := by
 refine Ev.succ (Ev.ite (fun h => ?_) fun h => Ev.ret' ?_) (fun q => rfl)
 ·have := zcdl a.z b.z a.l b.l (by omega) hL a.l.length 0 (by omega)
  rw [y40, y40] at this; exact this
 ·symm; rw [decide_eq_false_iff_not]; intro e; rw [e] at h; exact h rfl
/-- The same states, the same snapshots. -/
def sameS (a b : zj4) : Bool := decide (a.Kind = b.Kind) && (decide (a.Sealed = b.Sealed) && (decide (a.To = b.To) && decide (a.L.l = b.L.l)))
def sameN (a b : zj6) : Bool := decide (a.Index = b.Index) && (sameS a.State b.State && decide (a.Table.l = b.Table.l))
theorem zcdn (a b : zj4) (hL : a.L.l.length ≤ 1099511627776) : Ev (fun q => zpk q a b) (sameS a b) := by
 unfold sameS
 refine Ev.succ (Ev.ite (fun c1 => Ev.ite (fun c2 => Ev.ite (fun c3 => Ev.bind (zccr _ _ hL) (Ev.ret' ?_)) fun c3 => Ev.ret' ?_) fun c2 => Ev.ret' ?_) fun c1 => Ev.ret' ?_) (fun q => rfl)
 ·rw [beq_iff_eq] at c2; simp [c1, c2, c3]
 ·simp [c3]
 ·rw [beq_iff_eq] at c2; simp [c2]
 ·simp [c1]
theorem zcdo (a b : zj6) (hL : a.State.L.l.length ≤ 1099511627776) (hT : a.Table.l.length ≤ 1099511627776) : Ev (fun q => zpn q a b) (sameN a b) := by
 unfold sameN
 refine Ev.succ (Ev.ite (fun c1 => Ev.bind (zcdn _ _ hL) (Ev.ite (fun c2 => Ev.bind (zcdm _ _ hT) (Ev.ret' ?_)) fun c2 => Ev.ret' ?_)) fun c1 => Ev.ret' ?_) (fun q => rfl)
 ·simp [c1, c2]
 ·simp only [Bool.not_eq_true] at c2; simp [c2]
 ·simp [c1]
theorem zcdp {n : Int} {x : List Int} (h : inR .i64 n) : getS (putS n ++ x) = (n, ((putS n).length : Int)) := by
 unfold getS putS
 rw [rd_grp (by simpa using zig_lt h) (by omega) (by omega)]
 simp only [zcbl]
theorem zcdq (n : Int) : 1 ≤ (putS n).length := zb9n _
theorem zcdr {n : Int} (h1 : 0 ≤ n) (h2 : n < 4611686018427387904) : 1 ≤ (put n).length := by rw [put_ok h1 h2]; exact zb9n _
theorem zcds {l : List Int} (hb : isB l) (h : (getN l).2 ≠ 0) : l.take (getN l).2.toNat = put (getN l).1 := by
 unfold getN at h ⊢
 cases e : rd 0 l with
 | none => simp [e] at h
 | some p =>
  simp only [e] at h ⊢
  split
  ·rename_i h2; rw [if_pos h2] at h; simp at h
  ·rename_i h2
   have := (rd_inv hb (show rd 0 l = some (p.1, p.2) from e)).1
   simp only [y30]
   rw [this, put_ok (by omega) (by omega), y30]
theorem zcdt {l : List Int} (hb : isB l) (h : (getS l).2 ≠ 0) : l.take (getS l).2.toNat = putS (getS l).1 := by
 unfold getS at h ⊢
 cases e : rd 0 l with
 | none => simp [e] at h
 | some p =>
  have := (rd_inv hb (show rd 0 l = some (p.1, p.2) from e)).1
  simp only [y30]
  rw [this, putS, zcbm]
theorem zcdu {l : List Int} (hb : isB l) (h : 0 < (getN l).2) : l = put (getN l).1 ++ l.drop (getN l).2.toNat := by
 rw [← zcds hb (by omega), List.take_append_drop]
theorem zcdv {l : List Int} (hb : isB l) (h : 0 < (getS l).2) : l = putS (getS l).1 ++ l.drop (getS l).2.toNat := by
 rw [← zcdt hb (by omega), List.take_append_drop]
theorem zcdw (z : Bool) {l : List Int} (hb : isB l) : Ev (fun q => zn0 q ⟨z, l⟩) (getN l) := zca4 ⟨z, l⟩ hb
theorem zcdx (z : Bool) {l : List Int} (hb : isB l) : Ev (fun q => zn6 q ⟨z, l⟩) (getS l) := zcbp ⟨z, l⟩ hb
theorem zcdy {s : zj6} (h : mayN s = true) : s.State.L.l.length ≤ 1000000 ∧ s.Table.l.length ≤ 1000000 := by
 have hm := zcc5 h
 have hk := zcc1 (zcc2 hm.2.2.1).2.2.2
 have := zcdj h
 omega
def idxOk (n : Int) : Bool := decide (0 ≤ n) && decide (n < 4611686018427387904)
theorem zcdz {n : Int} (h : idxOk n = true) : 0 ≤ n ∧ n < 4611686018427387904 := by simpa only [idxOk, y8, decide_eq_true_eq] using h
theorem zcd0 (n : Int) : Ev (fun q => zne q n) (!(idxOk n)) := by
 unfold idxOk
 refine Ev.succ (Ev.ite (fun c => Ev.ret' ?_) fun c => Ev.ret' ?_) (fun q => rfl)
 ·rw [decide_eq_false (show ¬ 0 ≤ n by omega)]; rfl
 ·rw [decide_eq_true (show 0 ≤ n by omega)]
  by_cases h : n < 4611686018427387904
  ·rw [decide_eq_true h, decide_eq_false (by omega)]; rfl
  ·rw [decide_eq_false h, decide_eq_true (by omega)]; rfl
theorem zcd1 (z : Bool) (L : List Int) (hL : L.length ≤ 1000000) : ∀ (k i : Nat), L.length = i + k →
  ∃ r, Ev (fun q => znf q z L (L.length : Int) (i : Int)) r ∧ ((L.drop i).all idxOk = !(decide (0 ≤ r)))
 | 0, i, hk => by
  refine ⟨-1, Ev.succ (Ev.ne (Ev.ret _)) (fun q => rfl), ?_⟩
  rw [y14 (by omega)]; rfl
 | k + 1, i, hk => by
  have hi : i < L.length := by omega
  have he : L[((i : Int)).toNat]? = some L[i] := by simp [hi]
  rw [y11 hi, List.all_cons]
  by_cases h : idxOk L[i] = true
  ·obtain ⟨r, hr, h2⟩ := zcd1 z L hL k (i + 1) (by omega)
   rw [show ((i + 1 : Nat) : Int) = wrp .i64 ((i : Int) + 1) by rw [zb9h (by omega) (by omega)]; omega] at hr
   refine ⟨r, Ev.succ (Ev.po (Ev.po (Ev.opt he (Ev.bind (zcd0 _) (Ev.neg (by rw [h]; simp) hr))))) (fun q => rfl), ?_⟩
   rw [h, h2]; rfl
  ·refine ⟨i, Ev.succ (Ev.po (Ev.po (Ev.opt he (Ev.bind (zcd0 _) (Ev.pos (by simp only [Bool.not_eq_true] at h; rw [h]; rfl) (Ev.ret _)))))) (fun q => rfl), ?_⟩
   simp only [Bool.not_eq_true] at h
   rw [h, decide_eq_true (by omega)]; rfl
theorem zcd2 (s : Sl Int) (hL : s.l.length ≤ 1000000) : Ev (fun q => znh q s) (s.l.all idxOk) := by
 obtain ⟨r, h1, h2⟩ := zcd1 s.z s.l hL s.l.length 0 (by omega)
 rw [y40] at h2
 rw [h2]
 exact Ev.succ (Ev.bind (Ev.succ h1 (fun q => rfl)) (Ev.ret _)) (fun q => rfl)
def midOk (n : Int) : Bool := decide (-1099511627776 ≤ n) && decide (n ≤ 1099511627776)
theorem zcd3 {l : List Int} (h : l.all midOk = true) : inT l := fun x hx => by
 have := List.all_eq_true.1 h x hx
 simpa only [midOk, y8, decide_eq_true_eq] using this
theorem zcd4 (n : Int) : Ev (fun q => zni q n) (!(midOk n)) := by
 unfold midOk
 refine Ev.succ (Ev.ite (fun c => Ev.ret' ?_) fun c => Ev.ret' ?_) (fun q => rfl)
 ·rw [decide_eq_false (show ¬ -1099511627776 ≤ n by omega)]; rfl
 ·rw [decide_eq_true (show -1099511627776 ≤ n by omega)]
  by_cases h : n ≤ 1099511627776
  ·rw [decide_eq_true h, decide_eq_false (by omega)]; rfl
  ·rw [decide_eq_false h, decide_eq_true (by omega)]; rfl
theorem zcd5 (z : Bool) (L : List Int) (h0 h1 h2 h3 : Int) (h4z : Bool) (h4l : List Int) (h5 : Bool) (h6 : Int) (h7z : Bool) (h7l : List zj5) (h1l : List Int) (hL : L.length ≤ 1000000) : ∀ (k i : Nat), L.length = i + k →
  ∃ r, Ev (fun q => znl q z L (L.length : Int) (i : Int) h0 h1 h2 h3 h4z h4l h5 h6 h7z h7l h1l) r ∧ ((L.drop i).all midOk = !(decide (0 ≤ r)))
 | 0, i, hk => by
  refine ⟨-1, Ev.succ (Ev.ne (Ev.ret _)) (fun q => rfl), ?_⟩
  rw [y14 (by omega)]; rfl
 | k + 1, i, hk => by
  have hi : i < L.length := by omega
  have he : L[((i : Int)).toNat]? = some L[i] := by simp [hi]
  rw [y11 hi, List.all_cons]
  by_cases h : midOk L[i] = true
  ·obtain ⟨r, hr, hr2⟩ := zcd5 z L h0 h1 h2 h3 h4z h4l h5 h6 h7z h7l h1l hL k (i + 1) (by omega)
   rw [show ((i + 1 : Nat) : Int) = wrp .i64 ((i : Int) + 1) by rw [zb9h (by omega) (by omega)]; omega] at hr
   refine ⟨r, Ev.succ (Ev.po (Ev.po (Ev.opt he (Ev.bind (zcd4 _) (Ev.neg (by rw [h]; simp) hr))))) (fun q => rfl), ?_⟩
   rw [h, hr2]; rfl
  ·refine ⟨i, Ev.succ (Ev.po (Ev.po (Ev.opt he (Ev.bind (zcd4 _) (Ev.pos (by simp only [Bool.not_eq_true] at h; rw [h]; rfl) (Ev.ret _)))))) (fun q => rfl), ?_⟩
   simp only [Bool.not_eq_true] at h
   rw [h, decide_eq_true (by omega)]; rfl
theorem zcd6 (z z2 : Bool) (L : List zj5) (hL : L.length ≤ 1000000) : ∀ (k i : Nat) (last : Int), L.length = i + k → (∀ e, 0 < i → L[i - 1]? = some e → e.Proc = last) → (i = 0 → last = -1) →
  Ev (fun q => znj q z L z2 L (L.length : Int) (i : Int)) (tabB last (L.drop i))
 | 0, i, last, hk, h1, h0 => by
  refine Ev.succ (Ev.ne (Ev.ret' ?_)) (fun q => rfl)
  rw [y14 (by omega)]; rfl
 | k + 1, i, last, hk, h1, h0 => by
  have hi : i < L.length := by omega
  have he : L[((i : Int)).toNat]? = some L[i] := by simp [hi]
  rw [y11 hi]
  simp only [tabB]
  have w1 : wrp .i64 ((i : Int) + 1) = ((i + 1 : Nat) : Int) := by rw [zb9h (by omega) (by omega)]; omega
  have ih := zcd6 z z2 L hL k (i + 1) L[i].Proc (by omega) (fun e _ hx => by
   rw [Nat.add_sub_cancel, y9 hi] at hx
   simp only [y6] at hx; rw [hx]) (by omega)
  have hx := zcd2 ⟨false, [L[i].Proc, L[i].Seq]⟩ (by simp)
  have hxe : ([L[i].Proc, L[i].Seq].all idxOk = true) ↔ (0 ≤ L[i].Proc ∧ L[i].Proc < 4611686018427387904 ∧ 0 ≤ L[i].Seq ∧ L[i].Seq < 4611686018427387904) := by
   simp only [List.all_cons, List.all_nil, idxOk, y8, decide_eq_true_eq, and_true, and_assoc]
  have eok : entOk L[i] = true ↔ (0 ≤ L[i].Proc ∧ L[i].Proc ≤ 64 ∧ 0 ≤ L[i].Seq ∧ L[i].Seq < 4611686018427387904 ∧ -1125899906842624 ≤ L[i].Resp ∧ L[i].Resp ≤ 1125899906842624) := ⟨zcc3, fun h => by simpa only [entOk, y8, decide_eq_true_eq] using h⟩
  have no : ¬ entOk L[i] = true → false = (entOk L[i] && (decide (last < L[i].Proc) && tabB L[i].Proc (L.drop (i + 1)))) := fun h => by
   simp only [Bool.not_eq_true] at h; rw [h]; rfl
  refine Ev.succ (Ev.po (Ev.po (Ev.opt he (Ev.bind hx (Ev.ite (fun c1 => Ev.ite (fun c2 => Ev.ret' ?_) fun c2 => Ev.ite (fun c3 => Ev.ret' ?_) fun c3 => Ev.ite (fun c4 => Ev.ret' ?_) fun c4 => Ev.ite (fun c5 => ?_) fun c5 => ?_) fun c1 => Ev.ret' ?_))))) (fun q => rfl)
  ·exact no (fun h => by have := eok.1 h; omega)
  ·exact no (fun h => by have := eok.1 h; omega)
  ·exact no (fun h => by have := eok.1 h; omega)
  ·have c := hxe.1 c1
   have hk1 : entOk L[i] = true := eok.2 (by omega)
   have w3 : wrp .i64 ((i : Int) - 1) = ((i - 1 : Nat) : Int) := by rw [zb9h (by omega) (by omega)]; omega
   have he3 : L[(wrp .i64 ((i : Int) - 1)).toNat]? = some L[i - 1] := by rw [w3, y30]; exact y9 (by omega)
   have hq := h1 L[i - 1] (by omega) (y9 (by omega))
   refine Ev.pos (by rw [w3]; omega) (Ev.opt he3 (Ev.ite (fun c6 => Ev.ret' ?_) fun c6 => ?_))
   ·rw [hk1, decide_eq_false (show ¬ last < L[i].Proc by omega)]; rfl
   ·rw [hk1, decide_eq_true (show last < L[i].Proc by omega), w1]; simpa using ih
  ·have c := hxe.1 c1
   have hk1 : entOk L[i] = true := eok.2 (by omega)
   have := h0 (by omega)
   rw [hk1, decide_eq_true (show last < L[i].Proc by omega), w1]; simpa using ih
  ·exact no (fun h => c1 (hxe.2 (by have := eok.1 h; omega)))
theorem zcd7 (s : Sl zj5) (hL : s.l.length ≤ 1000000) : Ev (fun q => znk q s) (tabB (-1) s.l) :=
 Ev.succ (zcd6 s.z s.z s.l hL s.l.length 0 (-1) (by omega) (fun e h => by omega) (fun _ => rfl)) (fun q => rfl)
def mayL (d : zj9) : Bool := [d.From, d.To, d.Ahead, d.Behind].all idxOk && (decide (d.Mid.l.length ≤ 128) && (d.Mid.l.all midOk && (decide (0 ≤ d.Engine) && (decide (d.Engine < 3) && ((d.Sealed || decide (d.Engine = 0)) && tabB (-1) d.Table.l)))))
theorem zcd8 (d : zj9) (h1 : d.Mid.l.length ≤ 1000000) (h2 : d.Table.l.length ≤ 1000000) : Ev (fun q => znn q d) (mayL d) := by
 have hx := zcd2 ⟨false, [d.From, d.To, d.Ahead, d.Behind]⟩ (by simp)
 obtain ⟨r, hr, hr2⟩ := zcd5 d.Mid.z d.Mid.l d.From d.To d.Ahead d.Behind d.Mid.z d.Mid.l d.Sealed d.Engine d.Table.z d.Table.l [d.From, d.To, d.Ahead, d.Behind] h1 d.Mid.l.length 0 (by omega)
 rw [y40] at hr2
 have hr : Ev (fun q => znm q d.Mid.z d.Mid.l d.From d.To d.Ahead d.Behind d.Mid.z d.Mid.l d.Sealed d.Engine d.Table.z d.Table.l [d.From, d.To, d.Ahead, d.Behind]) r := Ev.succ hr (fun q => rfl)
 unfold mayL
 rw [hr2]
 refine Ev.succ (Ev.bind hx (Ev.ite (fun c1 => Ev.ite (fun c2 => Ev.bind hr (Ev.ite (fun c3 => Ev.ret' ?_) fun c3 => Ev.ite (fun c4 => Ev.ite (fun c5 => Ev.ite (fun c6 => Ev.bind (zcd7 _ h2) (Ev.ret' ?_)) fun c6 => Ev.ite (fun c7 => Ev.bind (zcd7 _ h2) (Ev.ret' ?_)) fun c7 => Ev.ret' ?_) fun c5 => Ev.ret' ?_) fun c4 => Ev.ret' ?_)) fun c2 => Ev.ret' ?_) fun c1 => Ev.ret' ?_)) (fun q => rfl)
 ·rw [decide_eq_true c3]; simp
 ·simp only at c1; rw [c1, decide_eq_true (show d.Mid.l.length ≤ 128 by omega), decide_eq_false c3, decide_eq_true c4, decide_eq_true c5, c6]; simp
 ·simp only at c1; rw [c1, decide_eq_true (show d.Mid.l.length ≤ 128 by omega), decide_eq_false c3, decide_eq_true c4, decide_eq_true c5, decide_eq_true c7]; simp
 ·simp only [Bool.not_eq_true] at c6; rw [c6, decide_eq_false c7]; simp
 ·rw [decide_eq_false c5]; simp
 ·rw [decide_eq_false c4]; simp
 ·rw [decide_eq_false (show ¬ d.Mid.l.length ≤ 128 by omega)]; simp
 ·simp only [Bool.not_eq_true] at c1; rw [c1]; rfl
theorem zcd9 {d : zj9} (h : mayL d = true) : (0 ≤ d.From ∧ d.From < 4611686018427387904) ∧ (0 ≤ d.To ∧ d.To < 4611686018427387904) ∧ (0 ≤ d.Ahead ∧ d.Ahead < 4611686018427387904) ∧ (0 ≤ d.Behind ∧ d.Behind < 4611686018427387904) ∧ d.Mid.l.length ≤ 128 ∧ inT d.Mid.l ∧ 0 ≤ d.Engine ∧ d.Engine < 3 ∧ (d.Sealed = true ∨ d.Engine = 0) ∧ tabB (-1) d.Table.l = true := by
 simp only [mayL, List.all_cons, List.all_nil, Bool.and_true, y8, decide_eq_true_eq, y43] at h
 obtain ⟨⟨a, b, c, d1⟩, e, f, g, i, j, k⟩ := h
 exact ⟨zcdz a, zcdz b, zcdz c, zcdz d1, e, zcd3 f, g, i, j, k⟩
def putsB (l : List Int) : List Int := l.flatMap put
theorem zcea (x : Int) (l : List Int) : putsB (x :: l) = put x ++ putsB l := by simp [putsB]
theorem zceb : ∀ l : List Int, (putsB l).length ≤ 10 * l.length
 | [] => by simp [putsB]
 | x :: l => by have := zceb l; have := zb9q x; rw [zcea, y12, y23]; omega
theorem zcec : ∀ {l : List Int}, isB (putsB l)
 | [] => fun c hc => by simp [putsB] at hc
 | x :: l => by rw [zcea]; exact zcaz.2 ⟨zcay _, zcec⟩
theorem zced (z : Bool) (L : List Int) (hL : L.length ≤ 100) (ho : L.all idxOk = true) : ∀ (k i : Nat) (l : List Int) (x : Bool), L.length = i + k → l.length ≤ 1000000 + 10 * i →
  Ev (fun q => zno q z L (L.length : Int) (i : Int) false l x) ⟨false, x, l ++ putsB (L.drop i)⟩
 | 0, i, l, x, hk, hl => by
  refine Ev.succ (Ev.ne (Ev.ret' ?_)) (fun q => rfl)
  rw [y14 (by omega)]; simp [putsB]
 | k + 1, i, l, x, hk, hl => by
  have hi : i < L.length := by omega
  have he : L[((i : Int)).toNat]? = some L[i] := by simp [hi]
  have hr := zcdz (List.all_eq_true.1 ho L[i] (y28 hi))
  have hp := zb9q L[i]
  have ih := zced z L hL ho k (i + 1) (l ++ put L[i]) x (by omega) (by rw [y12]; omega)
  rw [show ((i + 1 : Nat) : Int) = wrp .i64 ((i : Int) + 1) by rw [zb9h (by omega) (by omega)]; omega] at ih
  refine Ev.succ (Ev.po (Ev.po (Ev.opt he (Ev.bind (zb9r ⟨false, x, l⟩ hr.1 hr.2 (by simp only; omega)) (Ev.cast ih ?_))))) (fun q => rfl)
  rw [y11 hi, zcea, y35]
theorem zcee (b : Ow Int) (s : Sl Int) (h0 : s.l.length ≠ 0) (hL : s.l.length ≤ 100) (ho : s.l.all idxOk = true) (hl : b.xs.length ≤ 1000000) : Ev (fun q => znq q b s) ⟨false, b.x, b.xs ++ putsB s.l⟩ := by
 obtain ⟨a, ha⟩ : ∃ a, s.l[0]? = some a := ⟨s.l[0]'(by omega), y9 (by omega)⟩
 have hm : a ∈ s.l := y57 ha
 have hr := zcdz (List.all_eq_true.1 ho a hm)
 have hp := zb9q a
 have ih := zced s.z s.l hL ho (s.l.length - 1) 1 (b.xs ++ put a) b.x (by omega) (by rw [y12]; omega)
 rw [show ((1 : Nat) : Int) = wrp .i64 1 by rw [zb9h (by omega) (by omega)]; rfl] at ih
 have h0 : Ev (fun q => znp q s.z s.l (s.l.length : Int) b.n b.xs b.x) ⟨false, b.x, b.xs ++ putsB s.l⟩ := by
  refine Ev.succ (Ev.po (Ev.opt ha (Ev.bind (zb9r ⟨b.n, b.x, b.xs⟩ hr.1 hr.2 (by simp only; omega)) (Ev.cast ih ?_)))) (fun q => rfl)
  have : s.l = a :: s.l.drop 1 := by
   cases hs : s.l with
   | nil => rw [hs] at ha; cases ha
   | cons c t => rw [hs] at ha; simp only [y39, y6] at ha; rw [ha]; rfl
  rw [show putsB s.l = put a ++ putsB (s.l.drop 1) by rw [← zcea, ← this], y35]
 exact Ev.succ h0 (fun q => rfl)
def sealL (d : zj9) : Int := if d.Sealed = true then 1 + d.Engine else 0
/-- The data of a delta's frame. -/
def delD (d : zj9) : List Int := ((putsB [d.From, d.To, d.Ahead, d.Behind, (d.Mid.l.length : Int)] ++ numsB d.Mid.l) ++ putsB [sealL d, (d.Table.l.length : Int)]) ++ tabE d.Table.l
theorem zcef {d : zj9} : isB (delD d) := zcaz.2 ⟨zcaz.2 ⟨zcaz.2 ⟨zcec, zcdb⟩, zcec⟩, zcdi⟩
theorem zceg {d : zj9} (h : mayL d = true) : d.Mid.l.length ≤ 128 ∧ d.Table.l.length ≤ 65 ∧ 0 ≤ sealL d ∧ sealL d ≤ 3 := by
 have ho := zcd9 h
 have h3 := zcc6 ho.2.2.2.2.2.2.2.2.2 (by omega)
 refine ⟨ho.2.2.2.2.1, ?_, ?_⟩
 ·rcases h3 with e | e
  ·omega
  ·rw [e]; simp
 ·unfold sealL; split <;> omega
def gN (r : List Int × Bool) : Int × List Int × Bool := ((getN r.1).1, r.1.drop (getN r.1).2.toNat, r.2 && decide (0 < (getN r.1).2))
def gS (r : List Int × Bool) : Int × List Int × Bool := ((getS r.1).1, r.1.drop (getS r.1).2.toNat, r.2 && decide (0 < (getS r.1).2))
theorem gN_isB {r : List Int × Bool} (h : isB r.1) : isB (gN r).2.1 := zcbc h _
theorem gS_isB {r : List Int × Bool} (h : isB r.1) : isB (gS r).2.1 := zcbc h _
section
variable {R : Type}
theorem getK (z : Bool) {b : List Int} (hb : isB b) (f : Bool) {K : Nat → Int → List Int → Bool → Option R} {r : R} (h : Ev (fun q => K q (gN (b, f)).1 (gN (b, f)).2.1 (gN (b, f)).2.2) r) :
  Ev (fun q => (zn0 q ⟨z, b⟩).bind fun r2 => (if f = true then (if 0 ≤ r2.2 then (if r2.2 ≤ (b.length : Int) then K q r2.1 (List.drop r2.2.toNat b) (decide (0 < r2.2)) else none) else none) else (if 0 ≤ r2.2 then (if r2.2 ≤ (b.length : Int) then K q r2.1 (List.drop r2.2.toNat b) false else none) else none))) r := by
 have hl := zca5 (l := b)
 refine Ev.bind (zcdw z hb) (Ev.ite (fun c => Ev.pos hl.1 (Ev.pos hl.2.1 ?_)) fun c => Ev.pos hl.1 (Ev.pos hl.2.1 ?_))
 ·rw [c] at h; simpa only [gN, y62] using h
 ·have c' : f = false := by simpa using c
  rw [c'] at h; simpa only [gN, Bool.false_and] using h
theorem getK0 (z : Bool) {b : List Int} (hb : isB b) {K : Nat → Int → List Int → Bool → Option R} {r : R} (h : Ev (fun q => K q (gN (b, true)).1 (gN (b, true)).2.1 (gN (b, true)).2.2) r) :
  Ev (fun q => (zn0 q ⟨z, b⟩).bind fun r2 => (if 0 ≤ r2.2 then (if r2.2 ≤ (b.length : Int) then K q r2.1 (List.drop r2.2.toNat b) (decide (0 < r2.2)) else none) else none)) r := by
 have hl := zca5 (l := b)
 refine Ev.bind (zcdw z hb) (Ev.pos hl.1 (Ev.pos hl.2.1 ?_))
 simpa only [gN, y62] using h
theorem getSK (z : Bool) {b : List Int} (hb : isB b) (f : Bool) {K : Nat → Int → List Int → Bool → Option R} {r : R} (h : Ev (fun q => K q (gS (b, f)).1 (gS (b, f)).2.1 (gS (b, f)).2.2) r) :
  Ev (fun q => (zn6 q ⟨z, b⟩).bind fun r2 => (if f = true then (if 0 ≤ r2.2 then (if r2.2 ≤ (b.length : Int) then K q r2.1 (List.drop r2.2.toNat b) (decide (0 < r2.2)) else none) else none) else (if 0 ≤ r2.2 then (if r2.2 ≤ (b.length : Int) then K q r2.1 (List.drop r2.2.toNat b) false else none) else none))) r := by
 have hl := zcbq (l := b)
 refine Ev.bind (zcdx z hb) (Ev.ite (fun c => Ev.pos hl.1 (Ev.pos hl.2.1 ?_)) fun c => Ev.pos hl.1 (Ev.pos hl.2.1 ?_))
 ·rw [c] at h; simpa only [gS, y62] using h
 ·have c' : f = false := by simpa using c
  rw [c'] at h; simpa only [gS, Bool.false_and] using h
end
theorem zceh (h0_0 : Int) (h0_1 : Int) (h0_2 : Int) (h0_3 : Int) (h1_0z : Bool) (h1_0l : (List Int)) (h1_1 : Bool) (h2_0 : Int) : Ev (fun q => zn7 q h0_0 h0_1 h0_2 h0_3 h1_0z h1_0l h1_1 h2_0) (h0_0, h0_1, h0_2, h0_3, h1_0l, h1_1, h2_0) := Ev.succ (Ev.ret _) (fun q => rfl)
theorem zcei (h0_0 : Int) (h0_1 : Int) (h0_2 : Int) (h0_3 : Int) (h1_0z : Bool) (h1_0l : (List Int)) (h1_1 : Bool) (hb : isB h1_0l) : Ev (fun q => zn8 q h0_0 h0_1 h0_2 h0_3 h1_0z h1_0l h1_1) (h0_0, h0_1, h0_2, h0_3, (gN (h1_0l, h1_1)).2.1, (gN (h1_0l, h1_1)).2.2, (gN (h1_0l, h1_1)).1) := Ev.succ (getK h1_0z hb h1_1 (K := fun q v' b' f' => zn7 q h0_0 h0_1 h0_2 h0_3 h1_0z b' f' v') (zceh h0_0 h0_1 h0_2 h0_3 h1_0z (gN (h1_0l, h1_1)).2.1 (gN (h1_0l, h1_1)).2.2 (gN (h1_0l, h1_1)).1)) (fun q => rfl)
theorem zcej (h0_0 : Int) (h0_1 : Int) (h0_2 : Int) (h1_0z : Bool) (h1_0l : (List Int)) (h1_1 : Bool) (hb : isB h1_0l) : Ev (fun q => zn9 q h0_0 h0_1 h0_2 h1_0z h1_0l h1_1) (h0_0, h0_1, h0_2, (gN (h1_0l, h1_1)).1, (gN ((gN (h1_0l, h1_1)).2.1, (gN (h1_0l, h1_1)).2.2)).2.1, (gN ((gN (h1_0l, h1_1)).2.1, (gN (h1_0l, h1_1)).2.2)).2.2, (gN ((gN (h1_0l, h1_1)).2.1, (gN (h1_0l, h1_1)).2.2)).1) := Ev.succ (getK h1_0z hb h1_1 (K := fun q v' b' f' => zn8 q h0_0 h0_1 h0_2 v' h1_0z b' f') (zcei h0_0 h0_1 h0_2 (gN (h1_0l, h1_1)).1 h1_0z (gN (h1_0l, h1_1)).2.1 (gN (h1_0l, h1_1)).2.2 (gN_isB hb))) (fun q => rfl)
theorem zcek (h0_0 : Int) (h0_1 : Int) (h1_0z : Bool) (h1_0l : (List Int)) (h1_1 : Bool) (hb : isB h1_0l) : Ev (fun q => zoa q h0_0 h0_1 h1_0z h1_0l h1_1) (h0_0, h0_1, (gN (h1_0l, h1_1)).1, (gN ((gN (h1_0l, h1_1)).2.1, (gN (h1_0l, h1_1)).2.2)).1, (gN ((gN ((gN (h1_0l, h1_1)).2.1, (gN (h1_0l, h1_1)).2.2)).2.1, (gN ((gN (h1_0l, h1_1)).2.1, (gN (h1_0l, h1_1)).2.2)).2.2)).2.1, (gN ((gN ((gN (h1_0l, h1_1)).2.1, (gN (h1_0l, h1_1)).2.2)).2.1, (gN ((gN (h1_0l, h1_1)).2.1, (gN (h1_0l, h1_1)).2.2)).2.2)).2.2, (gN ((gN ((gN (h1_0l, h1_1)).2.1, (gN (h1_0l, h1_1)).2.2)).2.1, (gN ((gN (h1_0l, h1_1)).2.1, (gN (h1_0l, h1_1)).2.2)).2.2)).1) := Ev.succ (getK h1_0z hb h1_1 (K := fun q v' b' f' => zn9 q h0_0 h0_1 v' h1_0z b' f') (zcej h0_0 h0_1 (gN (h1_0l, h1_1)).1 h1_0z (gN (h1_0l, h1_1)).2.1 (gN (h1_0l, h1_1)).2.2 (gN_isB hb))) (fun q => rfl)
theorem zcel (h0_0 : Int) (h1_0z : Bool) (h1_0l : (List Int)) (h1_1 : Bool) (hb : isB h1_0l) : Ev (fun q => zob q h0_0 h1_0z h1_0l h1_1) (h0_0, (gN (h1_0l, h1_1)).1, (gN ((gN (h1_0l, h1_1)).2.1, (gN (h1_0l, h1_1)).2.2)).1, (gN ((gN ((gN (h1_0l, h1_1)).2.1, (gN (h1_0l, h1_1)).2.2)).2.1, (gN ((gN (h1_0l, h1_1)).2.1, (gN (h1_0l, h1_1)).2.2)).2.2)).1, (gN ((gN ((gN ((gN (h1_0l, h1_1)).2.1, (gN (h1_0l, h1_1)).2.2)).2.1, (gN ((gN (h1_0l, h1_1)).2.1, (gN (h1_0l, h1_1)).2.2)).2.2)).2.1, (gN ((gN ((gN (h1_0l, h1_1)).2.1, (gN (h1_0l, h1_1)).2.2)).2.1, (gN ((gN (h1_0l, h1_1)).2.1, (gN (h1_0l, h1_1)).2.2)).2.2)).2.2)).2.1, (gN ((gN ((gN ((gN (h1_0l, h1_1)).2.1, (gN (h1_0l, h1_1)).2.2)).2.1, (gN ((gN (h1_0l, h1_1)).2.1, (gN (h1_0l, h1_1)).2.2)).2.2)).2.1, (gN ((gN ((gN (h1_0l, h1_1)).2.1, (gN (h1_0l, h1_1)).2.2)).2.1, (gN ((gN (h1_0l, h1_1)).2.1, (gN (h1_0l, h1_1)).2.2)).2.2)).2.2)).2.2, (gN ((gN ((gN ((gN (h1_0l, h1_1)).2.1, (gN (h1_0l, h1_1)).2.2)).2.1, (gN ((gN (h1_0l, h1_1)).2.1, (gN (h1_0l, h1_1)).2.2)).2.2)).2.1, (gN ((gN ((gN (h1_0l, h1_1)).2.1, (gN (h1_0l, h1_1)).2.2)).2.1, (gN ((gN (h1_0l, h1_1)).2.1, (gN (h1_0l, h1_1)).2.2)).2.2)).2.2)).1) := Ev.succ (getK h1_0z hb h1_1 (K := fun q v' b' f' => zoa q h0_0 v' h1_0z b' f') (zcek h0_0 (gN (h1_0l, h1_1)).1 h1_0z (gN (h1_0l, h1_1)).2.1 (gN (h1_0l, h1_1)).2.2 (gN_isB hb))) (fun q => rfl)
theorem zcem (h1_0z : Bool) (h1_0l : (List Int)) (hb : isB h1_0l) : Ev (fun q => zoc q h1_0z h1_0l) ((gN (h1_0l, true)).1, (gN ((gN (h1_0l, true)).2.1, (gN (h1_0l, true)).2.2)).1, (gN ((gN ((gN (h1_0l, true)).2.1, (gN (h1_0l, true)).2.2)).2.1, (gN ((gN (h1_0l, true)).2.1, (gN (h1_0l, true)).2.2)).2.2)).1, (gN ((gN ((gN ((gN (h1_0l, true)).2.1, (gN (h1_0l, true)).2.2)).2.1, (gN ((gN (h1_0l, true)).2.1, (gN (h1_0l, true)).2.2)).2.2)).2.1, (gN ((gN ((gN (h1_0l, true)).2.1, (gN (h1_0l, true)).2.2)).2.1, (gN ((gN (h1_0l, true)).2.1, (gN (h1_0l, true)).2.2)).2.2)).2.2)).1, (gN ((gN ((gN ((gN ((gN (h1_0l, true)).2.1, (gN (h1_0l, true)).2.2)).2.1, (gN ((gN (h1_0l, true)).2.1, (gN (h1_0l, true)).2.2)).2.2)).2.1, (gN ((gN ((gN (h1_0l, true)).2.1, (gN (h1_0l, true)).2.2)).2.1, (gN ((gN (h1_0l, true)).2.1, (gN (h1_0l, true)).2.2)).2.2)).2.2)).2.1, (gN ((gN ((gN ((gN (h1_0l, true)).2.1, (gN (h1_0l, true)).2.2)).2.1, (gN ((gN (h1_0l, true)).2.1, (gN (h1_0l, true)).2.2)).2.2)).2.1, (gN ((gN ((gN (h1_0l, true)).2.1, (gN (h1_0l, true)).2.2)).2.1, (gN ((gN (h1_0l, true)).2.1, (gN (h1_0l, true)).2.2)).2.2)).2.2)).2.2)).2.1, (gN ((gN ((gN ((gN ((gN (h1_0l, true)).2.1, (gN (h1_0l, true)).2.2)).2.1, (gN ((gN (h1_0l, true)).2.1, (gN (h1_0l, true)).2.2)).2.2)).2.1, (gN ((gN ((gN (h1_0l, true)).2.1, (gN (h1_0l, true)).2.2)).2.1, (gN ((gN (h1_0l, true)).2.1, (gN (h1_0l, true)).2.2)).2.2)).2.2)).2.1, (gN ((gN ((gN ((gN (h1_0l, true)).2.1, (gN (h1_0l, true)).2.2)).2.1, (gN ((gN (h1_0l, true)).2.1, (gN (h1_0l, true)).2.2)).2.2)).2.1, (gN ((gN ((gN (h1_0l, true)).2.1, (gN (h1_0l, true)).2.2)).2.1, (gN ((gN (h1_0l, true)).2.1, (gN (h1_0l, true)).2.2)).2.2)).2.2)).2.2)).2.2, (gN ((gN ((gN ((gN ((gN (h1_0l, true)).2.1, (gN (h1_0l, true)).2.2)).2.1, (gN ((gN (h1_0l, true)).2.1, (gN (h1_0l, true)).2.2)).2.2)).2.1, (gN ((gN ((gN (h1_0l, true)).2.1, (gN (h1_0l, true)).2.2)).2.1, (gN ((gN (h1_0l, true)).2.1, (gN (h1_0l, true)).2.2)).2.2)).2.2)).2.1, (gN ((gN ((gN ((gN (h1_0l, true)).2.1, (gN (h1_0l, true)).2.2)).2.1, (gN ((gN (h1_0l, true)).2.1, (gN (h1_0l, true)).2.2)).2.2)).2.1, (gN ((gN ((gN (h1_0l, true)).2.1, (gN (h1_0l, true)).2.2)).2.1, (gN ((gN (h1_0l, true)).2.1, (gN (h1_0l, true)).2.2)).2.2)).2.2)).2.2)).1) := Ev.succ (getK0 h1_0z hb (K := fun q v' b' f' => zob q v' h1_0z b' f') (zcel (gN (h1_0l, true)).1 h1_0z (gN (h1_0l, true)).2.1 (gN (h1_0l, true)).2.2 (gN_isB hb))) (fun q => rfl)
theorem s0_ev (h1_0z : Bool) (h1_0l : (List Int)) (hb : isB h1_0l) : Ev (fun q => zod q h1_0z h1_0l) ((gN (h1_0l, true)).1, (gN ((gN (h1_0l, true)).2.1, (gN (h1_0l, true)).2.2)).1, (gN ((gN ((gN (h1_0l, true)).2.1, (gN (h1_0l, true)).2.2)).2.1, (gN ((gN (h1_0l, true)).2.1, (gN (h1_0l, true)).2.2)).2.2)).1, (gN ((gN ((gN ((gN (h1_0l, true)).2.1, (gN (h1_0l, true)).2.2)).2.1, (gN ((gN (h1_0l, true)).2.1, (gN (h1_0l, true)).2.2)).2.2)).2.1, (gN ((gN ((gN (h1_0l, true)).2.1, (gN (h1_0l, true)).2.2)).2.1, (gN ((gN (h1_0l, true)).2.1, (gN (h1_0l, true)).2.2)).2.2)).2.2)).1, (gN ((gN ((gN ((gN ((gN (h1_0l, true)).2.1, (gN (h1_0l, true)).2.2)).2.1, (gN ((gN (h1_0l, true)).2.1, (gN (h1_0l, true)).2.2)).2.2)).2.1, (gN ((gN ((gN (h1_0l, true)).2.1, (gN (h1_0l, true)).2.2)).2.1, (gN ((gN (h1_0l, true)).2.1, (gN (h1_0l, true)).2.2)).2.2)).2.2)).2.1, (gN ((gN ((gN ((gN (h1_0l, true)).2.1, (gN (h1_0l, true)).2.2)).2.1, (gN ((gN (h1_0l, true)).2.1, (gN (h1_0l, true)).2.2)).2.2)).2.1, (gN ((gN ((gN (h1_0l, true)).2.1, (gN (h1_0l, true)).2.2)).2.1, (gN ((gN (h1_0l, true)).2.1, (gN (h1_0l, true)).2.2)).2.2)).2.2)).2.2)).2.1, (gN ((gN ((gN ((gN ((gN (h1_0l, true)).2.1, (gN (h1_0l, true)).2.2)).2.1, (gN ((gN (h1_0l, true)).2.1, (gN (h1_0l, true)).2.2)).2.2)).2.1, (gN ((gN ((gN (h1_0l, true)).2.1, (gN (h1_0l, true)).2.2)).2.1, (gN ((gN (h1_0l, true)).2.1, (gN (h1_0l, true)).2.2)).2.2)).2.2)).2.1, (gN ((gN ((gN ((gN (h1_0l, true)).2.1, (gN (h1_0l, true)).2.2)).2.1, (gN ((gN (h1_0l, true)).2.1, (gN (h1_0l, true)).2.2)).2.2)).2.1, (gN ((gN ((gN (h1_0l, true)).2.1, (gN (h1_0l, true)).2.2)).2.1, (gN ((gN (h1_0l, true)).2.1, (gN (h1_0l, true)).2.2)).2.2)).2.2)).2.2)).2.2, (gN ((gN ((gN ((gN ((gN (h1_0l, true)).2.1, (gN (h1_0l, true)).2.2)).2.1, (gN ((gN (h1_0l, true)).2.1, (gN (h1_0l, true)).2.2)).2.2)).2.1, (gN ((gN ((gN (h1_0l, true)).2.1, (gN (h1_0l, true)).2.2)).2.1, (gN ((gN (h1_0l, true)).2.1, (gN (h1_0l, true)).2.2)).2.2)).2.2)).2.1, (gN ((gN ((gN ((gN (h1_0l, true)).2.1, (gN (h1_0l, true)).2.2)).2.1, (gN ((gN (h1_0l, true)).2.1, (gN (h1_0l, true)).2.2)).2.2)).2.1, (gN ((gN ((gN (h1_0l, true)).2.1, (gN (h1_0l, true)).2.2)).2.1, (gN ((gN (h1_0l, true)).2.1, (gN (h1_0l, true)).2.2)).2.2)).2.2)).2.2)).1) := Ev.succ (zcem h1_0z h1_0l hb) (fun q => rfl)
theorem zcen (h0_0 : Int) (h0_1 : Int) (h0_2 : Int) (h0_3 : Int) (h1_0z : Bool) (h1_0l : (List Int)) (h1_1 : Bool) (h2_0 : Int) (h3_0 : Int) : Ev (fun q => zoe q h0_0 h0_1 h0_2 h0_3 h1_0z h1_0l h1_1 h2_0 h3_0) (h1_0l, h1_1, h2_0, h3_0) := Ev.succ (Ev.ret _) (fun q => rfl)
theorem zceo (h0_0 : Int) (h0_1 : Int) (h0_2 : Int) (h0_3 : Int) (h1_0z : Bool) (h1_0l : (List Int)) (h1_1 : Bool) (h2_0 : Int) (hb : isB h1_0l) : Ev (fun q => zof q h0_0 h0_1 h0_2 h0_3 h1_0z h1_0l h1_1 h2_0) ((gN (h1_0l, h1_1)).2.1, (gN (h1_0l, h1_1)).2.2, h2_0, (gN (h1_0l, h1_1)).1) := Ev.succ (getK h1_0z hb h1_1 (K := fun q v' b' f' => zoe q h0_0 h0_1 h0_2 h0_3 h1_0z b' f' h2_0 v') (zcen h0_0 h0_1 h0_2 h0_3 h1_0z (gN (h1_0l, h1_1)).2.1 (gN (h1_0l, h1_1)).2.2 h2_0 (gN (h1_0l, h1_1)).1)) (fun q => rfl)
theorem zcep (h0_0 : Int) (h0_1 : Int) (h0_2 : Int) (h0_3 : Int) (h1_0z : Bool) (h1_0l : (List Int)) (h1_1 : Bool) (hb : isB h1_0l) : Ev (fun q => zog q h0_0 h0_1 h0_2 h0_3 h1_0z h1_0l h1_1) ((gN ((gN (h1_0l, h1_1)).2.1, (gN (h1_0l, h1_1)).2.2)).2.1, (gN ((gN (h1_0l, h1_1)).2.1, (gN (h1_0l, h1_1)).2.2)).2.2, (gN (h1_0l, h1_1)).1, (gN ((gN (h1_0l, h1_1)).2.1, (gN (h1_0l, h1_1)).2.2)).1) := Ev.succ (getK h1_0z hb h1_1 (K := fun q v' b' f' => zof q h0_0 h0_1 h0_2 h0_3 h1_0z b' f' v') (zceo h0_0 h0_1 h0_2 h0_3 h1_0z (gN (h1_0l, h1_1)).2.1 (gN (h1_0l, h1_1)).2.2 (gN (h1_0l, h1_1)).1 (gN_isB hb))) (fun q => rfl)
theorem s1_ev (h0_0 : Int) (h0_1 : Int) (h0_2 : Int) (h0_3 : Int) (h1_0z : Bool) (h1_0l : (List Int)) (h1_1 : Bool) (hb : isB h1_0l) : Ev (fun q => zoh q h0_0 h0_1 h0_2 h0_3 h1_0z h1_0l h1_1) ((gN ((gN (h1_0l, h1_1)).2.1, (gN (h1_0l, h1_1)).2.2)).2.1, (gN ((gN (h1_0l, h1_1)).2.1, (gN (h1_0l, h1_1)).2.2)).2.2, (gN (h1_0l, h1_1)).1, (gN ((gN (h1_0l, h1_1)).2.1, (gN (h1_0l, h1_1)).2.2)).1) := Ev.succ (zcep h0_0 h0_1 h0_2 h0_3 h1_0z h1_0l h1_1 hb) (fun q => rfl)
theorem zceq (h0_0 : Int) (h0_1 : Int) (h0_2 : Int) (h0_3 : Int) (h1_0z : Bool) (h1_0l : (List Int)) (h1_1 : Bool) (h2_0 : Int) (h3_0 : Int) (h4l : (List Int)) : Ev (fun q => zoi q h0_0 h0_1 h0_2 h0_3 h1_0z h1_0l h1_1 h2_0 h3_0 h4l) (h4l.length, h1_0l, h1_1, h2_0, h3_0) := Ev.succ (Ev.ret _) (fun q => rfl)
theorem zcer (h0_0 : Int) (h0_1 : Int) (h0_2 : Int) (h0_3 : Int) (h1_0z : Bool) (h1_0l : (List Int)) (h1_1 : Bool) (h2_0 : Int) (h4l : (List Int)) (hb : isB h1_0l) : Ev (fun q => zoj q h0_0 h0_1 h0_2 h0_3 h1_0z h1_0l h1_1 h2_0 h4l) (h4l.length, (gN (h1_0l, h1_1)).2.1, (gN (h1_0l, h1_1)).2.2, h2_0, (gN (h1_0l, h1_1)).1) := Ev.succ (getK h1_0z hb h1_1 (K := fun q v' b' f' => zoi q h0_0 h0_1 h0_2 h0_3 h1_0z b' f' h2_0 v' h4l) (zceq h0_0 h0_1 h0_2 h0_3 h1_0z (gN (h1_0l, h1_1)).2.1 (gN (h1_0l, h1_1)).2.2 h2_0 (gN (h1_0l, h1_1)).1 h4l)) (fun q => rfl)
theorem zces (h0_0 : Int) (h0_1 : Int) (h0_2 : Int) (h0_3 : Int) (h1_0z : Bool) (h1_0l : (List Int)) (h1_1 : Bool) (h4l : (List Int)) (hb : isB h1_0l) : Ev (fun q => zok q h0_0 h0_1 h0_2 h0_3 h1_0z h1_0l h1_1 h4l) (h4l.length, (gN ((gN (h1_0l, h1_1)).2.1, (gN (h1_0l, h1_1)).2.2)).2.1, (gN ((gN (h1_0l, h1_1)).2.1, (gN (h1_0l, h1_1)).2.2)).2.2, (gN (h1_0l, h1_1)).1, (gN ((gN (h1_0l, h1_1)).2.1, (gN (h1_0l, h1_1)).2.2)).1) := Ev.succ (getK h1_0z hb h1_1 (K := fun q v' b' f' => zoj q h0_0 h0_1 h0_2 h0_3 h1_0z b' f' v' h4l) (zcer h0_0 h0_1 h0_2 h0_3 h1_0z (gN (h1_0l, h1_1)).2.1 (gN (h1_0l, h1_1)).2.2 (gN (h1_0l, h1_1)).1 h4l (gN_isB hb))) (fun q => rfl)
theorem s2_ev (h0_0 : Int) (h0_1 : Int) (h0_2 : Int) (h0_3 : Int) (h1_0z : Bool) (h1_0l : (List Int)) (h1_1 : Bool) (h4l : (List Int)) (hb : isB h1_0l) : Ev (fun q => zol q h0_0 h0_1 h0_2 h0_3 h1_0z h1_0l h1_1 h4l) (h4l.length, (gN ((gN (h1_0l, h1_1)).2.1, (gN (h1_0l, h1_1)).2.2)).2.1, (gN ((gN (h1_0l, h1_1)).2.1, (gN (h1_0l, h1_1)).2.2)).2.2, (gN (h1_0l, h1_1)).1, (gN ((gN (h1_0l, h1_1)).2.1, (gN (h1_0l, h1_1)).2.2)).1) := Ev.succ (zces h0_0 h0_1 h0_2 h0_3 h1_0z h1_0l h1_1 h4l hb) (fun q => rfl)
theorem zcet (h0_0 : Int) (h0_1 : Int) (h0_2 : Int) (h0_3 : Int) (h0_5 : Bool) (h0_6 : Int) (h1_0z : Bool) (h1_0l : (List Int)) (h1_1 : Bool) (h2_0 : Int) (h3_0 : Int) (h3_1 : Int) : Ev (fun q => zom q h0_0 h0_1 h0_2 h0_3 h0_5 h0_6 h1_0z h1_0l h1_1 h2_0 h3_0 h3_1) (h1_0l, h1_1, h3_0, h3_1) := Ev.succ (Ev.ret _) (fun q => rfl)
theorem zceu (h0_0 : Int) (h0_1 : Int) (h0_2 : Int) (h0_3 : Int) (h0_5 : Bool) (h0_6 : Int) (h1_0z : Bool) (h1_0l : (List Int)) (h1_1 : Bool) (h2_0 : Int) (h3_0 : Int) (hb : isB h1_0l) : Ev (fun q => zon q h0_0 h0_1 h0_2 h0_3 h0_5 h0_6 h1_0z h1_0l h1_1 h2_0 h3_0) ((gN (h1_0l, h1_1)).2.1, (gN (h1_0l, h1_1)).2.2, h3_0, (gN (h1_0l, h1_1)).1) := Ev.succ (getK h1_0z hb h1_1 (K := fun q v' b' f' => zom q h0_0 h0_1 h0_2 h0_3 h0_5 h0_6 h1_0z b' f' h2_0 h3_0 v') (zcet h0_0 h0_1 h0_2 h0_3 h0_5 h0_6 h1_0z (gN (h1_0l, h1_1)).2.1 (gN (h1_0l, h1_1)).2.2 h2_0 h3_0 (gN (h1_0l, h1_1)).1)) (fun q => rfl)
theorem zcev (h0_0 : Int) (h0_1 : Int) (h0_2 : Int) (h0_3 : Int) (h0_5 : Bool) (h0_6 : Int) (h1_0z : Bool) (h1_0l : (List Int)) (h1_1 : Bool) (h2_0 : Int) (hb : isB h1_0l) : Ev (fun q => zoo q h0_0 h0_1 h0_2 h0_3 h0_5 h0_6 h1_0z h1_0l h1_1 h2_0) ((gN ((gN (h1_0l, h1_1)).2.1, (gN (h1_0l, h1_1)).2.2)).2.1, (gN ((gN (h1_0l, h1_1)).2.1, (gN (h1_0l, h1_1)).2.2)).2.2, (gN (h1_0l, h1_1)).1, (gN ((gN (h1_0l, h1_1)).2.1, (gN (h1_0l, h1_1)).2.2)).1) := Ev.succ (getK h1_0z hb h1_1 (K := fun q v' b' f' => zon q h0_0 h0_1 h0_2 h0_3 h0_5 h0_6 h1_0z b' f' h2_0 v') (zceu h0_0 h0_1 h0_2 h0_3 h0_5 h0_6 h1_0z (gN (h1_0l, h1_1)).2.1 (gN (h1_0l, h1_1)).2.2 h2_0 (gN (h1_0l, h1_1)).1 (gN_isB hb))) (fun q => rfl)
theorem s3_ev (h0_0 : Int) (h0_1 : Int) (h0_2 : Int) (h0_3 : Int) (h0_5 : Bool) (h0_6 : Int) (h1_0z : Bool) (h1_0l : (List Int)) (h1_1 : Bool) (h2_0 : Int) (hb : isB h1_0l) : Ev (fun q => zop q h0_0 h0_1 h0_2 h0_3 h0_5 h0_6 h1_0z h1_0l h1_1 h2_0) ((gN ((gN (h1_0l, h1_1)).2.1, (gN (h1_0l, h1_1)).2.2)).2.1, (gN ((gN (h1_0l, h1_1)).2.1, (gN (h1_0l, h1_1)).2.2)).2.2, (gN (h1_0l, h1_1)).1, (gN ((gN (h1_0l, h1_1)).2.1, (gN (h1_0l, h1_1)).2.2)).1) := Ev.succ (zcev h0_0 h0_1 h0_2 h0_3 h0_5 h0_6 h1_0z h1_0l h1_1 h2_0 hb) (fun q => rfl)
theorem zcew (h0_0 : Int) (h0_1 : Int) (h0_2 : Int) (h0_3 : Int) (h0_4len : Nat) (h0_5 : Bool) (h0_6 : Int) (h1_0z : Bool) (h1_0l : (List Int)) (h1_1 : Bool) (h2_0 : Int) (h3l : (List Int)) (h4_0 : Int) (h4_1 : Int) : Ev (fun q => zoq q h0_0 h0_1 h0_2 h0_3 h0_4len h0_5 h0_6 h1_0z h1_0l h1_1 h2_0 h3l h4_0 h4_1) (h1_0l, h1_1, h4_0, h4_1) := Ev.succ (Ev.ret _) (fun q => rfl)
theorem zcex (h0_0 : Int) (h0_1 : Int) (h0_2 : Int) (h0_3 : Int) (h0_4len : Nat) (h0_5 : Bool) (h0_6 : Int) (h1_0z : Bool) (h1_0l : (List Int)) (h1_1 : Bool) (h2_0 : Int) (h3l : (List Int)) (h4_0 : Int) (hb : isB h1_0l) : Ev (fun q => zor q h0_0 h0_1 h0_2 h0_3 h0_4len h0_5 h0_6 h1_0z h1_0l h1_1 h2_0 h3l h4_0) ((gN (h1_0l, h1_1)).2.1, (gN (h1_0l, h1_1)).2.2, h4_0, (gN (h1_0l, h1_1)).1) := Ev.succ (getK h1_0z hb h1_1 (K := fun q v' b' f' => zoq q h0_0 h0_1 h0_2 h0_3 h0_4len h0_5 h0_6 h1_0z b' f' h2_0 h3l h4_0 v') (zcew h0_0 h0_1 h0_2 h0_3 h0_4len h0_5 h0_6 h1_0z (gN (h1_0l, h1_1)).2.1 (gN (h1_0l, h1_1)).2.2 h2_0 h3l h4_0 (gN (h1_0l, h1_1)).1)) (fun q => rfl)
theorem zcey (h0_0 : Int) (h0_1 : Int) (h0_2 : Int) (h0_3 : Int) (h0_4len : Nat) (h0_5 : Bool) (h0_6 : Int) (h1_0z : Bool) (h1_0l : (List Int)) (h1_1 : Bool) (h2_0 : Int) (h3l : (List Int)) (hb : isB h1_0l) : Ev (fun q => zos q h0_0 h0_1 h0_2 h0_3 h0_4len h0_5 h0_6 h1_0z h1_0l h1_1 h2_0 h3l) ((gN ((gN (h1_0l, h1_1)).2.1, (gN (h1_0l, h1_1)).2.2)).2.1, (gN ((gN (h1_0l, h1_1)).2.1, (gN (h1_0l, h1_1)).2.2)).2.2, (gN (h1_0l, h1_1)).1, (gN ((gN (h1_0l, h1_1)).2.1, (gN (h1_0l, h1_1)).2.2)).1) := Ev.succ (getK h1_0z hb h1_1 (K := fun q v' b' f' => zor q h0_0 h0_1 h0_2 h0_3 h0_4len h0_5 h0_6 h1_0z b' f' h2_0 h3l v') (zcex h0_0 h0_1 h0_2 h0_3 h0_4len h0_5 h0_6 h1_0z (gN (h1_0l, h1_1)).2.1 (gN (h1_0l, h1_1)).2.2 h2_0 h3l (gN (h1_0l, h1_1)).1 (gN_isB hb))) (fun q => rfl)
theorem s4_ev (h0_0 : Int) (h0_1 : Int) (h0_2 : Int) (h0_3 : Int) (h0_4len : Nat) (h0_5 : Bool) (h0_6 : Int) (h1_0z : Bool) (h1_0l : (List Int)) (h1_1 : Bool) (h2_0 : Int) (h3l : (List Int)) (hb : isB h1_0l) : Ev (fun q => zot q h0_0 h0_1 h0_2 h0_3 h0_4len h0_5 h0_6 h1_0z h1_0l h1_1 h2_0 h3l) ((gN ((gN (h1_0l, h1_1)).2.1, (gN (h1_0l, h1_1)).2.2)).2.1, (gN ((gN (h1_0l, h1_1)).2.1, (gN (h1_0l, h1_1)).2.2)).2.2, (gN (h1_0l, h1_1)).1, (gN ((gN (h1_0l, h1_1)).2.1, (gN (h1_0l, h1_1)).2.2)).1) := Ev.succ (zcey h0_0 h0_1 h0_2 h0_3 h0_4len h0_5 h0_6 h1_0z h1_0l h1_1 h2_0 h3l hb) (fun q => rfl)
theorem zcez (h0_0 : Int) (h0_1 : Int) (h0_2 : Int) (h0_3 : Int) (h0_5 : Bool) (h0_6 : Int) (h1_0z : Bool) (h1_0l : (List Int)) (h1_1 : Bool) (h2_0 : Int) (h3l : (List zj5)) (h4_0 : Int) (h4_1 : Int) : Ev (fun q => zou q h0_0 h0_1 h0_2 h0_3 h0_5 h0_6 h1_0z h1_0l h1_1 h2_0 h3l h4_0 h4_1) (h3l.length, h1_0l, h1_1, h4_0, h4_1) := Ev.succ (Ev.ret _) (fun q => rfl)
theorem zce0 (h0_0 : Int) (h0_1 : Int) (h0_2 : Int) (h0_3 : Int) (h0_5 : Bool) (h0_6 : Int) (h1_0z : Bool) (h1_0l : (List Int)) (h1_1 : Bool) (h2_0 : Int) (h3l : (List zj5)) (h4_0 : Int) (hb : isB h1_0l) : Ev (fun q => zov q h0_0 h0_1 h0_2 h0_3 h0_5 h0_6 h1_0z h1_0l h1_1 h2_0 h3l h4_0) (h3l.length, (gN (h1_0l, h1_1)).2.1, (gN (h1_0l, h1_1)).2.2, h4_0, (gN (h1_0l, h1_1)).1) := Ev.succ (getK h1_0z hb h1_1 (K := fun q v' b' f' => zou q h0_0 h0_1 h0_2 h0_3 h0_5 h0_6 h1_0z b' f' h2_0 h3l h4_0 v') (zcez h0_0 h0_1 h0_2 h0_3 h0_5 h0_6 h1_0z (gN (h1_0l, h1_1)).2.1 (gN (h1_0l, h1_1)).2.2 h2_0 h3l h4_0 (gN (h1_0l, h1_1)).1)) (fun q => rfl)
theorem zce1 (h0_0 : Int) (h0_1 : Int) (h0_2 : Int) (h0_3 : Int) (h0_5 : Bool) (h0_6 : Int) (h1_0z : Bool) (h1_0l : (List Int)) (h1_1 : Bool) (h2_0 : Int) (h3l : (List zj5)) (hb : isB h1_0l) : Ev (fun q => zow q h0_0 h0_1 h0_2 h0_3 h0_5 h0_6 h1_0z h1_0l h1_1 h2_0 h3l) (h3l.length, (gN ((gN (h1_0l, h1_1)).2.1, (gN (h1_0l, h1_1)).2.2)).2.1, (gN ((gN (h1_0l, h1_1)).2.1, (gN (h1_0l, h1_1)).2.2)).2.2, (gN (h1_0l, h1_1)).1, (gN ((gN (h1_0l, h1_1)).2.1, (gN (h1_0l, h1_1)).2.2)).1) := Ev.succ (getK h1_0z hb h1_1 (K := fun q v' b' f' => zov q h0_0 h0_1 h0_2 h0_3 h0_5 h0_6 h1_0z b' f' h2_0 h3l v') (zce0 h0_0 h0_1 h0_2 h0_3 h0_5 h0_6 h1_0z (gN (h1_0l, h1_1)).2.1 (gN (h1_0l, h1_1)).2.2 h2_0 h3l (gN (h1_0l, h1_1)).1 (gN_isB hb))) (fun q => rfl)
theorem s5_ev (h0_0 : Int) (h0_1 : Int) (h0_2 : Int) (h0_3 : Int) (h0_5 : Bool) (h0_6 : Int) (h1_0z : Bool) (h1_0l : (List Int)) (h1_1 : Bool) (h2_0 : Int) (h3l : (List zj5)) (hb : isB h1_0l) : Ev (fun q => zox q h0_0 h0_1 h0_2 h0_3 h0_5 h0_6 h1_0z h1_0l h1_1 h2_0 h3l) (h3l.length, (gN ((gN (h1_0l, h1_1)).2.1, (gN (h1_0l, h1_1)).2.2)).2.1, (gN ((gN (h1_0l, h1_1)).2.1, (gN (h1_0l, h1_1)).2.2)).2.2, (gN (h1_0l, h1_1)).1, (gN ((gN (h1_0l, h1_1)).2.1, (gN (h1_0l, h1_1)).2.2)).1) := Ev.succ (zce1 h0_0 h0_1 h0_2 h0_3 h0_5 h0_6 h1_0z h1_0l h1_1 h2_0 h3l hb) (fun q => rfl)
theorem zce2 (h0_0 : Int) (h0_1 : Int) (h0_2 : Int) (h0_3 : Int) (h0_4len : Nat) (h0_5 : Bool) (h0_6 : Int) (h1_0z : Bool) (h1_0l : (List Int)) (h1_1 : Bool) (h2_0 : Int) (h3l : (List Int)) (h4l : (List zj5)) (h5_0 : Int) (h5_1 : Int) : Ev (fun q => zoy q h0_0 h0_1 h0_2 h0_3 h0_4len h0_5 h0_6 h1_0z h1_0l h1_1 h2_0 h3l h4l h5_0 h5_1) (h4l.length, h1_0l, h1_1, h5_0, h5_1) := Ev.succ (Ev.ret _) (fun q => rfl)
theorem zce3 (h0_0 : Int) (h0_1 : Int) (h0_2 : Int) (h0_3 : Int) (h0_4len : Nat) (h0_5 : Bool) (h0_6 : Int) (h1_0z : Bool) (h1_0l : (List Int)) (h1_1 : Bool) (h2_0 : Int) (h3l : (List Int)) (h4l : (List zj5)) (h5_0 : Int) (hb : isB h1_0l) : Ev (fun q => zoz q h0_0 h0_1 h0_2 h0_3 h0_4len h0_5 h0_6 h1_0z h1_0l h1_1 h2_0 h3l h4l h5_0) (h4l.length, (gN (h1_0l, h1_1)).2.1, (gN (h1_0l, h1_1)).2.2, h5_0, (gN (h1_0l, h1_1)).1) := Ev.succ (getK h1_0z hb h1_1 (K := fun q v' b' f' => zoy q h0_0 h0_1 h0_2 h0_3 h0_4len h0_5 h0_6 h1_0z b' f' h2_0 h3l h4l h5_0 v') (zce2 h0_0 h0_1 h0_2 h0_3 h0_4len h0_5 h0_6 h1_0z (gN (h1_0l, h1_1)).2.1 (gN (h1_0l, h1_1)).2.2 h2_0 h3l h4l h5_0 (gN (h1_0l, h1_1)).1)) (fun q => rfl)
theorem zce4 (h0_0 : Int) (h0_1 : Int) (h0_2 : Int) (h0_3 : Int) (h0_4len : Nat) (h0_5 : Bool) (h0_6 : Int) (h1_0z : Bool) (h1_0l : (List Int)) (h1_1 : Bool) (h2_0 : Int) (h3l : (List Int)) (h4l : (List zj5)) (hb : isB h1_0l) : Ev (fun q => zo0 q h0_0 h0_1 h0_2 h0_3 h0_4len h0_5 h0_6 h1_0z h1_0l h1_1 h2_0 h3l h4l) (h4l.length, (gN ((gN (h1_0l, h1_1)).2.1, (gN (h1_0l, h1_1)).2.2)).2.1, (gN ((gN (h1_0l, h1_1)).2.1, (gN (h1_0l, h1_1)).2.2)).2.2, (gN (h1_0l, h1_1)).1, (gN ((gN (h1_0l, h1_1)).2.1, (gN (h1_0l, h1_1)).2.2)).1) := Ev.succ (getK h1_0z hb h1_1 (K := fun q v' b' f' => zoz q h0_0 h0_1 h0_2 h0_3 h0_4len h0_5 h0_6 h1_0z b' f' h2_0 h3l h4l v') (zce3 h0_0 h0_1 h0_2 h0_3 h0_4len h0_5 h0_6 h1_0z (gN (h1_0l, h1_1)).2.1 (gN (h1_0l, h1_1)).2.2 h2_0 h3l h4l (gN (h1_0l, h1_1)).1 (gN_isB hb))) (fun q => rfl)
theorem s6_ev (h0_0 : Int) (h0_1 : Int) (h0_2 : Int) (h0_3 : Int) (h0_4len : Nat) (h0_5 : Bool) (h0_6 : Int) (h1_0z : Bool) (h1_0l : (List Int)) (h1_1 : Bool) (h2_0 : Int) (h3l : (List Int)) (h4l : (List zj5)) (hb : isB h1_0l) : Ev (fun q => zo1 q h0_0 h0_1 h0_2 h0_3 h0_4len h0_5 h0_6 h1_0z h1_0l h1_1 h2_0 h3l h4l) (h4l.length, (gN ((gN (h1_0l, h1_1)).2.1, (gN (h1_0l, h1_1)).2.2)).2.1, (gN ((gN (h1_0l, h1_1)).2.1, (gN (h1_0l, h1_1)).2.2)).2.2, (gN (h1_0l, h1_1)).1, (gN ((gN (h1_0l, h1_1)).2.1, (gN (h1_0l, h1_1)).2.2)).1) := Ev.succ (zce4 h0_0 h0_1 h0_2 h0_3 h0_4len h0_5 h0_6 h1_0z h1_0l h1_1 h2_0 h3l h4l hb) (fun q => rfl)
def entsR : Nat → List Int × Bool → List zj5 × List Int × Bool
 | 0, r => ([], r)
 | k + 1, r => if r.2 = true then (⟨(gN r).1, (gN (gN r).2).1, (gS (gN (gN r).2).2).1⟩ :: (entsR k (gS (gN (gN r).2).2).2).1, (entsR k (gS (gN (gN r).2).2).2).2) else ([], r)
theorem zce5 (k : Nat) {r : List Int × Bool} (h : r.2 ≠ true) : entsR k r = ([], r) := by
 cases k with
 | zero => rfl
 | succ k => simp only [entsR]; rw [if_neg h]
theorem zce6 (k : Nat) (b : List Int) : entsR (k + 1) (b, true) = (⟨(gN (b, true)).1, (gN (gN (b, true)).2).1, (gS (gN (gN (b, true)).2).2).1⟩ :: (entsR k (gS (gN (gN (b, true)).2).2).2).1, (entsR k (gS (gN (gN (b, true)).2).2).2).2) := by
 rw [entsR, if_pos rfl]
theorem zce7 {r : List Int × Bool} (h : (gN r).2.2 = true) : r.2 = true ∧ 0 < (getN r.1).2 ∧ (gN r).2.1.length + 1 ≤ r.1.length := by
 have hl := zca5 (l := r.1)
 simp only [gN, y8, decide_eq_true_eq, y15] at h ⊢
 exact ⟨h.1, h.2, by omega⟩
theorem zce8 {r : List Int × Bool} (h : (gS r).2.2 = true) : r.2 = true ∧ 0 < (getS r.1).2 ∧ (gS r).2.1.length + 1 ≤ r.1.length := by
 have hl := zcbq (l := r.1)
 simp only [gS, y8, decide_eq_true_eq, y15] at h ⊢
 exact ⟨h.1, h.2, by omega⟩
/-- What follows the numbers. -/
def tlD (d0 d1 d2 d3 : Int) (mid : Sl Int) (r : List Int × Bool) : zj9 × Bool :=
 if 3 < (gN r).1 then (⟨d0, d1, d2, d3, mid, false, 0, ⟨true, []⟩⟩, false) else
 (⟨d0, d1, d2, d3, mid, decide (0 < (gN r).1), if (gN r).1 - 1 < 0 then 0 else (gN r).1 - 1, ⟨(entsR (gN (gN r).2).1.toNat (gN (gN r).2).2).1.isEmpty, (entsR (gN (gN r).2).1.toNat (gN (gN r).2).2).1⟩⟩,
  (entsR (gN (gN r).2).1.toNat (gN (gN r).2).2).2.2 && decide (((entsR (gN (gN r).2).1.toNat (gN (gN r).2).2).2.1.length : Int) = 0))
theorem zce9 (d0 d1 d2 d3 : Int) (len : Nat) (s5 : Bool) (s6 : Int) (z : Bool) (many : Nat) (hm : many < 4611686018427387904) (h3l : List Int) : ∀ (k i : Nat) (b : List Int) (f : Bool) (acc : List zj5), many = i + k → isB b → (f = true → acc.length + b.length ≤ 1000000) →
  Ev (fun q => zo2 q (i : Int) d0 d1 d2 d3 len s5 s6 z b f (many : Int) h3l acc) ((⟨d0, d1, d2, d3, ⟨false, h3l⟩, s5, s6, ⟨false, acc ++ (entsR k (b, f)).1⟩⟩ : zj9), (entsR k (b, f)).2.2 && decide (((entsR k (b, f)).2.1.length : Int) = 0))
 | 0, i, b, f, acc, hk, hb, ha => by
  simp only [entsR, List.append_nil]
  refine Ev.succ (Ev.ne (Ev.ite (fun c => Ev.ret' ?_) fun c => Ev.ret' ?_)) (fun q => rfl)
  ·rw [c]; rfl
  ·rw [show f = false by simpa using c]; rfl
 | k + 1, i, b, f, acc, hk, hb, ha => by
  by_cases c : f = true
  ·have hS := s6_ev d0 d1 d2 d3 len s5 s6 z b f (many : Int) h3l acc hb
   rw [c] at hS ⊢
   have hb1 := gN_isB (r := (b, true)) hb
   have hb2 := gN_isB (r := (gN (b, true)).2) hb1
   have ih := zce9 d0 d1 d2 d3 len s5 s6 z many hm h3l k (i + 1) (gS (gN (gN (b, true)).2).2).2.1 (gS (gN (gN (b, true)).2).2).2.2 (acc ++ [⟨(gN (b, true)).1, (gN (gN (b, true)).2).1, (gS (gN (gN (b, true)).2).2).1⟩]) (by omega) (gS_isB (r := (gN (gN (b, true)).2).2) hb2) (fun e => by
    have g3 := zce8 e
    have g2 := zce7 g3.1
    have g1 := zce7 g2.1
    have := ha c
    simp only [y12, y23, y27] at g1 ⊢; omega)
   rw [show ((i + 1 : Nat) : Int) = wrp .i64 ((i : Int) + 1) by rw [zb9h (by omega) (by omega)]; omega] at ih
   have hal := ha c
   have hK := getSK z hb2 (gN (gN (b, true)).2).2.2 (K := fun q v' b' f' => (if (acc.length + 1) ≤ 4294967296 then (zo2 q (wrp .i64 ((i : Int) + 1)) d0 d1 d2 d3 len s5 s6 z b' f' (many : Int) h3l (acc ++ [(⟨(gN (b, true)).1, (gN (gN (b, true)).2).1, v'⟩ : zj5)])) else none)) (Ev.pos (by omega) ih)
   rw [zce6]
   refine Ev.succ (Ev.po (Ev.pos rfl (Ev.bind hS (Ev.cast hK ?_)))) (fun q => rfl)
   simp only [y35, List.singleton_append]
  ·rw [zce5 _ (show (b, f).2 ≠ true from c), List.append_nil]
   have c' : f = false := by simpa using c
   refine Ev.succ (Ev.po (Ev.neg c (Ev.ret' ?_))) (fun q => rfl)
   rw [c']; rfl
theorem zcfa (d0 d1 d2 d3 : Int) (len : Nat) (s5 : Bool) (s6 : Int) (z : Bool) (many : Nat) (hm : many < 4611686018427387904) (h3l : List Int) (b : List Int) (f : Bool) (hb : isB b) (hl : b.length ≤ 100000) :
  Ev (fun q => zo3 q d0 d1 d2 d3 len s5 s6 z b f (many : Int) h3l) ((⟨d0, d1, d2, d3, ⟨false, h3l⟩, s5, s6, ⟨(entsR many (b, f)).1.isEmpty, (entsR many (b, f)).1⟩⟩ : zj9), (entsR many (b, f)).2.2 && decide (((entsR many (b, f)).2.1.length : Int) = 0)) := by
 by_cases h0 : many = 0
 ·have hn : entsR many (b, f) = ([], (b, f)) := by rw [h0]; rfl
  rw [hn]
  refine Ev.succ (Ev.ne (Ev.ite (fun c => Ev.ret' ?_) fun c => Ev.ret' ?_)) (fun q => rfl)
  ·rw [c]; rfl
  ·rw [show f = false by simpa using c]; rfl
 ·obtain ⟨k, hk⟩ : ∃ k, many = k + 1 := ⟨many - 1, by omega⟩
  by_cases c : f = true
  ·have hS := s4_ev d0 d1 d2 d3 len s5 s6 z b f (many : Int) h3l hb
   rw [c] at hS ⊢
   have hb1 := gN_isB (r := (b, true)) hb
   have hb2 := gN_isB (r := (gN (b, true)).2) hb1
   have ih := zce9 d0 d1 d2 d3 len s5 s6 z many hm h3l k 1 (gS (gN (gN (b, true)).2).2).2.1 (gS (gN (gN (b, true)).2).2).2.2 [⟨(gN (b, true)).1, (gN (gN (b, true)).2).1, (gS (gN (gN (b, true)).2).2).1⟩] (by omega) (gS_isB (r := (gN (gN (b, true)).2).2) hb2) (fun e => by
    have g3 := zce8 e
    have g2 := zce7 g3.1
    have g1 := zce7 g2.1
    simp only [y12, y23, y27] at g1 ⊢; omega)
   rw [show ((1 : Nat) : Int) = wrp .i64 1 by rw [zb9h (by omega) (by omega)]; rfl] at ih
   have hK := getSK z hb2 (gN (gN (b, true)).2).2.2 (K := fun q v' b' f' => (zo2 q (wrp .i64 1) d0 d1 d2 d3 len s5 s6 z b' f' (many : Int) h3l [(⟨(gN (b, true)).1, (gN (gN (b, true)).2).1, v'⟩ : zj5)])) ih
   have hE := zce6 k b
   rw [← hk] at hE
   rw [hE]
   exact Ev.succ (Ev.po (Ev.pos rfl (Ev.bind hS hK))) (fun q => rfl)
  ·rw [zce5 _ (show (b, f).2 ≠ true from c)]
   have c' : f = false := by simpa using c
   refine Ev.succ (Ev.po (Ev.neg c (Ev.ret' ?_))) (fun q => rfl)
   rw [c']; rfl
theorem zcfb (d0 d1 d2 d3 : Int) (s5 : Bool) (s6 : Int) (z : Bool) (many : Nat) (hm : many < 4611686018427387904) : ∀ (k i : Nat) (b : List Int) (f : Bool) (acc : List zj5), many = i + k → isB b → (f = true → acc.length + b.length ≤ 1000000) →
  Ev (fun q => zo5 q (i : Int) d0 d1 d2 d3 s5 s6 z b f (many : Int) acc) ((⟨d0, d1, d2, d3, ⟨true, []⟩, s5, s6, ⟨false, acc ++ (entsR k (b, f)).1⟩⟩ : zj9), (entsR k (b, f)).2.2 && decide (((entsR k (b, f)).2.1.length : Int) = 0))
 | 0, i, b, f, acc, hk, hb, ha => by
  simp only [entsR, List.append_nil]
  refine Ev.succ (Ev.ne (Ev.ite (fun c => Ev.ret' ?_) fun c => Ev.ret' ?_)) (fun q => rfl)
  ·rw [c]; rfl
  ·rw [show f = false by simpa using c]; rfl
 | k + 1, i, b, f, acc, hk, hb, ha => by
  by_cases c : f = true
  ·have hS := s5_ev d0 d1 d2 d3 s5 s6 z b f (many : Int) acc hb
   rw [c] at hS ⊢
   have hb1 := gN_isB (r := (b, true)) hb
   have hb2 := gN_isB (r := (gN (b, true)).2) hb1
   have ih := zcfb d0 d1 d2 d3 s5 s6 z many hm k (i + 1) (gS (gN (gN (b, true)).2).2).2.1 (gS (gN (gN (b, true)).2).2).2.2 (acc ++ [⟨(gN (b, true)).1, (gN (gN (b, true)).2).1, (gS (gN (gN (b, true)).2).2).1⟩]) (by omega) (gS_isB (r := (gN (gN (b, true)).2).2) hb2) (fun e => by
    have g3 := zce8 e
    have g2 := zce7 g3.1
    have g1 := zce7 g2.1
    have := ha c
    simp only [y12, y23, y27] at g1 ⊢; omega)
   rw [show ((i + 1 : Nat) : Int) = wrp .i64 ((i : Int) + 1) by rw [zb9h (by omega) (by omega)]; omega] at ih
   have hal := ha c
   have hK := getSK z hb2 (gN (gN (b, true)).2).2.2 (K := fun q v' b' f' => (if (acc.length + 1) ≤ 4294967296 then (zo5 q (wrp .i64 ((i : Int) + 1)) d0 d1 d2 d3 s5 s6 z b' f' (many : Int) (acc ++ [(⟨(gN (b, true)).1, (gN (gN (b, true)).2).1, v'⟩ : zj5)])) else none)) (Ev.pos (by omega) ih)
   rw [zce6]
   refine Ev.succ (Ev.po (Ev.pos rfl (Ev.bind hS (Ev.cast hK ?_)))) (fun q => rfl)
   simp only [y35, List.singleton_append]
  ·rw [zce5 _ (show (b, f).2 ≠ true from c), List.append_nil]
   have c' : f = false := by simpa using c
   refine Ev.succ (Ev.po (Ev.neg c (Ev.ret' ?_))) (fun q => rfl)
   rw [c']; rfl
theorem zcfc (d0 d1 d2 d3 : Int) (s5 : Bool) (s6 : Int) (z : Bool) (many : Nat) (hm : many < 4611686018427387904) (b : List Int) (f : Bool) (hb : isB b) (hl : b.length ≤ 100000) :
  Ev (fun q => zo6 q d0 d1 d2 d3 s5 s6 z b f (many : Int)) ((⟨d0, d1, d2, d3, ⟨true, []⟩, s5, s6, ⟨(entsR many (b, f)).1.isEmpty, (entsR many (b, f)).1⟩⟩ : zj9), (entsR many (b, f)).2.2 && decide (((entsR many (b, f)).2.1.length : Int) = 0)) := by
 by_cases h0 : many = 0
 ·have hn : entsR many (b, f) = ([], (b, f)) := by rw [h0]; rfl
  rw [hn]
  refine Ev.succ (Ev.ne (Ev.ite (fun c => Ev.ret' ?_) fun c => Ev.ret' ?_)) (fun q => rfl)
  ·rw [c]; rfl
  ·rw [show f = false by simpa using c]; rfl
 ·obtain ⟨k, hk⟩ : ∃ k, many = k + 1 := ⟨many - 1, by omega⟩
  by_cases c : f = true
  ·have hS := s3_ev d0 d1 d2 d3 s5 s6 z b f (many : Int) hb
   rw [c] at hS ⊢
   have hb1 := gN_isB (r := (b, true)) hb
   have hb2 := gN_isB (r := (gN (b, true)).2) hb1
   have ih := zcfb d0 d1 d2 d3 s5 s6 z many hm k 1 (gS (gN (gN (b, true)).2).2).2.1 (gS (gN (gN (b, true)).2).2).2.2 [⟨(gN (b, true)).1, (gN (gN (b, true)).2).1, (gS (gN (gN (b, true)).2).2).1⟩] (by omega) (gS_isB (r := (gN (gN (b, true)).2).2) hb2) (fun e => by
    have g3 := zce8 e
    have g2 := zce7 g3.1
    have g1 := zce7 g2.1
    simp only [y12, y23, y27] at g1 ⊢; omega)
   rw [show ((1 : Nat) : Int) = wrp .i64 1 by rw [zb9h (by omega) (by omega)]; rfl] at ih
   have hK := getSK z hb2 (gN (gN (b, true)).2).2.2 (K := fun q v' b' f' => (zo5 q (wrp .i64 1) d0 d1 d2 d3 s5 s6 z b' f' (many : Int) [(⟨(gN (b, true)).1, (gN (gN (b, true)).2).1, v'⟩ : zj5)])) ih
   have hE := zce6 k b
   rw [← hk] at hE
   rw [hE]
   exact Ev.succ (Ev.po (Ev.pos rfl (Ev.bind hS hK))) (fun q => rfl)
  ·rw [zce5 _ (show (b, f).2 ≠ true from c)]
   have c' : f = false := by simpa using c
   refine Ev.succ (Ev.po (Ev.neg c (Ev.ret' ?_))) (fun q => rfl)
   rw [c']; rfl
def numsR : Nat → List Int × Bool → List Int × List Int × Bool
 | 0, r => ([], r)
 | k + 1, r => ((gS r).1 :: (numsR k (gS r).2).1, (numsR k (gS r).2).2)
theorem zcfd : ∀ {k : Nat} {r : List Int × Bool}, isB r.1 → isB (numsR k r).2.1 ∧ (numsR k r).2.1.length ≤ r.1.length
 | 0, r, h => ⟨h, y16 _⟩
 | k + 1, r, h => by
  have := zcfd (k := k) (gS_isB h)
  have hl : (gS r).2.1.length ≤ r.1.length := by simp only [gS, y15]; omega
  exact ⟨this.1, Nat.le_trans this.2 hl⟩
theorem gN_le (r : List Int × Bool) : (gN r).2.1.length ≤ r.1.length := by simp only [gN, y15]; omega
theorem sealW {n : Int} (h1 : 0 ≤ n) (h2 : n < 4611686018427387904) : (if (wrp .i64 (n - 1)) < 0 then 0 else (wrp .i64 (n - 1))) = (if n - 1 < 0 then 0 else n - 1) := by
 rw [zb9h (by omega) (by omega)]
theorem gN_rng (r : List Int × Bool) : 0 ≤ (gN r).1 ∧ (gN r).1 < 4611686018427387904 := (zca5 (l := r.1)).2.2.2
theorem zcfe (d0 d1 d2 d3 : Int) (z : Bool) (m : Int) (i : Int) (b : List Int) (f : Bool) (acc : List Int) (hi : ¬ i < m) (hb : isB b) (hl : b.length ≤ 100000) : Ev (fun q => zo4 q m i d0 d1 d2 d3 z b f acc) (tlD d0 d1 d2 d3 ⟨false, acc⟩ (b, f)) := by
 have hS := s2_ev d0 d1 d2 d3 z b f acc hb
 have hb1 := gN_isB (r := (b, f)) hb
 have hb2 := gN_isB (r := (gN (b, f)).2) hb1
 have l1 := gN_le (b, f); have l2 := gN_le (gN (b, f)).2
 have r1 := gN_rng (b, f); have r2 := gN_rng (gN (b, f)).2
 unfold tlD
 refine Ev.succ (Ev.neg hi (Ev.bind hS (Ev.ite (fun c => Ev.ret' ?_) fun c => ?_))) (fun q => rfl)
 ·rw [if_pos c]
 ·rw [if_neg c]
  have h3 := zcfa d0 d1 d2 d3 acc.length (decide (0 < (gN (b, f)).1)) (if (gN (b, f)).1 - 1 < 0 then 0 else (gN (b, f)).1 - 1) z (gN (gN (b, f)).2).1.toNat (by omega) acc (gN (gN (b, f)).2).2.1 (gN (gN (b, f)).2).2.2 hb2 (by simp only at l1; omega)
  rw [← sealW r1.1 r1.2, show ((((gN (gN (b, f)).2).1.toNat : Nat)) : Int) = (gN (gN (b, f)).2).1 by omega] at h3
  refine Ev.cast h3 ?_
  rw [sealW r1.1 r1.2]
theorem zcff (d0 d1 d2 d3 : Int) (z : Bool) (m : Int) (b : List Int) (f : Bool) (hi : ¬ 0 < m) (hb : isB b) (hl : b.length ≤ 100000) : Ev (fun q => zo7 q m d0 d1 d2 d3 z b f) (tlD d0 d1 d2 d3 ⟨true, []⟩ (b, f)) := by
 have hS := s1_ev d0 d1 d2 d3 z b f hb
 have hb1 := gN_isB (r := (b, f)) hb
 have hb2 := gN_isB (r := (gN (b, f)).2) hb1
 have l1 := gN_le (b, f); have l2 := gN_le (gN (b, f)).2
 have r1 := gN_rng (b, f); have r2 := gN_rng (gN (b, f)).2
 unfold tlD
 refine Ev.succ (Ev.neg hi (Ev.bind hS (Ev.ite (fun c => Ev.ret' ?_) fun c => ?_))) (fun q => rfl)
 ·rw [if_pos c]
 ·rw [if_neg c]
  have h3 := zcfc d0 d1 d2 d3 (decide (0 < (gN (b, f)).1)) (if (gN (b, f)).1 - 1 < 0 then 0 else (gN (b, f)).1 - 1) z (gN (gN (b, f)).2).1.toNat (by omega) (gN (gN (b, f)).2).2.1 (gN (gN (b, f)).2).2.2 hb2 (by simp only at l1; omega)
  rw [← sealW r1.1 r1.2, show ((((gN (gN (b, f)).2).1.toNat : Nat)) : Int) = (gN (gN (b, f)).2).1 by omega] at h3
  refine Ev.cast h3 ?_
  rw [sealW r1.1 r1.2]
theorem zcfg (d0 d1 d2 d3 : Int) (z : Bool) (m : Nat) (hm : m ≤ 128) : ∀ (k i : Nat) (b : List Int) (f : Bool) (acc : List Int), m = i + k → acc.length = i → isB b → b.length ≤ 100000 →
  Ev (fun q => zo4 q (m : Int) (i : Int) d0 d1 d2 d3 z b f acc) (tlD d0 d1 d2 d3 ⟨false, acc ++ (numsR k (b, f)).1⟩ (numsR k (b, f)).2)
 | 0, i, b, f, acc, hk, ha, hb, hl => by
  simp only [numsR, List.append_nil]
  exact zcfe d0 d1 d2 d3 z (m : Int) (i : Int) b f acc (by omega) hb hl
 | k + 1, i, b, f, acc, hk, ha, hb, hl => by
  have hb1 := gS_isB (r := (b, f)) hb
  have hl1 : (gS (b, f)).2.1.length ≤ b.length := by simp only [gS, y15]; omega
  have ih := zcfg d0 d1 d2 d3 z m hm k (i + 1) (gS (b, f)).2.1 (gS (b, f)).2.2 (acc ++ [(gS (b, f)).1]) (by omega) (by rw [y12, List.length_singleton]; omega) hb1 (by omega)
  rw [show ((i + 1 : Nat) : Int) = wrp .i64 ((i : Int) + 1) by rw [zb9h (by omega) (by omega)]; omega] at ih
  have hK := getSK z hb f (K := fun q v' b' f' => (if (acc.length + 1) ≤ 4294967296 then (zo4 q (m : Int) (wrp .i64 ((i : Int) + 1)) d0 d1 d2 d3 z b' f' (acc ++ [v'])) else none)) (Ev.pos (by omega) ih)
  refine Ev.succ (Ev.po (Ev.cast hK ?_)) (fun q => rfl)
  simp only [numsR, y35, List.singleton_append]
theorem zcfh (d0 d1 d2 d3 : Int) (z : Bool) (m : Nat) (hm : m ≤ 128) (b : List Int) (f : Bool) (hb : isB b) (hl : b.length ≤ 100000) :
  Ev (fun q => zo7 q (m : Int) d0 d1 d2 d3 z b f) (tlD d0 d1 d2 d3 ⟨(numsR m (b, f)).1.isEmpty, (numsR m (b, f)).1⟩ (numsR m (b, f)).2) := by
 by_cases h0 : m = 0
 ·have hn : numsR m (b, f) = ([], (b, f)) := by rw [h0]; rfl
  rw [hn]
  exact zcff d0 d1 d2 d3 z (m : Int) b f (by omega) hb hl
 ·obtain ⟨k, hk⟩ : ∃ k, m = k + 1 := ⟨m - 1, by omega⟩
  have hb1 := gS_isB (r := (b, f)) hb
  have hl1 : (gS (b, f)).2.1.length ≤ b.length := by simp only [gS, y15]; omega
  have ih := zcfg d0 d1 d2 d3 z m hm k 1 (gS (b, f)).2.1 (gS (b, f)).2.2 [(gS (b, f)).1] (by omega) rfl hb1 (by omega)
  rw [show ((1 : Nat) : Int) = wrp .i64 1 by rw [zb9h (by omega) (by omega)]; rfl] at ih
  have hK := getSK z hb f (K := fun q v' b' f' => (zo4 q (m : Int) (wrp .i64 1) d0 d1 d2 d3 z b' f' [v'])) ih
  have hE : numsR m (b, f) = ((gS (b, f)).1 :: (numsR k (gS (b, f)).2).1, (numsR k (gS (b, f)).2).2) := by rw [hk]; rfl
  rw [hE]
  exact Ev.succ (Ev.pos (by omega) hK) (fun q => rfl)
def n1 (b : List Int) : Int × List Int × Bool := gN (b, true)
def n2 (b : List Int) : Int × List Int × Bool := gN (n1 b).2
def n3 (b : List Int) : Int × List Int × Bool := gN (n2 b).2
def n4 (b : List Int) : Int × List Int × Bool := gN (n3 b).2
def n5 (b : List Int) : Int × List Int × Bool := gN (n4 b).2
/-- The delta of data, and whether they are one. -/
def rdD (b : List Int) : zj9 × Bool :=
 if 128 < (n5 b).1 then (⟨(n1 b).1, (n2 b).1, (n3 b).1, (n4 b).1, ⟨true, []⟩, false, 0, ⟨true, []⟩⟩, false) else
 tlD (n1 b).1 (n2 b).1 (n3 b).1 (n4 b).1 ⟨(numsR (n5 b).1.toNat (n5 b).2).1.isEmpty, (numsR (n5 b).1.toNat (n5 b).2).1⟩ (numsR (n5 b).1.toNat (n5 b).2).2
theorem zcfi (s : Sl Int) (hb : isB s.l) (hl : s.l.length ≤ 100000) : Ev (fun q => zo8 q s) (rdD s.l) := by
 have hS : Ev (fun q => zod q s.z s.l) ((n1 s.l).1, (n2 s.l).1, (n3 s.l).1, (n4 s.l).1, (n5 s.l).2.1, (n5 s.l).2.2, (n5 s.l).1) := s0_ev s.z s.l hb
 have b1 := gN_isB (r := (s.l, true)) hb
 have b2 := gN_isB (r := (n1 s.l).2) b1
 have b3 := gN_isB (r := (n2 s.l).2) b2
 have b4 := gN_isB (r := (n3 s.l).2) b3
 have b5 : isB (n5 s.l).2.1 := gN_isB (r := (n4 s.l).2) b4
 have l1 := gN_le (s.l, true); have l2 := gN_le (n1 s.l).2; have l3 := gN_le (n2 s.l).2; have l4 := gN_le (n3 s.l).2; have l5 := gN_le (n4 s.l).2
 have hlen : (n5 s.l).2.1.length ≤ 100000 := by
  change (n1 s.l).2.1.length ≤ s.l.length at l1
  change (n2 s.l).2.1.length ≤ (n1 s.l).2.1.length at l2
  change (n3 s.l).2.1.length ≤ (n2 s.l).2.1.length at l3
  change (n4 s.l).2.1.length ≤ (n3 s.l).2.1.length at l4
  change (n5 s.l).2.1.length ≤ (n4 s.l).2.1.length at l5
  omega
 have r5 : 0 ≤ (n5 s.l).1 ∧ (n5 s.l).1 < 4611686018427387904 := gN_rng (n4 s.l).2
 unfold rdD
 refine Ev.succ (Ev.bind hS (Ev.ite (fun c => Ev.ret' ?_) fun c => ?_)) (fun q => rfl)
 ·rw [if_pos c]
 ·rw [if_neg c]
  simp only at c
  have h0 := zcfh (n1 s.l).1 (n2 s.l).1 (n3 s.l).1 (n4 s.l).1 s.z (n5 s.l).1.toNat (by omega) (n5 s.l).2.1 (n5 s.l).2.2 b5 hlen
  rw [show ((((n5 s.l).1.toNat : Nat)) : Int) = (n5 s.l).1 by omega] at h0
  exact h0
theorem gN_app {r : List Int × Bool} (hb : isB r.1) (h : (gN r).2.2 = true) : r.2 = true ∧ r.1 = put (gN r).1 ++ (gN r).2.1 := by
 have g := zce7 h
 exact ⟨g.1, zcdu hb g.2.1⟩
theorem gS_app {r : List Int × Bool} (hb : isB r.1) (h : (gS r).2.2 = true) : r.2 = true ∧ r.1 = putS (gS r).1 ++ (gS r).2.1 := by
 have g := zce8 h
 exact ⟨g.1, zcdv hb g.2.1⟩
theorem zcfj : ∀ (k : Nat) (r : List Int × Bool), isB r.1 → (entsR k r).2.2 = true → r.2 = true ∧ r.1 = tabE (entsR k r).1 ++ (entsR k r).2.1 ∧ (entsR k r).1.length = k
 | 0, r, hb, h => ⟨h, by simp [entsR, tabE], rfl⟩
 | k + 1, r, hb, h => by
  by_cases c : r.2 = true
  ·simp only [entsR, if_pos c] at h ⊢
   have b1 := gN_isB hb
   have b2 := gN_isB b1
   have b3 := gS_isB b2
   obtain ⟨h3, e3, l3⟩ := zcfj k (gS (gN (gN r).2).2).2 b3 h
   obtain ⟨h2, e2⟩ := gS_app b2 h3
   obtain ⟨h1, e1⟩ := gN_app b1 h2
   obtain ⟨h0, e0⟩ := gN_app hb h1
   refine ⟨h0, ?_, by rw [y23, l3]⟩
   rw [zcdd]
   simp only [entB, y35]
   rw [← e3, ← e2, ← e1]
   exact e0
  ·rw [zce5 _ c] at h
   exact absurd h c
theorem zcfk : ∀ (k : Nat) (r : List Int × Bool), isB r.1 → (numsR k r).2.2 = true → r.2 = true ∧ r.1 = numsB (numsR k r).1 ++ (numsR k r).2.1 ∧ (numsR k r).1.length = k
 | 0, r, hb, h => ⟨h, by simp [numsR, numsB], rfl⟩
 | k + 1, r, hb, h => by
  simp only [numsR] at h ⊢
  obtain ⟨h1, e1, l1⟩ := zcfk k (gS r).2 (gS_isB hb) h
  obtain ⟨h0, e0⟩ := gS_app hb h1
  refine ⟨h0, ?_, by rw [y23, l1]⟩
  rw [zcc7, y35, ← e1]
  exact e0
theorem zcfl {d0 d1 d2 d3 : Int} {mid : Sl Int} {r : List Int × Bool} (hb : isB r.1) (h : (tlD d0 d1 d2 d3 mid r).2 = true) : r.2 = true ∧ (tlD d0 d1 d2 d3 mid r).1.From = d0 ∧ (tlD d0 d1 d2 d3 mid r).1.To = d1 ∧ (tlD d0 d1 d2 d3 mid r).1.Ahead = d2 ∧ (tlD d0 d1 d2 d3 mid r).1.Behind = d3 ∧ (tlD d0 d1 d2 d3 mid r).1.Mid = mid ∧
  r.1 = putsB [sealL (tlD d0 d1 d2 d3 mid r).1, ((tlD d0 d1 d2 d3 mid r).1.Table.l.length : Int)] ++ tabE (tlD d0 d1 d2 d3 mid r).1.Table.l := by
 unfold tlD at h ⊢
 split at h
 ·cases h
 ·rename_i c
  rw [if_neg c]
  simp only [y8, decide_eq_true_eq] at h
  have b1 := gN_isB hb
  have b2 := gN_isB b1
  have r0 := gN_rng r
  have r1 := gN_rng (gN r).2
  obtain ⟨h2, e2, l2⟩ := zcfj _ _ b2 h.1
  obtain ⟨h1, e1⟩ := gN_app b1 h2
  obtain ⟨h0, e0⟩ := gN_app hb h1
  have hnil : (entsR (gN (gN r).2).1.toNat (gN (gN r).2).2).2.1 = [] := y37 (by omega)
  rw [hnil, List.append_nil] at e2
  refine ⟨h0, rfl, rfl, rfl, rfl, rfl, ?_⟩
  have hs : ∀ (m : Sl Int) (t : Sl zj5), sealL ⟨d0, d1, d2, d3, m, decide (0 < (gN r).1), if (gN r).1 - 1 < 0 then 0 else (gN r).1 - 1, t⟩ = (gN r).1 := fun m t => by
   unfold sealL
   simp only [decide_eq_true_eq]
   split <;> (try split) <;> omega
  rw [hs]
  simp only [zcea, l2, Int.toNat_of_nonneg r1.1]
  rw [show putsB [] = [] from rfl, List.append_nil, y35, ← e2, ← e1]
  exact e0
theorem zcfm {b : List Int} (hb : isB b) (h : (rdD b).2 = true) : delD (rdD b).1 = b := by
 have b1 : isB (n1 b).2.1 := gN_isB (r := (b, true)) hb
 have b2 : isB (n2 b).2.1 := gN_isB (r := (n1 b).2) b1
 have b3 : isB (n3 b).2.1 := gN_isB (r := (n2 b).2) b2
 have b4 : isB (n4 b).2.1 := gN_isB (r := (n3 b).2) b3
 have b5 : isB (n5 b).2.1 := gN_isB (r := (n4 b).2) b4
 have r5 : 0 ≤ (n5 b).1 ∧ (n5 b).1 < 4611686018427387904 := gN_rng (n4 b).2
 unfold rdD at h ⊢
 split at h
 ·cases h
 ·rename_i c
  rw [if_neg c]
  obtain ⟨t1, t2, t3, t4, t5, t6, t7⟩ := zcfl (zcfd b5).1 h
  obtain ⟨h5, e5, l5⟩ := zcfk _ _ b5 t1
  obtain ⟨h4, e4⟩ := gN_app (r := (n4 b).2) b4 h5
  obtain ⟨h3, e3⟩ := gN_app (r := (n3 b).2) b3 h4
  obtain ⟨h2, e2⟩ := gN_app (r := (n2 b).2) b2 h3
  obtain ⟨h1, e1⟩ := gN_app (r := (n1 b).2) b1 h2
  obtain ⟨h0, e0⟩ := gN_app (r := (b, true)) hb h1
  unfold delD
  rw [t2, t3, t4, t5, t6, y35, ← t7]
  simp only [zcea, l5, Int.toNat_of_nonneg r5.1, y35]
  rw [show putsB [] = [] from rfl, y49, ← e5]
  change put (n1 b).1 ++ (put (n2 b).1 ++ (put (n3 b).1 ++ (put (n4 b).1 ++ (put (n5 b).1 ++ (n5 b).2.1)))) = b
  change (n4 b).2.1 = put (n5 b).1 ++ (n5 b).2.1 at e4
  change (n3 b).2.1 = put (n4 b).1 ++ (n4 b).2.1 at e3
  change (n2 b).2.1 = put (n3 b).1 ++ (n3 b).2.1 at e2
  change (n1 b).2.1 = put (n2 b).1 ++ (n2 b).2.1 at e1
  change b = put (n1 b).1 ++ (n1 b).2.1 at e0
  rw [← e4, ← e3, ← e2, ← e1, ← e0]
theorem zcfn : ∀ l : List zj5, l.length ≤ (tabE l).length
 | [] => by simp [tabE]
 | e :: l => by have := zcfn l; have := zcdq e.Resp; rw [zcdd, y12, y23]; simp only [entB, y12]; omega
theorem zcfo : ∀ l : List Int, l.length ≤ (numsB l).length
 | [] => by simp [numsB]
 | e :: l => by have := zcfo l; have := zcdq e; rw [zcc7, y12, y23]; omega
theorem zcfp (d : zj9) : d.Mid.l.length ≤ (delD d).length ∧ d.Table.l.length ≤ (delD d).length := by
 have := zcfn d.Table.l
 have := zcfo d.Mid.l
 simp only [delD, y12]; omega
def noDl : zj9 := ⟨0, 0, 0, 0, ⟨true, []⟩, false, 0, ⟨true, []⟩⟩
/-- The delta of bytes. -/
def dcD (b : List Int) : zj9 × Int :=
 if (decF b).2.2 = 0 then if (decF b).2.1 = (b.length : Int) then if (rdD (decF b).1).2 = true then if mayL (rdD (decF b).1).1 = true then ((rdD (decF b).1).1, 0) else (noDl, 1) else (noDl, 3) else (noDl, 16) else (noDl, (decF b).2.2)
theorem zcfq {b : List Int} (hb : isB b) (hl : b.length ≤ 90000) : (decF b).1.length ≤ 90000 := by
 by_cases h : (decF b).2.2 = 0
 ·have := zcbi (x := (decF b).1) (n := (decF b).2.1) hb (by rw [← h])
  have e := congrArg List.length this.2.2.2.2
  have := zcdk (decF b).1
  rw [y22] at e; omega
 ·have := zcbj (l := b) (x := (decF b).1) (n := (decF b).2.1) (e := (decF b).2.2) rfl h
  rw [this.1]; simp
theorem zcfr (s : Sl Int) (z : Bool) (F : List Int × Int × Int) (R : zj9 × Bool) (hF : Ev (fun q => zn4 q s) (⟨z, true, F.1⟩, F.2.1, F.2.2)) (hR : Ev (fun q => zo8 q ⟨z, F.1⟩) R) (h1 : R.2 = true → R.1.Mid.l.length ≤ 1000000 ∧ R.1.Table.l.length ≤ 1000000) :
  Ev (fun q => zo9 q s) (if F.2.2 = 0 then if F.2.1 = (s.l.length : Int) then if R.2 = true then if mayL R.1 = true then (R.1, 0) else (noDl, 1) else (noDl, 3) else (noDl, 16) else (noDl, F.2.2)) := by
 refine Ev.succ (Ev.bind hF (Ev.ite (fun c1 => Ev.ite (fun c2 => Ev.bind hR (Ev.ite (fun c3 => ?_) fun c3 => Ev.ret' ?_)) fun c2 => Ev.ret' ?_) fun c1 => Ev.ret' ?_)) (fun q => rfl)
 ·simp only at c1 c2
  have hb := h1 c3
  refine Ev.bind (zcd8 _ hb.1 hb.2) (Ev.ite (fun c4 => Ev.ret' ?_) fun c4 => Ev.ret' ?_)
  ·rw [if_pos c1, if_pos c2, if_pos c3, if_pos c4]
  ·rw [if_pos c1, if_pos c2, if_pos c3, if_neg c4]; rfl
 ·simp only at c1 c2; rw [if_pos c1, if_pos c2, if_neg c3]; rfl
 ·simp only at c1 c2; rw [if_pos c1, if_neg c2]; rfl
 ·simp only at c1; rw [if_neg c1]; rfl
theorem zcfs (s : Sl Int) (hz : s.z = true → s.l = []) (hb : isB s.l) (hl : s.l.length ≤ 90000) : Ev (fun q => zo9 q s) (dcD s.l) := by
 obtain ⟨z, hF⟩ := zcbd s hz hb (by omega)
 have hbd := zcbk (l := s.l) hb
 have hsh := zcfq hb hl
 exact zcfr s z (decF s.l) (rdD (decF s.l).1) hF (zcfi ⟨z, (decF s.l).1⟩ hbd (by simp only; omega)) fun c3 => by
  have hi := zcfm hbd c3
  have hlg := zcfp (rdD (decF s.l).1).1
  rw [hi] at hlg
  omega
def filP (p : Int) (T : List zj5) : List zj5 := T.filter fun e => !decide (e.Proc = p)
def insE (e : zj5) : List zj5 → List zj5
 | [] => [e]
 | x :: l => if e.Proc < x.Proc then e :: x :: l else x :: insE e l
def noteL (T : List zj5) (p s x : Int) : List zj5 := insE ⟨p, s, x⟩ (filP p T)
def atE (p : Int) : List zj5 → Nat
 | [] => 0
 | x :: l => if p < x.Proc then 0 else atE p l + 1
theorem atE_le (p : Int) : ∀ T : List zj5, atE p T ≤ T.length
 | [] => y16 _
 | x :: l => by simp only [atE]; split <;> simp only [y23] <;> have := atE_le p l <;> omega
theorem zcft (e : zj5) : ∀ T : List zj5, insE e T = T.take (atE e.Proc T) ++ [e] ++ T.drop (atE e.Proc T)
 | [] => rfl
 | x :: l => by
  simp only [insE, atE]
  split
  ·simp
  ·rw [zcft e l]; simp
theorem zcfu (e : zj5) : ∀ T : List zj5, (insE e T).length = T.length + 1
 | [] => rfl
 | x :: l => by simp only [insE]; split <;> simp only [y23, zcfu e l]
theorem zcfv (p : Int) (T : List zj5) : (filP p T).length ≤ T.length := List.length_filter_le _ _
theorem zcfw (T : List zj5) (p s x : Int) : (noteL T p s x).length ≤ T.length + 1 := by
 unfold noteL; rw [zcfu]; have := zcfv p T; omega
theorem zcfx (p : Int) (O : List zj5) (j : Nat) (hj : j < O.length) : filP p (O.take (j + 1)) = filP p (O.take j) ++ if O[j].Proc = p then [] else [O[j]] := by
 unfold filP
 rw [List.take_add_one, y9 hj, List.filter_append]
 congr 1
 simp only [Option.toList_some, List.filter_cons, List.filter_nil]
 by_cases c : O[j].Proc = p <;> simp [c]
theorem zcfy {p : Int} {T : List zj5} (h : ∀ e ∈ T, e.Proc ≠ p) : filP p T = T := List.filter_eq_self.2 fun e he => by simp [h e he]
theorem zcfz (p0 p p2 p3 p4 p5 p6 : Int) (z : Bool) (L : List zj5) (x : Bool) (hL : L.length ≤ 1000000) : ∀ (k i : Nat), L.length = i + k →
  ∃ r, Ev (fun q => zk5 q (L.length : Int) (i : Int) p0 p p2 p3 p4 p5 p6 z L x) r ∧ ((r = -1 ∧ ∀ e ∈ L.drop i, e.Proc ≠ p) ∨ ∃ j : Nat, i ≤ j ∧ ∃ h : j < L.length, r = (j : Int) ∧ L[j].Proc = p ∧ ∀ e ∈ (L.take j).drop i, e.Proc ≠ p)
 | 0, i, hk => ⟨-1, Ev.succ (Ev.ne (Ev.ret _)) (fun q => rfl), .inl ⟨rfl, by rw [y14 (by omega)]; simp⟩⟩
 | k + 1, i, hk => by
  have hi : i < L.length := by omega
  have he : L[((i : Int)).toNat]? = some L[i] := by simp [hi]
  by_cases c : L[i].Proc = p
  ·exact ⟨(i : Int), Ev.succ (Ev.po (Ev.po (Ev.po (Ev.opt he (Ev.pos c (Ev.ret _)))))) (fun q => rfl), .inr ⟨i, y16 _, hi, rfl, c, by rw [y14 (by rw [y22]; omega)]; simp⟩⟩
  ·obtain ⟨r, h, hr⟩ := zcfz p0 p p2 p3 p4 p5 p6 z L x hL k (i + 1) (by omega)
   rw [show ((i + 1 : Nat) : Int) = wrp .i64 ((i : Int) + 1) by rw [zb9h (by omega) (by omega)]; omega] at h
   refine ⟨r, Ev.succ (Ev.po (Ev.po (Ev.po (Ev.opt he (Ev.neg c h))))) (fun q => rfl), ?_⟩
   rcases hr with ⟨h1, h2⟩ | ⟨j, h1, h2, h3, h4, h5⟩
   ·refine .inl ⟨h1, fun e hm => ?_⟩
    rw [y11 hi] at hm
    rcases List.mem_cons.1 hm with rfl | hm
    ·exact c
    ·exact h2 e hm
   ·refine .inr ⟨j, by omega, h2, h3, h4, fun e hm => ?_⟩
    have hi2 : i < (L.take j).length := by rw [y22]; omega
    rw [y11 hi2] at hm
    rcases List.mem_cons.1 hm with rfl | hm
    ·rw [List.getElem_take]; exact c
    ·exact h5 e hm
theorem zcf0 (p0 p p2 p3 p4 p5 p6 : Int) (z : Bool) (O : List zj5) (hO : O.length ≤ 1000000) : ∀ (k j i : Nat) (H : List zj5), O.length = j + k → H.length = O.length → i ≤ j → H.take i = filP p (O.take j) → H.drop j = O.drop j →
  ∃ xs, Ev (fun q => zk7 q (i : Int) (j : Int) p0 p p2 p3 p4 p5 p6 z H true) ((filP p O).length, xs, true) ∧ xs.take (filP p O).length = filP p O ∧ (filP p O).length ≤ xs.length
 | 0, j, i, H, hk, hl, hij, ht, hd => by
  have hO2 : O.take j = O := List.take_of_length_le (by omega)
  rw [hO2] at ht
  have hi : (filP p O).length = i := by rw [← ht, y22]; omega
  refine ⟨((H.take i) ++ (List.replicate (H.length - i) (⟨0, 0, 0⟩ : zj5))) ++ (H.drop (i + (H.length - i))), ?_, ?_, ?_⟩
  ·rw [hi]
   refine Ev.succ (Ev.ne (Ev.po (Ev.po (Ev.pos rfl (Ev.po (Ev.ite (fun _ => Ev.ret' ?_) fun _ => Ev.ret' ?_)))))) (fun q => rfl) <;> simp only [y30]
  ·rw [hi, y35, List.take_append_of_le_length (by rw [y22]; omega), List.take_take, Nat.min_self, ht]
  ·rw [hi]; simp only [y12, y22, List.length_replicate]; omega
 | k + 1, j, i, H, hk, hl, hij, ht, hd => by
  have hj : j < H.length := by omega
  have hjO : j < O.length := by omega
  have he : H[((j : Int)).toNat]? = some O[j] := by
   have := congrArg (fun l => l[0]?) hd
   simp only [y42, Nat.add_zero] at this
   rw [y30, this]; exact y9 hjO
  have hs := zcfx p O j hjO
  have wj : wrp .i64 ((j : Int) + 1) = ((j + 1 : Nat) : Int) := by rw [zb9h (by omega) (by omega)]; omega
  have dr : ∀ {A B : List zj5}, A.drop j = B.drop j → A.drop (j + 1) = B.drop (j + 1) := fun {A B} h => by rw [← List.drop_drop, ← List.drop_drop, h]
  by_cases c : O[j].Proc = p
  ·rw [if_pos c, List.append_nil] at hs
   obtain ⟨xs, h1, h2⟩ := zcf0 p0 p p2 p3 p4 p5 p6 z O hO k (j + 1) i H (by omega) hl (by omega) (by rw [hs]; exact ht) (dr hd)
   rw [← wj] at h1
   exact ⟨xs, Ev.succ (Ev.po (Ev.po (Ev.po (Ev.opt he (Ev.pos c h1))))) (fun q => rfl), h2⟩
  ·rw [if_neg c] at hs
   have hi : i < H.length := by omega
   have hg : H[((i : Int)).toNat]? = some H[i] := by simp [hi]
   obtain ⟨xs, h1, h2⟩ := zcf0 p0 p p2 p3 p4 p5 p6 z O hO k (j + 1) (i + 1) (H.set i O[j]) (by omega) (by rw [List.length_set]; exact hl) (by omega) (by
    rw [hs, ← ht, List.take_add_one, List.take_set_of_le (y16 i), y25 hi]; rfl) (by
    rw [List.drop_set_of_lt (by omega)]; exact dr hd)
   have wi : wrp .i64 ((i : Int) + 1) = ((i + 1 : Nat) : Int) := by rw [zb9h (by omega) (by omega)]; omega
   rw [← wj, ← wi] at h1
   exact ⟨xs, Ev.succ (Ev.po (Ev.po (Ev.po (Ev.opt he (Ev.neg c (Ev.po (Ev.po (Ev.opt hg (Ev.pos rfl h1))))))))) (fun q => rfl), h2⟩
theorem zcf1 (p0 p p2 p3 p4 p5 p6 : Int) (z : Bool) (O : List zj5) (hO : O.length ≤ 1000000) :
  ∃ xs, Ev (fun q => zk8 q p0 p p2 p3 p4 p5 p6 z O true) ((filP p O).length, xs, true) ∧ xs.take (filP p O).length = filP p O ∧ (filP p O).length ≤ xs.length := by
 obtain ⟨r, h, hr⟩ := zcfz p0 p p2 p3 p4 p5 p6 z O true hO O.length 0 (by omega)
 have h' : Ev (fun q => zk6 q p0 p p2 p3 p4 p5 p6 z O true) r := Ev.succ h (fun q => rfl)
 rcases hr with ⟨rfl, h2⟩ | ⟨j, _, h2, rfl, h4, h5⟩
 ·rw [y40] at h2
  rw [zcfy h2]
  exact ⟨O, Ev.succ (Ev.bind h' (Ev.pos rfl (Ev.ret _))) (fun q => rfl), List.take_length, y16 _⟩
 ·rw [y40] at h5
  have hs := zcfx p O j h2
  rw [if_pos h4, List.append_nil, zcfy h5] at hs
  obtain ⟨xs, h1, h6⟩ := zcf0 p0 p p2 p3 p4 p5 p6 z O hO (O.length - (j + 1)) (j + 1) j O (by omega) rfl (by omega) hs.symm rfl
  rw [show ((j + 1 : Nat) : Int) = wrp .i64 ((j : Int) + 1) by rw [zb9h (by omega) (by omega)]; omega] at h1
  exact ⟨xs, Ev.succ (Ev.bind h' (Ev.neg (by omega) h1)) (fun q => rfl), h6⟩
def ixI (n k i : Nat) : Int := if n < k then ((i + n : Nat) : Int) else -1
theorem zcf2 (p0 p p2 p3 p4 p5 p6 : Int) (z : Bool) (xs : List zj5) (x : Bool) (M : List zj5) (hM : xs.take M.length = M) (hL : M.length ≤ 1000000) : ∀ (k i : Nat), M.length = i + k →
  Ev (fun q => zk9 q M.length (M.length : Int) (i : Int) p0 p p2 p3 p4 p5 p6 z xs x) (ixI (atE p (M.drop i)) k i)
 | 0, i, hk => by
  refine Ev.succ (Ev.ne (Ev.ret' ?_)) (fun q => rfl)
  unfold ixI; rw [if_neg (by omega)]
 | k + 1, i, hk => by
  have hi : i < M.length := by omega
  have he : xs[((i : Int)).toNat]? = some M[i] := by
   have : (xs.take M.length)[i]? = M[i]? := by rw [hM]
   rw [y50, if_pos hi] at this
   rw [y30, this]; exact y9 hi
  rw [y11 hi]
  have ha : atE p (M[i] :: M.drop (i + 1)) = if p < M[i].Proc then 0 else atE p (M.drop (i + 1)) + 1 := rfl
  by_cases c : p < M[i].Proc
  ·rw [if_pos c] at ha
   rw [ha]; unfold ixI; rw [if_pos (by omega)]
   exact Ev.succ (Ev.po (Ev.po (Ev.po (Ev.opt he (Ev.pos c (Ev.ret' (by omega))))))) (fun q => rfl)
  ·rw [if_neg c] at ha
   rw [ha]
   have ih := zcf2 p0 p p2 p3 p4 p5 p6 z xs x M hM hL k (i + 1) (by omega)
   rw [show ((i + 1 : Nat) : Int) = wrp .i64 ((i : Int) + 1) by rw [zb9h (by omega) (by omega)]; omega] at ih
   refine Ev.succ (Ev.po (Ev.po (Ev.po (Ev.opt he (Ev.neg c (Ev.cast ih ?_)))))) (fun q => rfl)
   unfold ixI
   by_cases d : atE p (M.drop (i + 1)) < k
   ·rw [if_pos d, if_pos (by omega)]; omega
   ·rw [if_neg d, if_neg (by omega)]
theorem zcf3 (z : Bool) (M : List zj5) (at_ : Int) (e : zj5) (h0 : 0 ≤ at_) (h1 : at_ ≤ (M.length : Int)) (hL : M.length ≤ 1000000) : Ev (fun q => zk4 q ⟨z, true, M⟩ at_ ⟨false, true, [e]⟩) ⟨false, true, M.take at_.toNat ++ [e] ++ M.drop at_.toNat⟩ :=
 Ev.succ (g := fun _ => if insOk (⟨z, true, M⟩ : Ow zj5) at_ ⟨false, true, [e]⟩ then some (insR (⟨z, true, M⟩ : Ow zj5) at_ ⟨false, true, [e]⟩) else none) (Ev.pos ⟨rfl, h0, h1, rfl, by simp, by simp only [List.length_singleton]; omega⟩ (Ev.ret _)) (fun q => rfl)
theorem zcf4 (s : Sl zj5) (hz : s.z = true → s.l = []) (hL : s.l.length ≤ 1000000) (r : zj8) : Ev (fun q => zlb q s r) ⟨false, true, noteL s.l r.Proc r.Seq r.Resp⟩ := by
 obtain ⟨z, hC⟩ : ∃ z, Ev (fun q => zkh q s) ⟨z, true, s.l⟩ := by
  by_cases c : s.z = true
  ·exact ⟨true, Ev.succ (Ev.pos c (Ev.ret' (by rw [hz c]))) (fun q => rfl)⟩
  ·exact ⟨false, Ev.succ (Ev.neg c (Ev.po (Ev.ret _))) (fun q => rfl)⟩
 obtain ⟨xs, h0, hx, hle⟩ := zcf1 r.Index r.Proc r.Seq r.Op.Code r.Op.A r.Op.B r.Resp z s.l hL
 have hM := zcfv r.Proc s.l
 have h1 := zcf2 r.Index r.Proc r.Seq r.Op.Code r.Op.A r.Op.B r.Resp z xs true (filP r.Proc s.l) hx (by omega) (filP r.Proc s.l).length 0 (by omega)
 have h1' : Ev (fun q => zla q (filP r.Proc s.l).length r.Index r.Proc r.Seq r.Op.Code r.Op.A r.Op.B r.Resp z xs true) _ := Ev.succ h1 (fun q => rfl)
 rw [y40] at h1'
 have hat := atE_le r.Proc (filP r.Proc s.l)
 unfold noteL
 rw [zcft]
 refine Ev.succ (Ev.bind hC (Ev.bind h0 (Ev.bind h1' ?_))) (fun q => rfl)
 simp only
 rw [hx]
 unfold ixI
 by_cases d : atE r.Proc (filP r.Proc s.l) < (filP r.Proc s.l).length
 ·rw [if_pos d]
  have hI := zcf3 z (filP r.Proc s.l) ((0 + atE r.Proc (filP r.Proc s.l) : Nat) : Int) ⟨r.Proc, r.Seq, r.Resp⟩ (by omega) (by omega) (by omega)
  refine Ev.ne (Ev.pos trivial (Ev.bind hI (Ev.ret' ?_)))
  rw [y30, y45]
 ·rw [if_neg d]
  have hI := zcf3 z (filP r.Proc s.l) ((filP r.Proc s.l).length : Int) ⟨r.Proc, r.Seq, r.Resp⟩ (by omega) (by omega) (by omega)
  refine Ev.po (Ev.pos trivial (Ev.bind hI (Ev.ret' ?_)))
  rw [y30, show atE r.Proc (filP r.Proc s.l) = (filP r.Proc s.l).length by omega]
theorem zcf5 {l : List Int} {i j : Int} (h0 : 0 ≤ i) (h1 : i < j) (h2 : j ≤ l.length) (hl : l.length ≤ 1000000) : Ev (fun q => zkt q ⟨false, true, l⟩ i j) ⟨false, true, l.take i.toNat ++ l.drop j.toNat⟩ := by
 refine Ev.succ ?_ (fun q => rfl)
 refine Ev.pos h0 ?_
 refine Ev.pos (by omega) ?_
 refine Ev.pos (by simp only; omega) ?_
 refine Ev.neg (by omega) ?_
 refine Ev.pos (by simp only; omega) ?_
 refine Ev.neg (by simp) ?_
 refine Ev.pos (by omega) ?_
 refine Ev.pos (by simp only; omega) ?_
 refine Ev.pos (by simp only; omega) ?_
 refine Ev.pos rfl ?_
 refine Ev.pos (by simp only; omega) ?_
 refine Ev.pos (by simp only; omega) ?_
 refine Ev.ret' ?_
 congr 1
 have hm : (l.take i.toNat ++ l.drop j.toNat).length = i.toNat + (l.length - j.toNat) := by simp; omega
 rw [← hm]
 simp only [y35]
 rw [← y35 (l.take i.toNat) (l.drop j.toNat), List.take_left', List.take_left'] <;> simp
def findN (key : Int) : List Int → Nat
 | a :: _ :: l => if a < key then findN key l + 2 else 0
 | _ => 0
def isL (key : Int) : List Int → Bool
 | a :: _ :: l => if a < key then isL key l else decide (a = key)
 | _ => false
def hasL (key : Int) : List Int → Int
 | a :: b :: l => if a < key then hasL key l else if a = key then b else -1
 | _ => -1
def putL (key n : Int) : List Int → List Int
 | a :: b :: l => if a < key then a :: b :: putL key n l else if a = key then a :: n :: l else key :: n :: a :: b :: l
 | _ => [key, n]
def delL (key : Int) : List Int → List Int
 | a :: b :: l => if a < key then a :: b :: delL key l else if a = key then l else a :: b :: l
 | _ => []
/-- By pairs. -/
theorem zcf6 {P : List Int → Prop} (h0 : P []) (h2 : ∀ a b l, l.length % 2 = 0 → P l → P (a :: b :: l)) : ∀ l : List Int, l.length % 2 = 0 → P l
 | [], _ => h0
 | [a], h => by simp at h
 | a :: b :: l, h => h2 a b l (by simp only [y23] at h; omega) (zcf6 h0 h2 l (by simp only [y23] at h; omega))
theorem zcf7 (key : Int) : ∀ l : List Int, l.length % 2 = 0 → findN key l ≤ l.length ∧ (isL key l = true → findN key l + 2 ≤ l.length ∧ l[findN key l + 1]? = some (hasL key l)) ∧ (isL key l = false → hasL key l = -1) :=
 zcf6 (by simp [findN, isL, hasL]) fun a b l he ih => by
  simp only [findN, isL, hasL, y23]
  split
  ·refine ⟨by omega, fun h => ⟨by have := (ih.2.1 h).1; omega, ?_⟩, ih.2.2⟩
   rw [show findN key l + 2 + 1 = (findN key l + 1) + 2 by omega]
   simpa using (ih.2.1 h).2
  ·split
   ·rename_i e; simp [e]
   ·rename_i e; simp [e]
theorem put_is (key n : Int) : ∀ l : List Int, l.length % 2 = 0 → isL key l = true → l.set (findN key l + 1) n = putL key n l :=
 zcf6 (by simp [isL]) fun a b l he ih h => by
  simp only [findN, isL, putL] at h ⊢
  split at h
  ·rename_i c; rw [if_pos c, if_pos c, ← ih h]; rfl
  ·rename_i c; rw [if_neg c, if_neg c, if_pos (by simpa using h)]; rfl
theorem put_no (key n : Int) : ∀ l : List Int, l.length % 2 = 0 → isL key l = false → l.take (findN key l) ++ [key, n] ++ l.drop (findN key l) = putL key n l :=
 zcf6 (by simp [findN, putL]) fun a b l he ih h => by
  simp only [findN, isL, putL] at h ⊢
  split at h
  ·rename_i c; rw [if_pos c, if_pos c, ← ih h]; simp
  ·rename_i c; rw [if_neg c, if_neg c, if_neg (by simpa using h)]; simp
theorem del_is (key : Int) : ∀ l : List Int, l.length % 2 = 0 → isL key l = true → l.take (findN key l) ++ l.drop (findN key l + 2) = delL key l :=
 zcf6 (by simp [isL]) fun a b l he ih h => by
  simp only [findN, isL, delL] at h ⊢
  split at h
  ·rename_i c; rw [if_pos c, if_pos c, ← ih h]; simp
  ·rename_i c; rw [if_neg c, if_neg c, if_pos (by simpa using h)]; simp
theorem zcf8 (key n : Int) : ∀ l : List Int, l.length % 2 = 0 → (putL key n l).length = l.length + (if isL key l = true then 0 else 2) :=
 zcf6 (by simp [putL, isL]) fun a b l he ih => by
  simp only [putL, isL]
  split
  ·simp only [y23, ih]; omega
  ·split
   ·rename_i e; simp [e]
   ·rename_i e; simp [e]
theorem zcf9 (z : Bool) (L : List Int) (key : Int) (hL : L.length ≤ 1000000) (h2 : L.length % 2 = 0) : ∀ (k i : Nat), L.length = i + 2 * k →
  Ev (fun q => zkv q z L key (i : Int)) (((i + findN key (L.drop i) : Nat) : Int), isL key (L.drop i))
 | 0, i, hk => by
  rw [y14 (by omega)]
  exact Ev.succ (Ev.ne (Ev.ret _)) (fun q => rfl)
 | k + 1, i, hk => by
  have hi : i < L.length := by omega
  have hi1 : i + 1 < L.length := by omega
  have he : L[((i : Int)).toNat]? = some L[i] := by simp [hi]
  have hd : L.drop i = L[i] :: L[i + 1] :: L.drop (i + 2) := by rw [y11 hi, y11 hi1]
  rw [hd]
  by_cases c : L[i] < key
  ·have e1 : findN key (L[i] :: L[i + 1] :: L.drop (i + 2)) = findN key (L.drop (i + 2)) + 2 := by simp only [findN, if_pos c]
   have e2 : isL key (L[i] :: L[i + 1] :: L.drop (i + 2)) = isL key (L.drop (i + 2)) := by simp only [isL, if_pos c]
   rw [e1, e2]
   have ih := zcf9 z L key hL h2 k (i + 2) (by omega)
   rw [show ((i + 2 : Nat) : Int) = wrp .i64 ((i : Int) + 2) by rw [zb9h (by omega) (by omega)]; omega] at ih
   refine Ev.succ (Ev.po (Ev.po (Ev.opt he (Ev.pos c (Ev.cast ih ?_))))) (fun q => rfl)
   rw [show i + 2 + findN key (L.drop (i + 2)) = i + (findN key (L.drop (i + 2)) + 2) by omega]
  ·have e1 : findN key (L[i] :: L[i + 1] :: L.drop (i + 2)) = 0 := by simp only [findN, if_neg c]
   have e2 : isL key (L[i] :: L[i + 1] :: L.drop (i + 2)) = decide (L[i] = key) := by simp only [isL, if_neg c]
   rw [e1, e2]
   exact Ev.succ (Ev.po (Ev.po (Ev.opt he (Ev.neg c (Ev.ret' (by simp)))))) (fun q => rfl)
theorem zcga (s : Sl Int) (key : Int) (hL : s.l.length ≤ 1000000) (h2 : s.l.length % 2 = 0) : Ev (fun q => zkw q s key) ((findN key s.l : Int), isL key s.l) := by
 have h := zcf9 s.z s.l key hL h2 (s.l.length / 2) 0 (by omega)
 rw [y40, y45] at h
 exact Ev.succ h (fun q => rfl)
theorem has_ev (s : Sl Int) (key : Int) (hL : s.l.length ≤ 1000000) (h2 : s.l.length % 2 = 0) : Ev (fun q => zkx q s key) (hasL key s.l) := by
 have hp := zcf7 key s.l h2
 refine Ev.succ (Ev.bind (zcga s key hL h2) (Ev.ite (fun c => ?_) fun c => Ev.ret' ?_)) (fun q => rfl)
 ·simp only at c
  have h1 := hp.2.1 c
  have w : wrp .i64 ((findN key s.l : Int) + 1) = ((findN key s.l + 1 : Nat) : Int) := by rw [zb9h (by omega) (by omega)]; omega
  exact Ev.pos (by simp only; rw [w]; omega) (Ev.opt (by simp only; rw [w, y30]; exact h1.2) (Ev.ret _))
 ·exact (hp.2.2 (by simpa using c)).symm
def putOk (key : Int) (l : List Int) : Bool := isL key l || decide (l.length < 128)
theorem put_ev (s : Sl Int) (hz : s.z = true → s.l = []) (key n : Int) (hL : s.l.length ≤ 1000000) (h2 : s.l.length % 2 = 0) : Ev (fun q => zkz q s key n) (if putOk key s.l = true then (⟨false, putL key n s.l⟩, true) else (s, false)) := by
 have hp := zcf7 key s.l h2
 obtain ⟨z, hC⟩ := zccv s hz (by omega)
 by_cases c : isL key s.l = true
 ·have h1 := hp.2.1 c
  have hs : s.z = false := by
   by_cases e : s.z = true
   ·rw [hz e] at h1; simp at h1
   ·simpa using e
  have hC := zcbr s hs (by omega)
  have w : wrp .i64 ((findN key s.l : Int) + 1) = ((findN key s.l + 1 : Nat) : Int) := by rw [zb9h (by omega) (by omega)]; omega
  rw [if_pos (by unfold putOk; rw [c]; rfl)]
  refine Ev.succ (Ev.bind (zcga s key hL h2) (Ev.pos c (Ev.bind hC ?_))) (fun q => rfl)
  simp only
  rw [w]
  refine Ev.po (Ev.po (Ev.opt (by rw [y30]; exact h1.2) (Ev.pos trivial (Ev.ret' ?_))))
  rw [y30, put_is key n s.l h2 c]
 ·have c' : isL key s.l = false := by simpa using c
  by_cases d : s.l.length < 128
  ·rw [if_pos (by unfold putOk; rw [decide_eq_true d]; simp)]
   have hI : Ev (fun q => zky q ⟨z, true, s.l⟩ (findN key s.l : Int) ⟨false, true, [key, n]⟩) ⟨false, true, putL key n s.l⟩ := by
    refine Ev.succ (g := fun _ => if insOk (⟨z, true, s.l⟩ : Ow Int) (findN key s.l : Int) ⟨false, true, [key, n]⟩ then some (insR (⟨z, true, s.l⟩ : Ow Int) (findN key s.l : Int) ⟨false, true, [key, n]⟩) else none) (Ev.pos ⟨rfl, by omega, by simp only; omega, rfl, by simp, by simp only [y23, y27]; omega⟩ (Ev.ret' ?_)) (fun q => rfl)
    rw [← put_no key n s.l h2 c']; simp [insR]
   refine Ev.succ (Ev.bind (zcga s key hL h2) (Ev.neg (by simp only; rw [c']; simp) (Ev.ne (Ev.bind hC ?_)))) (fun q => rfl)
   exact Ev.bind hI (Ev.ret' rfl)
  ·rw [if_neg (by unfold putOk; rw [c', decide_eq_false d]; simp)]
   exact Ev.succ (Ev.bind (zcga s key hL h2) (Ev.neg (by simp only; rw [c']; simp) (Ev.po (Ev.ret _)))) (fun q => rfl)
def numV (k : Int) (l : List Int) (o : zj7) : List Int × Int :=
 if o.Code = 7 then (l, l.headD 0) else if k = 0 ∧ o.Code = 1 then ([cutI (wrp .i64 (l.headD 0 + cutI o.A))], l.headD 0) else if k = 1 ∧ o.Code = 2 then ([cutI o.A], l.headD 0) else (l, 0)
def linV (k : Int) (l : List Int) (o : zj7) : List Int × Int :=
 if o.Code = 7 then (l, (l.length : Int)) else if o.Code = 3 then (if (l.length : Int) < 64 then (l ++ [cutI o.A], (l.length : Int) + 1) else (l, -1))
 else if o.Code = 4 then (if (l.length : Int) = 0 then (l, -1) else if k = 2 then (l.drop 1, l.headD 0) else (l.take (l.length - 1), (l[l.length - 1]?).getD 0)) else (l, 0)
def stoV (l : List Int) (o : zj7) : List Int × Int :=
 if o.Code = 7 ∨ o.Code = 6 ∨ o.Code = 5 then (if o.A < 0 ∨ 255 < o.A then (l, -1) else if o.Code = 6 ∧ isL o.A l = true then (delL o.A l, hasL o.A l)
  else if o.Code = 5 then (if putOk o.A l = true then (putL o.A (cutI o.B) l, hasL o.A l) else (l, -2)) else (l, hasL o.A l)) else (l, 0)
def nz (n : Int) : Int := if n < 0 then 0 else n
def movV (l : List Int) (o : zj7) : List Int × Int :=
 if o.A < 0 ∨ 65536 ≤ o.A ∨ o.B < 0 then (l, 0) else if hasL (wrp .i64 (Int.tdiv o.A 256)) l < o.B then (l, 0) else if wrp .i64 (Int.tdiv o.A 256) = Int.tmod o.A 256 then (l, 1)
 else if putOk (Int.tmod o.A 256) l = true then (if 1099511627776 < wrp .i64 (nz (hasL (Int.tmod o.A 256) l) + o.B) then (l, 0)
  else if putOk (wrp .i64 (Int.tdiv o.A 256)) (putL (Int.tmod o.A 256) (wrp .i64 (nz (hasL (Int.tmod o.A 256) l) + o.B)) l) = true then (putL (wrp .i64 (Int.tdiv o.A 256)) (wrp .i64 (hasL (wrp .i64 (Int.tdiv o.A 256)) l - o.B)) (putL (Int.tmod o.A 256) (wrp .i64 (nz (hasL (Int.tmod o.A 256) l) + o.B)) l), 1)
  else (putL (Int.tmod o.A 256) (wrp .i64 (nz (hasL (Int.tmod o.A 256) l) + o.B)) l, 1)) else (l, 0)
def ledV (l : List Int) (o : zj7) : List Int × Int :=
 if o.Code = 9 then movV l o else if o.Code = 7 then (if o.A < 0 ∨ 255 < o.A then (l, -1) else (l, hasL o.A l))
 else if o.Code = 8 then (if o.A < 0 ∨ 255 < o.A ∨ o.B < 0 then (l, -1) else if putOk o.A l = true then (putL o.A (cutI (wrp .i64 (nz (hasL o.A l) + cutI o.B))) l, cutI (wrp .i64 (nz (hasL o.A l) + cutI o.B))) else (l, -2)) else (l, 0)
/-- What an operation leaves, and what comes of it. -/
def stepV (s : zj4) (o : zj7) : (List Int × Bool × Int) × Int :=
 if mayS s = true then (if s.Sealed = true then ((s.L.l, s.Sealed, s.To), -1125899906842624) else if o.Code = 10 then ((s.L.l, true, if 0 ≤ o.A ∧ o.A < 3 then o.A else s.To), 0)
  else if s.Kind = 0 ∨ s.Kind = 1 then (((numV s.Kind s.L.l o).1, s.Sealed, s.To), (numV s.Kind s.L.l o).2)
  else if s.Kind = 2 ∨ s.Kind = 3 then (((linV s.Kind s.L.l o).1, s.Sealed, s.To), (linV s.Kind s.L.l o).2)
  else if s.Kind = 4 then (((stoV s.L.l o).1, s.Sealed, s.To), (stoV s.L.l o).2) else (((ledV s.L.l o).1, s.Sealed, s.To), (ledV s.L.l o).2))
 else ((s.L.l, s.Sealed, s.To), 0)
def wS (s : zj4) (z : Bool) (l : List Int) : zj4 := ⟨s.Kind, ⟨z, l⟩, s.Sealed, s.To⟩
/-- A function comes to a list and a number. -/
def Comes (f : Nat → zj4 → zj7 → Option (zj4 × Int)) (s : zj4) (o : zj7) (r : List Int × Int) : Prop := ∃ z, (z = true → r.1 = []) ∧ Ev (fun q => f q s o) (wS s z r.1, r.2)
theorem zcgb (s : zj4) (hz : s.L.z = true → s.L.l = []) (h1 : s.L.l.length = 1) (o : zj7) : Comes zks s o (numV s.Kind s.L.l o) := by
 obtain ⟨n, hn⟩ : ∃ n, s.L.l = [n] := List.length_eq_one_iff.1 h1
 have hg : s.L.l[0]? = some n := by rw [hn]; rfl
 have hh : s.L.l.headD 0 = n := by rw [hn]; rfl
 unfold Comes numV
 rw [hh]
 by_cases c7 : o.Code = 7
 ·rw [if_pos c7]
  exact ⟨s.L.z, hz, Ev.succ (Ev.opt hg (Ev.pos c7 (Ev.ret _))) (fun q => rfl)⟩
 ·rw [if_neg c7]
  by_cases k0 : s.Kind = 0
  ·by_cases c1 : o.Code = 1
   ·rw [if_pos ⟨k0, c1⟩]
    refine ⟨false, fun h => (by cases h), Ev.succ (Ev.opt hg (Ev.neg c7 (Ev.pos k0 (Ev.pos c1 (Ev.bind (zb9w _) ?_))))) (fun q => rfl)⟩
    exact Ev.bind (zb9w (wrp .i64 (n + cutI o.A))) (Ev.ret' rfl)
   ·rw [if_neg (fun h => c1 h.2), if_neg (fun h => by omega)]
    exact ⟨s.L.z, hz, Ev.succ (Ev.opt hg (Ev.neg c7 (Ev.pos k0 (Ev.neg c1 (Ev.ne (Ev.ret _)))))) (fun q => rfl)⟩
  ·rw [if_neg (fun h => k0 h.1)]
   by_cases k1 : s.Kind = 1
   ·by_cases c2 : o.Code = 2
    ·rw [if_pos ⟨k1, c2⟩]
     refine ⟨false, fun h => (by cases h), Ev.succ (Ev.opt hg (Ev.neg c7 (Ev.neg k0 (Ev.pos k1 (Ev.pos c2 ?_))))) (fun q => rfl)⟩
     exact Ev.bind (zb9w o.A) (Ev.ret' rfl)
    ·rw [if_neg (fun h => c2 h.2)]
     exact ⟨s.L.z, hz, Ev.succ (Ev.opt hg (Ev.neg c7 (Ev.neg k0 (Ev.pos k1 (Ev.neg c2 (Ev.ret _)))))) (fun q => rfl)⟩
   ·rw [if_neg (fun h => k1 h.1)]
    exact ⟨s.L.z, hz, Ev.succ (Ev.opt hg (Ev.neg c7 (Ev.neg k0 (Ev.neg k1 (Ev.ret _))))) (fun q => rfl)⟩
theorem zcgc (s : zj4) (hz : s.L.z = true → s.L.l = []) (hL : s.L.l.length ≤ 1000000) (o : zj7) : Comes zku s o (linV s.Kind s.L.l o) := by
 unfold Comes linV
 by_cases c7 : o.Code = 7
 ·rw [if_pos c7]
  exact ⟨s.L.z, hz, Ev.succ (Ev.pos c7 (Ev.ret _)) (fun q => rfl)⟩
 ·rw [if_neg c7]
  by_cases c3 : o.Code = 3
  ·rw [if_pos c3]
   by_cases d : (s.L.l.length : Int) < 64
   ·rw [if_pos d]
    obtain ⟨z, hC⟩ := zccv s.L hz (by omega)
    refine ⟨false, fun h => (by cases h), Ev.succ (Ev.neg c7 (Ev.pos c3 (Ev.pos d (Ev.bind hC (Ev.bind (zb9w _) (Ev.pos (by simp only; omega) ?_)))))) (fun q => rfl)⟩
    exact Ev.ret' (by rw [zb9h (by omega) (by omega)]; rfl)
   ·rw [if_neg d]
    exact ⟨s.L.z, hz, Ev.succ (Ev.neg c7 (Ev.pos c3 (Ev.neg d (Ev.ret _)))) (fun q => rfl)⟩
  ·rw [if_neg c3]
   by_cases c4 : o.Code = 4
   ·rw [if_pos c4]
    by_cases d : (s.L.l.length : Int) = 0
    ·rw [if_pos d]
     exact ⟨s.L.z, hz, Ev.succ (Ev.neg c7 (Ev.neg c3 (Ev.pos c4 (Ev.pos d (Ev.ret _))))) (fun q => rfl)⟩
    ·rw [if_neg d]
     have hs : s.L.z = false := by
      by_cases e : s.L.z = true
      ·rw [hz e] at d; simp at d
      ·simpa using e
     have hC := zcbr s.L hs (by omega)
     by_cases k2 : s.Kind = 2
     ·rw [if_pos k2]
      have hg : s.L.l[0]? = some (s.L.l.headD 0) := by
       cases hl : s.L.l with
       | nil => rw [hl] at d; simp at d
       | cons a t => rfl
      have hD := zcf5 (l := s.L.l) (i := 0) (j := wrp .i64 1) (by omega) (by rw [zb9h (by omega) (by omega)]; omega) (by rw [zb9h (by omega) (by omega)]; omega) hL
      refine ⟨false, fun h => (by cases h), Ev.succ (Ev.neg c7 (Ev.neg c3 (Ev.pos c4 (Ev.neg d (Ev.pos k2 (Ev.opt hg (Ev.bind hC ?_))))))) (fun q => rfl)⟩
      exact Ev.bind hD (Ev.ret' (by rw [zb9h (by omega) (by omega)]; rfl))
     ·rw [if_neg k2]
      have w1 : wrp .i64 ((s.L.l.length : Int) - 1) = ((s.L.l.length - 1 : Nat) : Int) := by rw [zb9h (by omega) (by omega)]; omega
      have hg : s.L.l[s.L.l.length - 1]? = some ((s.L.l[s.L.l.length - 1]?).getD 0) := by
       rw [y9 (by omega)]; rfl
      have w2 : wrp .i64 (((s.L.l.length - 1 : Nat) : Int) + 1) = (s.L.l.length : Int) := by rw [zb9h (by omega) (by omega)]; omega
      have hD := zcf5 (l := s.L.l) (i := ((s.L.l.length - 1 : Nat) : Int)) (j := (s.L.l.length : Int)) (by omega) (by omega) (by omega) hL
      refine ⟨false, fun h => (by cases h), Ev.succ (Ev.neg c7 (Ev.neg c3 (Ev.pos c4 (Ev.neg d (Ev.neg k2 ?_))))) (fun q => rfl)⟩
      rw [w1, w2]
      refine Ev.po (Ev.opt (by rw [y30]; exact hg) (Ev.bind hC ?_))
      exact Ev.bind hD (Ev.ret' (by rw [y30, y30, List.drop_length, List.append_nil]; rfl))
   ·rw [if_neg c4]
    exact ⟨s.L.z, hz, Ev.succ (Ev.neg c7 (Ev.neg c3 (Ev.neg c4 (Ev.ret _)))) (fun q => rfl)⟩
theorem zcgd (s : zj4) (hz : s.L.z = true → s.L.l = []) (hL : s.L.l.length ≤ 1000000) (h2 : s.L.l.length % 2 = 0) (o : zj7) : Comes zk0 s o (stoV s.L.l o) := by
 have hH := has_ev s.L o.A hL h2
 have hF := zcga s.L o.A hL h2
 have hp := zcf7 o.A s.L.l h2
 have hP := put_ev s.L hz o.A (cutI o.B) hL h2
 -- what is done where the operation is to put
 have put : ∀ {K : Nat → Option (zj4 × Int)}, K = (fun q => (zkj q o.B).bind fun r5 => ((zkz q s.L o.A r5).bind fun r6 => (if r6.2 = true then (some ((⟨s.Kind, r6.1, s.Sealed, s.To⟩ : zj4), hasL o.A s.L.l)) else (some (s, (-2)))))) →
   ∃ z, (z = true → (if putOk o.A s.L.l = true then (putL o.A (cutI o.B) s.L.l, hasL o.A s.L.l) else (s.L.l, -2)).1 = []) ∧ Ev K (wS s z (if putOk o.A s.L.l = true then (putL o.A (cutI o.B) s.L.l, hasL o.A s.L.l) else (s.L.l, -2)).1, (if putOk o.A s.L.l = true then (putL o.A (cutI o.B) s.L.l, hasL o.A s.L.l) else (s.L.l, -2)).2) := by
  rintro K rfl
  by_cases c : putOk o.A s.L.l = true
  ·rw [if_pos c] at hP ⊢
   refine ⟨false, fun h => (by cases h), Ev.bind (zb9w _) (Ev.bind hP (Ev.pos rfl ?_))⟩
   exact Ev.ret' rfl
  ·rw [if_neg c] at hP ⊢
   refine ⟨s.L.z, hz, Ev.bind (zb9w _) (Ev.bind hP (Ev.neg (by simp) ?_))⟩
   exact Ev.ret' rfl
 have del : isL o.A s.L.l = true → ∀ {K : Nat → Option (zj4 × Int)}, K = (fun q => (zkg q s.L).bind fun r3 => ((zkt q r3 (findN o.A s.L.l : Int) (wrp .i64 ((findN o.A s.L.l : Int) + 2))).bind fun r4 => (some ((⟨s.Kind, ⟨r4.n, r4.xs⟩, s.Sealed, s.To⟩ : zj4), hasL o.A s.L.l)))) →
   Ev K (wS s false (delL o.A s.L.l), hasL o.A s.L.l) := by
  intro c K hK
  subst hK
  have h1 := hp.2.1 c
  have hs : s.L.z = false := by
   by_cases e : s.L.z = true
   ·rw [hz e] at h1; simp at h1
   ·simpa using e
  have w : wrp .i64 ((findN o.A s.L.l : Int) + 2) = ((findN o.A s.L.l + 2 : Nat) : Int) := by rw [zb9h (by omega) (by omega)]; omega
  have hD := zcf5 (l := s.L.l) (i := (findN o.A s.L.l : Int)) (j := ((findN o.A s.L.l + 2 : Nat) : Int)) (by omega) (by omega) (by omega) hL
  rw [y30, y30, del_is o.A s.L.l h2 c] at hD
  rw [w]
  refine Ev.bind (zcbr s.L hs (by omega)) ?_
  exact Ev.bind hD (Ev.ret' rfl)
 unfold Comes stoV
 by_cases c7 : o.Code = 7
 ·rw [if_pos (.inl c7)]
  by_cases a0 : o.A < 0
  ·rw [if_pos (.inl a0)]
   exact ⟨s.L.z, hz, Ev.succ (Ev.pos c7 (Ev.pos a0 (Ev.ret _))) (fun q => rfl)⟩
  ·by_cases a1 : 255 < o.A
   ·rw [if_pos (.inr a1)]
    exact ⟨s.L.z, hz, Ev.succ (Ev.pos c7 (Ev.neg a0 (Ev.pos a1 (Ev.ret _)))) (fun q => rfl)⟩
   ·rw [if_neg (by omega), if_neg (fun h => by omega), if_neg (by omega)]
    refine ⟨s.L.z, hz, Ev.succ (Ev.pos c7 (Ev.neg a0 (Ev.neg a1 (Ev.bind hH (Ev.bind hF (Ev.ne (Ev.neg (by omega) ?_))))))) (fun q => rfl)⟩
    exact Ev.ret' rfl
 ·by_cases c6 : o.Code = 6
  ·rw [if_pos (.inr (.inl c6))]
   by_cases a0 : o.A < 0
   ·rw [if_pos (.inl a0)]
    exact ⟨s.L.z, hz, Ev.succ (Ev.neg c7 (Ev.pos c6 (Ev.pos a0 (Ev.ret _)))) (fun q => rfl)⟩
   ·by_cases a1 : 255 < o.A
    ·rw [if_pos (.inr a1)]
     exact ⟨s.L.z, hz, Ev.succ (Ev.neg c7 (Ev.pos c6 (Ev.neg a0 (Ev.pos a1 (Ev.ret _))))) (fun q => rfl)⟩
    ·rw [if_neg (show ¬ (o.A < 0 ∨ 255 < o.A) by omega)]
     by_cases d : isL o.A s.L.l = true
     ·rw [if_pos ⟨c6, d⟩]
      refine ⟨false, fun h => (by cases h), Ev.succ (Ev.neg c7 (Ev.pos c6 (Ev.neg a0 (Ev.neg a1 (Ev.bind hH (Ev.bind hF (Ev.pos d ?_))))))) (fun q => rfl)⟩
      exact del d rfl
     ·rw [if_neg (fun h => d h.2), if_neg (by omega)]
      refine ⟨s.L.z, hz, Ev.succ (Ev.neg c7 (Ev.pos c6 (Ev.neg a0 (Ev.neg a1 (Ev.bind hH (Ev.bind hF (Ev.neg d (Ev.neg (by omega) ?_)))))))) (fun q => rfl)⟩
      exact Ev.ret' rfl
  ·by_cases c5 : o.Code = 5
   ·rw [if_pos (.inr (.inr c5))]
    by_cases a0 : o.A < 0
    ·rw [if_pos (.inl a0)]
     exact ⟨s.L.z, hz, Ev.succ (Ev.neg c7 (Ev.neg c6 (Ev.pos c5 (Ev.pos a0 (Ev.ret _))))) (fun q => rfl)⟩
    ·by_cases a1 : 255 < o.A
     ·rw [if_pos (.inr a1)]
      exact ⟨s.L.z, hz, Ev.succ (Ev.neg c7 (Ev.neg c6 (Ev.pos c5 (Ev.neg a0 (Ev.pos a1 (Ev.ret _)))))) (fun q => rfl)⟩
     ·rw [if_neg (show ¬ (o.A < 0 ∨ 255 < o.A) by omega), if_neg (fun h => by omega), if_pos c5]
      obtain ⟨z, h3, h4⟩ := put rfl
      refine ⟨z, h3, Ev.succ (Ev.neg c7 (Ev.neg c6 (Ev.pos c5 (Ev.neg a0 (Ev.neg a1 (Ev.bind hH (Ev.bind hF ?_))))))) (fun q => rfl)⟩
      exact h4
   ·rw [if_neg (by omega)]
    exact ⟨s.L.z, hz, Ev.succ (Ev.neg c7 (Ev.neg c6 (Ev.neg c5 (Ev.ret _)))) (fun q => rfl)⟩
theorem zcge (s : zj4) (hz : s.L.z = true → s.L.l = []) (hL : s.L.l.length ≤ 900000) (h2 : s.L.l.length % 2 = 0) (o : zj7) : Comes zk1 s o (movV s.L.l o) := by
 unfold Comes movV
 by_cases a0 : o.A < 0
 ·rw [if_pos (.inl a0)]
  exact ⟨s.L.z, hz, Ev.succ (Ev.pos a0 (Ev.ret _)) (fun q => rfl)⟩
 by_cases a1 : 65536 ≤ o.A
 ·rw [if_pos (.inr (.inl a1))]
  exact ⟨s.L.z, hz, Ev.succ (Ev.neg a0 (Ev.pos a1 (Ev.ret _))) (fun q => rfl)⟩
 by_cases b0 : o.B < 0
 ·rw [if_pos (.inr (.inr b0))]
  exact ⟨s.L.z, hz, Ev.succ (Ev.neg a0 (Ev.neg a1 (Ev.pos b0 (Ev.ret _)))) (fun q => rfl)⟩
 rw [if_neg (show ¬ (o.A < 0 ∨ 65536 ≤ o.A ∨ o.B < 0) by omega)]
 generalize hf : wrp .i64 (Int.tdiv o.A 256) = f
 generalize ht : Int.tmod o.A 256 = t
 have start : ∀ {r : zj4 × Int}, Ev (fun q => (if hasL f s.L.l < o.B then (some (s, 0)) else (if f = t then (some (s, 1)) else ((zkz q s.L t (wrp .i64 (nz (hasL t s.L.l) + o.B))).bind fun r3 => (if r3.2 = true then (if 1099511627776 < (wrp .i64 (nz (hasL t s.L.l) + o.B)) then (some (s, 0)) else ((zkz q r3.1 f (wrp .i64 (hasL f s.L.l - o.B))).bind fun r4 => (some ((⟨s.Kind, r4.1, s.Sealed, s.To⟩ : zj4), 1)))) else (some (s, 0))))))) r → Ev (fun q => zk1 q s o) r := fun h => by
  have hf' := has_ev s.L f (by omega) h2
  have ht' := has_ev s.L t (by omega) h2
  subst hf; subst ht
  refine Ev.succ (Ev.neg a0 (Ev.neg a1 (Ev.neg b0 (Ev.bind hf' (Ev.bind ht' ?_))))) (fun q => rfl)
  exact h
 by_cases c1 : hasL f s.L.l < o.B
 ·rw [if_pos c1]
  exact ⟨s.L.z, hz, start (Ev.pos c1 (Ev.ret _))⟩
 rw [if_neg c1]
 by_cases c2 : f = t
 ·rw [if_pos c2]
  exact ⟨s.L.z, hz, start (Ev.neg c1 (Ev.pos c2 (Ev.ret _)))⟩
 rw [if_neg c2]
 have hP := put_ev s.L hz t (wrp .i64 (nz (hasL t s.L.l) + o.B)) (by omega) h2
 generalize wrp .i64 (nz (hasL t s.L.l) + o.B) = n at hP start ⊢
 by_cases c3 : putOk t s.L.l = true
 ·rw [if_pos c3] at hP ⊢
  by_cases c4 : 1099511627776 < n
  ·rw [if_pos c4]
   refine ⟨s.L.z, hz, start (Ev.neg c1 (Ev.neg c2 (Ev.bind hP (Ev.pos rfl (Ev.pos c4 ?_)))))⟩
   exact Ev.ret _
  ·rw [if_neg c4]
   have hl := zcf8 t n s.L.l h2
   have he : (putL t n s.L.l).length % 2 = 0 := by rw [hl]; split <;> omega
   have hl2 : (putL t n s.L.l).length ≤ 1000000 := by rw [hl]; split <;> omega
   have hQ := put_ev ⟨false, putL t n s.L.l⟩ (fun h => by cases h) f (wrp .i64 (hasL f s.L.l - o.B)) hl2 he
   simp only at hQ
   by_cases c5 : putOk f (putL t n s.L.l) = true
   ·rw [if_pos c5] at hQ ⊢
    refine ⟨false, fun h => (by cases h), start (Ev.neg c1 (Ev.neg c2 (Ev.bind hP (Ev.pos rfl (Ev.neg c4 ?_)))))⟩
    exact Ev.bind hQ (Ev.ret' rfl)
   ·rw [if_neg c5] at hQ ⊢
    refine ⟨false, fun h => (by cases h), start (Ev.neg c1 (Ev.neg c2 (Ev.bind hP (Ev.pos rfl (Ev.neg c4 ?_)))))⟩
    exact Ev.bind hQ (Ev.ret' rfl)
 ·rw [if_neg c3] at hP ⊢
  refine ⟨s.L.z, hz, start (Ev.neg c1 (Ev.neg c2 (Ev.bind hP (Ev.neg (by simp) ?_))))⟩
  exact Ev.ret _
theorem zcgf (s : zj4) (hz : s.L.z = true → s.L.l = []) (hL : s.L.l.length ≤ 900000) (h2 : s.L.l.length % 2 = 0) (o : zj7) : Comes zk2 s o (ledV s.L.l o) := by
 unfold ledV
 by_cases c9 : o.Code = 9
 ·rw [if_pos c9]
  obtain ⟨z, h1, h3⟩ := zcge s hz hL h2 o
  refine ⟨z, h1, Ev.succ (Ev.pos c9 (Ev.bind h3 ?_)) (fun q => rfl)⟩
  exact Ev.ret' rfl
 unfold Comes
 rw [if_neg c9]
 have hH := has_ev s.L o.A (by omega) h2
 by_cases c7 : o.Code = 7
 ·rw [if_pos c7]
  by_cases a0 : o.A < 0
  ·rw [if_pos (.inl a0)]
   exact ⟨s.L.z, hz, Ev.succ (Ev.neg c9 (Ev.pos c7 (Ev.pos a0 (Ev.ret _)))) (fun q => rfl)⟩
  ·by_cases a1 : 255 < o.A
   ·rw [if_pos (.inr a1)]
    exact ⟨s.L.z, hz, Ev.succ (Ev.neg c9 (Ev.pos c7 (Ev.neg a0 (Ev.pos a1 (Ev.ret _))))) (fun q => rfl)⟩
   ·rw [if_neg (by omega)]
    refine ⟨s.L.z, hz, Ev.succ (Ev.neg c9 (Ev.pos c7 (Ev.neg a0 (Ev.neg a1 (Ev.bind hH ?_))))) (fun q => rfl)⟩
    exact Ev.ret' rfl
 ·rw [if_neg c7]
  by_cases c8 : o.Code = 8
  ·rw [if_pos c8]
   by_cases a0 : o.A < 0
   ·rw [if_pos (.inl a0)]
    exact ⟨s.L.z, hz, Ev.succ (Ev.neg c9 (Ev.neg c7 (Ev.pos c8 (Ev.pos a0 (Ev.ret _))))) (fun q => rfl)⟩
   ·by_cases a1 : 255 < o.A
    ·rw [if_pos (.inr (.inl a1))]
     exact ⟨s.L.z, hz, Ev.succ (Ev.neg c9 (Ev.neg c7 (Ev.pos c8 (Ev.neg a0 (Ev.pos a1 (Ev.ret _)))))) (fun q => rfl)⟩
    ·by_cases b0 : o.B < 0
     ·rw [if_pos (.inr (.inr b0))]
      exact ⟨s.L.z, hz, Ev.succ (Ev.neg c9 (Ev.neg c7 (Ev.pos c8 (Ev.neg a0 (Ev.neg a1 (Ev.pos b0 (Ev.ret _))))))) (fun q => rfl)⟩
     ·rw [if_neg (show ¬ (o.A < 0 ∨ 255 < o.A ∨ o.B < 0) by omega)]
      have hP := put_ev s.L hz o.A (cutI (wrp .i64 (nz (hasL o.A s.L.l) + cutI o.B))) (by omega) h2
      by_cases d : putOk o.A s.L.l = true
      ·rw [if_pos d] at hP ⊢
       refine ⟨false, fun h => (by cases h), Ev.succ (Ev.neg c9 (Ev.neg c7 (Ev.pos c8 (Ev.neg a0 (Ev.neg a1 (Ev.neg b0 (Ev.bind hH (Ev.bind (zb9w o.B) (Ev.bind (zb9w _) ?_))))))))) (fun q => rfl)⟩
       refine Ev.bind hP (Ev.pos rfl ?_)
       exact Ev.ret' rfl
      ·rw [if_neg d] at hP ⊢
       refine ⟨s.L.z, hz, Ev.succ (Ev.neg c9 (Ev.neg c7 (Ev.pos c8 (Ev.neg a0 (Ev.neg a1 (Ev.neg b0 (Ev.bind hH (Ev.bind (zb9w o.B) (Ev.bind (zb9w _) ?_))))))))) (fun q => rfl)⟩
       refine Ev.bind hP (Ev.neg (by simp) ?_)
       exact Ev.ret' rfl
  ·rw [if_neg c8]
   exact ⟨s.L.z, hz, Ev.succ (Ev.neg c9 (Ev.neg c7 (Ev.neg c8 (Ev.ret _)))) (fun q => rfl)⟩
theorem zcgg {k : Int} {l : List Int} (h : kindOk k l = true) (h0 : ¬ (k = 0 ∨ k = 1)) (h2 : ¬ (k = 2 ∨ k = 3)) : l.length % 2 = 0 := by
 unfold kindOk at h
 rw [if_neg h0, if_neg h2] at h
 split at h
 ·simp only [pairsOk, y8, decide_eq_true_eq] at h; exact h.2.1
 ·split at h
  ·simp only [pairsOk, y8, decide_eq_true_eq] at h; exact h.2.1
  ·cases h
theorem zcgh {k : Int} {l : List Int} (h : kindOk k l = true) (h0 : k = 0 ∨ k = 1) : l.length = 1 := by
 unfold kindOk at h
 rw [if_pos h0, decide_eq_true_eq] at h; exact h.1
def stV (s : zj4) (z : Bool) (r : (List Int × Bool × Int) × Int) : zj4 × Int := (⟨s.Kind, ⟨z, r.1.1⟩, r.1.2.1, r.1.2.2⟩, r.2)
theorem zcgi (s : zj4) (hz : s.L.z = true → s.L.l = []) (hL : s.L.l.length ≤ 900000) (o : zj7) : ∃ z, (z = true → (stepV s o).1.1 = []) ∧ Ev (fun q => zk3 q s o) (stV s z (stepV s o)) := by
 have hM := zcb0 s (by omega)
 unfold stepV stV
 by_cases m : mayS s = true
 ·rw [if_pos m]
  rw [m] at hM
  have hk := (zcc2 m).2.2.2
  by_cases hs : s.Sealed = true
  ·rw [if_pos hs]
   exact ⟨s.L.z, hz, Ev.succ (Ev.bind hM (Ev.pos rfl (Ev.pos hs (Ev.ret _)))) (fun q => rfl)⟩
  rw [if_neg hs]
  by_cases c : o.Code = 10
  ·rw [if_pos c]
   refine ⟨s.L.z, hz, Ev.succ (Ev.bind hM (Ev.pos rfl (Ev.neg hs (Ev.pos c (Ev.ite (fun a0 => Ev.ite (fun a1 => Ev.ret' ?_) fun a1 => Ev.ret' ?_) fun a0 => Ev.ret' ?_))))) (fun q => rfl)⟩
   ·rw [if_pos ⟨a0, a1⟩]
   ·rw [if_neg (fun h => a1 h.2)]
   ·rw [if_neg (fun h => a0 h.1)]
  rw [if_neg c]
  by_cases k0 : s.Kind = 0
  ·obtain ⟨z, h1, h3⟩ := zcgb s hz (zcgh hk (.inl k0)) o
   rw [if_pos (show s.Kind = 0 ∨ s.Kind = 1 from .inl k0)]
   refine ⟨z, h1, Ev.succ (Ev.bind hM (Ev.pos rfl (Ev.neg hs (Ev.neg c (Ev.pos k0 (Ev.bind h3 ?_)))))) (fun q => rfl)⟩
   exact Ev.ret' rfl
  by_cases k1 : s.Kind = 1
  ·obtain ⟨z, h1, h3⟩ := zcgb s hz (zcgh hk (.inr k1)) o
   rw [if_pos (show s.Kind = 0 ∨ s.Kind = 1 from .inr k1)]
   refine ⟨z, h1, Ev.succ (Ev.bind hM (Ev.pos rfl (Ev.neg hs (Ev.neg c (Ev.neg k0 (Ev.pos k1 (Ev.bind h3 ?_))))))) (fun q => rfl)⟩
   exact Ev.ret' rfl
  rw [if_neg (show ¬ (s.Kind = 0 ∨ s.Kind = 1) by omega)]
  by_cases k2 : s.Kind = 2
  ·obtain ⟨z, h1, h3⟩ := zcgc s hz (by omega) o
   rw [if_pos (show s.Kind = 2 ∨ s.Kind = 3 from .inl k2)]
   refine ⟨z, h1, Ev.succ (Ev.bind hM (Ev.pos rfl (Ev.neg hs (Ev.neg c (Ev.neg k0 (Ev.neg k1 (Ev.pos k2 (Ev.bind h3 ?_)))))))) (fun q => rfl)⟩
   exact Ev.ret' rfl
  by_cases k3 : s.Kind = 3
  ·obtain ⟨z, h1, h3⟩ := zcgc s hz (by omega) o
   rw [if_pos (show s.Kind = 2 ∨ s.Kind = 3 from .inr k3)]
   refine ⟨z, h1, Ev.succ (Ev.bind hM (Ev.pos rfl (Ev.neg hs (Ev.neg c (Ev.neg k0 (Ev.neg k1 (Ev.neg k2 (Ev.pos k3 (Ev.bind h3 ?_))))))))) (fun q => rfl)⟩
   exact Ev.ret' rfl
  rw [if_neg (show ¬ (s.Kind = 2 ∨ s.Kind = 3) by omega)]
  have h2 := zcgg hk (by omega) (by omega)
  by_cases k4 : s.Kind = 4
  ·obtain ⟨z, h1, h3⟩ := zcgd s hz (by omega) h2 o
   rw [if_pos k4]
   refine ⟨z, h1, Ev.succ (Ev.bind hM (Ev.pos rfl (Ev.neg hs (Ev.neg c (Ev.neg k0 (Ev.neg k1 (Ev.neg k2 (Ev.neg k3 (Ev.pos k4 (Ev.bind h3 ?_)))))))))) (fun q => rfl)⟩
   exact Ev.ret' rfl
  ·obtain ⟨z, h1, h3⟩ := zcgf s hz hL h2 o
   rw [if_neg k4]
   refine ⟨z, h1, Ev.succ (Ev.bind hM (Ev.pos rfl (Ev.neg hs (Ev.neg c (Ev.neg k0 (Ev.neg k1 (Ev.neg k2 (Ev.neg k3 (Ev.neg k4 (Ev.bind h3 ?_)))))))))) (fun q => rfl)⟩
   exact Ev.ret' rfl
 ·rw [if_neg m]
  rw [show mayS s = false by simpa using m] at hM
  exact ⟨s.L.z, hz, Ev.succ (Ev.bind hM (Ev.neg (by simp) (Ev.ret _))) (fun q => rfl)⟩
theorem zcgj (key n : Int) : ∀ l : List Int, (putL key n l).length ≤ l.length + 2
 | [] => by simp [putL]
 | [a] => by simp [putL]
 | a :: b :: l => by
  have := zcgj key n l
  simp only [putL]
  split
  ·simp only [y23]; omega
  ·split <;> simp only [y23] <;> omega
theorem zcgk (key : Int) : ∀ l : List Int, (delL key l).length ≤ l.length
 | [] => by simp [delL]
 | [a] => by simp [delL]
 | a :: b :: l => by
  have := zcgk key l
  simp only [delL]
  split
  ·simp only [y23]; omega
  ·split <;> simp only [y23] <;> omega
theorem zcgl (k : Int) (l : List Int) (o : zj7) : (numV k l o).1.length ≤ l.length + 4 := by
 unfold numV; split <;> (try split) <;> (try split) <;> simp only [List.length_singleton] <;> omega
theorem zcgm (k : Int) (l : List Int) (o : zj7) : (linV k l o).1.length ≤ l.length + 4 := by
 unfold linV
 split
 ·simp only; omega
 ·split
  ·split <;> simp only [y12, List.length_singleton] <;> omega
  ·split
   ·split
    ·simp only; omega
    ·split <;> simp only [y15, y22] <;> omega
   ·simp only; omega
theorem zcgn (l : List Int) (o : zj7) : (stoV l o).1.length ≤ l.length + 4 := by
 have h1 := zcgj o.A (cutI o.B) l
 have h2 := zcgk o.A l
 unfold stoV
 split
 ·split
  ·simp only; omega
  ·split
   ·simp only; omega
   ·split
    ·split <;> simp only <;> omega
    ·simp only; omega
 ·simp only; omega
theorem zcgo (l : List Int) (o : zj7) : (movV l o).1.length ≤ l.length + 4 := by
 unfold movV
 generalize wrp .i64 (Int.tdiv o.A 256) = f
 generalize Int.tmod o.A 256 = t
 have h1 := zcgj t (wrp .i64 (nz (hasL t l) + o.B)) l
 have h2 := zcgj f (wrp .i64 (hasL f l - o.B)) (putL t (wrp .i64 (nz (hasL t l) + o.B)) l)
 split
 ·simp only; omega
 ·split
  ·simp only; omega
  ·split
   ·simp only; omega
   ·split
    ·split
     ·simp only; omega
     ·split <;> simp only <;> omega
    ·simp only; omega
theorem zcgp (l : List Int) (o : zj7) : (ledV l o).1.length ≤ l.length + 4 := by
 have h0 := zcgo l o
 have h1 := zcgj o.A (cutI (wrp .i64 (nz (hasL o.A l) + cutI o.B))) l
 unfold ledV
 split
 ·exact h0
 ·split
  ·split <;> simp only <;> omega
  ·split
   ·split
    ·simp only; omega
    ·split <;> simp only <;> omega
   ·simp only; omega
theorem zcgq (s : zj4) (o : zj7) : (stepV s o).1.1.length ≤ s.L.l.length + 4 := by
 unfold stepV
 split
 ·split
  ·simp only; omega
  ·split
   ·simp only; omega
   ·split
    ·exact zcgl _ _ _
    ·split
     ·exact zcgm _ _ _
     ·split
      ·exact zcgn _ _
      ·exact zcgp _ _
 ·simp only; omega
def nextS (s : zj4) (o : zj7) : zj4 := ⟨s.Kind, ⟨false, (stepV s o).1.1⟩, (stepV s o).1.2.1, (stepV s o).1.2.2⟩
def setZ (z z' : Bool) (x : zj6) : zj6 := ⟨x.Index, ⟨x.State.Kind, ⟨z, x.State.L.l⟩, x.State.Sealed, x.State.To⟩, ⟨z', x.Table.l⟩⟩
def noTN : zj6 := ⟨0, ⟨0, ⟨false, []⟩, false, 0⟩, ⟨false, []⟩⟩
def nextN (s : zj6) (r : zj8) : zj6 := ⟨wrp .i64 (s.Index + 1), nextS s.State r.Op, ⟨false, noteL s.Table.l r.Proc r.Seq (stepV s.State r.Op).2⟩⟩
/-- A snapshot behind records. -/
def takeV : zj6 → List zj8 → zj6 × Int
 | s, [] => (setZ false false s, 0)
 | s, r :: l => if r.Index = s.Index then (if FitsR r then takeV (nextN s r) l else (noTN, 1)) else (noTN, 15)
theorem zcgr (z z' : Bool) (s : zj6) (l : List zj8) : takeV (setZ z z' s) l = takeV s l := by
 cases l <;> rfl
theorem zcgs (s : zj6) (r : zj8) (l : List zj8) : takeV s (r :: l) = if r.Index = s.Index then (if FitsR r then takeV (nextN s r) l else (noTN, 1)) else (noTN, 15) := rfl
theorem zcgt {s : zj6} {r : zj8} {l : List zj8} (h : (takeV s (r :: l)).2 = 0) : r.Index = s.Index ∧ FitsR r ∧ takeV s (r :: l) = takeV (nextN s r) l := by
 rw [zcgs] at h ⊢
 split at h
 ·rename_i c
  split at h
  ·rename_i d; exact ⟨c, d, by rw [if_pos c, if_pos d]⟩
  ·cases h
 ·cases h
theorem zcgu : ∀ (a b : List zj8) (s : zj6), (takeV s a).2 = 0 → takeV s (a ++ b) = takeV (takeV s a).1 b
 | [], b, s, _ => (zcgr false false s b).symm
 | r :: a, b, s, h => by
  obtain ⟨c, d, e⟩ := zcgt h
  rw [e] at h ⊢
  rw [List.cons_append, zcgs, if_pos c, if_pos d]
  exact zcgu a b _ h
def zOk (z z' : Bool) (x : zj6) : Prop := (z = true → x.State.L.l = []) ∧ (z' = true → x.Table.l = [])
theorem zcgv (zz : Bool) (L : List zj8) (hL : L.length ≤ 1000) : ∀ (k i : Nat) (s : zj6), L.length = i + k → zOk s.State.L.z s.Table.z s → s.State.L.l.length + 4 * k ≤ 900000 → s.Table.l.length + k ≤ 900000 →
  ∃ z z', zOk z z' (takeV s (L.drop i)).1 ∧ Ev (fun q => zlc q zz L (L.length : Int) (i : Int) s.Index s.State.Kind s.State.L.z s.State.L.l s.State.Sealed s.State.To s.Table.z s.Table.l true) (setZ z z' (takeV s (L.drop i)).1, (takeV s (L.drop i)).2)
 | 0, i, s, hk, hz, h1, h2 => by
  rw [y14 (by omega)]
  exact ⟨s.State.L.z, s.Table.z, hz, Ev.succ (Ev.ne (Ev.ret _)) (fun q => rfl)⟩
 | k + 1, i, s, hk, hz, h1, h2 => by
  have hi : i < L.length := by omega
  have he : L[((i : Int)).toNat]? = some L[i] := by simp [hi]
  rw [y11 hi]
  simp only [takeV]
  have w : wrp .i64 ((i : Int) + 1) = ((i + 1 : Nat) : Int) := by rw [zb9h (by omega) (by omega)]; omega
  by_cases c : L[i].Index = s.Index
  ·rw [if_pos c]
   by_cases d : FitsR L[i]
   ·rw [if_pos d]
    obtain ⟨z, hz1, hS⟩ := zcgi s.State hz.1 (by omega) L[i].Op
    have hN := zcf4 s.Table hz.2 (by omega) ⟨L[i].Index, L[i].Proc, L[i].Seq, L[i].Op, (stepV s.State L[i].Op).2⟩
    have hl := zcgq s.State L[i].Op
    have hn := zcfw s.Table.l L[i].Proc L[i].Seq (stepV s.State L[i].Op).2
    have key := zcgr z false (nextN s L[i]) (L.drop (i + 1))
    obtain ⟨y, y', hy, ih⟩ := zcgv zz L hL k (i + 1) (setZ z false (nextN s L[i])) (by omega) ⟨hz1, fun h => by cases h⟩ (by simp only [setZ, nextN, nextS]; omega) (by simp only [setZ, nextN, nextS]; omega)
    rw [key] at hy ih
    rw [← w] at ih
    refine ⟨y, y', hy, Ev.succ (Ev.po (Ev.po (Ev.opt he (Ev.pos c (Ev.bind (zb91 _) (Ev.pos (by simpa using d) (Ev.bind hS (Ev.bind hN ?_)))))))) (fun q => rfl)⟩
    exact ih
   ·rw [if_neg d]
    refine ⟨true, true, ⟨fun _ => rfl, fun _ => rfl⟩, Ev.succ (Ev.po (Ev.po (Ev.opt he (Ev.pos c (Ev.bind (zb91 _) (Ev.neg (by simpa using d) ?_)))))) (fun q => rfl)⟩
    exact Ev.ret _
  ·rw [if_neg c]
   refine ⟨true, true, ⟨fun _ => rfl, fun _ => rfl⟩, Ev.succ (Ev.po (Ev.po (Ev.opt he (Ev.neg c ?_)))) (fun q => rfl)⟩
   exact Ev.ret _
theorem zcgw (s : zj6) (r : Sl zj8) (hr : r.l.length ≤ 1000) (hz : zOk s.State.L.z s.Table.z s) (h1 : s.State.L.l.length ≤ 800000) (h2 : s.Table.l.length ≤ 800000) :
  ∃ z z', zOk z z' (takeV s r.l).1 ∧ Ev (fun q => zle q s r) (setZ z z' (takeV s r.l).1, (takeV s r.l).2) := by
 suffices h : ∃ z z', zOk z z' (takeV s r.l).1 ∧ Ev (fun q => zld q r.z r.l (r.l.length : Int) s.Index s.State.Kind s.State.L.z s.State.L.l s.State.Sealed s.State.To s.Table.z s.Table.l) (setZ z z' (takeV s r.l).1, (takeV s r.l).2) by
  obtain ⟨z, z', h, h3⟩ := h
  exact ⟨z, z', h, Ev.succ h3 (fun q => rfl)⟩
 by_cases h0 : r.l.length = 0
 ·have hT : takeV s r.l = (setZ false false s, 0) := by rw [y37 h0]; rfl
  rw [hT]
  exact ⟨s.State.L.z, s.Table.z, hz, Ev.succ (Ev.ne (Ev.ret _)) (fun q => rfl)⟩
 ·have hi : 0 < r.l.length := by omega
  have he : r.l[0]? = some r.l[0] := y9 hi
  have hd : r.l = r.l[0] :: r.l.drop 1 := by
   have := y11 hi
   rwa [y40] at this
  have hT : takeV s r.l = if r.l[0].Index = s.Index then (if FitsR r.l[0] then takeV (nextN s r.l[0]) (r.l.drop 1) else (noTN, 1)) else (noTN, 15) := by
   have := congrArg (takeV s) hd
   exact this
  rw [hT]
  have w : wrp .i64 1 = ((1 : Nat) : Int) := by rw [zb9h (by omega) (by omega)]; rfl
  generalize r.l[0] = e at he hT ⊢
  by_cases c : e.Index = s.Index
  ·rw [if_pos c]
   by_cases d : FitsR e
   ·rw [if_pos d]
    obtain ⟨z, hz1, hS⟩ := zcgi s.State hz.1 (by omega) e.Op
    have hN := zcf4 s.Table hz.2 (by omega) ⟨e.Index, e.Proc, e.Seq, e.Op, (stepV s.State e.Op).2⟩
    have hl := zcgq s.State e.Op
    have hn := zcfw s.Table.l e.Proc e.Seq (stepV s.State e.Op).2
    have key := zcgr z false (nextN s e) (r.l.drop 1)
    obtain ⟨y, y', hy, ih⟩ := zcgv r.z r.l hr (r.l.length - 1) 1 (setZ z false (nextN s e)) (by omega) ⟨hz1, fun h => by cases h⟩ (by simp only [setZ, nextN, nextS]; omega) (by simp only [setZ, nextN, nextS]; omega)
    rw [key] at hy ih
    rw [← w] at ih
    refine ⟨y, y', hy, Ev.succ (Ev.po (Ev.opt he (Ev.pos c (Ev.bind (zb91 _) (Ev.pos (by simpa using d) (Ev.bind hS (Ev.bind hN ?_))))))) (fun q => rfl)⟩
    exact ih
   ·rw [if_neg d]
    refine ⟨true, true, ⟨fun _ => rfl, fun _ => rfl⟩, Ev.succ (Ev.po (Ev.opt he (Ev.pos c (Ev.bind (zb91 _) (Ev.neg (by simpa using d) ?_))))) (fun q => rfl)⟩
    exact Ev.ret _
  ·rw [if_neg c]
   refine ⟨true, true, ⟨fun _ => rfl, fun _ => rfl⟩, Ev.succ (Ev.po (Ev.opt he (Ev.neg c ?_))) (fun q => rfl)⟩
   exact Ev.ret _
theorem zcgx : ∀ (l : List zj8) (s : zj6), (takeV s l).1.State.L.l.length ≤ s.State.L.l.length + 4 * l.length ∧ (takeV s l).1.Table.l.length ≤ s.Table.l.length + l.length
 | [], s => by simp [takeV, setZ]
 | r :: l, s => by
  rw [zcgs]
  split
  ·split
   ·have h := zcgx l (nextN s r)
    have h1 := zcgq s.State r.Op
    have h2 := zcfw s.Table.l r.Proc r.Seq (stepV s.State r.Op).2
    simp only [nextN, nextS, y23] at h ⊢
    omega
   ·simp [noTN]
  ·simp [noTN]
def foldV : zj4 → List zj7 → zj4
 | s, [] => ⟨s.Kind, ⟨false, s.L.l⟩, s.Sealed, s.To⟩
 | s, o :: l => foldV (nextS s o) l
theorem zcgy : ∀ (l : List zj8) (s : zj6), (takeV s l).2 = 0 → (takeV s l).1.State = foldV s.State (l.map (·.Op)) ∧ (takeV s l).1.Index = s.Index + (l.length : Int) ∧ (l ≠ [] → 0 ≤ s.Index ∧ s.Index < 4611686018427387904)
 | [], s, h => ⟨rfl, by simp [takeV, setZ], fun e => absurd rfl e⟩
 | r :: l, s, h => by
  obtain ⟨c, d, e⟩ := zcgt h
  rw [e] at h ⊢
  obtain ⟨h1, h2, _⟩ := zcgy l (nextN s r) h
  have hb := d
  unfold FitsR at hb
  have hi : 0 ≤ s.Index ∧ s.Index < 4611686018427387904 := by omega
  refine ⟨h1, ?_, fun _ => hi⟩
  rw [h2, show (nextN s r).Index = wrp .i64 (s.Index + 1) from rfl, zb9h (by omega) (by omega), y23]; omega
theorem zcgz (a b c d : Bool) (x : zj6) : sameN (setZ a b x) (setZ c d x) = true := by simp [sameN, sameS, setZ]
def srt : Int → List zj5 → Prop
 | _, [] => True
 | last, e :: t => last < e.Proc ∧ srt e.Proc t
def lk (p : Int) (l : List zj5) : Option zj5 := l.find? fun e => decide (e.Proc = p)
theorem zcg0 (p : Int) (e : zj5) (l : List zj5) : lk p (e :: l) = if e.Proc = p then some e else lk p l := by
 unfold lk; rw [List.find?_cons]; by_cases c : e.Proc = p <;> simp [c]
theorem zcg1 : ∀ {l : List zj5} {a b : Int}, srt a l → b ≤ a → srt b l
 | [], _, _, _, _ => trivial
 | e :: l, a, b, h, hb => ⟨by have := h.1; omega, h.2⟩
theorem zcg2 : ∀ {l : List zj5} {a : Int}, tabB a l = true → srt a l
 | [], _, _ => trivial
 | e :: l, a, h => by
  simp only [tabB, y8, decide_eq_true_eq] at h
  exact ⟨h.2.1, zcg2 h.2.2⟩
theorem zcg3 : ∀ {l : List zj5} {a p : Int}, srt a l → p ≤ a → lk p l = none
 | [], _, _, _, _ => rfl
 | e :: l, a, p, h, hp => by
  rw [zcg0, if_neg (by have := h.1; omega)]
  exact zcg3 h.2 (by have := h.1; omega)
theorem zcg4 : ∀ {A B : List zj5} {a : Int}, srt a A → srt a B → (∀ p, lk p A = lk p B) → A = B
 | [], [], _, _, _, _ => rfl
 | [], b :: B, _, _, _, h => by have := h b.Proc; rw [zcg0, if_pos rfl] at this; cases this
 | a :: A, [], _, _, _, h => by have := h a.Proc; rw [zcg0, if_pos rfl] at this; cases this
 | a :: A, b :: B, _, hA, hB, h => by
  have ha := h a.Proc
  have hb := h b.Proc
  rw [zcg0, if_pos rfl, zcg0] at ha
  rw [zcg0, zcg0, if_pos (rfl : b.Proc = b.Proc)] at hb
  have e : a.Proc = b.Proc := by
   rcases Int.lt_trichotomy a.Proc b.Proc with c | c | c
   ·rw [if_neg (by omega), zcg3 hB.2 (by omega)] at ha; cases ha
   ·exact c
   ·rw [if_neg (by omega), zcg3 hA.2 (by omega)] at hb; cases hb
  rw [if_pos e.symm] at ha
  obtain rfl := Option.some.inj ha
  rw [zcg4 hA.2 hB.2 fun p => by
   have := h p
   rw [zcg0, zcg0] at this
   by_cases c : a.Proc = p
   ·rw [zcg3 hA.2 (by omega), zcg3 hB.2 (by omega)]
   ·rw [if_neg c, if_neg c] at this; exact this]
theorem zcg5 (p : Int) (e : zj5) (l : List zj5) : filP p (e :: l) = if e.Proc = p then filP p l else e :: filP p l := by
 unfold filP; rw [List.filter_cons]; by_cases c : e.Proc = p <;> simp [c]
theorem zcg6 (p : Int) : ∀ {l : List zj5} {a : Int}, srt a l → srt a (filP p l)
 | [], _, _ => trivial
 | e :: l, a, h => by
  rw [zcg5]
  split
  ·exact zcg1 (zcg6 p h.2) (by have := h.1; omega)
  ·exact ⟨h.1, zcg6 p h.2⟩
theorem zcg7 (p q : Int) : ∀ l : List zj5, lk q (filP p l) = if q = p then none else lk q l
 | [] => by simp [filP, lk]
 | e :: l => by
  rw [zcg5, zcg0]
  by_cases c : e.Proc = p
  ·rw [if_pos c, zcg7 p q l]
   by_cases d : q = p
   ·rw [if_pos d, if_pos d]
   ·rw [if_neg d, if_neg d, if_neg (by omega)]
  ·rw [if_neg c, zcg0, zcg7 p q l]
   by_cases d : q = p
   ·rw [if_pos d, if_pos d, if_neg (by omega)]
   ·rw [if_neg d, if_neg d]
theorem zcg8 (e : zj5) : ∀ {l : List zj5} {a : Int}, srt a l → a < e.Proc → lk e.Proc l = none → srt a (insE e l)
 | [], _, _, ha, _ => ⟨ha, trivial⟩
 | x :: l, a, h, ha, hn => by
  rw [zcg0] at hn
  split at hn
  ·cases hn
  ·rename_i c
   simp only [insE]
   split
   ·rename_i d; exact ⟨ha, d, h.2⟩
   ·exact ⟨h.1, zcg8 e h.2 (by omega) hn⟩
theorem zcg9 (e : zj5) (q : Int) : ∀ l : List zj5, lk e.Proc l = none → lk q (insE e l) = if q = e.Proc then some e else lk q l
 | [], _ => by
  simp only [insE, zcg0]
  by_cases d : q = e.Proc
  ·rw [if_pos d, if_pos d.symm]
  ·rw [if_neg d, if_neg (fun h => d h.symm)]
 | x :: l, hn => by
  rw [zcg0] at hn
  split at hn
  ·cases hn
  ·rename_i c
   simp only [insE]
   split
   ·rw [zcg0, zcg0]
    by_cases d : q = e.Proc
    ·rw [if_pos d, if_pos d.symm]
    ·rw [if_neg d, if_neg (fun h => d h.symm)]
   ·rw [zcg0, zcg0, zcg9 e q l hn]
    by_cases d : q = e.Proc
    ·rw [if_pos d, if_pos d, if_neg (by omega)]
    ·rw [if_neg d, if_neg d]
theorem zcha (t : List zj5) (p s x q : Int) : lk q (noteL t p s x) = if q = p then some ⟨p, s, x⟩ else lk q t := by
 unfold noteL
 rw [zcg9 _ _ _ (by rw [zcg7, if_pos rfl]), zcg7]
 by_cases d : q = p
 ·rw [if_pos d, if_pos d]
 ·rw [if_neg d, if_neg d, if_neg d]
theorem zchb {t : List zj5} {a : Int} (h : srt a t) {p : Int} (hp : a < p) (s x : Int) : srt a (noteL t p s x) :=
 zcg8 _ (zcg6 p h) hp (by rw [zcg7, if_pos rfl])
theorem zchc : ∀ (x y : List Int), x.take (com x y) = y.take (com x y)
 | [], y => by simp [com]
 | a :: x, [] => by simp [com]
 | a :: x, b :: y => by
  simp only [com]
  split
  ·rename_i c; rw [List.take_succ_cons, List.take_succ_cons, zchc x y, c]
  ·rfl
theorem zchd (x y : List Int) : x.drop (x.length - com x.reverse y.reverse) = y.drop (y.length - com x.reverse y.reverse) := by
 have h := congrArg List.reverse (zchc x.reverse y.reverse)
 rw [List.reverse_take, List.reverse_take, List.reverse_reverse, List.reverse_reverse, List.length_reverse, List.length_reverse] at h
 exact h
theorem zche (x y : List Int) : x.take (ahN x y) ++ (midL x y ++ x.drop (x.length - beN x y)) = y := by
 have hle := beN_le x y
 have ht := zchd (x.drop (com x y)) (y.drop (com x y))
 have hx : x.drop (x.length - beN x y) = (x.drop (com x y)).drop ((x.drop (com x y)).length - com (x.drop (com x y)).reverse (y.drop (com x y)).reverse) := by
  rw [List.drop_drop, y15]
  congr 1
  unfold beN at hle ⊢; unfold ahN at hle; omega
 rw [hx, ht]
 unfold midL ahN
 rw [zchc x y]
 unfold beN
 rw [List.take_append_drop, List.take_append_drop]
theorem zchf (p : Int) : ∀ l : List zj5, findE p l = lk p l
 | [] => rfl
 | e :: l => by rw [zcg0, ← zchf p l]; rfl
def noteAll (T : List zj5) (D : List zj5) : List zj5 := D.foldl (fun t e => noteL t e.Proc e.Seq e.Resp) T
theorem zchg (T : List zj5) (e : zj5) (D : List zj5) : noteAll T (e :: D) = noteAll (noteL T e.Proc e.Seq e.Resp) D := rfl
theorem zchh : ∀ {D T : List zj5} {a c : Int}, srt a T → srt c D → a ≤ c → srt a (noteAll T D)
 | [], _, _, _, h, _, _ => h
 | e :: D, T, a, c, h, hd, hc => by
  rw [zchg]
  exact zchh (zchb h (by have := hd.1; omega) e.Seq e.Resp) hd.2 (by have := hd.1; omega)
theorem zchi (p : Int) : ∀ {D T : List zj5} {c : Int}, srt c D → lk p (noteAll T D) = (lk p D).or (lk p T)
 | [], _, _, _ => by simp [noteAll, lk]
 | e :: D, T, c, hd => by
  rw [zchg, zchi p hd.2, zcha, zcg0]
  by_cases d : e.Proc = p
  ·rw [if_pos d, if_pos d.symm, zcg3 hd.2 (by omega)]; rfl
  ·rw [if_neg d, if_neg (fun h => d h.symm)]
theorem zchj (ta : List zj5) : ∀ {tb : List zj5} {a : Int}, srt a tb → srt a (newT ta tb)
 | [], _, _ => trivial
 | e :: tb, a, h => by
  simp only [newT]
  split
  ·exact zcg1 (zchj ta h.2) (by have := h.1; omega)
  ·exact ⟨h.1, zchj ta h.2⟩
theorem zchk (ta : List zj5) (p : Int) : ∀ {tb : List zj5} {a : Int}, srt a tb → lk p (newT ta tb) = if lk p ta = lk p tb then none else lk p tb
 | [], _, _ => by simp [newT, lk]
 | e :: tb, a, h => by
  simp only [newT, zchf]
  by_cases d : e.Proc = p
  ·subst d
   have hn : lk e.Proc (newT ta tb) = none := zcg3 (zchj ta h.2) (by omega)
   split
   ·rename_i c; rw [zcg0, if_pos rfl, if_pos c, hn]
   ·rename_i c; rw [zcg0, if_pos rfl, zcg0, if_pos rfl, if_neg c]
  ·split
   ·rw [zcg0, if_neg d, zchk ta p h.2]
   ·rw [zcg0, if_neg d, zcg0, if_neg d, zchk ta p h.2]
theorem zchl (ta : List zj5) : ∀ {tb : List zj5} {e : zj5}, e ∈ newT ta tb → e ∈ tb
 | [], _, h => h
 | x :: tb, e, h => by
  simp only [newT] at h
  split at h
  ·exact y38 _ (zchl ta h)
  ·rcases List.mem_cons.1 h with rfl | h
   ·exact y34
   ·exact y38 _ (zchl ta h)
theorem lk_mem {p : Int} : ∀ {l : List zj5} {e : zj5}, lk p l = some e → e ∈ l ∧ e.Proc = p
 | [], _, h => by cases h
 | x :: l, e, h => by
  rw [zcg0] at h
  split at h
  ·rename_i c; obtain rfl := Option.some.inj h; exact ⟨y34, c⟩
  ·exact ⟨y38 _ (lk_mem h).1, (lk_mem h).2⟩
theorem zchm : ∀ {ta tb : List zj5}, lacksB ta tb = false → ∀ e ∈ ta, lk e.Proc tb ≠ none
 | [], _, _, e, h => by cases h
 | x :: ta, tb, hl, e, h => by
  simp only [lacksB, Bool.or_eq_false_iff, decide_eq_false_iff_not, zchf] at hl
  rcases List.mem_cons.1 h with rfl | h
  ·exact hl.1
  ·exact zchm hl.2 e h
theorem zchn {tb : List zj5} : ∀ {ta : List zj5}, (∀ e ∈ ta, lk e.Proc tb ≠ none) → lacksB ta tb = false
 | [], _ => rfl
 | x :: ta, h => by
  simp only [lacksB, Bool.or_eq_false_iff, decide_eq_false_iff_not, zchf]
  exact ⟨h x y34, zchn fun e he => h e (y38 _ he)⟩
theorem zcho {ta tb : List zj5} {a : Int} (ha : srt a ta) (hb : srt a tb) (hl : lacksB ta tb = false) : noteAll ta (newT ta tb) = tb := by
 refine zcg4 (zchh ha (zchj ta hb) (Int.le_refl _)) hb fun p => ?_
 rw [zchi p (zchj ta hb), zchk ta p hb]
 split
 ·rename_i c; rw [c]; simp
 ·rename_i c
  cases hp : lk p tb with
  | some e => rfl
  | none =>
   rw [Option.none_or]
   cases hq : lk p ta with
   | none => rfl
   | some e =>
    have := lk_mem hq
    have h2 := zchm hl e this.1
    rw [this.2] at h2
    exact absurd hp h2
theorem zchp {last : Int} : ∀ {l : List zj5} {a : Int}, srt a l → (∀ e ∈ l, entOk e = true) → tabB a l = true
 | [], _, _, _ => rfl
 | e :: l, a, h, he => by
  simp only [tabB, y8, decide_eq_true_eq]
  exact ⟨he e y34, h.1, zchp (last := last) h.2 fun x hx => he x (y38 _ hx)⟩
/-- The later one. -/
def appL (a : zj6) (d : zj9) (zc zt : Bool) : zj6 := ⟨d.To, ⟨a.State.Kind, ⟨zc, a.State.L.l.take d.Ahead.toNat ++ (d.Mid.l ++ a.State.L.l.drop (a.State.L.l.length - d.Behind.toNat))⟩, d.Sealed, d.Engine⟩, ⟨zt, noteAll a.Table.l d.Table.l⟩⟩
theorem zchq (D : Sl zj5) (i0 k0 : Int) (sl : Bool) (to : Int) (cz : Bool) (C : List Int) (hC : C.length ≤ 1000000) (hD : D.l.length ≤ 1000) : ∀ (k i : Nat) (T : List zj5), D.l.length = i + k → T.length + k ≤ 900000 → mayN ⟨i0, ⟨k0, ⟨false, C⟩, sl, to⟩, ⟨false, noteAll T (D.l.drop i)⟩⟩ = true →
  Ev (fun q => zpf q D.z D.l (D.l.length : Int) (i : Int) i0 k0 sl to cz C true false T true) (⟨i0, ⟨k0, ⟨cz, C⟩, sl, to⟩, ⟨false, noteAll T (D.l.drop i)⟩⟩, 0)
 | 0, i, T, hk, hT, hm => by
  rw [y14 (by omega)] at hm ⊢
  have hM := zcb9 ⟨i0, ⟨k0, ⟨cz, C⟩, sl, to⟩, ⟨false, T⟩⟩ hC (by simp only; omega)
  refine Ev.succ (Ev.ne (Ev.bind hM (Ev.pos hm ?_))) (fun q => rfl)
  exact Ev.ret _
 | k + 1, i, T, hk, hT, hm => by
  have hi : i < D.l.length := by omega
  have he : D.l[((i : Int)).toNat]? = some D.l[i] := by simp [hi]
  rw [y11 hi, zchg] at hm ⊢
  have hN := zcf4 ⟨false, T⟩ (fun h => by cases h) (by simp only; omega) ⟨0, D.l[i].Proc, D.l[i].Seq, ⟨0, 0, 0⟩, D.l[i].Resp⟩
  have hn := zcfw T D.l[i].Proc D.l[i].Seq D.l[i].Resp
  have ih := zchq D i0 k0 sl to cz C hC hD k (i + 1) (noteL T D.l[i].Proc D.l[i].Seq D.l[i].Resp) (by omega) (by omega) hm
  rw [show ((i + 1 : Nat) : Int) = wrp .i64 ((i : Int) + 1) by rw [zb9h (by omega) (by omega)]; omega] at ih
  refine Ev.succ (Ev.po (Ev.po (Ev.opt he (Ev.bind hN ?_)))) (fun q => rfl)
  exact ih
end Go.Dvm.I
