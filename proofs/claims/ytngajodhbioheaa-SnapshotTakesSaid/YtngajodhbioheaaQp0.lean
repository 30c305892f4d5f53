/- Plain laws of the functions: part 1. -/
import Derived.Test.YtngajodhbioheaaQi
set_option linter.all false
set_option maxRecDepth 100000
namespace Go.Dvm.I
open Go Go.Dvm
/-- With enough rounds. -/
def Ev {R : Type} (g : Nat → Option R) (r : R) : Prop := ∃ N, ∀ q, N ≤ q → g q = some r
section
variable {R S : Type}
theorem Ev.ret (r : R) : Ev (fun _ => some r) r := ⟨0, fun _ _ => rfl⟩
theorem Ev.ret' {r r' : R} (h : r = r') : Ev (fun _ => some r) r' := ⟨0, fun _ _ => by rw [h]⟩
theorem Ev.succ {f g : Nat → Option R} {r : R} (h : Ev g r) (e : ∀ q, f (q + 1) = g q) : Ev f r := by
 obtain ⟨N, h⟩ := h
 refine ⟨N + 1, fun q hq => ?_⟩
 obtain ⟨q, rfl⟩ : ∃ p, q = p + 1 := ⟨q - 1, by omega⟩
 rw [e]; exact h q (by omega)
theorem Ev.bind {g : Nat → Option S} {k : Nat → S → Option R} {s : S} {r : R} (h : Ev g s) (h2 : Ev (fun q => k q s) r) : Ev (fun q => (g q).bind (k q)) r := by
 obtain ⟨N, h⟩ := h
 obtain ⟨M, h2⟩ := h2
 exact ⟨N + M, fun q hq => by show (g q).bind (k q) = some r; rw [h q (by omega), y6]; exact h2 q (by omega)⟩
theorem Ev.opt {o : Option S} {k : Nat → S → Option R} {s : S} {r : R} (h : o = some s) (h2 : Ev (fun q => k q s) r) : Ev (fun q => o.bind (k q)) r := by
 subst h; exact h2
theorem Ev.pos {c : Prop} [Decidable c] {a b : Nat → Option R} {r : R} (hc : c) (h : Ev a r) : Ev (fun q => if c then a q else b q) r := by
 obtain ⟨N, h⟩ := h
 exact ⟨N, fun q hq => by show (if c then a q else b q) = some r; rw [if_pos hc]; exact h q hq⟩
theorem Ev.neg {c : Prop} [Decidable c] {a b : Nat → Option R} {r : R} (hc : ¬ c) (h : Ev b r) : Ev (fun q => if c then a q else b q) r := by
 obtain ⟨N, h⟩ := h
 exact ⟨N, fun q hq => by show (if c then a q else b q) = some r; rw [if_neg hc]; exact h q hq⟩
theorem Ev.po {c : Prop} [Decidable c] {a b : Nat → Option R} {r : R} (h : Ev a r) (hc : c := by omega) : Ev (fun q => if c then a q else b q) r := Ev.pos hc h
theorem Ev.ne {c : Prop} [Decidable c] {a b : Nat → Option R} {r : R} (h : Ev b r) (hc : ¬ c := by omega) : Ev (fun q => if c then a q else b q) r := Ev.neg hc h
theorem Ev.ite {c : Prop} [Decidable c] {a b : Nat → Option R} {r : R} (h1 : c → Ev a r) (h2 : ¬ c → Ev b r) : Ev (fun q => if c then a q else b q) r := by
 by_cases hc : c
 ·exact .pos hc (h1 hc)
 ·exact .neg hc (h2 hc)
theorem Ev.get {f : Nat → Option R} {r : R} (h : Ev f r) : ∃ q, f q = some r := by
 obtain ⟨N, h⟩ := h; exact ⟨N, h N (y15 _)⟩
theorem Ev.cast {f : Nat → Option R} {r r' : R} (h : Ev f r) (e : r = r') : Ev f r' := e ▸ h
end
theorem zbwn {x : Int} (h1 : -9223372036854775808 ≤ x) (h2 : x ≤ 9223372036854775807) : wrp .i64 x = x := by
 unfold wrp; simp [IntKind.wrap, IntKind.min, IntKind.max, IntKind.signed, IntKind.bits] <;> omega
theorem zbwo {x : Int} (h1 : 0 ≤ x) (h2 : x ≤ 18446744073709551615) : wrp .u64 x = x := by
 unfold wrp; simp [IntKind.wrap, IntKind.min, IntKind.max, IntKind.signed, IntKind.bits] <;> omega
theorem zbwp {x : Int} (h1 : 0 ≤ x) (h2 : x ≤ 4294967295) : wrp .u32 x = x := by
 unfold wrp; simp [IntKind.wrap, IntKind.min, IntKind.max, IntKind.signed, IntKind.bits] <;> omega
theorem wrp_u8 (x : Int) : wrp .u8 x = x % 256 := by
 unfold wrp; simp [IntKind.wrap, IntKind.min, IntKind.max, IntKind.signed, IntKind.bits] <;> omega
theorem zbwq {x : Int} (h1 : 0 ≤ x) : ishr .u64 x 7 = x / 128 := by
 unfold ishr; simp [IntKind.bits]
 rw [y53]; omega
theorem or128 {x : Int} (h1 : 0 ≤ x) (h2 : x < 256) : ibits .or .u8 x 128 = x % 128 + 128 := by
 obtain ⟨n, rfl⟩ := Int.eq_ofNat_of_zero_le h1
 have hn : n < 256 := by omega
 have : ∀ m : Fin 256, ibits .or .u8 (m.val : Int) 128 = (m.val : Int) % 128 + 128 := by unfold ibits; decide +kernel
 exact this ⟨n, hn⟩
/-- A number's groups. -/
def grp (n : Nat) : List Int := if h : n < 128 then [(n : Int)] else ((n % 128 + 128 : Nat) : Int) :: grp (n / 128)
theorem grp_lt {n : Nat} (h : n < 128) : grp n = [(n : Int)] := by rw [grp, dif_pos h]
theorem grp_ge {n : Nat} (h : ¬ n < 128) : grp n = ((n % 128 + 128 : Nat) : Int) :: grp (n / 128) := by rw [grp, dif_neg h]
theorem zbwr : ∀ (k : Nat) {n : Nat}, n < 128 ^ (k + 1) → (grp n).length ≤ k + 1
 | 0, n, h => by rw [grp_lt (by simpa using h)]; simp
 | k + 1, n, h => by
  by_cases hn : n < 128
  ·rw [grp_lt hn]; simp
  ·rw [grp_ge hn]
   have := zbwr k (n := n / 128) (by rw [Nat.div_lt_iff_lt_mul (by omega)]; rw [Nat.pow_succ] at h; exact h)
   simp; omega
theorem zbws {n : Nat} (h : n < 18446744073709551616) : (grp n).length ≤ 10 := zbwr 9 (by omega)
theorem zbwt (n : Nat) : 1 ≤ (grp n).length := by
 by_cases hn : n < 128
 ·rw [grp_lt hn]; simp
 ·rw [grp_ge hn]; simp
theorem zbwu : ∀ (n : Nat) (z : Bool) (l : List Int) (x : Bool), l.length + (grp n).length ≤ 4294967296 → Ev (fun q => zlc q (n : Int) z l x) ⟨false, x, l ++ grp n⟩ := by
 intro n
 induction n using Nat.strongRecOn with
 | ind n ih =>
  intro z l x hl
  refine Ev.succ ?_ (fun q => rfl)
  by_cases hn : n < 128
  ·rw [grp_lt hn] at hl ⊢
   refine Ev.ne (Ev.pos (by simpa using hl) (Ev.ret' ?_))
   rw [wrp_u8]; congr 3; omega
  ·rw [grp_ge hn] at hl ⊢
   simp only [y22] at hl
   refine Ev.po (Ev.pos (by omega) ?_)
   rw [zbwq (by omega), wrp_u8, or128 (by omega) (by omega)]
   have := ih (n / 128) (by omega) false (l ++ [((n % 128 + 128 : Nat) : Int)]) x (by simp; omega)
   rw [show ((n : Int) % 256 % 128 + 128) = ((n % 128 + 128 : Nat) : Int) by omega, show ((n : Int) / 128) = ((n / 128 : Nat) : Int) by omega]
   simpa using this
theorem zbwv {u : Int} (h1 : 0 ≤ u) (b : Ow Int) (hl : b.xs.length + (grp u.toNat).length ≤ 4294967296) : Ev (fun q => zld q b u) ⟨false, b.x, b.xs ++ grp u.toNat⟩ := by
 have := zbwu u.toNat b.n b.xs b.x hl
 rw [Int.toNat_of_nonneg h1] at this
 exact Ev.succ this (fun q => rfl)
/-- What a number puts behind bytes. -/
def put (n : Int) : List Int := if n < 0 then [] else if 4611686018427387904 ≤ n then [] else grp n.toNat
theorem put_ok {n : Int} (h1 : 0 ≤ n) (h2 : n < 4611686018427387904) : put n = grp n.toNat := by
 unfold put; rw [if_neg (by omega), if_neg (by omega)]
theorem zbww (n : Int) : (put n).length ≤ 10 := by
 unfold put; split
 ·simp
 ·split
  ·simp
  ·exact zbws (by omega)
theorem zbwx {n : Int} (b : Ow Int) (h1 : 0 ≤ n) (h2 : n < 4611686018427387904) (hl : b.xs.length + 10 ≤ 4294967296) : Ev (fun q => zle q b n) ⟨false, b.x, b.xs ++ put n⟩ := by
 refine Ev.succ ?_ (fun q => rfl)
 rw [put_ok h1 h2]
 have hg := zbws (n := n.toNat) (by omega)
 refine Ev.ne (Ev.neg (by omega) ?_)
 rw [zbwo h1 (by omega)]
 exact Ev.bind (zbwv h1 b (by omega)) (Ev.ret _)
/-- Zigzag. -/
def zig (n : Int) : Nat := if 0 ≤ n then 2 * n.toNat else 2 * (-n).toNat - 1
theorem zig_lt {n : Int} (h : inR .i64 n) : zig n < 18446744073709551616 := by
 simp [inR, IntKind.min, IntKind.max, IntKind.signed, IntKind.bits] at h
 unfold zig; split <;> omega
def putS (n : Int) : List Int := grp (zig n)
theorem zbwy (k : IntKind) (n : Int) : k.wrap n = wrp k n := by unfold wrp; rfl
theorem xor0 {x : Int} (h1 : 0 ≤ x) (h2 : x < 18446744073709551616) : ibits .xor .u64 x 0 = x := by
 have e : ibits .xor .u64 x 0 = IntKind.wrap .u64 (((BitVec.ofInt 64 x ^^^ 0#64 : BitVec 64).toNat : Nat) : Int) := by unfold ibits; rfl
 rw [e, BitVec.xor_zero, y49, zbwy, zbwo] <;> omega
theorem xor1 {x : Int} (h1 : 0 ≤ x) (h2 : x < 18446744073709551616) : ibits .xor .u64 x 18446744073709551615 = 18446744073709551615 - x := by
 have e : ibits .xor .u64 x 18446744073709551615 = IntKind.wrap .u64 (((BitVec.ofInt 64 x ^^^ BitVec.allOnes 64 : BitVec 64).toNat : Nat) : Int) := by unfold ibits; rfl
 rw [e, BitVec.xor_allOnes, BitVec.toNat_not, y49, zbwy, zbwo] <;> omega
theorem ishl1 {x : Int} (h1 : 0 ≤ x) : ishl .u64 x 1 = (2 * x) % 18446744073709551616 := by
 unfold ishl
 simp [IntKind.wrap, IntKind.signed, IntKind.bits]
 omega
theorem zbwz (x : Int) : wrp .u64 x = x % 18446744073709551616 := by
 unfold wrp; simp [IntKind.wrap, IntKind.signed, IntKind.bits]
theorem ishr63 {x : Int} (h : inR .i64 x) : ishr .i64 x 63 = if 0 ≤ x then 0 else -1 := by
 simp [inR, IntKind.min, IntKind.max, IntKind.signed, IntKind.bits] at h
 unfold ishr; simp [IntKind.bits]
 rw [y53 _ (by omega)]
 split <;> omega
theorem zbw0 {n : Int} (h : inR .i64 n) : Ev (fun q => zlf q n) ((zig n : Nat) : Int) := by
 refine Ev.succ (Ev.ret' ?_) (fun q => rfl)
 have hr := h
 simp [inR, IntKind.min, IntKind.max, IntKind.signed, IntKind.bits] at hr
 rw [ishr63 h]
 by_cases h0 : 0 ≤ n
 ·rw [if_pos h0, zbwo h0 (by omega), ishl1 h0, zbwo (by omega) (by omega), xor0 (by omega) (by omega)]
  unfold zig; rw [if_pos h0]; omega
 ·rw [if_neg h0, zbwz n, ishl1 (by omega), show wrp .u64 (-1) = 18446744073709551615 by rw [zbwz]; rfl, xor1 (by omega) (by omega)]
  unfold zig; rw [if_neg h0]; omega
theorem zbw1 {n : Int} (b : Ow Int) (h : inR .i64 n) (hl : b.xs.length + 10 ≤ 4294967296) : Ev (fun q => zlg q b n) ⟨false, b.x, b.xs ++ putS n⟩ := by
 refine Ev.succ ?_ (fun q => rfl)
 have hg := zbws (zig_lt h)
 have := zbwv (u := (zig n : Nat)) (by omega) b (by simpa using (by omega : b.xs.length + (grp (zig n)).length ≤ 4294967296))
 rw [y28] at this
 exact Ev.bind (zbw0 h) (Ev.bind this (Ev.ret _))
def cutI (n : Int) : Int := if n < -1099511627776 then -1099511627776 else if 1099511627776 < n then 1099511627776 else n
theorem zbw2 (n : Int) : Ev (fun q => zjt q n) (cutI n) := by
 refine Ev.succ (Ev.ret' ?_) (fun q => rfl)
 unfold cutI; split <;> split <;> split <;> (try split) <;> omega
theorem zbw3 (n : Int) : Ev (fun q => zki q n) (cutI n) := by
 refine Ev.succ ?_ (fun q => rfl)
 unfold cutI
 refine Ev.ite (fun h => ?_) fun h => Ev.ite (fun h1 => ?_) fun h1 => ?_
 ·rw [if_pos h]; exact Ev.ret _
 ·rw [if_neg h, if_pos h1]; exact Ev.ret _
 ·rw [if_neg h, if_neg h1]; exact Ev.ret _
def fitsOp (o : zjq) : Bool := decide (0 ≤ o.Code) && (decide (o.Code ≤ 10) && (decide (o.A = cutI o.A) && decide (o.B = cutI o.B)))
theorem zbw4 (o : zjq) : Ev (fun q => zkl q o) (fitsOp o) := by
 refine Ev.succ ?_ (fun q => rfl)
 unfold fitsOp
 refine Ev.ite (fun h => Ev.ite (fun h1 => Ev.bind (zbw2 _) (Ev.ite (fun h2 => Ev.bind (zbw2 _) (Ev.ret' ?_)) fun h2 => Ev.ret' ?_)) fun h1 => Ev.ret' ?_) fun h => Ev.ret' ?_
 ·rw [decide_eq_true h, decide_eq_true h1, decide_eq_true h2]; rfl
 ·rw [decide_eq_true h, decide_eq_true h1, decide_eq_false h2]; rfl
 ·rw [decide_eq_true h, decide_eq_false h1]; rfl
 ·rw [decide_eq_false h]; rfl
theorem zbw5 (o : zjq) : Ev (fun q => zlx q o) (fitsOp o) := by
 refine Ev.succ ?_ (fun q => rfl)
 unfold fitsOp
 refine Ev.ite (fun h => Ev.ite (fun h1 => Ev.bind (zbw3 _) (Ev.ite (fun h2 => Ev.bind (zbw3 _) (Ev.ret' ?_)) fun h2 => Ev.ret' ?_)) fun h1 => Ev.ret' ?_) fun h => Ev.ret' ?_
 ·rw [decide_eq_true h, decide_eq_true h1, decide_eq_true h2]; rfl
 ·rw [decide_eq_true h, decide_eq_true h1, decide_eq_false h2]; rfl
 ·rw [decide_eq_true h, decide_eq_false h1]; rfl
 ·rw [decide_eq_false h]; rfl
theorem zbw6 {n : Int} : n = cutI n ↔ -1099511627776 ≤ n ∧ n ≤ 1099511627776 := by
 unfold cutI
 by_cases h1 : n < -1099511627776
 ·rw [if_pos h1]; omega
 ·rw [if_neg h1]
  by_cases h2 : 1099511627776 < n
  ·rw [if_pos h2]; omega
  ·rw [if_neg h2]; omega
def FitsR (r : zjr) : Prop := 0 ≤ r.Index ∧ r.Index < 4611686018427387904 ∧ 0 ≤ r.Proc ∧ r.Proc ≤ 64 ∧ 0 ≤ r.Seq ∧ r.Seq < 4611686018427387904 ∧ fitsOp r.Op = true ∧ -1125899906842624 ≤ r.Resp ∧ r.Resp ≤ 1125899906842624
instance (r : zjr) : Decidable (FitsR r) := by unfold FitsR; infer_instance
theorem zbw7 (r : zjr) : Ev (fun q => zkm q r) (decide (FitsR r)) := by
 refine Ev.succ ?_ (fun q => rfl)
 refine Ev.ite (fun h1 => Ev.ite (fun h2 => Ev.ite (fun h3 => Ev.ite (fun h4 => Ev.ite (fun h5 => Ev.ite (fun h6 => Ev.bind (zbw4 _) (Ev.ite (fun h7 => Ev.ite (fun h8 => Ev.ret' ?_) fun h8 => Ev.ret' ?_) fun h7 => Ev.ret' ?_)) fun h6 => Ev.ret' ?_) fun h5 => Ev.ret' ?_) fun h4 => Ev.ret' ?_) fun h3 => Ev.ret' ?_) fun h2 => Ev.ret' ?_) fun h1 => Ev.ret' ?_ <;> simp only [FitsR, *] <;> simp
theorem zbw8 (r : zjr) : Ev (fun q => zly q r) (decide (FitsR r)) := by
 refine Ev.succ ?_ (fun q => rfl)
 refine Ev.bind (zbw5 _) (Ev.ite (fun h1 => Ev.ite (fun h2 => Ev.ite (fun h3 => Ev.ite (fun h4 => Ev.ite (fun h5 => Ev.ite (fun h6 => Ev.ite (fun h7 => Ev.ite (fun h8 => Ev.ret' ?_) fun h8 => Ev.ret' ?_) fun h7 => Ev.ret' ?_) fun h6 => Ev.ret' ?_) fun h5 => Ev.ret' ?_) fun h4 => Ev.ret' ?_) fun h3 => Ev.ret' ?_) fun h2 => Ev.ret' ?_) fun h1 => Ev.ret' ?_) <;> simp only [FitsR, *] <;> simp
theorem zbw9 {n : Int} (h : inR .i64 n) : (putS n).length ≤ 10 := zbws (zig_lt h)
theorem zbxa {n : Int} (h1 : -9223372036854775808 ≤ n) (h2 : n ≤ 9223372036854775807) : inR .i64 n := by
 simp [inR, IntKind.min, IntKind.max, IntKind.signed, IntKind.bits]; omega
abbrev B32 := BitVec 32
def u (a : B32) : Int := (a.toNat : Int)
theorem u_nn (a : B32) : 0 ≤ u a := Int.natCast_nonneg _
theorem u_lt (a : B32) : u a < 4294967296 := by unfold u; have := a.isLt; omega
theorem zbxb (a : B32) : BitVec.ofInt 32 (u a) = a := by
 apply BitVec.eq_of_toNat_eq; rw [y49]; unfold u; have := a.isLt; omega
theorem wrp_u (a : B32) : IntKind.wrap .u32 ((a.toNat : Nat) : Int) = u a := by
 have := a.isLt
 rw [zbwy, zbwp (by omega) (by omega)]; rfl
theorem xor_u (a b : B32) : ibits .xor .u32 (u a) (u b) = u (a ^^^ b) := by
 have e : ibits .xor .u32 (u a) (u b) = IntKind.wrap .u32 (((BitVec.ofInt 32 (u a) ^^^ BitVec.ofInt 32 (u b) : B32).toNat : Nat) : Int) := by unfold ibits; rfl
 rw [e, zbxb, zbxb, wrp_u]
theorem and_u (a b : B32) : ibits .and .u32 (u a) (u b) = u (a &&& b) := by
 have e : ibits .and .u32 (u a) (u b) = IntKind.wrap .u32 (((BitVec.ofInt 32 (u a) &&& BitVec.ofInt 32 (u b) : B32).toNat : Nat) : Int) := by unfold ibits; rfl
 rw [e, zbxb, zbxb, wrp_u]
theorem u_lit (n : Nat) (h : n < 4294967296) : u (BitVec.ofNat 32 n) = (n : Int) := by
 unfold u; rw [BitVec.toNat_ofNat]; omega
theorem zbxc (x : Int) : wrp .u32 x = x % 4294967296 := by
 unfold wrp; simp [IntKind.wrap, IntKind.signed, IntKind.bits]
theorem ishr_u (a : B32) (k : Nat) (hk : k ≤ 32) : ishr .u32 (u a) (k : Int) = u (a >>> k) := by
 unfold ishr u
 simp only [IntKind.bits, y28, Nat.min_eq_left hk]
 rw [y53 _ (by exact_mod_cast Nat.zero_le _), BitVec.toNat_ushiftRight, Nat.shiftRight_eq_div_pow]
 simp
theorem zbxd (a : B32) : ishr .u32 (u a) 1 = u (a >>> 1) := ishr_u a 1 (by omega)
theorem zbxe (a : B32) : ishr .u32 (u a) 8 = u (a >>> 8) := ishr_u a 8 (by omega)
def poly : B32 := 2197175160#32
def bstep (a : B32) : B32 := if a &&& 1#32 = 1#32 then (a >>> 1) ^^^ poly else a >>> 1
theorem and1 (a : B32) : a &&& 1#32 = 0#32 ∨ a &&& 1#32 = 1#32 := by
 have : (a &&& 1#32).toNat = a.toNat % 2 := by rw [BitVec.toNat_and]; exact Nat.and_one_is_mod _
 rcases Nat.mod_two_eq_zero_or_one a.toNat with h | h
 ·left; exact BitVec.eq_of_toNat_eq (by rw [this, h]; rfl)
 ·right; exact BitVec.eq_of_toNat_eq (by rw [this, h]; rfl)
/-- The program's step. -/
theorem zbxf (a : B32) : ibits .xor .u32 (ishr .u32 (u a) 1) (ibits .and .u32 2197175160 (wrp .u32 (0 - (ibits .and .u32 (u a) 1)))) = u (bstep a) := by
 have e1 : (1 : Int) = u 1#32 := rfl
 have e2 : (2197175160 : Int) = u poly := by unfold poly; rw [u_lit _ (by omega)]; rfl
 rw [zbxd]
 conv => lhs; arg 4; rw [e2]; arg 4; rw [e1, and_u]
 unfold bstep
 rcases and1 a with h | h
 ·rw [h, if_neg (by decide)]
  have : wrp .u32 (0 - u 0#32) = u 0#32 := by rw [zbxc]; rfl
  rw [this, and_u, BitVec.and_zero, xor_u, BitVec.xor_zero]
 ·rw [h, if_pos rfl]
  have : wrp .u32 (0 - u 1#32) = u (BitVec.allOnes 32) := by rw [zbxc]; rfl
  rw [this, and_u, BitVec.and_allOnes, xor_u]
def biter : Nat → B32 → B32
 | 0, a => a
 | n + 1, a => biter n (bstep a)
def bentry (a : B32) : B32 := biter 8 a
theorem zbxg (v2 v5 : Int) (t0 t1 : List Int) (r : List Int) : ∀ (k : Nat) (a : B32) (v10 : Int), v10 = 8 - k → k ≤ 8 → 0 ≤ v2 → v2.toNat < 256 → v2.toNat + 1 ≤ t1.length →
  Ev (fun q => zk2 q (wrp .i64 (v5 + 1)) t0 (List.set t1 v2.toNat (u (biter k a)))) r → Ev (fun q => zk3 q v2 (u a) v5 v10 t0 t1) r
 | 0, a, v10, h1, h2, h3, h4, h5, h => Ev.succ (Ev.ne (Ev.pos h3 (Ev.pos h4 (Ev.pos h5 h)))) (fun q => rfl)
 | k + 1, a, v10, h1, h2, h3, h4, h5, h => by
  refine Ev.succ (Ev.pos (by omega) ?_) (fun q => rfl)
  rw [zbxf, zbwn (by omega) (by omega)]
  exact zbxg v2 v5 t0 t1 r k (bstep a) (v10 + 1) (by omega) (by omega) h3 h4 h5 h
/-- The table. -/
def tabN (n : Nat) : List Int := (List.range n).map fun i => u (bentry (BitVec.ofNat 32 i))
theorem zbxh {n i : Nat} (h : i < n) : (tabN n)[i]? = some (u (bentry (BitVec.ofNat 32 i))) := by
 unfold tabN; rw [y42, List.getElem?_range h]; rfl
theorem zbxi (n : Nat) : (tabN n).length = n := by simp [tabN]
theorem zbxj : ∀ (k i : Nat) (t1 : List Int), i + k = 256 → t1.length = 256 → (∀ j, j < i → t1[j]? = (tabN 256)[j]?) → Ev (fun q => zk2 q (i : Int) (List.replicate 256 0) t1) (tabN 256)
 | 0, i, t1, hk, hl, ht => by
  refine Ev.succ (Ev.ne (Ev.po (Ev.po (Ev.pos (by simp) (Ev.pos (by simp) (Ev.ret' ?_)))))) (fun q => rfl)
  have e : t1 = tabN 256 := by
   apply List.ext_getElem?
   intro j
   by_cases hj : j < 256
   ·exact ht j (by omega)
   ·rw [y50 (by omega), y50 (by rw [zbxi]; omega)]
  have h2 := zbxi 256
  rw [e, List.take_of_length_le (i := 256) (by omega : (tabN 256).length ≤ 256), y13 (by simp), List.append_nil, List.take_of_length_le (by omega)]
 | k + 1, i, t1, hk, hl, ht => by
  refine Ev.succ (Ev.pos (by omega) ?_) (fun q => rfl)
  have e : wrp .u32 (i : Int) = u (BitVec.ofNat 32 i) := by rw [u_lit _ (by omega), zbwp] <;> omega
  rw [e]
  refine zbxg _ _ _ _ _ 8 _ 0 (by omega) (by omega) (by omega) (by omega) (by omega) ?_
  rw [zbwn (by omega) (by omega), show ((i : Int) + 1) = ((i + 1 : Nat) : Int) by omega, y28]
  refine zbxj k (i + 1) _ (by omega) (by simpa using hl) fun j hj => ?_
  by_cases e : i = j
  ·subst e; rw [y24 (by omega), zbxh (by omega)]; rfl
  ·rw [y29 e]; exact ht j (by omega)
theorem zbxk : Ev (fun q => zk4 q) (tabN 256) :=
 Ev.succ (zbxj 256 0 (List.replicate 256 0) (by omega) (by simp) (fun j hj => by omega)) (fun q => rfl)
/-- What a byte makes of a sum. -/
def bbyte (x : B32) (c : Int) : B32 := bentry ((x ^^^ BitVec.ofInt 32 c) &&& 255#32) ^^^ (x >>> 8)
def bmore (x : B32) (l : List Int) : B32 := l.foldl bbyte x
def isB (l : List Int) : Prop := ∀ c ∈ l, 0 ≤ c ∧ c < 256
theorem xor8 {x : B32} {c : Int} (h1 : 0 ≤ c) (h2 : c < 256) : ibits .xor .u8 (wrp .u8 (u x)) c = u ((x ^^^ BitVec.ofInt 32 c) &&& 255#32) := by
 have e : ibits .xor .u8 (wrp .u8 (u x)) c = IntKind.wrap .u8 (((BitVec.ofInt 8 (wrp .u8 (u x)) ^^^ BitVec.ofInt 8 c : BitVec 8).toNat : Nat) : Int) := by unfold ibits; rfl
 rw [e, zbwy, wrp_u8, wrp_u8]
 unfold u
 rw [BitVec.toNat_and, BitVec.toNat_xor, BitVec.toNat_xor, y49, y49, y49]
 obtain ⟨n, rfl⟩ := Int.eq_ofNat_of_zero_le h1
 have hn : n < 256 := by omega
 have e1 : (((x.toNat : Int) % 256 % ((2 ^ 8 : Nat) : Int)).toNat) = x.toNat % 256 := by omega
 have e2 : (((n : Int) % ((2 ^ 8 : Nat) : Int)).toNat) = n := by omega
 have e3 : (((n : Int) % ((2 ^ 32 : Nat) : Int)).toNat) = n := by omega
 rw [e1, e2, e3, show (255#32).toNat = 2 ^ 8 - 1 from rfl, Nat.and_two_pow_sub_one_eq_mod]
 have h3 : (x.toNat ^^^ n) % 2 ^ 8 = (x.toNat % 2 ^ 8) ^^^ (n % 2 ^ 8) := Nat.xor_mod_two_pow
 rw [h3, Nat.mod_eq_of_lt (show n < 2 ^ 8 by omega)]
 have h4 : (x.toNat % 2 ^ 8) ^^^ n < 2 ^ 8 := Nat.xor_lt_two_pow (Nat.mod_lt _ (by omega)) (by omega)
 simp only [Nat.reducePow] at h4 ⊢
 omega
theorem and255 (x : B32) : u (x &&& 255#32) < 256 := by
 unfold u
 rw [BitVec.toNat_and, show (255#32).toNat = 2 ^ 8 - 1 from rfl, Nat.and_two_pow_sub_one_eq_mod]; omega
theorem zbxl (a : B32) : (u a).toNat = a.toNat := by unfold u; omega
theorem ones : (4294967295 : Int) = u (BitVec.allOnes 32) := rfl
theorem zbxm (z : Bool) (l : List Int) (hb : isB l) (hl : l.length ≤ 1099511627776) : ∀ (k i : Nat) (x : B32), l.length = i + k → Ev (fun q => zk5 q (u x) z l (l.length : Int) (i : Int) (tabN 256)) (u (~~~ bmore x (l.drop i)))
 | 0, i, x, hk => by
  refine Ev.succ (Ev.ne (Ev.ret' ?_)) (fun q => rfl)
  rw [y13 (by omega), ones, xor_u]
  simp only [bmore, List.foldl_nil, BitVec.allOnes_xor]
 | k + 1, i, x, hk => by
  have hi : i < l.length := by omega
  have hg : l[(i : Int).toNat]? = some l[i] := by simpa using y8 hi
  obtain ⟨b1, b2⟩ := hb l[i] (List.getElem_mem hi)
  refine Ev.succ (Ev.po (Ev.po (Ev.opt hg ?_))) (fun q => rfl)
  rw [xor8 b1 b2]
  have h255 := and255 (x ^^^ BitVec.ofInt 32 l[i])
  have hnn := u_nn ((x ^^^ BitVec.ofInt 32 l[i]) &&& 255#32)
  refine Ev.pos hnn (Ev.po (Ev.opt (zbxh (by omega)) ?_))
  rw [zbxe, xor_u, zbwn (by omega) (by omega), show ((i : Int) + 1) = ((i + 1 : Nat) : Int) by omega, zbxl]
  have := zbxm z l hb hl k (i + 1) (bentry ((x ^^^ BitVec.ofInt 32 l[i]) &&& 255#32) ^^^ (x >>> 8)) (by omega)
  rw [y10 hi]
  simp only [bmore, List.foldl_cons, bbyte, BitVec.ofNat_toNat, BitVec.setWidth_eq] at this ⊢
  exact this
theorem zbxn (x : B32) (s : Sl Int) (hb : isB s.l) (hl : s.l.length ≤ 1099511627776) : Ev (fun q => zk6 q (u x) s) (u (~~~ bmore (~~~ x) s.l)) := by
 refine Ev.succ (Ev.bind zbxk (Ev.pos (zbxi 256) ?_)) (fun q => rfl)
 rw [ones, xor_u, BitVec.allOnes_xor]
 have := zbxm s.z s.l hb hl s.l.length 0 (~~~ x) (by omega)
 rw [y38] at this
 exact this
/-- The sum of bytes. -/
def bsum (l : List Int) : B32 := ~~~ bmore (BitVec.allOnes 32) l
theorem zbxo (s : Sl Int) (hb : isB s.l) (hl : s.l.length ≤ 1099511627776) : Ev (fun q => zk7 q s) (u (bsum s.l)) := by
 have := zbxn 0#32 s hb hl
 exact Ev.succ (Ev.bind this (Ev.ret' (by simp [bsum]))) (fun q => rfl)
theorem zbxp (x : B32) (a b : List Int) : bmore (bmore x a) b = bmore x (a ++ b) := by simp [bmore]
theorem zbxq {x : Int} (h : 0 ≤ x) (k : Nat) (hk : k ≤ 64) : ishr .u64 x (k : Int) = x / ((2 ^ k : Nat) : Int) := by
 unfold ishr
 simp only [IntKind.bits, y28, Nat.min_eq_left hk]
 rw [y53 _ (by exact_mod_cast Nat.zero_le _)]
 simp
/-- A number in four bytes. -/
def fix4 (v : Nat) : List Int := [((v % 256 : Nat) : Int), ((v / 256 % 256 : Nat) : Int), ((v / 65536 % 256 : Nat) : Int), ((v / 16777216 % 256 : Nat) : Int)]
theorem zbxr (v k : Nat) (hk : k ≤ 8) : wrp .u8 (ishr .u64 (v : Int) (wrp .i64 (8 * (k : Int)))) = ((v / 2 ^ (8 * k) % 256 : Nat) : Int) := by
 rw [zbwn (by omega) (by omega), show (8 * (k : Int)) = ((8 * k : Nat) : Int) by omega, zbxq (by omega) _ (by omega), wrp_u8]
 exact_mod_cast rfl
def bytesFrom (v : Nat) : Nat → Nat → List Int
 | _, 0 => []
 | i, k + 1 => ((v / 2 ^ (8 * i) % 256 : Nat) : Int) :: bytesFrom v (i + 1) k
theorem zbxs {v m : Nat} (hm : m ≤ 8) : ∀ (k i : Nat) (l : List Int), m = i + k → l.length + k ≤ 4294967296 → Ev (fun q => zk8 q (v : Int) (m : Int) (i : Int) false l) ⟨false, true, l ++ bytesFrom v i k⟩
 | 0, i, l, hk, hl => Ev.succ (Ev.ne (Ev.ret' (by simp [bytesFrom]))) (fun q => rfl)
 | k + 1, i, l, hk, hl => by
  have w : wrp .i64 (8 * (i : Int)) = 8 * (i : Int) := zbwn (by omega) (by omega)
  refine Ev.succ (Ev.po (Ev.neg (by rw [w]; omega) (Ev.pos (by omega) ?_))) (fun q => rfl)
  rw [zbxr v i (by omega), zbwn (x := (i : Int) + 1) (by omega) (by omega), show ((i : Int) + 1) = ((i + 1 : Nat) : Int) by omega]
  refine (zbxs hm k (i + 1) _ (by omega) (by simp; omega)).cast ?_
  simp [bytesFrom]
theorem zbxt {v m : Nat} (h0 : 0 < m) (hm : m ≤ 8) : Ev (fun q => zk9 q (v : Int) (m : Int)) ⟨false, true, bytesFrom v 0 m⟩ := by
 obtain ⟨k, rfl⟩ : ∃ k, m = k + 1 := ⟨m - 1, by omega⟩
 have w : wrp .i64 (8 * ((0 : Nat) : Int)) = 0 := zbwn (by omega) (by omega)
 have key : ∀ i : Int, i = ((0 : Nat) : Int) → Ev (fun q => zk8 q (v : Int) ((k + 1 : Nat) : Int) i true []) ⟨false, true, bytesFrom v 0 (k + 1)⟩ := by
  intro i hi
  refine Ev.succ (Ev.po (Ev.neg (by rw [hi, w]; omega) (Ev.pos (by simp) ?_))) (fun q => rfl)
  rw [hi, zbxr v 0 (by omega), zbwn (x := ((0 : Nat) : Int) + 1) (by omega) (by omega), show (((0 : Nat) : Int) + 1) = ((0 + 1 : Nat) : Int) by omega]
  refine (zbxs hm k 1 _ (by omega) (by simp; omega)).cast ?_
  simp [bytesFrom]
 exact Ev.succ (key 0 rfl) (fun q => rfl)
theorem bytes4 (v : Nat) : bytesFrom v 0 4 = fix4 v := by simp [bytesFrom, fix4]
theorem zbxu {v : Nat} (h : v < 18446744073709551616) : Ev (fun q => zk9 q (v : Int) 4) ⟨false, true, fix4 v⟩ := by
 have := zbxt (v := v) (m := 4) (by omega) (by omega)
 rw [bytes4] at this; exact this
theorem zbxv (a : B32) : Ev (fun q => zla q (u a)) ⟨false, true, fix4 a.toNat⟩ := by
 have h1 := u_nn a; have h2 := u_lt a
 have e : wrp .u64 (u a) = ((a.toNat : Nat) : Int) := by rw [zbwo h1 (by omega)]; rfl
 exact Ev.succ (Ev.bind (by rw [e]; exact zbxu (by have := a.isLt; omega)) (Ev.ret _)) (fun q => rfl)
theorem zbxw (a b : Sl Int) (ha : isB a.l) (hb : isB b.l) (la : a.l.length ≤ 1099511627776) (lb : b.l.length ≤ 1099511627776) : Ev (fun q => zlb q a b) ⟨false, true, fix4 (bsum (a.l ++ b.l)).toNat⟩ := by
 have h2 := zbxn (bsum a.l) b hb lb
 have e : ~~~ bmore (~~~ bsum a.l) b.l = bsum (a.l ++ b.l) := by
  unfold bsum; rw [BitVec.not_not, zbxp]
 rw [e] at h2
 exact Ev.succ (Ev.bind (zbxo a ha la) (Ev.bind h2 (Ev.bind (zbxv _) (Ev.ret _)))) (fun q => rfl)
def flat (l : List (Sl Int)) : List Int := l.flatMap (·.l)
theorem zbxx (a : Sl Int) (b : List (Sl Int)) : flat (a :: b) = a.l ++ flat b := by simp [flat]
theorem zbxy (z0 : Bool) (L : List (Sl Int)) (z : Bool) (hL : L.length ≤ 1099511627776) : ∀ (k i : Nat) (m : Nat) (l : List Int), L.length = i + k → m + (flat (L.drop i)).length ≤ l.length →
  Ev (fun q => zlh q m z0 L (L.length : Int) (i : Int) z l) ⟨z, true, l.take m ++ flat (L.drop i)⟩
 | 0, i, m, l, hk, hl => by
  refine Ev.succ (Ev.ne (Ev.ret' ?_)) (fun q => rfl)
  rw [y13 (by omega)]; simp [flat]
 | k + 1, i, m, l, hk, hl => by
  have hi : i < L.length := by omega
  have hg : L[(i : Int).toNat]? = some L[i] := by simpa using y8 hi
  rw [y10 hi, zbxx, y11] at hl
  refine Ev.succ (Ev.po (Ev.po (Ev.opt hg (Ev.pos (by omega) ?_)))) (fun q => rfl)
  rw [zbwn (by omega) (by omega), show ((i : Int) + 1) = ((i + 1 : Nat) : Int) by omega]
  refine (zbxy z0 L z hL k (i + 1) (m + L[i].l.length) _ (by omega) ?_).cast ?_
  ·simp only [y11, y21, y14]; omega
  ·congr 1
   rw [y10 hi, zbxx, ← y33]
   congr 1
   rw [List.take_append_of_le_length (by simp only [y11, y21]; omega), List.take_of_length_le (by simp only [y11, y21]; omega)]
theorem zbxz (z0 : Bool) (L : List (Sl Int)) (hL : L.length ≤ 1099511627776) : ∀ (k i : Nat) (z : Bool) (l : List Int), L.length = i + k → l.length + (flat (L.drop i)).length ≤ 4294967296 →
  ∃ z', Ev (fun q => zli q z0 L (L.length : Int) (i : Int) z l) ⟨z', true, l ++ flat (L.drop i)⟩
 | 0, i, z, l, hk, hl => ⟨z, by
  refine Ev.succ (Ev.ne (Ev.ret' ?_)) (fun q => rfl)
  rw [y13 (by omega)]; simp [flat]⟩
 | k + 1, i, z, l, hk, hl => by
  have hi : i < L.length := by omega
  have hg : L[(i : Int).toNat]? = some L[i] := by simpa using y8 hi
  rw [y10 hi, zbxx, y11] at hl
  obtain ⟨z', h⟩ := zbxz z0 L hL k (i + 1) (z && (decide (L[i].l.length = 0))) (l ++ L[i].l) (by omega) (by simp only [y11]; omega)
  refine ⟨z', Ev.succ (Ev.po (Ev.po (Ev.opt hg (Ev.pos (by omega) ?_)))) (fun q => rfl)⟩
  rw [zbwn (by omega) (by omega), show ((i : Int) + 1) = ((i + 1 : Nat) : Int) by omega]
  refine h.cast ?_
  rw [y10 hi, zbxx]; simp
theorem zbx0 (z0 z9 : Bool) (L : List (Sl Int)) (hL : L.length ≤ 1099511627776) (hf : (flat L).length ≤ 4294967296) : ∀ (k i : Nat) (m : Nat), L.length = i + k → m + (flat (L.drop i)).length = (flat L).length →
  ∃ z', Ev (fun q => zlk q z0 L (m : Int) z9 L (L.length : Int) (i : Int)) ⟨z', true, flat L⟩
 | 0, i, m, hk, hm => by
  rw [y13 (by omega)] at hm
  have hm2 : m = (flat L).length := by simpa [flat] using hm
  have w : wrp .i64 ((m : Int) - wrp .i64 0) = (m : Int) := by rw [zbwn (x := 0) (by omega) (by omega), zbwn (by omega) (by omega)]; omega
  by_cases h0 : 0 < m
  ·refine ⟨decide (wrp .i64 ((m : Int) - wrp .i64 0) = 0), Ev.succ (Ev.ne (Ev.ne (Ev.pos (by rw [w]; omega) (Ev.pos (by rw [w]; omega) (Ev.pos (by rw [w]; omega) (Ev.neg (by rw [w]; omega) ?_)))))) (fun q => rfl)⟩
   rw [w]
   have := zbxy z0 L (decide ((m : Int) = 0)) hL L.length 0 0 (List.replicate (m : Int).toNat 0) (by omega) (by simp; omega)
   rw [y38] at this
   exact this
  ·have hnil : flat L = [] := y35 (by omega)
   match L, hk with
   | [], _ =>
    refine ⟨true, Ev.succ (Ev.neg (by simp) (Ev.neg (by omega) ?_)) (fun q => rfl)⟩
    rw [w]
    refine Ev.neg (by omega) ?_
    exact Ev.succ (g := fun _ => some ⟨true, true, []⟩) (Ev.ret' (by simp [flat])) (fun q => rfl)
   | a :: L', hk =>
    rw [zbxx] at hnil
    obtain ⟨z', h⟩ := zbxz z0 (a :: L') hL L'.length 1 (decide (a.l.length = 0)) a.l (by simp; omega) (by
     have : flat (List.drop 1 (a :: L')) = flat L' := rfl
     rw [this, ← y11, hnil]; simp)
    refine ⟨z', Ev.succ (Ev.ne (Ev.neg (by omega) ?_)) (fun q => rfl)⟩
    rw [w]
    refine Ev.ne (Ev.succ (Ev.pos (by simp) (Ev.opt (s := a) rfl (Ev.pos ?_ ?_))) (fun q => rfl))
    ·have : a.l.length ≤ (a.l ++ flat L').length := by simp
     rw [hnil] at this; simp at this; simp [this]
    ·rw [zbwn (by omega) (by omega)]
     refine h.cast ?_
     rw [zbxx]; rfl
 | k + 1, i, m, hk, hm => by
  have hi : i < L.length := by omega
  have hg : L[(i : Int).toNat]? = some L[i] := by simpa using y8 hi
  rw [y10 hi, zbxx, y11] at hm
  obtain ⟨z', h⟩ := zbx0 z0 z9 L hL hf k (i + 1) (m + L[i].l.length) (by omega) (by omega)
  refine ⟨z', Ev.succ (Ev.po (Ev.po (Ev.opt hg ?_))) (fun q => rfl)⟩
  have w : wrp .i64 ((m : Int) + (L[i].l.length : Int)) = ((m + L[i].l.length : Nat) : Int) := by rw [zbwn (by omega) (by omega)]; omega
  rw [w, zbwn (by omega) (by omega), show ((i : Int) + 1) = ((i + 1 : Nat) : Int) by omega]
  exact Ev.neg (by omega) h
theorem zbx1 (s : Sl (Sl Int)) (hL : s.l.length ≤ 1099511627776) (hf : (flat s.l).length ≤ 4294967296) : ∃ z', Ev (fun q => zll q s) ⟨z', true, flat s.l⟩ := by
 obtain ⟨z', h⟩ := zbx0 s.z s.z s.l hL hf s.l.length 0 0 (by omega) (by simp)
 exact ⟨z', Ev.succ h (fun q => rfl)⟩
theorem zbx2 : ∀ n, isB (grp n) := by
 intro n
 induction n using Nat.strongRecOn with
 | ind n ih =>
  by_cases h : n < 128
  ·rw [grp_lt h]; intro c hc; simp at hc; omega
  ·rw [grp_ge h]; intro c hc
   rcases List.mem_cons.1 hc with rfl | hc
   ·omega
   ·exact ih (n / 128) (by omega) c hc
theorem zbx3 (n : Int) : isB (put n) := by
 unfold put; split
 ·intro c hc; simp at hc
 ·split
  ·intro c hc; simp at hc
  ·exact zbx2 _
theorem zbx4 {a b : List Int} : isB (a ++ b) ↔ isB a ∧ isB b := by
 constructor
 ·intro h; exact ⟨fun c hc => h c (List.mem_append.2 (.inl hc)), fun c hc => h c (List.mem_append.2 (.inr hc))⟩
 ·rintro ⟨h1, h2⟩ c hc
  rcases List.mem_append.1 hc with h | h
  ·exact h1 c h
  ·exact h2 c h
/-- A frame. -/
def encF (l : List Int) : List Int := put (l.length : Int) ++ (l ++ fix4 (bsum (put (l.length : Int) ++ l)).toNat)
theorem zbx5 (s : Sl Int) (hb : isB s.l) (hl : s.l.length ≤ 1048576) : ∃ z, Ev (fun q => zlm q s) (⟨z, true, encF s.l⟩, 0) := by
 have hp := zbww (s.l.length : Int)
 obtain ⟨z, h⟩ := zbx1 ⟨false, [⟨false, put (s.l.length : Int)⟩, s, ⟨false, fix4 (bsum (put (s.l.length : Int) ++ s.l)).toNat⟩]⟩ (by simp) (by simp [flat, fix4]; omega)
 refine ⟨z, Ev.succ (Ev.neg (by omega) ?_) (fun q => rfl)⟩
 refine Ev.bind (zbwx ⟨true, true, []⟩ (by omega) (by omega) (by simp)) ?_
 refine Ev.bind (zbxw ⟨false, put (s.l.length : Int)⟩ s (zbx3 (s.l.length : Int)) hb (by simp only; omega) (by omega)) ?_
 refine Ev.bind h ?_
 exact Ev.ret' (by simp [encF, flat])
theorem zbx6 {l : List Int} (h : isB l) (n : Nat) : isB (l.take n) := fun c hc => h c (y44 hc)
theorem zbx7 {l : List Int} (h : isB l) (n : Nat) : isB (l.drop n) := fun c hc => h c (y52 hc)
theorem zbx8 (s : Sl Int) (hz : s.z = false) (hl : s.l.length ≤ 4294967296) : Ev (fun q => zj4 q s) ⟨false, true, s.l⟩ :=
 Ev.succ (Ev.neg (by simp [hz]) (Ev.pos hl (Ev.ret _))) (fun q => rfl)
def cutsB (l : List Int) : Prop := ∀ n ∈ l, n = cutI n
instance (l : List Int) : Decidable (cutsB l) := by unfold cutsB; infer_instance
theorem zbx9 (n : Int) : Ev (fun q => zju q n) (!(decide (n = cutI n))) := Ev.succ (Ev.bind (zbw2 n) (Ev.ret _)) (fun q => rfl)
theorem zbya (z : Bool) (L : List Int) (h0 : Int) (h1z : Bool) (h1l : List Int) (h2 : Bool) (h3 : Int) (hL : L.length ≤ 1000000) : ∀ (k i : Nat), L.length = i + k →
  ∃ r, Ev (fun q => zjx q z L (L.length : Int) (i : Int) h0 h1z h1l h2 h3) r ∧ (0 ≤ r ↔ ¬ cutsB (L.drop i))
 | 0, i, hk => by
  refine ⟨-1, Ev.succ (Ev.ne (Ev.ret _)) (fun q => rfl), ?_⟩
  rw [y13 (by omega)]; simp [cutsB]
 | k + 1, i, hk => by
  have hi : i < L.length := by omega
  have he : L[((i : Int)).toNat]? = some L[i] := by simp [hi]
  have hd := y10 hi
  by_cases h : L[i] = cutI L[i]
  ·obtain ⟨r, hr, hi2⟩ := zbya z L h0 h1z h1l h2 h3 hL k (i + 1) (by omega)
   rw [show ((i + 1 : Nat) : Int) = wrp .i64 ((i : Int) + 1) by rw [zbwn (by omega) (by omega)]; omega] at hr
   refine ⟨r, Ev.succ (Ev.po (Ev.po (Ev.opt he (Ev.bind (zbx9 _) (Ev.neg (by simpa using h) hr))))) (fun q => rfl), ?_⟩
   rw [hi2, hd]; unfold cutsB; simp only [List.mem_cons, forall_eq_or_imp]
   exact ⟨fun a b => a b.2, fun a b => a ⟨h, b⟩⟩
  ·refine ⟨i, Ev.succ (Ev.po (Ev.po (Ev.opt he (Ev.bind (zbx9 _) (Ev.pos (by simpa using h) (Ev.ret _)))))) (fun q => rfl), ?_⟩
   rw [hd]; unfold cutsB; simp only [List.mem_cons, forall_eq_or_imp]
   exact ⟨fun _ b => h b.1, fun _ => by omega⟩
theorem zbyb (z : Bool) (L : List Int) (h0 : Int) (h1z : Bool) (h1l : List Int) (h2 : Bool) (h3 : Int) (hL : L.length ≤ 1000000) : ∃ r, Ev (fun q => zjy q z L h0 h1z h1l h2 h3) r ∧ (0 ≤ r ↔ ¬ cutsB L) := by
 obtain ⟨r, h, h4⟩ := zbya z L h0 h1z h1l h2 h3 hL L.length 0 (by omega)
 exact ⟨r, Ev.succ h (fun q => rfl), by simpa using h4⟩
def prs (least : Int) : Int → List Int → Bool
 | last, a :: b :: t => decide (last < a) && (decide (a ≤ 255) && (decide (least ≤ b) && (decide (b ≤ 1099511627776) && prs least a t)))
 | _, _ => true
def pairsOk (least : Int) (l : List Int) : Bool := prs least (-1) l && (decide (l.length % 2 = 0) && decide (l.length ≤ 128))
theorem zbyc (z : Bool) (L : List Int) (least : Int) (hL : L.length ≤ 1000000) : ∀ (k i : Nat) (last : Int), L.length ≤ i + 2 * k → i ≤ 2000000 →
  Ev (fun q => zjv q z L least last (i : Int)) (prs least last (L.drop i) && (decide (L.length % 2 = 0) && decide (L.length ≤ 128)))
 | k, i, last, hk, hi9 => by
  have w1 : wrp .i64 ((i : Int) + 1) = ((i + 1 : Nat) : Int) := by rw [zbwn (by omega) (by omega)]; omega
  have w2 : wrp .i64 ((i : Int) + 2) = ((i + 2 : Nat) : Int) := by rw [zbwn (by omega) (by omega)]; omega
  by_cases h : i + 1 < L.length
  ·cases k with
   | zero => omega
   | succ k =>
    have he : L[((i : Int)).toNat]? = some L[i] := by rw [y28]; exact y8 (by omega)
    have he2 : L[(wrp .i64 ((i : Int) + 1)).toNat]? = some L[i + 1] := by rw [w1, y28]; exact y8 h
    have hd : L.drop i = L[i] :: L[i + 1] :: L.drop (i + 2) := by rw [y10 (by omega), y10 h]
    rw [hd]
    simp only [prs]
    refine Ev.succ (Ev.pos (by rw [w1]; omega) (Ev.po (Ev.opt he (Ev.ite (fun c => Ev.ret' ?_) fun c => Ev.ite (fun c2 => Ev.ret' ?_) fun c2 => Ev.pos (by rw [w1]; omega) (Ev.opt he2 (Ev.ite (fun c3 => Ev.ret' ?_) fun c3 => Ev.ite (fun c4 => Ev.ret' ?_) fun c4 => ?_)))))) (fun q => rfl)
    ·rw [decide_eq_false (show ¬ last < L[i] by omega)]; rfl
    ·rw [decide_eq_false (show ¬ L[i] ≤ 255 by omega)]; simp
    ·rw [decide_eq_false (show ¬ least ≤ L[i + 1] by omega)]; simp
    ·rw [decide_eq_false (show ¬ L[i + 1] ≤ 1099511627776 by omega)]; simp
    ·rw [decide_eq_true (show last < L[i] by omega), decide_eq_true (show L[i] ≤ 255 by omega), decide_eq_true (show least ≤ L[i + 1] by omega), decide_eq_true (show L[i + 1] ≤ 1099511627776 by omega), w2]
     simp only [y61]
     exact zbyc z L least hL k (i + 2) L[i] (by omega) (by omega)
  ·have hp : prs least last (L.drop i) = true := by
    have hl : (L.drop i).length ≤ 1 := by rw [y14]; omega
    generalize L.drop i = X at hl
    match X, hl with
    | [], _ => rfl
    | [a], _ => rfl
   rw [hp, y61]
   have ht : Int.tmod (L.length : Int) 2 = ((L.length % 2 : Nat) : Int) := by rw [y59 (by omega)]; omega
   refine Ev.succ (Ev.neg (by rw [w1]; omega) (Ev.ite (fun c => Ev.ret' ?_) fun c => Ev.ret' ?_)) (fun q => rfl)
   ·rw [ht] at c
    rw [decide_eq_true (show L.length % 2 = 0 by omega), y61]
    by_cases h4 : L.length ≤ 128
    ·rw [decide_eq_true h4, decide_eq_true (by omega)]
    ·rw [decide_eq_false h4, decide_eq_false (by omega)]
   ·rw [ht] at c
    rw [decide_eq_false (show ¬ L.length % 2 = 0 by omega)]; rfl
theorem zbyd (s : Sl Int) (least : Int) (hL : s.l.length ≤ 1000000) : Ev (fun q => zjw q s least) (pairsOk least s.l) := by
 have := zbyc s.z s.l least hL s.l.length 0 (-1) (by omega) (by omega)
 exact Ev.succ this (fun q => rfl)
theorem zbye (z : Bool) (L : List Int) (least : Int) (hL : L.length ≤ 1000000) (h2 : L.length % 2 = 0) : ∀ (k i : Nat) (last : Int), L.length ≤ i + 2 * k → i ≤ 2000000 → i % 2 = 0 → (∀ e, 0 < i → L[i - 2]? = some e → e = last ∧ 0 ≤ last) → (i = 0 → last = -1) →
  Ev (fun q => zkg q z L least (i : Int)) (prs least last (L.drop i))
 | k, i, last, hk, hi9, hi2, hla, hl0 => by
  have w1 : wrp .i64 ((i : Int) + 1) = ((i + 1 : Nat) : Int) := by rw [zbwn (by omega) (by omega)]; omega
  have w2 : wrp .i64 ((i : Int) + 2) = ((i + 2 : Nat) : Int) := by rw [zbwn (by omega) (by omega)]; omega
  by_cases h : i < L.length
  ·have h' : i + 1 < L.length := by omega
   cases k with
   | zero => omega
   | succ k =>
    have he : L[((i : Int)).toNat]? = some L[i] := by rw [y28]; exact y8 (by omega)
    have he2 : L[(wrp .i64 ((i : Int) + 1)).toNat]? = some L[i + 1] := by rw [w1, y28]; exact y8 h'
    have hd : L.drop i = L[i] :: L[i + 1] :: L.drop (i + 2) := by rw [y10 (by omega), y10 h']
    rw [hd]
    simp only [prs]
    have tail : last < L[i] → ¬ L[i] < 0 → ¬ 255 < L[i] → Ev (fun q => if 0 ≤ (wrp .i64 ((i : Int) + 1)) then ((L[(wrp .i64 ((i : Int) + 1)).toNat]?).bind fun e4 => (if e4 < least then (some false) else (if 1099511627776 < e4 then (some false) else (zkg q z L least (wrp .i64 ((i : Int) + 2)))))) else none) (decide (last < L[i]) && (decide (L[i] ≤ 255) && (decide (least ≤ L[i + 1]) && (decide (L[i + 1] ≤ 1099511627776) && prs least L[i] (L.drop (i + 2)))))) := fun c0 c1 c2 => by
     rw [decide_eq_true c0, decide_eq_true (show L[i] ≤ 255 by omega)]
     refine Ev.pos (by rw [w1]; omega) (Ev.opt he2 (Ev.ite (fun c3 => Ev.ret' ?_) fun c3 => Ev.ite (fun c4 => Ev.ret' ?_) fun c4 => ?_))
     ·rw [decide_eq_false (show ¬ least ≤ L[i + 1] by omega)]; simp
     ·rw [decide_eq_false (show ¬ L[i + 1] ≤ 1099511627776 by omega)]; simp
     ·rw [decide_eq_true (show least ≤ L[i + 1] by omega), decide_eq_true (show L[i + 1] ≤ 1099511627776 by omega), w2]
      simp only [y61]
      refine zbye z L least hL h2 k (i + 2) L[i] (by omega) (by omega) (by omega) (fun e _ hx => ?_) (by omega)
      rw [Nat.add_sub_cancel, y8 h] at hx
      simp only [y5] at hx
      exact ⟨hx.symm, by omega⟩
    refine Ev.succ (Ev.po (Ev.po (Ev.opt he (Ev.ite (fun c => Ev.ret' ?_) fun c => Ev.ite (fun c2 => Ev.ret' ?_) fun c2 => Ev.ite (fun c3 => ?_) fun c3 => ?_)))) (fun q => rfl)
    ·by_cases h0 : 0 < i
     ·have := (hla L[i - 2] h0 (y8 (by omega))).2
      rw [decide_eq_false (show ¬ last < L[i] by omega)]; rfl
     ·rw [decide_eq_false (show ¬ last < L[i] by have := hl0 (by omega); omega)]; rfl
    ·rw [decide_eq_false (show ¬ L[i] ≤ 255 by omega)]; simp
    ·have w3 : wrp .i64 ((i : Int) - 2) = ((i - 2 : Nat) : Int) := by rw [zbwn (by omega) (by omega)]; omega
     have he3 : L[(wrp .i64 ((i : Int) - 2)).toNat]? = some L[i - 2] := by rw [w3, y28]; exact y8 (by omega)
     have hq := hla L[i - 2] (by omega) (y8 (by omega))
     refine Ev.pos (by rw [w3]; omega) (Ev.opt he3 (Ev.ite (fun c4 => Ev.ret' ?_) fun c4 => tail (by omega) c c2))
     rw [decide_eq_false (show ¬ last < L[i] by omega)]; rfl
    ·exact tail (by have := hl0 (by omega); omega) c c2
  ·rw [y13 (by omega)]
   exact Ev.succ (Ev.ne (Ev.ret _)) (fun q => rfl)
theorem zbyf (s : Sl Int) (least : Int) (hL : s.l.length ≤ 1000000) : Ev (fun q => zkh q s least) (pairsOk least s.l) := by
 have ht : Int.tmod (s.l.length : Int) 2 = ((s.l.length % 2 : Nat) : Int) := by rw [y59 (by omega)]; omega
 unfold pairsOk
 refine Ev.succ (Ev.ite (fun c => Ev.ite (fun c2 => Ev.ret' ?_) fun c2 => ?_) fun c => Ev.ret' ?_) (fun q => rfl)
 ·rw [decide_eq_false (show ¬ s.l.length ≤ 128 by omega)]; simp
 ·rw [ht] at c
  rw [decide_eq_true (show s.l.length ≤ 128 by omega), decide_eq_true (show s.l.length % 2 = 0 by omega)]
  have := zbye s.z s.l least hL (by omega) s.l.length 0 (-1) (by omega) (by omega) (by omega) (fun e h => by omega) (fun _ => rfl)
  refine Ev.cast this ?_
  simp
 ·rw [ht] at c
  rw [decide_eq_false (show ¬ s.l.length % 2 = 0 by omega)]; simp
def kindOk (k : Int) (l : List Int) : Bool :=
 if k = 0 ∨ k = 1 then decide (l.length = 1 ∧ cutsB l) else if k = 2 ∨ k = 3 then decide (l.length ≤ 64 ∧ cutsB l) else if k = 4 then pairsOk (-1099511627776) l else if k = 5 then pairsOk 0 l else false
def mayS (s : zjm) : Bool := if s.To < 0 then false else if 3 ≤ s.To then false else if s.Sealed = true then kindOk s.Kind s.L.l else if s.To = 0 then kindOk s.Kind s.L.l else false
theorem zbyg (s : zjm) (hL : s.L.l.length ≤ 1000000) : Ev (fun q => ((zjy q s.L.z s.L.l s.Kind s.L.z s.L.l s.Sealed s.To).bind fun r1 => (if s.Kind = 0 then (if (s.L.l.length : Int) = 1 then (some (!(decide (0 ≤ r1)))) else (some false)) else (if s.Kind = 1 then (if (s.L.l.length : Int) = 1 then (some (!(decide (0 ≤ r1)))) else (some false)) else (if s.Kind = 2 then (if (s.L.l.length : Int) ≤ 64 then (some (!(decide (0 ≤ r1)))) else (some false)) else (if s.Kind = 3 then (if (s.L.l.length : Int) ≤ 64 then (some (!(decide (0 ≤ r1)))) else (some false)) else (if s.Kind = 4 then ((zjw q s.L (-1099511627776)).bind fun r2 => (some r2)) else (if s.Kind = 5 then ((zjw q s.L 0).bind fun r3 => (some r3)) else (some false))))))))) (kindOk s.Kind s.L.l) := by
 obtain ⟨r, h, hr⟩ := zbyb s.L.z s.L.l s.Kind s.L.z s.L.l s.Sealed s.To hL
 have one : ∀ {P : Prop} [Decidable P], P → Ev (fun _ : Nat => (some (!(decide (0 ≤ r))) : Option Bool)) (decide (P ∧ cutsB s.L.l)) := fun {P} _ hp => Ev.ret' (by
  by_cases hc : cutsB s.L.l
  ·rw [decide_eq_false (fun e => hr.1 e hc)]; symm; simp only [Bool.not_false, decide_eq_true_eq]; exact ⟨hp, hc⟩
  ·rw [decide_eq_true (hr.2 hc)]; symm; simp only [Bool.not_true, decide_eq_false_iff_not]; exact fun e => hc e.2)
 have no : ∀ {P : Prop} [Decidable P], ¬ P → Ev (fun _ : Nat => (some false : Option Bool)) (decide (P ∧ cutsB s.L.l)) := fun {P} _ hp => Ev.ret' (by
  symm; simp only [decide_eq_false_iff_not]; exact fun e => hp e.1)
 refine Ev.bind h ?_
 unfold kindOk
 by_cases k0 : s.Kind = 0
 ·rw [if_pos (show s.Kind = 0 ∨ s.Kind = 1 from .inl k0)]
  by_cases hl : s.L.l.length = 1
  ·exact Ev.pos k0 (Ev.po (one hl))
  ·exact Ev.pos k0 (Ev.ne (no hl))
 by_cases k1 : s.Kind = 1
 ·rw [if_pos (show s.Kind = 0 ∨ s.Kind = 1 from .inr k1)]
  by_cases hl : s.L.l.length = 1
  ·exact Ev.neg k0 (Ev.pos k1 (Ev.po (one hl)))
  ·exact Ev.neg k0 (Ev.pos k1 (Ev.ne (no hl)))
 rw [if_neg (show ¬ (s.Kind = 0 ∨ s.Kind = 1) by omega)]
 by_cases k2 : s.Kind = 2
 ·rw [if_pos (show s.Kind = 2 ∨ s.Kind = 3 from .inl k2)]
  by_cases hl : s.L.l.length ≤ 64
  ·exact Ev.neg k0 (Ev.neg k1 (Ev.pos k2 (Ev.po (one hl))))
  ·exact Ev.neg k0 (Ev.neg k1 (Ev.pos k2 (Ev.ne (no hl))))
 by_cases k3 : s.Kind = 3
 ·rw [if_pos (show s.Kind = 2 ∨ s.Kind = 3 from .inr k3)]
  by_cases hl : s.L.l.length ≤ 64
  ·exact Ev.neg k0 (Ev.neg k1 (Ev.neg k2 (Ev.pos k3 (Ev.po (one hl)))))
  ·exact Ev.neg k0 (Ev.neg k1 (Ev.neg k2 (Ev.pos k3 (Ev.ne (no hl)))))
 rw [if_neg (show ¬ (s.Kind = 2 ∨ s.Kind = 3) by omega)]
 refine Ev.neg k0 (Ev.neg k1 (Ev.neg k2 (Ev.neg k3 (Ev.ite (fun k4 => ?_) fun k4 => Ev.ite (fun k5 => ?_) fun k5 => ?_))))
 ·rw [if_pos k4]; exact Ev.bind (zbyd _ _ hL) (Ev.ret _)
 ·rw [if_neg k4, if_pos k5]; exact Ev.bind (zbyd _ _ hL) (Ev.ret _)
 ·rw [if_neg k4, if_neg k5]; exact Ev.ret _
theorem zbyh (s : zjm) (hL : s.L.l.length ≤ 1000000) : Ev (fun q => zjz q s) (mayS s) := by
 have hb := zbyg s hL
 unfold mayS
 refine Ev.succ (Ev.ite (fun h => ?_) fun h => Ev.ite (fun h2 => ?_) fun h2 => Ev.ite (fun h3 => ?_) fun h3 => Ev.ite (fun h4 => ?_) fun h4 => ?_) (fun q => rfl)
 ·rw [if_pos h]; exact Ev.ret _
 ·rw [if_neg h, if_pos h2]; exact Ev.ret _
 ·rw [if_neg h, if_neg h2, if_pos h3]; exact hb
 ·rw [if_neg h, if_neg h2, if_neg h3, if_pos h4]; exact hb
 ·rw [if_neg h, if_neg h2, if_neg h3, if_neg h4]; exact Ev.ret _
theorem zbyi (h0 : Int) (z : Bool) (L : List Int) (h2 : Bool) (h3 : Int) (hL : L.length ≤ 1000000) : ∀ (k i : Nat), L.length = i + k →
  ∃ r, Ev (fun q => zkj q (i : Int) h0 z L h2 h3) r ∧ (r = true ↔ cutsB (L.drop i))
 | 0, i, hk => by
  refine ⟨true, Ev.succ (Ev.ne (Ev.ret _)) (fun q => rfl), ?_⟩
  rw [y13 (by omega)]; simp [cutsB]
 | k + 1, i, hk => by
  have hi : i < L.length := by omega
  have he : L[((i : Int)).toNat]? = some L[i] := by simp [hi]
  have hd := y10 hi
  by_cases h : L[i] = cutI L[i]
  ·obtain ⟨r, hr, hi2⟩ := zbyi h0 z L h2 h3 hL k (i + 1) (by omega)
   rw [show ((i + 1 : Nat) : Int) = wrp .i64 ((i : Int) + 1) by rw [zbwn (by omega) (by omega)]; omega] at hr
   refine ⟨r, Ev.succ (Ev.po (Ev.po (Ev.opt he (Ev.bind (zbw3 _) (Ev.pos h hr))))) (fun q => rfl), ?_⟩
   rw [hi2, hd]; unfold cutsB; simp only [List.mem_cons, forall_eq_or_imp]
   exact ⟨fun a => ⟨h, a⟩, fun a => a.2⟩
  ·refine ⟨false, Ev.succ (Ev.po (Ev.po (Ev.opt he (Ev.bind (zbw3 _) (Ev.neg h (Ev.ret _)))))) (fun q => rfl), ?_⟩
   rw [hd]
   exact ⟨fun e => (by cases e), fun a => absurd (a _ y32) h⟩
theorem zbyj (s : zjm) (hL : s.L.l.length ≤ 1000000) : Ev (fun q => (if s.Kind < 0 then (some false) else (if 6 ≤ s.Kind then (some false) else (if s.Kind = 4 then ((zkh q s.L (-1099511627776)).bind fun r1 => (some r1)) else (if s.Kind = 5 then ((zkh q s.L 0).bind fun r2 => (some r2)) else (if 64 < (s.L.l.length : Int) then (some false) else (if (s.L.l.length : Int) = 1 then (zkj q 0 s.Kind s.L.z s.L.l s.Sealed s.To) else (if s.Kind ≤ 1 then (some false) else (zkj q 0 s.Kind s.L.z s.L.l s.Sealed s.To))))))))) (kindOk s.Kind s.L.l) := by
 obtain ⟨r, h, hr⟩ := zbyi s.Kind s.L.z s.L.l s.Sealed s.To hL s.L.l.length 0 (by omega)
 rw [y38] at hr
 have one : ∀ {P : Prop} [Decidable P], P → r = (decide (P ∧ cutsB s.L.l)) := fun {P} _ hp => by
  by_cases hc : cutsB s.L.l
  ·rw [hr.2 hc]; symm; simp only [decide_eq_true_eq]; exact ⟨hp, hc⟩
  ·have : r = false := by cases r; rfl; exact absurd (hr.1 rfl) hc
   rw [this]; symm; simp only [decide_eq_false_iff_not]; exact fun e => hc e.2
 have no : ∀ {P : Prop} [Decidable P], ¬ P → false = (decide (P ∧ cutsB s.L.l)) := fun {P} _ hp => by
  symm; simp only [decide_eq_false_iff_not]; exact fun e => hp e.1
 unfold kindOk
 refine Ev.ite (fun c => Ev.ret' ?_) fun c => Ev.ite (fun c2 => Ev.ret' ?_) fun c2 => Ev.ite (fun k4 => ?_) fun k4 => Ev.ite (fun k5 => ?_) fun k5 => ?_
 ·rw [if_neg (show ¬ (s.Kind = 0 ∨ s.Kind = 1) by omega), if_neg (show ¬ (s.Kind = 2 ∨ s.Kind = 3) by omega), if_neg (show ¬ s.Kind = 4 by omega), if_neg (show ¬ s.Kind = 5 by omega)]
 ·rw [if_neg (show ¬ (s.Kind = 0 ∨ s.Kind = 1) by omega), if_neg (show ¬ (s.Kind = 2 ∨ s.Kind = 3) by omega), if_neg (show ¬ s.Kind = 4 by omega), if_neg (show ¬ s.Kind = 5 by omega)]
 ·rw [if_neg (show ¬ (s.Kind = 0 ∨ s.Kind = 1) by omega), if_neg (show ¬ (s.Kind = 2 ∨ s.Kind = 3) by omega), if_pos k4]; exact Ev.bind (zbyf _ _ hL) (Ev.ret _)
 ·rw [if_neg (show ¬ (s.Kind = 0 ∨ s.Kind = 1) by omega), if_neg (show ¬ (s.Kind = 2 ∨ s.Kind = 3) by omega), if_neg k4, if_pos k5]; exact Ev.bind (zbyf _ _ hL) (Ev.ret _)
 ·by_cases k01 : s.Kind = 0 ∨ s.Kind = 1
  ·rw [if_pos k01]
   refine Ev.ite (fun c3 => Ev.ret' ?_) fun c3 => Ev.ite (fun c4 => Ev.cast h ?_) fun c4 => Ev.po (Ev.ret' ?_)
   ·exact no (by omega)
   ·exact one (by omega)
   ·exact no (by omega)
  ·rw [if_neg k01, if_pos (show s.Kind = 2 ∨ s.Kind = 3 by omega)]
   refine Ev.ite (fun c3 => Ev.ret' ?_) fun c3 => Ev.ite (fun c4 => Ev.cast h ?_) fun c4 => Ev.ne (Ev.cast h ?_)
   ·exact no (by omega)
   ·exact one (by omega)
   ·exact one (by omega)
theorem zbyk (s : zjm) (hL : s.L.l.length ≤ 1000000) : Ev (fun q => zkk q s) (mayS s) := by
 have hb := zbyj s hL
 unfold mayS
 refine Ev.succ (Ev.ite (fun h => ?_) fun h => Ev.ite (fun h2 => ?_) fun h2 => Ev.ite (fun h3 => ?_) fun h3 => Ev.ite (fun h4 => ?_) fun h4 => ?_) (fun q => rfl)
 ·rw [if_pos h]; exact Ev.ret _
 ·rw [if_neg h, if_pos (by omega)]; exact Ev.ret _
 ·rw [if_neg h, if_neg (by omega), if_pos h3]; exact hb
 ·rw [if_neg h, if_neg (by omega), if_neg h3, if_pos h4]; exact hb
 ·rw [if_neg h, if_neg (by omega), if_neg h3, if_neg h4]; exact Ev.ret _
def entOk (e : zjn) : Bool := decide (0 ≤ e.Proc) && (decide (e.Proc ≤ 64) && (decide (0 ≤ e.Seq) && (decide (e.Seq < 4611686018427387904) && (decide (-1125899906842624 ≤ e.Resp) && decide (e.Resp ≤ 1125899906842624)))))
theorem zbyl (e : zjn) : Ev (fun q => zj0 q e) (entOk e) := by
 unfold entOk
 exact Ev.succ (Ev.ite (fun h1 => Ev.ite (fun h2 => Ev.ite (fun h3 => Ev.ite (fun h4 => Ev.ite (fun h5 => Ev.ret' (by simp [*])) fun h5 => Ev.ret' (by simp [*])) fun h4 => Ev.ret' (by simp [*])) fun h3 => Ev.ret' (by simp [*])) fun h2 => Ev.ret' (by simp [*])) fun h1 => Ev.ret' (by simp [*])) (fun q => rfl)
def tabB : Int → List zjn → Bool
 | _, [] => true
 | last, e :: t => entOk e && (decide (last < e.Proc) && tabB e.Proc t)
theorem zbym (z z2 : Bool) (L : List zjn) (hL : L.length ≤ 1000000) : ∀ (k i : Nat) (last : Int), L.length = i + k → (∀ e, 0 < i → L[i - 1]? = some e → e.Proc = last) → (i = 0 → last = -1) →
  Ev (fun q => zj1 q z L z2 L (L.length : Int) (i : Int)) (tabB last (L.drop i))
 | 0, i, last, hk, h1, h0 => by
  refine Ev.succ (Ev.ne (Ev.ret' ?_)) (fun q => rfl)
  rw [y13 (by omega)]; rfl
 | k + 1, i, last, hk, h1, h0 => by
  have hi : i < L.length := by omega
  have he : L[((i : Int)).toNat]? = some L[i] := by simp [hi]
  rw [y10 hi]
  simp only [tabB]
  have w1 : wrp .i64 ((i : Int) + 1) = ((i + 1 : Nat) : Int) := by rw [zbwn (by omega) (by omega)]; omega
  have ih := zbym z z2 L hL k (i + 1) L[i].Proc (by omega) (fun e _ hx => by
   rw [Nat.add_sub_cancel, y8 hi] at hx
   simp only [y5] at hx; rw [hx]) (by omega)
  refine Ev.succ (Ev.po (Ev.po (Ev.opt he (Ev.bind (zbyl _) (Ev.ite (fun c => Ev.ite (fun c2 => ?_) fun c2 => ?_) fun c => Ev.ret' ?_))))) (fun q => rfl)
  ·have w3 : wrp .i64 ((i : Int) - 1) = ((i - 1 : Nat) : Int) := by rw [zbwn (by omega) (by omega)]; omega
   have he3 : L[(wrp .i64 ((i : Int) - 1)).toNat]? = some L[i - 1] := by rw [w3, y28]; exact y8 (by omega)
   have hq := h1 L[i - 1] (by omega) (y8 (by omega))
   refine Ev.pos (by rw [w3]; omega) (Ev.opt he3 (Ev.ite (fun c4 => Ev.ret' ?_) fun c4 => ?_))
   ·rw [c, decide_eq_false (show ¬ last < L[i].Proc by omega)]; rfl
   ·rw [c, decide_eq_true (show last < L[i].Proc by omega), w1]; simpa using ih
  ·have := h0 (by omega)
   have hp : 0 ≤ L[i].Proc := by unfold entOk at c; simp only [y7, decide_eq_true_eq] at c; exact c.1
   rw [c, decide_eq_true (show last < L[i].Proc by omega), w1]; simpa using ih
  ·simp only [Bool.not_eq_true] at c; rw [c]; rfl
theorem zbyn (s : Sl zjn) (hL : s.l.length ≤ 1000000) : Ev (fun q => zj2 q s) (tabB (-1) s.l) :=
 Ev.succ (zbym s.z s.z s.l hL s.l.length 0 (-1) (by omega) (fun e h => by omega) (fun _ => rfl)) (fun q => rfl)
def mayN (s : zjo) : Bool := decide (0 ≤ s.Index) && (decide (s.Index < 4611686018427387904) && (mayS s.State && tabB (-1) s.Table.l))
theorem zbyo (s : zjo) (h1 : s.State.L.l.length ≤ 1000000) (h2 : s.Table.l.length ≤ 1000000) : Ev (fun q => zj3 q s) (mayN s) := by
 unfold mayN
 refine Ev.succ (Ev.ite (fun c1 => Ev.ite (fun c2 => Ev.bind (zbyh _ h1) (Ev.ite (fun c3 => Ev.bind (zbyn _ h2) (Ev.ret' ?_)) fun c3 => Ev.ret' ?_)) fun c2 => Ev.ret' ?_) fun c1 => Ev.ret' ?_) (fun q => rfl)
 ·simp [c1, c2, c3]
 ·simp [c3]
 ·simp [c2]
 ·simp [c1]
instance : DecidableEq zjn := fun a b => if h : a.Proc = b.Proc ∧ a.Seq = b.Seq ∧ a.Resp = b.Resp then isTrue (by cases a; cases b; simp_all) else isFalse (fun e => h (by rw [e]; exact ⟨rfl, rfl, rfl⟩))
theorem zbyp {a b : zjn} (h1 : a.Proc = b.Proc) (h2 : a.Seq = b.Seq) (h3 : a.Resp = b.Resp) : a = b := by cases a; cases b; simp_all
theorem zbyq (s : Sl Int) (hz : s.z = true → s.l = []) (hl : s.l.length ≤ 4294967296) : ∃ z, Ev (fun q => zj4 q s) ⟨z, true, s.l⟩ := by
 by_cases h : s.z = true
 ·exact ⟨true, Ev.succ (Ev.pos h (Ev.ret' (by rw [hz h]))) (fun q => rfl)⟩
 ·exact ⟨false, Ev.succ (Ev.neg h (Ev.pos hl (Ev.ret _))) (fun q => rfl)⟩
theorem Few_ev (s : zjo) : Ev (fun q => zkf q s) (decide (s.State.L.l.length ≤ 300 ∧ s.Table.l.length ≤ 100)) := by
 have h4 : Ev (fun q => zke q s.State) (decide ((s.State.L.l.length : Int) ≤ 300)) := Ev.succ (g := fun _ => some (decide ((s.State.L.l.length : Int) ≤ 300))) (Ev.ret _) (fun q => rfl)
 refine Ev.succ (Ev.bind h4 (Ev.ite (fun h => Ev.ret' ?_) fun h => Ev.ret' ?_)) (fun q => rfl)
 ·simp only [decide_eq_true_eq] at h
  by_cases c : s.Table.l.length ≤ 100
  ·rw [decide_eq_true (by omega), decide_eq_true ⟨by omega, c⟩]
  ·rw [decide_eq_false (by omega), decide_eq_false (fun e => c e.2)]
 ·simp only [decide_eq_true_eq] at h
  rw [decide_eq_false (fun e => h (by omega))]
theorem zbyr {least : Int} : ∀ {l : List Int} {last : Int}, prs least last l = true → l.length % 2 = 0 → -1 ≤ last → -1099511627776 ≤ least → ∀ x ∈ l, -1099511627776 ≤ x ∧ x ≤ 1099511627776
 | [], last, h, h2, h3, h4, x, hx => by cases hx
 | [a], last, h, h2, h3, h4, x, hx => by simp at h2
 | a :: b :: t, last, h, h2, h3, h4, x, hx => by
  simp only [prs, y7, decide_eq_true_eq] at h
  simp only [y22] at h2
  rcases List.mem_cons.1 hx with e | e
  ·omega
  ·rcases List.mem_cons.1 e with e | e
   ·omega
   ·exact zbyr h.2.2.2.2 (by omega) (by omega) h4 x e
theorem zbys {l : List Int} (h : cutsB l) : ∀ x ∈ l, -1099511627776 ≤ x ∧ x ≤ 1099511627776 := fun x hx => zbw6.1 (h x hx)
theorem zbyt {k : Int} {l : List Int} (h : kindOk k l = true) : 0 ≤ k ∧ k ≤ 5 ∧ l.length ≤ 128 ∧ ∀ x ∈ l, -1099511627776 ≤ x ∧ x ≤ 1099511627776 := by
 unfold kindOk at h
 split at h
 ·simp only [decide_eq_true_eq] at h; exact ⟨by omega, by omega, by omega, zbys h.2⟩
 ·split at h
  ·simp only [decide_eq_true_eq] at h; exact ⟨by omega, by omega, by omega, zbys h.2⟩
  ·split at h
   ·simp only [pairsOk, y7, decide_eq_true_eq] at h; exact ⟨by omega, by omega, by omega, zbyr h.1 h.2.1 (by omega) (by omega)⟩
   ·split at h
    ·simp only [pairsOk, y7, decide_eq_true_eq] at h; exact ⟨by omega, by omega, by omega, zbyr h.1 h.2.1 (by omega) (by omega)⟩
    ·cases h
theorem zbyu {s : zjm} (h : mayS s = true) : 0 ≤ s.To ∧ s.To ≤ 2 ∧ (s.Sealed = false → s.To = 0) ∧ kindOk s.Kind s.L.l = true := by
 unfold mayS at h
 split at h
 ·cases h
 ·split at h
  ·cases h
  ·split at h
   ·rename_i h1 h2 h3; exact ⟨by omega, by omega, fun e => (by rw [e] at h3; cases h3), h⟩
   ·split at h
    ·rename_i h1 h2 h3 h4; exact ⟨by omega, by omega, fun _ => h4, h⟩
    ·cases h
theorem zbyv {e : zjn} (h : entOk e = true) : 0 ≤ e.Proc ∧ e.Proc ≤ 64 ∧ 0 ≤ e.Seq ∧ e.Seq < 4611686018427387904 ∧ -1125899906842624 ≤ e.Resp ∧ e.Resp ≤ 1125899906842624 := by
 simpa only [entOk, y7, decide_eq_true_eq] using h
theorem zbyw : ∀ {t : List zjn} {last : Int}, tabB last t = true → ∀ e ∈ t, entOk e = true
 | [], last, h, e, he => by cases he
 | a :: t, last, h, e, he => by
  simp only [tabB, y7] at h
  rcases List.mem_cons.1 he with r | r
  ·rw [r]; exact h.1
  ·exact zbyw h.2.2 e r
theorem zbyx {s : zjo} (h : mayN s = true) : 0 ≤ s.Index ∧ s.Index < 4611686018427387904 ∧ mayS s.State = true ∧ tabB (-1) s.Table.l = true := by
 simpa only [mayN, y7, decide_eq_true_eq] using h
/-- A table has at most 65 entries. -/
theorem zbyy : ∀ {t : List zjn} {last : Int}, tabB last t = true → -1 ≤ last → (t.length : Int) + last ≤ 64 ∨ t = []
 | [], last, h, h1 => .inr rfl
 | a :: t, last, h, h1 => by
  simp only [tabB, y7, decide_eq_true_eq] at h
  have ha := zbyv h.1
  rcases zbyy h.2.2 (by omega) with e | e
  ·left; rw [y22]; omega
  ·left; rw [e]; simp only [y22, y26]; omega
def sealN (s : zjm) : Int := if s.Sealed = true then s.To + 1 else 0
def numsB (l : List Int) : List Int := l.flatMap putS
theorem zbyz (x : Int) (l : List Int) : numsB (x :: l) = putS x ++ numsB l := by simp [numsB]
def inT (l : List Int) : Prop := ∀ x ∈ l, -1099511627776 ≤ x ∧ x ≤ 1099511627776
theorem inT_R {l : List Int} (h : inT l) {x : Int} (hx : x ∈ l) : inR .i64 x := by have := h x hx; exact zbxa (by omega) (by omega)
theorem zby0 {x : Int} {l : List Int} (h : inT (x :: l)) : inR .i64 x ∧ inT l := ⟨inT_R h y32, fun y hy => h y (y36 _ hy)⟩
theorem zby1 : ∀ {l : List Int}, inT l → (numsB l).length ≤ 10 * l.length
 | [], h => by simp [numsB]
 | x :: l, h => by
  have h2 := zby1 (zby0 h).2
  have h1 := zbw9 (zby0 h).1
  rw [zbyz, y11, y22]; omega
theorem zby2 (n : Int) : isB (putS n) := zbx2 _
theorem zby3 : ∀ {l : List Int}, isB (numsB l)
 | [] => fun c hc => by simp [numsB] at hc
 | x :: l => by rw [zbyz]; exact zbx4.2 ⟨zby2 _, zby3⟩
def stateB (s : zjm) : List Int := ((put s.Kind ++ put (sealN s)) ++ put (s.L.l.length : Int)) ++ numsB s.L.l
theorem zby4 {s : zjm} (h : inT s.L.l) : (stateB s).length ≤ 30 + 10 * s.L.l.length := by
 have h1 := zbww s.Kind; have h2 := zbww (sealN s); have h3 := zbww (s.L.l.length : Int); have h4 := zby1 h
 simp only [stateB, y11]; omega
theorem zby5 {s : zjm} : isB (stateB s) := zbx4.2 ⟨zbx4.2 ⟨zbx4.2 ⟨zbx3 _, zbx3 _⟩, zbx3 _⟩, zby3⟩
theorem zby6 (z : Bool) (L : List Int) (hL : L.length ≤ 1000000) (hT : inT L) : ∀ (k i : Nat) (l : List Int), L.length = i + k → l.length ≤ 1000 + 10 * i →
  Ev (fun q => zlo q z L (L.length : Int) (i : Int) false l true) (⟨false, true, l ++ numsB (L.drop i)⟩, 0)
 | 0, i, l, hk, hl => by
  refine Ev.succ (Ev.ne (Ev.ret' ?_)) (fun q => rfl)
  rw [y13 (by omega)]; simp [numsB]
 | k + 1, i, l, hk, hl => by
  have hi : i < L.length := by omega
  have he : L[((i : Int)).toNat]? = some L[i] := by simp [hi]
  have hr := inT_R hT (List.getElem_mem hi)
  have hp := zbw9 hr
  have ih := zby6 z L hL hT k (i + 1) (l ++ putS L[i]) (by omega) (by rw [y11]; omega)
  rw [show ((i + 1 : Nat) : Int) = wrp .i64 ((i : Int) + 1) by rw [zbwn (by omega) (by omega)]; omega] at ih
  refine Ev.succ (Ev.po (Ev.po (Ev.opt he (Ev.bind (zbw1 ⟨false, true, l⟩ hr (by simp only; omega)) (Ev.cast ih ?_))))) (fun q => rfl)
  rw [y10 hi, zbyz, y33]
theorem zby7 {s : zjm} (h : mayS s = true) : 0 ≤ sealN s ∧ sealN s ≤ 3 := by
 have := zbyu h; unfold sealN; split <;> omega
theorem zby8 {s : zjm} (h : mayS s = true) : Ev (fun q => zln q s) (sealN s) := by
 have hm := zbyu h
 unfold sealN
 refine Ev.succ (Ev.ite (fun c => Ev.ret' ?_) fun c => Ev.ret' ?_) (fun q => rfl)
 ·rw [if_pos c, zbwn (by omega) (by omega)]
 ·rw [if_neg c]
theorem zby9 {s : zjm} (h : mayS s = true) : Ev (fun q => zlp q s) (⟨false, true, stateB s⟩, 0) := by
 have hm := zbyu h
 have hk := zbyt hm.2.2.2
 have hs := zby7 h
 have hM := zbyh s (by omega)
 rw [h] at hM
 have p1 := zbww s.Kind; have p2 := zbww (sealN s); have p3 := zbww (s.L.l.length : Int)
 have hl := zby6 s.L.z s.L.l (by omega) hk.2.2.2 s.L.l.length 0 ((put s.Kind ++ put (sealN s)) ++ put (s.L.l.length : Int)) (by omega) (by simp only [y11]; omega)
 rw [y38] at hl
 exact Ev.succ (Ev.bind hM (Ev.pos rfl (Ev.bind (zbwx ⟨true, true, []⟩ (by omega) (by omega) (by simp)) (Ev.bind (zby8 h) (Ev.bind (zbwx _ (by omega) (by omega) (by simp only [y47]; omega)) (Ev.bind (zbwx _ (by omega) (by omega) (by simp only [y47, y11]; omega)) hl)))))) (fun q => rfl)
def entB (e : zjn) : List Int := put e.Proc ++ (put e.Seq ++ putS e.Resp)
def tabE (l : List zjn) : List Int := l.flatMap entB
theorem zbza (e : zjn) (l : List zjn) : tabE (e :: l) = entB e ++ tabE l := by simp [tabE]
def entsOk (l : List zjn) : Prop := ∀ e ∈ l, entOk e = true
theorem zbzb {e : zjn} (h : entOk e = true) : inR .i64 e.Resp := by have := zbyv h; exact zbxa (by omega) (by omega)
theorem zbzc {e : zjn} (h : entOk e = true) : (entB e).length ≤ 30 := by
 have h1 := zbww e.Proc; have h2 := zbww e.Seq; have h3 := zbw9 (zbzb h)
 simp only [entB, y11]; omega
theorem zbzd {e : zjn} : isB (entB e) := zbx4.2 ⟨zbx3 _, zbx4.2 ⟨zbx3 _, zby2 _⟩⟩
theorem zbze : ∀ {l : List zjn}, entsOk l → (tabE l).length ≤ 30 * l.length
 | [], h => by simp [tabE]
 | e :: l, h => by
  have h1 := zbzc (h e y32)
  have h2 := zbze (l := l) fun x hx => h x (y36 _ hx)
  rw [zbza, y11, y22]; omega
theorem zbzf : ∀ {l : List zjn}, isB (tabE l)
 | [] => fun c hc => by simp [tabE] at hc
 | e :: l => by rw [zbza]; exact zbx4.2 ⟨zbzd, zbzf⟩
def wholeB (s : zjo) : List Int := ((put ((stateB s.State).length : Int) ++ stateB s.State) ++ put (s.Table.l.length : Int)) ++ tabE s.Table.l
theorem zbzg (z : Bool) (L : List zjn) (hL : L.length ≤ 1000000) (hT : entsOk L) : ∀ (k i : Nat) (l : List Int), L.length = i + k → l.length ≤ 10000 + 30 * i →
  Ev (fun q => zlq q z L (L.length : Int) (i : Int) false l true) ⟨false, true, l ++ tabE (L.drop i)⟩
 | 0, i, l, hk, hl => by
  refine Ev.succ (Ev.ne (Ev.ret' ?_)) (fun q => rfl)
  rw [y13 (by omega)]; simp [tabE]
 | k + 1, i, l, hk, hl => by
  have hi : i < L.length := by omega
  have he : L[((i : Int)).toNat]? = some L[i] := by simp [hi]
  have hr := hT L[i] (List.getElem_mem hi)
  have ho := zbyv hr
  have p1 := zbww L[i].Proc; have p2 := zbww L[i].Seq; have p3 := zbw9 (zbzb hr)
  have ih := zbzg z L hL hT k (i + 1) (((l ++ put L[i].Proc) ++ put L[i].Seq) ++ putS L[i].Resp) (by omega) (by simp only [y11]; omega)
  rw [show ((i + 1 : Nat) : Int) = wrp .i64 ((i : Int) + 1) by rw [zbwn (by omega) (by omega)]; omega] at ih
  refine Ev.succ (Ev.po (Ev.po (Ev.opt he (Ev.bind (zbwx ⟨false, true, l⟩ (by omega) (by omega) (by simp only; omega)) (Ev.bind (zbwx _ (by omega) (by omega) (by simp only [y11]; omega)) (Ev.bind (zbw1 _ (zbzb hr) (by simp only [y11]; omega)) (Ev.cast ih ?_))))))) (fun q => rfl)
  rw [y10 hi, zbza, entB]; simp only [y33]
theorem zbzh {s : zjo} (h : mayN s = true) : (wholeB s).length ≤ 5000 ∧ (stateB s.State).length ≤ 1310 ∧ s.Table.l.length ≤ 65 := by
 have hm := zbyx h
 have hk := zbyt (zbyu hm.2.2.1).2.2.2
 have h1 := zby4 (s := s.State) hk.2.2.2
 have h2 := zbze (zbyw hm.2.2.2)
 have h3 := zbyy hm.2.2.2 (by omega)
 have h4 : s.Table.l.length ≤ 65 := by
  rcases h3 with e | e
  ·omega
  ·rw [e]; simp
 have p1 := zbww ((stateB s.State).length : Int); have p2 := zbww (s.Table.l.length : Int)
 simp only [wholeB, y11]; omega
theorem zbzi {s : zjo} : isB (wholeB s) := zbx4.2 ⟨zbx4.2 ⟨zbx4.2 ⟨zbx3 _, zby5⟩, zbx3 _⟩, zbzf⟩
theorem zbzj {s : zjo} (h : mayN s = true) : Ev (fun q => zlr q s) ⟨false, true, wholeB s⟩ := by
 have hm := zbyx h
 have hl := zbzh h
 have p1 := zbww ((stateB s.State).length : Int); have p2 := zbww (s.Table.l.length : Int)
 have hw := zbzg s.Table.z s.Table.l (by omega) (zbyw hm.2.2.2) s.Table.l.length 0 ((put ((stateB s.State).length : Int) ++ stateB s.State) ++ put (s.Table.l.length : Int)) (by omega) (by simp only [y11]; omega)
 rw [y38] at hw
 exact Ev.succ (Ev.bind (zby9 hm.2.2.1) (Ev.bind (zbwx ⟨true, true, []⟩ (by omega) (by simp only; omega) (by simp)) (Ev.pos (by simp only [y47]; omega) (Ev.bind (zbwx _ (by omega) (by omega) (by simp only [y47, y11]; omega)) hw)))) (fun q => rfl)
/-- Pieces of 64 bytes. -/
def chks : Nat → List Int → List (List Int)
 | 0, _ => []
 | k + 1, l => if l.length = 0 then [] else l.take 64 :: chks k (l.drop 64)
def frsB (F : List (List Int)) : List Int := (F.map encF).flatten
theorem zbzk (f : List Int) (F : List (List Int)) : frsB (f :: F) = encF f ++ frsB F := by simp [frsB]
theorem zbzl (l : List Int) : (encF l).length = (put (l.length : Int)).length + l.length + 4 := by
 simp only [encF, fix4, y11, y22, y26]; omega
theorem zbzm (s : Sl Int) (hb : isB s.l) (hl : s.l.length ≤ 1048576) : ∃ z, Ev (fun q => zls q s) ⟨z, true, encF s.l⟩ := by
 obtain ⟨z, h⟩ := zbx5 s hb hl
 exact ⟨z, Ev.succ (Ev.bind h (Ev.ret _)) (fun q => rfl)⟩
theorem min64 (n : Nat) : (if 64 < (n : Int) then 64 else (n : Int)) = ((min 64 n : Nat) : Int) := by
 split <;> omega
theorem zbzn (z : Bool) (L : List Int) (hL : L.length ≤ 1000000) (hb : isB L) : ∀ (k i n : Nat) (hz : Bool) (l : List Int), L.length = i + n → n ≤ k → l.length ≤ 1000 + 20 * i →
  ∃ z', (hz = false → z' = false) ∧ Ev (fun q => zlt q i n z L hz l true) (⟨z', true, l ++ frsB (chks k (L.drop i))⟩, 0)
 | 0, i, n, hz, l, hk, hn, hl => by
  refine ⟨hz, id, Ev.succ (Ev.ne (Ev.ret' ?_)) (fun q => rfl)⟩
  simp [chks, frsB]
 | k + 1, i, n, hz, l, hk, hn, hl => by
  by_cases h0 : n = 0
  ·refine ⟨hz, id, Ev.succ (Ev.ne (Ev.ret' ?_)) (fun q => rfl)⟩
   rw [y13 (by omega)]; simp [chks, frsB]
  ·have ht : ((L.drop i).take (min 64 n)).length = min 64 n := by rw [y21, y14]; omega
   have p := zbww (((L.drop i).take (min 64 n)).length : Int)
   have he := zbzl ((L.drop i).take (min 64 n))
   obtain ⟨z1, hF⟩ := zbzm ⟨z, (L.drop i).take (min 64 n)⟩ (zbx6 (zbx7 hb _) _) (by simp only; omega)
   obtain ⟨z', hzz, ih⟩ := zbzn z L hL hb k (i + min 64 n) (n - min 64 n) (hz && (decide ((encF ((L.drop i).take (min 64 n))).length = 0))) (l ++ encF ((L.drop i).take (min 64 n))) (by omega) (by omega) (by simp only [y11]; omega)
   refine ⟨z', fun h => hzz (by rw [h]; rfl), Ev.succ (Ev.pos (by omega) ?_) (fun q => rfl)⟩
   rw [min64 n, y28]
   refine Ev.po (Ev.po (Ev.po (Ev.bind hF (Ev.pos (by simp only; omega) (Ev.po (Ev.cast ih ?_))))))
   simp only [chks]
   rw [if_neg (by rw [y14]; omega), zbzk, y33, List.drop_drop]
   by_cases hn : n ≤ 64
   ·rw [Nat.min_eq_right hn, List.take_of_length_le (by rw [y14]; omega), List.take_of_length_le (by rw [y14]; omega), y13 (l := L) (i := i + n) (by omega), y13 (l := L) (i := i + 64) (by omega)]
   ·rw [Nat.min_eq_left (by omega)]
theorem zbzo (z x : Bool) (L : List Int) (hL : L.length ≤ 1000000) (hb : isB L) (hz : Bool) (l : List Int) (hl : l.length ≤ 900) :
  ∃ z', (L.length ≠ 0 → z' = false) ∧ Ev (fun q => zlu q z L x hz l true) (⟨z', true, l ++ frsB (chks L.length L)⟩, 0) := by
 by_cases h0 : L.length = 0
 ·refine ⟨hz, fun h => absurd h0 h, Ev.succ (Ev.ne (Ev.ret' ?_)) (fun q => rfl)⟩
  rw [h0]; simp [chks, frsB]
 ·have ht : (L.take (min 64 L.length)).length = min 64 L.length := by rw [y21]; omega
  have p := zbww ((L.take (min 64 L.length)).length : Int)
  have he := zbzl (L.take (min 64 L.length))
  obtain ⟨z1, hF⟩ := zbzm ⟨z, L.take (min 64 L.length)⟩ (zbx6 hb _) (by simp only; omega)
  obtain ⟨z', hzz, ih⟩ := zbzn z L hL hb (L.length - 1) (min 64 L.length) (L.length - min 64 L.length) (hz && (decide ((encF (L.take (min 64 L.length))).length = 0))) (l ++ encF (L.take (min 64 L.length))) (by omega) (by omega) (by simp only [y11]; omega)
  refine ⟨z', fun _ => hzz (by rw [decide_eq_false (by omega), Bool.and_false]), Ev.succ (Ev.pos (by omega) ?_) (fun q => rfl)⟩
  rw [min64 L.length, y28]
  refine Ev.po (Ev.po (Ev.po (Ev.bind hF (Ev.pos (by simp only; omega) (Ev.cast ih ?_)))))
  obtain ⟨m, hm⟩ : ∃ m, L.length = m + 1 := ⟨L.length - 1, by omega⟩
  have hc : chks L.length L = L.take 64 :: chks (L.length - 1) (L.drop 64) := by rw [hm]; simp only [chks]; rw [if_neg (by omega)]; rfl
  rw [hc, zbzk, y33]
  by_cases hn : L.length ≤ 64
  ·rw [Nat.min_eq_right hn, List.take_of_length_le (by omega), List.take_of_length_le hn, y13 (by omega), y13 (by omega)]
  ·rw [Nat.min_eq_left (by omega)]
/-- What the first frame tells. -/
def manB (i : Int) (w : List Int) : List Int := ((([115] ++ put 3) ++ put i) ++ put (w.length : Int)) ++ fix4 (bsum w).toNat
def snapB (s : zjo) : List Int := encF (manB s.Index (wholeB s)) ++ frsB (chks (wholeB s).length (wholeB s))
theorem zbzp (i : Int) (w : List Int) : (manB i w).length ≤ 35 := by
 have h1 := zbww 3; have h2 := zbww i; have h3 := zbww (w.length : Int)
 simp only [manB, fix4, y11, y22, y26]; omega
theorem zbzq (v : Nat) : isB (fix4 v) := by
 intro c hc; simp only [fix4, List.mem_cons, List.not_mem_nil, or_false] at hc; omega
theorem zbzr (i : Int) (w : List Int) : isB (manB i w) := by
 refine zbx4.2 ⟨zbx4.2 ⟨zbx4.2 ⟨zbx4.2 ⟨?_, zbx3 _⟩, zbx3 _⟩, zbx3 _⟩, zbzq _⟩
 intro c hc; simp only [List.mem_cons, List.not_mem_nil, or_false] at hc; omega
theorem zbzs (s : zjo) (h1 : s.State.L.l.length ≤ 1000000) (h2 : s.Table.l.length ≤ 1000000) : ∃ z, (mayN s = true → z = false) ∧ Ev (fun q => zlv q s) (if mayN s = true then (⟨z, true, snapB s⟩, 0) else (⟨true, true, []⟩, 1)) := by
 by_cases h : mayN s = true
 ·have hm := zbyx h
  have hl := zbzh h
  have q1 := zbww 3; have q2 := zbww s.Index; have q3 := zbww ((wholeB s).length : Int)
  have hml := zbzp s.Index (wholeB s)
  obtain ⟨z1, hF⟩ := zbzm ⟨false && (decide ((fix4 (bsum (wholeB s)).toNat).length = 0)), manB s.Index (wholeB s)⟩ (zbzr _ _) (by simp only; omega)
  have he := zbzl (manB s.Index (wholeB s)); have p := zbww ((manB s.Index (wholeB s)).length : Int)
  obtain ⟨z, hzf, hE⟩ := zbzo false true (wholeB s) (by omega) zbzi z1 (encF (manB s.Index (wholeB s))) (by omega)
  refine ⟨z, fun _ => hzf (by have : 1 ≤ (put ((stateB s.State).length : Int)).length := (by rw [put_ok (by omega) (by omega)]; exact zbwt _); simp only [wholeB, y11]; omega), ?_⟩
  rw [if_pos h]
  refine Ev.succ (Ev.bind (zbyo s h1 h2) (Ev.pos h (Ev.bind (zbzj h) (Ev.bind (zbwx ⟨false, true, [115]⟩ (by omega) (by omega) (by simp)) (Ev.bind (zbwx _ (by omega) (by omega) (by simp only [y11, y22, y26]; omega)) (Ev.bind (zbwx _ (by omega) (by simp only; omega) (by simp only [y11, y22, y26]; omega)) (Ev.bind (zbxo ⟨false, wholeB s⟩ zbzi (by simp only; omega)) (Ev.bind (zbxv _) (Ev.pos ?_ (Ev.bind hF hE))))))))) ) (fun q => rfl)
  simp only [fix4, y11, y22, y26]; omega
 ·refine ⟨true, fun e => absurd e h, ?_⟩
  rw [if_neg h]
  exact Ev.succ (Ev.bind (zbyo s h1 h2) (Ev.neg h (Ev.ret _))) (fun q => rfl)
theorem zbzt (s : zjo) (h1 : s.State.L.l.length ≤ 1000000) (h2 : s.Table.l.length ≤ 1000000) : ∃ z, Ev (fun q => zlv q s) (if mayN s = true then (⟨z, true, snapB s⟩, 0) else (⟨true, true, []⟩, 1)) := by
 obtain ⟨z, _, h⟩ := zbzs s h1 h2
 exact ⟨z, h⟩
/-- The same states, the same snapshots. -/
def sameS (a b : zjm) : Bool := decide (a.Kind = b.Kind) && (decide (a.Sealed = b.Sealed) && (decide (a.To = b.To) && decide (a.L.l = b.L.l)))
def sameN (a b : zjo) : Bool := decide (a.Index = b.Index) && (sameS a.State b.State && decide (a.Table.l = b.Table.l))
theorem zbzu (x0 : Int) (xz : Bool) (A : List Int) (x2 : Bool) (x3 y0 : Int) (yz : Bool) (B : List Int) (y2 : Bool) (y3 : Int) (hl : A.length = B.length) (hL : A.length ≤ 1099511627776) : ∀ (k i : Nat), A.length = i + k → Ev (fun q => zmg q (i : Int) x0 xz A x2 x3 y0 yz B y2 y3) (decide (A.drop i = B.drop i))
 | 0, i, hk => by
  refine Ev.succ (Ev.ne (Ev.ret' ?_)) (fun q => rfl)
  rw [y13 (by omega), y13 (by omega)]; simp
 | k + 1, i, hk => by
  have hi : i < A.length := by omega
  have hi2 : i < B.length := by omega
  have hg : A[(i : Int).toNat]? = some A[i] := by simpa using y8 hi
  have hg2 : B[(i : Int).toNat]? = some B[i] := by simpa using y8 hi2
  refine Ev.succ (Ev.po (Ev.po (Ev.opt hg (Ev.opt hg2 ?_)))) (fun q => rfl)
  rw [y10 hi, y10 hi2]
  refine Ev.ite (fun h => ?_) fun h => Ev.ret' (by symm; rw [decide_eq_false_iff_not]; intro e; exact h (List.cons.inj e).1)
  rw [zbwn (by omega) (by omega), show ((i : Int) + 1) = ((i + 1 : Nat) : Int) by omega]
  refine (zbzu x0 xz A x2 x3 y0 yz B y2 y3 hl hL k (i + 1) (by omega)).cast ?_
  rw [decide_eq_decide, List.cons.injEq]; simp only [h, true_and]
theorem zbzv (a b : zjm) (hL : a.L.l.length ≤ 1099511627776) : Ev (fun q => zmh q a b) (sameS a b) := by
 unfold sameS
 refine Ev.succ (Ev.ite (fun c1 => Ev.ite (fun c2 => Ev.ite (fun c3 => Ev.ite (fun c4 => ?_) fun c4 => Ev.ret' ?_) fun c3 => Ev.ret' ?_) fun c2 => Ev.ret' ?_) fun c1 => Ev.ret' ?_) (fun q => rfl)
 ·rw [beq_iff_eq] at c2
  refine Ev.cast (zbzu a.Kind a.L.z a.L.l a.Sealed a.To b.Kind b.L.z b.L.l b.Sealed b.To (by omega) hL a.L.l.length 0 (by omega)) ?_
  simp [c1, c2, c3]
 ·have : ¬ a.L.l = b.L.l := fun e => c4 (by rw [e])
  simp [this]
 ·simp [c3]
 ·rw [beq_iff_eq] at c2; simp [c2]
 ·simp [c1]
theorem zbzw (x0 x1 : Int) (xz : Bool) (xl : List Int) (x2 : Bool) (x3 : Int) (z : Bool) (A : List zjn) (y0 y1 : Int) (yz : Bool) (yl : List Int) (y2 : Bool) (y3 : Int) (z2 : Bool) (B : List zjn) (hl : A.length = B.length) (hL : A.length ≤ 1099511627776) : ∀ (k i : Nat), A.length = i + k → Ev (fun q => zmi q (i : Int) x0 x1 xz xl x2 x3 z A y0 y1 yz yl y2 y3 z2 B) (decide (A.drop i = B.drop i))
 | 0, i, hk => by
  refine Ev.succ (Ev.ne (Ev.ret' ?_)) (fun q => rfl)
  rw [y13 (by omega), y13 (by omega)]; simp
 | k + 1, i, hk => by
  have hi : i < A.length := by omega
  have hi2 : i < B.length := by omega
  have hg : A[(i : Int).toNat]? = some A[i] := by simpa using y8 hi
  have hg2 : B[(i : Int).toNat]? = some B[i] := by simpa using y8 hi2
  have no : ¬ A[i] = B[i] → false = decide (A[i] :: A.drop (i + 1) = B[i] :: B.drop (i + 1)) := fun h => by
   symm; rw [decide_eq_false_iff_not]; intro e; exact h (List.cons.inj e).1
  rw [y10 hi, y10 hi2]
  refine Ev.succ (Ev.po (Ev.po (Ev.opt hg (Ev.opt hg2 (Ev.ite (fun c1 => Ev.ite (fun c2 => Ev.ite (fun c3 => ?_) fun c3 => Ev.ret' (no fun e => c3 (by rw [e]))) fun c2 => Ev.ret' (no fun e => c2 (by rw [e]))) fun c1 => Ev.ret' (no fun e => c1 (by rw [e]))))))) (fun q => rfl)
  rw [zbwn (by omega) (by omega), show ((i : Int) + 1) = ((i + 1 : Nat) : Int) by omega]
  refine (zbzw x0 x1 xz xl x2 x3 z A y0 y1 yz yl y2 y3 z2 B hl hL k (i + 1) (by omega)).cast ?_
  rw [decide_eq_decide, List.cons.injEq]; simp only [zbyp c1 c2 c3, true_and]
theorem zbzx (a b : zjo) (hL : a.State.L.l.length ≤ 1099511627776) (hT : a.Table.l.length ≤ 1099511627776) : Ev (fun q => zmj q a b) (sameN a b) := by
 unfold sameN
 refine Ev.succ (Ev.bind (zbzv _ _ hL) (Ev.ite (fun c1 => Ev.ite (fun c2 => Ev.ite (fun c3 => ?_) fun c3 => Ev.ret' ?_) fun c2 => Ev.ret' ?_) fun c1 => Ev.ret' ?_)) (fun q => rfl)
 ·refine Ev.cast (zbzw a.Index a.State.Kind a.State.L.z a.State.L.l a.State.Sealed a.State.To a.Table.z a.Table.l b.Index b.State.Kind b.State.L.z b.State.L.l b.State.Sealed b.State.To b.Table.z b.Table.l (by omega) hT a.Table.l.length 0 (by omega)) ?_
  simp [c1, c2]
 ·have : ¬ a.Table.l = b.Table.l := fun e => c3 (by rw [e])
  simp [this]
 ·simp [c2]
 ·simp only [Bool.not_eq_true] at c1; simp [c1]
theorem zbzy (a : zjo) : sameN a a = true := by simp [sameN, sameS]
theorem mayC : mayS ⟨0, ⟨false, [0]⟩, false, 0⟩ = true := by
 simp [mayS, kindOk, cutsB, cutI]
theorem mayD (z z2 : Bool) : mayN ⟨1, ⟨0, ⟨z, [5]⟩, false, 0⟩, ⟨z2, [⟨2, 1, 0⟩]⟩⟩ = true := by
 simp [mayN, mayS, kindOk, cutsB, cutI, tabB, entOk]
theorem zbzz (z : Bool) : ∃ z', Ev (fun q => zkd q ⟨true, []⟩ ⟨0, 2, 1, ⟨1, 5, 0⟩, 0⟩) ⟨z', true, [⟨2, 1, 0⟩]⟩ := by
 have h68 : Ev (fun q => zj5 q ⟨true, []⟩) ⟨true, true, []⟩ := Ev.succ (g := fun _ => some ⟨true, true, []⟩) (Ev.ret _) (fun q => rfl)
 have hs00 : Ev (fun q => zj7 q 0 0 0 2 1 1 5 0 0 true [] true) (-1) := Ev.succ (g := fun _ => some (-1)) (Ev.ret _) (fun q => rfl)
 have hs0 : Ev (fun q => zj8 q 0 2 1 1 5 0 0 true [] true) (-1) := Ev.succ hs00 (fun q => rfl)
 have h0 : Ev (fun q => zka q 0 2 1 1 5 0 0 true [] true) (0, [], true) := Ev.succ (Ev.bind hs0 (Ev.pos rfl (Ev.ret _))) (fun q => rfl)
 have hs10 : Ev (fun q => zkb q 0 0 0 0 2 1 1 5 0 0 true [] true) (-1) := Ev.succ (g := fun _ => some (-1)) (Ev.ret _) (fun q => rfl)
 have h1 : Ev (fun q => zkc q 0 0 2 1 1 5 0 0 true [] true) (-1) := Ev.succ hs10 (fun q => rfl)
 have h72 : Ev (fun q => zj6 q ⟨true, true, []⟩ 0 ⟨false, true, [⟨2, 1, 0⟩]⟩) ⟨false, true, [⟨2, 1, 0⟩]⟩ := by
  refine Ev.succ (g := fun _ => if insOk (⟨true, true, []⟩ : Ow zjn) 0 ⟨false, true, [⟨2, 1, 0⟩]⟩ then some (insR (⟨true, true, []⟩ : Ow zjn) 0 ⟨false, true, [⟨2, 1, 0⟩]⟩) else none) (Ev.pos ⟨rfl, by omega, by simp, rfl, by simp, by simp⟩ (Ev.ret' (by simp [insR]))) (fun q => rfl)
 exact ⟨false, Ev.succ (Ev.bind h68 (Ev.bind h0 (Ev.bind h1 (Ev.po (Ev.pos rfl (Ev.bind h72 (Ev.ret _))))))) (fun q => rfl)⟩
theorem zbz0 {s : zjm} {o : zjq} {n : Int} (h : s.L.l[0]? = some n) (hk : s.Kind = 0) (hc : o.Code = 1) : Ev (fun q => zkn q s o) (⟨s.Kind, ⟨false, [cutI (wrp .i64 (n + cutI o.A))]⟩, s.Sealed, s.To⟩, n) := by
 refine Ev.succ (Ev.opt h (Ev.ne (Ev.pos hk (Ev.pos hc ?_)))) (fun q => rfl)
 exact Ev.bind (zbw2 _) (Ev.bind (zbw2 _) (Ev.ret _))
theorem zbz1 {s : zjm} {o : zjq} {n : Int} (hm : mayS s = true) (hL : s.L.l.length ≤ 1000000) (hs : s.Sealed = false) (h : s.L.l[0]? = some n) (hk : s.Kind = 0) (hc : o.Code = 1) : Ev (fun q => zky q s o) (⟨s.Kind, ⟨false, [cutI (wrp .i64 (n + cutI o.A))]⟩, s.Sealed, s.To⟩, n) := by
 have hM := zbyh s hL
 exact Ev.succ (Ev.bind hM (Ev.pos hm (Ev.neg (by rw [hs]; simp) (Ev.ne (Ev.pos hk (Ev.bind (zbz0 h hk hc) (Ev.ret _))))))) (fun q => rfl)
theorem zbz2 : Ev (fun q => zky q ⟨0, ⟨false, [0]⟩, false, 0⟩ ⟨1, 5, 0⟩) (⟨0, ⟨false, [5]⟩, false, 0⟩, 0) := by
 have := zbz1 (s := ⟨0, ⟨false, [0]⟩, false, 0⟩) (o := ⟨1, 5, 0⟩) (n := 0) mayC (by simp) rfl rfl rfl rfl
 have e : cutI (wrp .i64 (0 + cutI 5)) = 5 := by rw [show cutI 5 = 5 by simp [cutI], zbwn (by omega) (by omega)]; simp [cutI]
 simp only [e] at this
 exact this
theorem zbz3 {s : zjo} {r : Sl zjr} {e : zjr} {t : zjm} {n : Int} {z : Bool} {T : List zjn} (h1 : r.l[0]? = some e) (h2 : r.l.length = 1) (hi : e.Index = s.Index) (hf : FitsR e)
  (hS : Ev (fun q => zky q s.State e.Op) (t, n)) (hN : Ev (fun q => zkd q s.Table ⟨e.Index, e.Proc, e.Seq, e.Op, n⟩) ⟨z, true, T⟩) : Ev (fun q => zk1 q s r) (⟨wrp .i64 (s.Index + 1), t, ⟨z, T⟩⟩, 0) := by
 have w1 : wrp .i64 1 = 1 := zbwn (by omega) (by omega)
 have hl : ∀ a : Int, a = 1 → Ev (fun q => zkz q r.z r.l (r.l.length : Int) a (wrp .i64 (s.Index + 1)) t.Kind t.L.z t.L.l t.Sealed t.To z T true) (⟨wrp .i64 (s.Index + 1), t, ⟨z, T⟩⟩, 0) := fun a ha =>
  Ev.succ (Ev.ne (Ev.ret _)) (fun q => rfl)
 have h0 : Ev (fun q => zk0 q r.z r.l (r.l.length : Int) s.Index s.State.Kind s.State.L.z s.State.L.l s.State.Sealed s.State.To s.Table.z s.Table.l) (⟨wrp .i64 (s.Index + 1), t, ⟨z, T⟩⟩, 0) :=
  Ev.succ (Ev.po (Ev.opt h1 (Ev.pos hi (Ev.bind (zbw7 e) (Ev.pos (by simpa using hf) (Ev.bind hS (Ev.bind hN (hl _ w1)))))))) (fun q => rfl)
 exact Ev.succ h0 (fun q => rfl)
theorem zbz4 : ∃ z z', Ev (fun q => zk1 q ⟨0, ⟨0, ⟨false, [0]⟩, false, 0⟩, ⟨true, []⟩⟩ ⟨false, [⟨0, 2, 1, ⟨1, 5, 0⟩, 0⟩]⟩) (⟨1, ⟨0, ⟨z, [5]⟩, false, 0⟩, ⟨z', [⟨2, 1, 0⟩]⟩⟩, 0) := by
 obtain ⟨z', hN⟩ := zbzz true
 have w2 : wrp .i64 (0 + 1) = 1 := zbwn (by omega) (by omega)
 have := zbz3 (s := ⟨0, ⟨0, ⟨false, [0]⟩, false, 0⟩, ⟨true, []⟩⟩) (r := ⟨false, [⟨0, 2, 1, ⟨1, 5, 0⟩, 0⟩]⟩) rfl rfl rfl (by simp [FitsR, fitsOp, cutI]) zbz2 hN
 simp only [w2] at this
 exact ⟨false, z', this⟩
theorem zbz5 (s : zjo) : 10 < (snapB s).length := by
 have h := zbzl (manB s.Index (wholeB s))
 have g : ∀ n : Int, (put n).length = 0 ∨ 1 ≤ (put n).length := fun n => by omega
 have p3 : 1 ≤ (put 3).length := by rw [put_ok (by omega) (by omega)]; exact zbwt _
 have p4 : 1 ≤ (put ((manB s.Index (wholeB s)).length : Int)).length := by
  have := zbzp s.Index (wholeB s)
  rw [put_ok (by omega) (by omega)]; exact zbwt _
 have p5 : 1 + 1 + 4 ≤ (manB s.Index (wholeB s)).length := by simp only [manB, fix4, y11, y22, y26]; omega
 simp only [snapB, y11]; omega
theorem zbz6 : Ev (fun q => zlw q) true := by
 obtain ⟨z, z', hT⟩ := zbz4
 obtain ⟨z2, hE⟩ := zbzt ⟨1, ⟨0, ⟨z, [5]⟩, false, 0⟩, ⟨z', [⟨2, 1, 0⟩]⟩⟩ (by simp) (by simp)
 rw [if_pos (mayD z z')] at hE
 have hl := zbz5 ⟨1, ⟨0, ⟨z, [5]⟩, false, 0⟩, ⟨z', [⟨2, 1, 0⟩]⟩⟩
 generalize snapB ⟨1, ⟨0, ⟨z, [5]⟩, false, 0⟩, ⟨z', [⟨2, 1, 0⟩]⟩⟩ = B at hE hl
 have e1 : (⟨1, ⟨0, ⟨z, [5]⟩, false, 0⟩, ⟨z', [⟨2, 1, 0⟩]⟩⟩ : zjo).Index = 1 := rfl
 have e2 : (⟨1, ⟨0, ⟨z, [5]⟩, false, 0⟩, ⟨z', [⟨2, 1, 0⟩]⟩⟩ : zjo).Table.l = [⟨2, 1, 0⟩] := rfl
 have e3 : (⟨1, ⟨0, ⟨z, [5]⟩, false, 0⟩, ⟨z', [⟨2, 1, 0⟩]⟩⟩ : zjo).State.L.l = [5] := rfl
 generalize (⟨1, ⟨0, ⟨z, [5]⟩, false, 0⟩, ⟨z', [⟨2, 1, 0⟩]⟩⟩ : zjo) = x at hT hE e1 e2 e3
 have e4 : x.Table.l[0]? = some ⟨2, 1, 0⟩ := by rw [e2]; rfl
 have e5 : x.State.L.l[0]? = some 5 := by rw [e3]; rfl
 refine Ev.succ (Ev.bind hT (Ev.bind hE ?_)) (fun q => rfl)
 refine Ev.pos rfl (Ev.pos rfl (Ev.pos (by simp only; omega) (Ev.pos e1 (Ev.pos (by simp only [e2]; rfl) (Ev.opt e4 (Ev.pos rfl (Ev.pos rfl (Ev.pos rfl (Ev.pos (by simp only [e3]; rfl) (Ev.opt e5 (Ev.ret' (by simp))))))))))))
def filP (p : Int) (T : List zjn) : List zjn := T.filter fun e => !decide (e.Proc = p)
def insE (e : zjn) : List zjn → List zjn
 | [] => [e]
 | x :: l => if e.Proc < x.Proc then e :: x :: l else x :: insE e l
def noteL (T : List zjn) (p s x : Int) : List zjn := insE ⟨p, s, x⟩ (filP p T)
def atE (p : Int) : List zjn → Nat
 | [] => 0
 | x :: l => if p < x.Proc then 0 else atE p l + 1
theorem atE_le (p : Int) : ∀ T : List zjn, atE p T ≤ T.length
 | [] => y15 _
 | x :: l => by simp only [atE]; split <;> simp only [y22] <;> have := atE_le p l <;> omega
theorem zbz7 (e : zjn) : ∀ T : List zjn, insE e T = T.take (atE e.Proc T) ++ [e] ++ T.drop (atE e.Proc T)
 | [] => rfl
 | x :: l => by
  simp only [insE, atE]
  split
  ·simp
  ·rw [zbz7 e l]; simp
theorem zbz8 (e : zjn) : ∀ T : List zjn, (insE e T).length = T.length + 1
 | [] => rfl
 | x :: l => by simp only [insE]; split <;> simp only [y22, zbz8 e l]
theorem zbz9 (p : Int) (T : List zjn) : (filP p T).length ≤ T.length := List.length_filter_le _ _
theorem zb0a (T : List zjn) (p s x : Int) : (noteL T p s x).length ≤ T.length + 1 := by
 unfold noteL; rw [zbz8]; have := zbz9 p T; omega
theorem zb0b (p : Int) (O : List zjn) (j : Nat) (hj : j < O.length) : filP p (O.take (j + 1)) = filP p (O.take j) ++ if O[j].Proc = p then [] else [O[j]] := by
 unfold filP
 rw [List.take_add_one, y8 hj, List.filter_append]
 congr 1
 simp only [Option.toList_some, List.filter_cons, List.filter_nil]
 by_cases c : O[j].Proc = p <;> simp [c]
theorem zb0c {p : Int} {T : List zjn} (h : ∀ e ∈ T, e.Proc ≠ p) : filP p T = T := List.filter_eq_self.2 fun e he => by simp [h e he]
theorem zb0d (p0 p p2 p3 p4 p5 p6 : Int) (z : Bool) (L : List zjn) (x : Bool) (hL : L.length ≤ 1000000) : ∀ (k i : Nat), L.length = i + k →
  ∃ r, Ev (fun q => zj7 q (L.length : Int) (i : Int) p0 p p2 p3 p4 p5 p6 z L x) r ∧ ((r = -1 ∧ ∀ e ∈ L.drop i, e.Proc ≠ p) ∨ ∃ j : Nat, i ≤ j ∧ ∃ h : j < L.length, r = (j : Int) ∧ L[j].Proc = p ∧ ∀ e ∈ (L.take j).drop i, e.Proc ≠ p)
 | 0, i, hk => ⟨-1, Ev.succ (Ev.ne (Ev.ret _)) (fun q => rfl), .inl ⟨rfl, by rw [y13 (by omega)]; simp⟩⟩
 | k + 1, i, hk => by
  have hi : i < L.length := by omega
  have he : L[((i : Int)).toNat]? = some L[i] := by simp [hi]
  by_cases c : L[i].Proc = p
  ·exact ⟨(i : Int), Ev.succ (Ev.po (Ev.po (Ev.po (Ev.opt he (Ev.pos c (Ev.ret _)))))) (fun q => rfl), .inr ⟨i, y15 _, hi, rfl, c, by rw [y13 (by rw [y21]; omega)]; simp⟩⟩
  ·obtain ⟨r, h, hr⟩ := zb0d p0 p p2 p3 p4 p5 p6 z L x hL k (i + 1) (by omega)
   rw [show ((i + 1 : Nat) : Int) = wrp .i64 ((i : Int) + 1) by rw [zbwn (by omega) (by omega)]; omega] at h
   refine ⟨r, Ev.succ (Ev.po (Ev.po (Ev.po (Ev.opt he (Ev.neg c h))))) (fun q => rfl), ?_⟩
   rcases hr with ⟨h1, h2⟩ | ⟨j, h1, h2, h3, h4, h5⟩
   ·refine .inl ⟨h1, fun e hm => ?_⟩
    rw [y10 hi] at hm
    rcases List.mem_cons.1 hm with rfl | hm
    ·exact c
    ·exact h2 e hm
   ·refine .inr ⟨j, by omega, h2, h3, h4, fun e hm => ?_⟩
    have hi2 : i < (L.take j).length := by rw [y21]; omega
    rw [y10 hi2] at hm
    rcases List.mem_cons.1 hm with rfl | hm
    ·rw [List.getElem_take]; exact c
    ·exact h5 e hm
theorem zb0e (p0 p p2 p3 p4 p5 p6 : Int) (z : Bool) (O : List zjn) (hO : O.length ≤ 1000000) : ∀ (k j i : Nat) (H : List zjn), O.length = j + k → H.length = O.length → i ≤ j → H.take i = filP p (O.take j) → H.drop j = O.drop j →
  ∃ xs, Ev (fun q => zj9 q (i : Int) (j : Int) p0 p p2 p3 p4 p5 p6 z H true) ((filP p O).length, xs, true) ∧ xs.take (filP p O).length = filP p O ∧ (filP p O).length ≤ xs.length
 | 0, j, i, H, hk, hl, hij, ht, hd => by
  have hO2 : O.take j = O := List.take_of_length_le (by omega)
  rw [hO2] at ht
  have hi : (filP p O).length = i := by rw [← ht, y21]; omega
  refine ⟨((H.take i) ++ (List.replicate (H.length - i) (⟨0, 0, 0⟩ : zjn))) ++ (H.drop (i + (H.length - i))), ?_, ?_, ?_⟩
  ·rw [hi]
   refine Ev.succ (Ev.ne (Ev.po (Ev.po (Ev.pos rfl (Ev.po (Ev.ite (fun _ => Ev.ret' ?_) fun _ => Ev.ret' ?_)))))) (fun q => rfl) <;> simp only [y28]
  ·rw [hi, y33, List.take_append_of_le_length (by rw [y21]; omega), List.take_take, Nat.min_self, ht]
  ·rw [hi]; simp only [y11, y21, List.length_replicate]; omega
 | k + 1, j, i, H, hk, hl, hij, ht, hd => by
  have hj : j < H.length := by omega
  have hjO : j < O.length := by omega
  have he : H[((j : Int)).toNat]? = some O[j] := by
   have := congrArg (fun l => l[0]?) hd
   simp only [y40, Nat.add_zero] at this
   rw [y28, this]; exact y8 hjO
  have hs := zb0b p O j hjO
  have wj : wrp .i64 ((j : Int) + 1) = ((j + 1 : Nat) : Int) := by rw [zbwn (by omega) (by omega)]; omega
  have dr : ∀ {A B : List zjn}, A.drop j = B.drop j → A.drop (j + 1) = B.drop (j + 1) := fun {A B} h => by rw [← List.drop_drop, ← List.drop_drop, h]
  by_cases c : O[j].Proc = p
  ·rw [if_pos c, List.append_nil] at hs
   obtain ⟨xs, h1, h2⟩ := zb0e p0 p p2 p3 p4 p5 p6 z O hO k (j + 1) i H (by omega) hl (by omega) (by rw [hs]; exact ht) (dr hd)
   rw [← wj] at h1
   exact ⟨xs, Ev.succ (Ev.po (Ev.po (Ev.po (Ev.opt he (Ev.pos c h1))))) (fun q => rfl), h2⟩
  ·rw [if_neg c] at hs
   have hi : i < H.length := by omega
   have hg : H[((i : Int)).toNat]? = some H[i] := by simp [hi]
   obtain ⟨xs, h1, h2⟩ := zb0e p0 p p2 p3 p4 p5 p6 z O hO k (j + 1) (i + 1) (H.set i O[j]) (by omega) (by rw [List.length_set]; exact hl) (by omega) (by
    rw [hs, ← ht, List.take_add_one, List.take_set_of_le (y15 i), y24 hi]; rfl) (by
    rw [List.drop_set_of_lt (by omega)]; exact dr hd)
   have wi : wrp .i64 ((i : Int) + 1) = ((i + 1 : Nat) : Int) := by rw [zbwn (by omega) (by omega)]; omega
   rw [← wj, ← wi] at h1
   exact ⟨xs, Ev.succ (Ev.po (Ev.po (Ev.po (Ev.opt he (Ev.neg c (Ev.po (Ev.po (Ev.opt hg (Ev.pos rfl h1))))))))) (fun q => rfl), h2⟩
theorem zb0f (p0 p p2 p3 p4 p5 p6 : Int) (z : Bool) (O : List zjn) (hO : O.length ≤ 1000000) :
  ∃ xs, Ev (fun q => zka q p0 p p2 p3 p4 p5 p6 z O true) ((filP p O).length, xs, true) ∧ xs.take (filP p O).length = filP p O ∧ (filP p O).length ≤ xs.length := by
 obtain ⟨r, h, hr⟩ := zb0d p0 p p2 p3 p4 p5 p6 z O true hO O.length 0 (by omega)
 have h' : Ev (fun q => zj8 q p0 p p2 p3 p4 p5 p6 z O true) r := Ev.succ h (fun q => rfl)
 rcases hr with ⟨rfl, h2⟩ | ⟨j, _, h2, rfl, h4, h5⟩
 ·rw [y38] at h2
  rw [zb0c h2]
  exact ⟨O, Ev.succ (Ev.bind h' (Ev.pos rfl (Ev.ret _))) (fun q => rfl), List.take_length, y15 _⟩
 ·rw [y38] at h5
  have hs := zb0b p O j h2
  rw [if_pos h4, List.append_nil, zb0c h5] at hs
  obtain ⟨xs, h1, h6⟩ := zb0e p0 p p2 p3 p4 p5 p6 z O hO (O.length - (j + 1)) (j + 1) j O (by omega) rfl (by omega) hs.symm rfl
  rw [show ((j + 1 : Nat) : Int) = wrp .i64 ((j : Int) + 1) by rw [zbwn (by omega) (by omega)]; omega] at h1
  exact ⟨xs, Ev.succ (Ev.bind h' (Ev.neg (by omega) h1)) (fun q => rfl), h6⟩
def ixI (n k i : Nat) : Int := if n < k then ((i + n : Nat) : Int) else -1
theorem zb0g (p0 p p2 p3 p4 p5 p6 : Int) (z : Bool) (xs : List zjn) (x : Bool) (M : List zjn) (hM : xs.take M.length = M) (hL : M.length ≤ 1000000) : ∀ (k i : Nat), M.length = i + k →
  Ev (fun q => zkb q M.length (M.length : Int) (i : Int) p0 p p2 p3 p4 p5 p6 z xs x) (ixI (atE p (M.drop i)) k i)
 | 0, i, hk => by
  refine Ev.succ (Ev.ne (Ev.ret' ?_)) (fun q => rfl)
  unfold ixI; rw [if_neg (by omega)]
 | k + 1, i, hk => by
  have hi : i < M.length := by omega
  have he : xs[((i : Int)).toNat]? = some M[i] := by
   have : (xs.take M.length)[i]? = M[i]? := by rw [hM]
   rw [y48, if_pos hi] at this
   rw [y28, this]; exact y8 hi
  rw [y10 hi]
  have ha : atE p (M[i] :: M.drop (i + 1)) = if p < M[i].Proc then 0 else atE p (M.drop (i + 1)) + 1 := rfl
  by_cases c : p < M[i].Proc
  ·rw [if_pos c] at ha
   rw [ha]; unfold ixI; rw [if_pos (by omega)]
   exact Ev.succ (Ev.po (Ev.po (Ev.po (Ev.opt he (Ev.pos c (Ev.ret' (by omega))))))) (fun q => rfl)
  ·rw [if_neg c] at ha
   rw [ha]
   have ih := zb0g p0 p p2 p3 p4 p5 p6 z xs x M hM hL k (i + 1) (by omega)
   rw [show ((i + 1 : Nat) : Int) = wrp .i64 ((i : Int) + 1) by rw [zbwn (by omega) (by omega)]; omega] at ih
   refine Ev.succ (Ev.po (Ev.po (Ev.po (Ev.opt he (Ev.neg c (Ev.cast ih ?_)))))) (fun q => rfl)
   unfold ixI
   by_cases d : atE p (M.drop (i + 1)) < k
   ·rw [if_pos d, if_pos (by omega)]; omega
   ·rw [if_neg d, if_neg (by omega)]
theorem zb0h (z : Bool) (M : List zjn) (at_ : Int) (e : zjn) (h0 : 0 ≤ at_) (h1 : at_ ≤ (M.length : Int)) (hL : M.length ≤ 1000000) : Ev (fun q => zj6 q ⟨z, true, M⟩ at_ ⟨false, true, [e]⟩) ⟨false, true, M.take at_.toNat ++ [e] ++ M.drop at_.toNat⟩ :=
 Ev.succ (g := fun _ => if insOk (⟨z, true, M⟩ : Ow zjn) at_ ⟨false, true, [e]⟩ then some (insR (⟨z, true, M⟩ : Ow zjn) at_ ⟨false, true, [e]⟩) else none) (Ev.pos ⟨rfl, h0, h1, rfl, by simp, by simp only [List.length_singleton]; omega⟩ (Ev.ret _)) (fun q => rfl)
theorem zb0i (s : Sl zjn) (hz : s.z = true → s.l = []) (hL : s.l.length ≤ 1000000) (r : zjr) : Ev (fun q => zkd q s r) ⟨false, true, noteL s.l r.Proc r.Seq r.Resp⟩ := by
 obtain ⟨z, hC⟩ : ∃ z, Ev (fun q => zj5 q s) ⟨z, true, s.l⟩ := by
  by_cases c : s.z = true
  ·exact ⟨true, Ev.succ (Ev.pos c (Ev.ret' (by rw [hz c]))) (fun q => rfl)⟩
  ·exact ⟨false, Ev.succ (Ev.neg c (Ev.po (Ev.ret _))) (fun q => rfl)⟩
 obtain ⟨xs, h0, hx, hle⟩ := zb0f r.Index r.Proc r.Seq r.Op.Code r.Op.A r.Op.B r.Resp z s.l hL
 have hM := zbz9 r.Proc s.l
 have h1 := zb0g r.Index r.Proc r.Seq r.Op.Code r.Op.A r.Op.B r.Resp z xs true (filP r.Proc s.l) hx (by omega) (filP r.Proc s.l).length 0 (by omega)
 have h1' : Ev (fun q => zkc q (filP r.Proc s.l).length r.Index r.Proc r.Seq r.Op.Code r.Op.A r.Op.B r.Resp z xs true) _ := Ev.succ h1 (fun q => rfl)
 rw [y38] at h1'
 have hat := atE_le r.Proc (filP r.Proc s.l)
 unfold noteL
 rw [zbz7]
 refine Ev.succ (Ev.bind hC (Ev.bind h0 (Ev.bind h1' ?_))) (fun q => rfl)
 simp only
 rw [hx]
 unfold ixI
 by_cases d : atE r.Proc (filP r.Proc s.l) < (filP r.Proc s.l).length
 ·rw [if_pos d]
  have hI := zb0h z (filP r.Proc s.l) ((0 + atE r.Proc (filP r.Proc s.l) : Nat) : Int) ⟨r.Proc, r.Seq, r.Resp⟩ (by omega) (by omega) (by omega)
  refine Ev.ne (Ev.pos trivial (Ev.bind hI (Ev.ret' ?_)))
  rw [y28, y43]
 ·rw [if_neg d]
  have hI := zb0h z (filP r.Proc s.l) ((filP r.Proc s.l).length : Int) ⟨r.Proc, r.Seq, r.Resp⟩ (by omega) (by omega) (by omega)
  refine Ev.po (Ev.pos trivial (Ev.bind hI (Ev.ret' ?_)))
  rw [y28, show atE r.Proc (filP r.Proc s.l) = (filP r.Proc s.l).length by omega]
theorem zb0j {l : List Int} {i j : Int} (h0 : 0 ≤ i) (h1 : i < j) (h2 : j ≤ l.length) (hl : l.length ≤ 1000000) : Ev (fun q => zko q ⟨false, true, l⟩ i j) ⟨false, true, l.take i.toNat ++ l.drop j.toNat⟩ := by
 refine Ev.succ ?_ (fun q => rfl)
 refine Ev.pos h0 ?_
 refine Ev.pos (by omega) ?_
 refine Ev.pos (by simp only; omega) ?_
 refine Ev.neg (by omega) ?_
 refine Ev.pos (by simp only; omega) ?_
 refine Ev.neg (by simp) ?_
 refine Ev.pos (by omega) ?_
 refine Ev.pos (by simp only; omega) ?_
 refine Ev.pos (by simp only; omega) ?_
 refine Ev.pos rfl ?_
 refine Ev.pos (by simp only; omega) ?_
 refine Ev.pos (by simp only; omega) ?_
 refine Ev.ret' ?_
 congr 1
 have hm : (l.take i.toNat ++ l.drop j.toNat).length = i.toNat + (l.length - j.toNat) := by simp; omega
 rw [← hm]
 simp only [y33]
 rw [← y33 (l.take i.toNat) (l.drop j.toNat), List.take_left', List.take_left'] <;> simp
def findN (key : Int) : List Int → Nat
 | a :: _ :: l => if a < key then findN key l + 2 else 0
 | _ => 0
def isL (key : Int) : List Int → Bool
 | a :: _ :: l => if a < key then isL key l else decide (a = key)
 | _ => false
def hasL (key : Int) : List Int → Int
 | a :: b :: l => if a < key then hasL key l else if a = key then b else -1
 | _ => -1
def putL (key n : Int) : List Int → List Int
 | a :: b :: l => if a < key then a :: b :: putL key n l else if a = key then a :: n :: l else key :: n :: a :: b :: l
 | _ => [key, n]
def delL (key : Int) : List Int → List Int
 | a :: b :: l => if a < key then a :: b :: delL key l else if a = key then l else a :: b :: l
 | _ => []
/-- By pairs. -/
theorem zb0k {P : List Int → Prop} (h0 : P []) (h2 : ∀ a b l, l.length % 2 = 0 → P l → P (a :: b :: l)) : ∀ l : List Int, l.length % 2 = 0 → P l
 | [], _ => h0
 | [a], h => by simp at h
 | a :: b :: l, h => h2 a b l (by simp only [y22] at h; omega) (zb0k h0 h2 l (by simp only [y22] at h; omega))
theorem zb0l (key : Int) : ∀ l : List Int, l.length % 2 = 0 → findN key l ≤ l.length ∧ (isL key l = true → findN key l + 2 ≤ l.length ∧ l[findN key l + 1]? = some (hasL key l)) ∧ (isL key l = false → hasL key l = -1) :=
 zb0k (by simp [findN, isL, hasL]) fun a b l he ih => by
  simp only [findN, isL, hasL, y22]
  split
  ·refine ⟨by omega, fun h => ⟨by have := (ih.2.1 h).1; omega, ?_⟩, ih.2.2⟩
   rw [show findN key l + 2 + 1 = (findN key l + 1) + 2 by omega]
   simpa using (ih.2.1 h).2
  ·split
   ·rename_i e; simp [e]
   ·rename_i e; simp [e]
theorem put_is (key n : Int) : ∀ l : List Int, l.length % 2 = 0 → isL key l = true → l.set (findN key l + 1) n = putL key n l :=
 zb0k (by simp [isL]) fun a b l he ih h => by
  simp only [findN, isL, putL] at h ⊢
  split at h
  ·rename_i c; rw [if_pos c, if_pos c, ← ih h]; rfl
  ·rename_i c; rw [if_neg c, if_neg c, if_pos (by simpa using h)]; rfl
theorem put_no (key n : Int) : ∀ l : List Int, l.length % 2 = 0 → isL key l = false → l.take (findN key l) ++ [key, n] ++ l.drop (findN key l) = putL key n l :=
 zb0k (by simp [findN, putL]) fun a b l he ih h => by
  simp only [findN, isL, putL] at h ⊢
  split at h
  ·rename_i c; rw [if_pos c, if_pos c, ← ih h]; simp
  ·rename_i c; rw [if_neg c, if_neg c, if_neg (by simpa using h)]; simp
theorem del_is (key : Int) : ∀ l : List Int, l.length % 2 = 0 → isL key l = true → l.take (findN key l) ++ l.drop (findN key l + 2) = delL key l :=
 zb0k (by simp [isL]) fun a b l he ih h => by
  simp only [findN, isL, delL] at h ⊢
  split at h
  ·rename_i c; rw [if_pos c, if_pos c, ← ih h]; simp
  ·rename_i c; rw [if_neg c, if_neg c, if_pos (by simpa using h)]; simp
theorem zb0m (key n : Int) : ∀ l : List Int, l.length % 2 = 0 → (putL key n l).length = l.length + (if isL key l = true then 0 else 2) :=
 zb0k (by simp [putL, isL]) fun a b l he ih => by
  simp only [putL, isL]
  split
  ·simp only [y22, ih]; omega
  ·split
   ·rename_i e; simp [e]
   ·rename_i e; simp [e]
theorem zb0n (z : Bool) (L : List Int) (key : Int) (hL : L.length ≤ 1000000) (h2 : L.length % 2 = 0) : ∀ (k i : Nat), L.length = i + 2 * k →
  Ev (fun q => zkq q z L key (i : Int)) (((i + findN key (L.drop i) : Nat) : Int), isL key (L.drop i))
 | 0, i, hk => by
  rw [y13 (by omega)]
  exact Ev.succ (Ev.ne (Ev.ret _)) (fun q => rfl)
 | k + 1, i, hk => by
  have hi : i < L.length := by omega
  have hi1 : i + 1 < L.length := by omega
  have he : L[((i : Int)).toNat]? = some L[i] := by simp [hi]
  have hd : L.drop i = L[i] :: L[i + 1] :: L.drop (i + 2) := by rw [y10 hi, y10 hi1]
  rw [hd]
  by_cases c : L[i] < key
  ·have e1 : findN key (L[i] :: L[i + 1] :: L.drop (i + 2)) = findN key (L.drop (i + 2)) + 2 := by simp only [findN, if_pos c]
   have e2 : isL key (L[i] :: L[i + 1] :: L.drop (i + 2)) = isL key (L.drop (i + 2)) := by simp only [isL, if_pos c]
   rw [e1, e2]
   have ih := zb0n z L key hL h2 k (i + 2) (by omega)
   rw [show ((i + 2 : Nat) : Int) = wrp .i64 ((i : Int) + 2) by rw [zbwn (by omega) (by omega)]; omega] at ih
   refine Ev.succ (Ev.po (Ev.po (Ev.opt he (Ev.pos c (Ev.cast ih ?_))))) (fun q => rfl)
   rw [show i + 2 + findN key (L.drop (i + 2)) = i + (findN key (L.drop (i + 2)) + 2) by omega]
  ·have e1 : findN key (L[i] :: L[i + 1] :: L.drop (i + 2)) = 0 := by simp only [findN, if_neg c]
   have e2 : isL key (L[i] :: L[i + 1] :: L.drop (i + 2)) = decide (L[i] = key) := by simp only [isL, if_neg c]
   rw [e1, e2]
   exact Ev.succ (Ev.po (Ev.po (Ev.opt he (Ev.neg c (Ev.ret' (by simp)))))) (fun q => rfl)
theorem zb0o (s : Sl Int) (key : Int) (hL : s.l.length ≤ 1000000) (h2 : s.l.length % 2 = 0) : Ev (fun q => zkr q s key) ((findN key s.l : Int), isL key s.l) := by
 have h := zb0n s.z s.l key hL h2 (s.l.length / 2) 0 (by omega)
 rw [y38, y43] at h
 exact Ev.succ h (fun q => rfl)
theorem has_ev (s : Sl Int) (key : Int) (hL : s.l.length ≤ 1000000) (h2 : s.l.length % 2 = 0) : Ev (fun q => zks q s key) (hasL key s.l) := by
 have hp := zb0l key s.l h2
 refine Ev.succ (Ev.bind (zb0o s key hL h2) (Ev.ite (fun c => ?_) fun c => Ev.ret' ?_)) (fun q => rfl)
 ·simp only at c
  have h1 := hp.2.1 c
  have w : wrp .i64 ((findN key s.l : Int) + 1) = ((findN key s.l + 1 : Nat) : Int) := by rw [zbwn (by omega) (by omega)]; omega
  exact Ev.pos (by simp only; rw [w]; omega) (Ev.opt (by simp only; rw [w, y28]; exact h1.2) (Ev.ret _))
 ·exact (hp.2.2 (by simpa using c)).symm
def putOk (key : Int) (l : List Int) : Bool := isL key l || decide (l.length < 128)
theorem put_ev (s : Sl Int) (hz : s.z = true → s.l = []) (key n : Int) (hL : s.l.length ≤ 1000000) (h2 : s.l.length % 2 = 0) : Ev (fun q => zku q s key n) (if putOk key s.l = true then (⟨false, putL key n s.l⟩, true) else (s, false)) := by
 have hp := zb0l key s.l h2
 obtain ⟨z, hC⟩ := zbyq s hz (by omega)
 by_cases c : isL key s.l = true
 ·have h1 := hp.2.1 c
  have hs : s.z = false := by
   by_cases e : s.z = true
   ·rw [hz e] at h1; simp at h1
   ·simpa using e
  have hC := zbx8 s hs (by omega)
  have w : wrp .i64 ((findN key s.l : Int) + 1) = ((findN key s.l + 1 : Nat) : Int) := by rw [zbwn (by omega) (by omega)]; omega
  rw [if_pos (by unfold putOk; rw [c]; rfl)]
  refine Ev.succ (Ev.bind (zb0o s key hL h2) (Ev.pos c (Ev.bind hC ?_))) (fun q => rfl)
  simp only
  rw [w]
  refine Ev.po (Ev.po (Ev.opt (by rw [y28]; exact h1.2) (Ev.pos trivial (Ev.ret' ?_))))
  rw [y28, put_is key n s.l h2 c]
 ·have c' : isL key s.l = false := by simpa using c
  by_cases d : s.l.length < 128
  ·rw [if_pos (by unfold putOk; rw [decide_eq_true d]; simp)]
   have hI : Ev (fun q => zkt q ⟨z, true, s.l⟩ (findN key s.l : Int) ⟨false, true, [key, n]⟩) ⟨false, true, putL key n s.l⟩ := by
    refine Ev.succ (g := fun _ => if insOk (⟨z, true, s.l⟩ : Ow Int) (findN key s.l : Int) ⟨false, true, [key, n]⟩ then some (insR (⟨z, true, s.l⟩ : Ow Int) (findN key s.l : Int) ⟨false, true, [key, n]⟩) else none) (Ev.pos ⟨rfl, by omega, by simp only; omega, rfl, by simp, by simp only [y22, y26]; omega⟩ (Ev.ret' ?_)) (fun q => rfl)
    rw [← put_no key n s.l h2 c']; simp [insR]
   refine Ev.succ (Ev.bind (zb0o s key hL h2) (Ev.neg (by simp only; rw [c']; simp) (Ev.ne (Ev.bind hC ?_)))) (fun q => rfl)
   exact Ev.bind hI (Ev.ret' rfl)
  ·rw [if_neg (by unfold putOk; rw [c', decide_eq_false d]; simp)]
   exact Ev.succ (Ev.bind (zb0o s key hL h2) (Ev.neg (by simp only; rw [c']; simp) (Ev.po (Ev.ret _)))) (fun q => rfl)
def numV (k : Int) (l : List Int) (o : zjq) : List Int × Int :=
 if o.Code = 7 then (l, l.headD 0) else if k = 0 ∧ o.Code = 1 then ([cutI (wrp .i64 (l.headD 0 + cutI o.A))], l.headD 0) else if k = 1 ∧ o.Code = 2 then ([cutI o.A], l.headD 0) else (l, 0)
def linV (k : Int) (l : List Int) (o : zjq) : List Int × Int :=
 if o.Code = 7 then (l, (l.length : Int)) else if o.Code = 3 then (if (l.length : Int) < 64 then (l ++ [cutI o.A], (l.length : Int) + 1) else (l, -1))
 else if o.Code = 4 then (if (l.length : Int) = 0 then (l, -1) else if k = 2 then (l.drop 1, l.headD 0) else (l.take (l.length - 1), (l[l.length - 1]?).getD 0)) else (l, 0)
def stoV (l : List Int) (o : zjq) : List Int × Int :=
 if o.Code = 7 ∨ o.Code = 6 ∨ o.Code = 5 then (if o.A < 0 ∨ 255 < o.A then (l, -1) else if o.Code = 6 ∧ isL o.A l = true then (delL o.A l, hasL o.A l)
  else if o.Code = 5 then (if putOk o.A l = true then (putL o.A (cutI o.B) l, hasL o.A l) else (l, -2)) else (l, hasL o.A l)) else (l, 0)
def nz (n : Int) : Int := if n < 0 then 0 else n
def movV (l : List Int) (o : zjq) : List Int × Int :=
 if o.A < 0 ∨ 65536 ≤ o.A ∨ o.B < 0 then (l, 0) else if hasL (wrp .i64 (Int.tdiv o.A 256)) l < o.B then (l, 0) else if wrp .i64 (Int.tdiv o.A 256) = Int.tmod o.A 256 then (l, 1)
 else if putOk (Int.tmod o.A 256) l = true then (if 1099511627776 < wrp .i64 (nz (hasL (Int.tmod o.A 256) l) + o.B) then (l, 0)
  else if putOk (wrp .i64 (Int.tdiv o.A 256)) (putL (Int.tmod o.A 256) (wrp .i64 (nz (hasL (Int.tmod o.A 256) l) + o.B)) l) = true then (putL (wrp .i64 (Int.tdiv o.A 256)) (wrp .i64 (hasL (wrp .i64 (Int.tdiv o.A 256)) l - o.B)) (putL (Int.tmod o.A 256) (wrp .i64 (nz (hasL (Int.tmod o.A 256) l) + o.B)) l), 1)
  else (putL (Int.tmod o.A 256) (wrp .i64 (nz (hasL (Int.tmod o.A 256) l) + o.B)) l, 1)) else (l, 0)
def ledV (l : List Int) (o : zjq) : List Int × Int :=
 if o.Code = 9 then movV l o else if o.Code = 7 then (if o.A < 0 ∨ 255 < o.A then (l, -1) else (l, hasL o.A l))
 else if o.Code = 8 then (if o.A < 0 ∨ 255 < o.A ∨ o.B < 0 then (l, -1) else if putOk o.A l = true then (putL o.A (cutI (wrp .i64 (nz (hasL o.A l) + cutI o.B))) l, cutI (wrp .i64 (nz (hasL o.A l) + cutI o.B))) else (l, -2)) else (l, 0)
/-- What an operation leaves, and what comes of it. -/
def stepV (s : zjm) (o : zjq) : (List Int × Bool × Int) × Int :=
 if mayS s = true then (if s.Sealed = true then ((s.L.l, s.Sealed, s.To), -1125899906842624) else if o.Code = 10 then ((s.L.l, true, if 0 ≤ o.A ∧ o.A < 3 then o.A else s.To), 0)
  else if s.Kind = 0 ∨ s.Kind = 1 then (((numV s.Kind s.L.l o).1, s.Sealed, s.To), (numV s.Kind s.L.l o).2)
  else if s.Kind = 2 ∨ s.Kind = 3 then (((linV s.Kind s.L.l o).1, s.Sealed, s.To), (linV s.Kind s.L.l o).2)
  else if s.Kind = 4 then (((stoV s.L.l o).1, s.Sealed, s.To), (stoV s.L.l o).2) else (((ledV s.L.l o).1, s.Sealed, s.To), (ledV s.L.l o).2))
 else ((s.L.l, s.Sealed, s.To), 0)
def wS (s : zjm) (z : Bool) (l : List Int) : zjm := ⟨s.Kind, ⟨z, l⟩, s.Sealed, s.To⟩
/-- A function comes to a list and a number. -/
def Comes (f : Nat → zjm → zjq → Option (zjm × Int)) (s : zjm) (o : zjq) (r : List Int × Int) : Prop := ∃ z, (z = true → r.1 = []) ∧ Ev (fun q => f q s o) (wS s z r.1, r.2)
theorem zb0p (s : zjm) (hz : s.L.z = true → s.L.l = []) (h1 : s.L.l.length = 1) (o : zjq) : Comes zkn s o (numV s.Kind s.L.l o) := by
 obtain ⟨n, hn⟩ : ∃ n, s.L.l = [n] := List.length_eq_one_iff.1 h1
 have hg : s.L.l[0]? = some n := by rw [hn]; rfl
 have hh : s.L.l.headD 0 = n := by rw [hn]; rfl
 unfold Comes numV
 rw [hh]
 by_cases c7 : o.Code = 7
 ·rw [if_pos c7]
  exact ⟨s.L.z, hz, Ev.succ (Ev.opt hg (Ev.pos c7 (Ev.ret _))) (fun q => rfl)⟩
 ·rw [if_neg c7]
  by_cases k0 : s.Kind = 0
  ·by_cases c1 : o.Code = 1
   ·rw [if_pos ⟨k0, c1⟩]
    refine ⟨false, fun h => (by cases h), Ev.succ (Ev.opt hg (Ev.neg c7 (Ev.pos k0 (Ev.pos c1 (Ev.bind (zbw2 _) ?_))))) (fun q => rfl)⟩
    exact Ev.bind (zbw2 (wrp .i64 (n + cutI o.A))) (Ev.ret' rfl)
   ·rw [if_neg (fun h => c1 h.2), if_neg (fun h => by omega)]
    exact ⟨s.L.z, hz, Ev.succ (Ev.opt hg (Ev.neg c7 (Ev.pos k0 (Ev.neg c1 (Ev.ne (Ev.ret _)))))) (fun q => rfl)⟩
  ·rw [if_neg (fun h => k0 h.1)]
   by_cases k1 : s.Kind = 1
   ·by_cases c2 : o.Code = 2
    ·rw [if_pos ⟨k1, c2⟩]
     refine ⟨false, fun h => (by cases h), Ev.succ (Ev.opt hg (Ev.neg c7 (Ev.neg k0 (Ev.pos k1 (Ev.pos c2 ?_))))) (fun q => rfl)⟩
     exact Ev.bind (zbw2 o.A) (Ev.ret' rfl)
    ·rw [if_neg (fun h => c2 h.2)]
     exact ⟨s.L.z, hz, Ev.succ (Ev.opt hg (Ev.neg c7 (Ev.neg k0 (Ev.pos k1 (Ev.neg c2 (Ev.ret _)))))) (fun q => rfl)⟩
   ·rw [if_neg (fun h => k1 h.1)]
    exact ⟨s.L.z, hz, Ev.succ (Ev.opt hg (Ev.neg c7 (Ev.neg k0 (Ev.neg k1 (Ev.ret _))))) (fun q => rfl)⟩
theorem zb0q (s : zjm) (hz : s.L.z = true → s.L.l = []) (hL : s.L.l.length ≤ 1000000) (o : zjq) : Comes zkp s o (linV s.Kind s.L.l o) := by
 unfold Comes linV
 by_cases c7 : o.Code = 7
 ·rw [if_pos c7]
  exact ⟨s.L.z, hz, Ev.succ (Ev.pos c7 (Ev.ret _)) (fun q => rfl)⟩
 ·rw [if_neg c7]
  by_cases c3 : o.Code = 3
  ·rw [if_pos c3]
   by_cases d : (s.L.l.length : Int) < 64
   ·rw [if_pos d]
    obtain ⟨z, hC⟩ := zbyq s.L hz (by omega)
    refine ⟨false, fun h => (by cases h), Ev.succ (Ev.neg c7 (Ev.pos c3 (Ev.pos d (Ev.bind hC (Ev.bind (zbw2 _) (Ev.pos (by simp only; omega) ?_)))))) (fun q => rfl)⟩
    exact Ev.ret' (by rw [zbwn (by omega) (by omega)]; rfl)
   ·rw [if_neg d]
    exact ⟨s.L.z, hz, Ev.succ (Ev.neg c7 (Ev.pos c3 (Ev.neg d (Ev.ret _)))) (fun q => rfl)⟩
  ·rw [if_neg c3]
   by_cases c4 : o.Code = 4
   ·rw [if_pos c4]
    by_cases d : (s.L.l.length : Int) = 0
    ·rw [if_pos d]
     exact ⟨s.L.z, hz, Ev.succ (Ev.neg c7 (Ev.neg c3 (Ev.pos c4 (Ev.pos d (Ev.ret _))))) (fun q => rfl)⟩
    ·rw [if_neg d]
     have hs : s.L.z = false := by
      by_cases e : s.L.z = true
      ·rw [hz e] at d; simp at d
      ·simpa using e
     have hC := zbx8 s.L hs (by omega)
     by_cases k2 : s.Kind = 2
     ·rw [if_pos k2]
      have hg : s.L.l[0]? = some (s.L.l.headD 0) := by
       cases hl : s.L.l with
       | nil => rw [hl] at d; simp at d
       | cons a t => rfl
      have hD := zb0j (l := s.L.l) (i := 0) (j := wrp .i64 1) (by omega) (by rw [zbwn (by omega) (by omega)]; omega) (by rw [zbwn (by omega) (by omega)]; omega) hL
      refine ⟨false, fun h => (by cases h), Ev.succ (Ev.neg c7 (Ev.neg c3 (Ev.pos c4 (Ev.neg d (Ev.pos k2 (Ev.opt hg (Ev.bind hC ?_))))))) (fun q => rfl)⟩
      exact Ev.bind hD (Ev.ret' (by rw [zbwn (by omega) (by omega)]; rfl))
     ·rw [if_neg k2]
      have w1 : wrp .i64 ((s.L.l.length : Int) - 1) = ((s.L.l.length - 1 : Nat) : Int) := by rw [zbwn (by omega) (by omega)]; omega
      have hg : s.L.l[s.L.l.length - 1]? = some ((s.L.l[s.L.l.length - 1]?).getD 0) := by
       rw [y8 (by omega)]; rfl
      have w2 : wrp .i64 (((s.L.l.length - 1 : Nat) : Int) + 1) = (s.L.l.length : Int) := by rw [zbwn (by omega) (by omega)]; omega
      have hD := zb0j (l := s.L.l) (i := ((s.L.l.length - 1 : Nat) : Int)) (j := (s.L.l.length : Int)) (by omega) (by omega) (by omega) hL
      refine ⟨false, fun h => (by cases h), Ev.succ (Ev.neg c7 (Ev.neg c3 (Ev.pos c4 (Ev.neg d (Ev.neg k2 ?_))))) (fun q => rfl)⟩
      rw [w1, w2]
      refine Ev.po (Ev.opt (by rw [y28]; exact hg) (Ev.bind hC ?_))
      exact Ev.bind hD (Ev.ret' (by rw [y28, y28, List.drop_length, List.append_nil]; rfl))
   ·rw [if_neg c4]
    exact ⟨s.L.z, hz, Ev.succ (Ev.neg c7 (Ev.neg c3 (Ev.neg c4 (Ev.ret _)))) (fun q => rfl)⟩
theorem zb0r (s : zjm) (hz : s.L.z = true → s.L.l = []) (hL : s.L.l.length ≤ 1000000) (h2 : s.L.l.length % 2 = 0) (o : zjq) : Comes zkv s o (stoV s.L.l o) := by
 have hH := has_ev s.L o.A hL h2
 have hF := zb0o s.L o.A hL h2
 have hp := zb0l o.A s.L.l h2
 have hP := put_ev s.L hz o.A (cutI o.B) hL h2
 -- what is done where the operation is to put
 have put : ∀ {K : Nat → Option (zjm × Int)}, K = (fun q => (zjt q o.B).bind fun r5 => ((zku q s.L o.A r5).bind fun r6 => (if r6.2 = true then (some ((⟨s.Kind, r6.1, s.Sealed, s.To⟩ : zjm), hasL o.A s.L.l)) else (some (s, (-2)))))) →
   ∃ z, (z = true → (if putOk o.A s.L.l = true then (putL o.A (cutI o.B) s.L.l, hasL o.A s.L.l) else (s.L.l, -2)).1 = []) ∧ Ev K (wS s z (if putOk o.A s.L.l = true then (putL o.A (cutI o.B) s.L.l, hasL o.A s.L.l) else (s.L.l, -2)).1, (if putOk o.A s.L.l = true then (putL o.A (cutI o.B) s.L.l, hasL o.A s.L.l) else (s.L.l, -2)).2) := by
  rintro K rfl
  by_cases c : putOk o.A s.L.l = true
  ·rw [if_pos c] at hP ⊢
   refine ⟨false, fun h => (by cases h), Ev.bind (zbw2 _) (Ev.bind hP (Ev.pos rfl ?_))⟩
   exact Ev.ret' rfl
  ·rw [if_neg c] at hP ⊢
   refine ⟨s.L.z, hz, Ev.bind (zbw2 _) (Ev.bind hP (Ev.neg (by simp) ?_))⟩
   exact Ev.ret' rfl
 have del : isL o.A s.L.l = true → ∀ {K : Nat → Option (zjm × Int)}, K = (fun q => (zj4 q s.L).bind fun r3 => ((zko q r3 (findN o.A s.L.l : Int) (wrp .i64 ((findN o.A s.L.l : Int) + 2))).bind fun r4 => (some ((⟨s.Kind, ⟨r4.n, r4.xs⟩, s.Sealed, s.To⟩ : zjm), hasL o.A s.L.l)))) →
   Ev K (wS s false (delL o.A s.L.l), hasL o.A s.L.l) := by
  intro c K hK
  subst hK
  have h1 := hp.2.1 c
  have hs : s.L.z = false := by
   by_cases e : s.L.z = true
   ·rw [hz e] at h1; simp at h1
   ·simpa using e
  have w : wrp .i64 ((findN o.A s.L.l : Int) + 2) = ((findN o.A s.L.l + 2 : Nat) : Int) := by rw [zbwn (by omega) (by omega)]; omega
  have hD := zb0j (l := s.L.l) (i := (findN o.A s.L.l : Int)) (j := ((findN o.A s.L.l + 2 : Nat) : Int)) (by omega) (by omega) (by omega) hL
  rw [y28, y28, del_is o.A s.L.l h2 c] at hD
  rw [w]
  refine Ev.bind (zbx8 s.L hs (by omega)) ?_
  exact Ev.bind hD (Ev.ret' rfl)
 unfold Comes stoV
 by_cases c7 : o.Code = 7
 ·rw [if_pos (.inl c7)]
  by_cases a0 : o.A < 0
  ·rw [if_pos (.inl a0)]
   exact ⟨s.L.z, hz, Ev.succ (Ev.pos c7 (Ev.pos a0 (Ev.ret _))) (fun q => rfl)⟩
  ·by_cases a1 : 255 < o.A
   ·rw [if_pos (.inr a1)]
    exact ⟨s.L.z, hz, Ev.succ (Ev.pos c7 (Ev.neg a0 (Ev.pos a1 (Ev.ret _)))) (fun q => rfl)⟩
   ·rw [if_neg (by omega), if_neg (fun h => by omega), if_neg (by omega)]
    refine ⟨s.L.z, hz, Ev.succ (Ev.pos c7 (Ev.neg a0 (Ev.neg a1 (Ev.bind hH (Ev.bind hF (Ev.ne (Ev.neg (by omega) ?_))))))) (fun q => rfl)⟩
    exact Ev.ret' rfl
 ·by_cases c6 : o.Code = 6
  ·rw [if_pos (.inr (.inl c6))]
   by_cases a0 : o.A < 0
   ·rw [if_pos (.inl a0)]
    exact ⟨s.L.z, hz, Ev.succ (Ev.neg c7 (Ev.pos c6 (Ev.pos a0 (Ev.ret _)))) (fun q => rfl)⟩
   ·by_cases a1 : 255 < o.A
    ·rw [if_pos (.inr a1)]
     exact ⟨s.L.z, hz, Ev.succ (Ev.neg c7 (Ev.pos c6 (Ev.neg a0 (Ev.pos a1 (Ev.ret _))))) (fun q => rfl)⟩
    ·rw [if_neg (show ¬ (o.A < 0 ∨ 255 < o.A) by omega)]
     by_cases d : isL o.A s.L.l = true
     ·rw [if_pos ⟨c6, d⟩]
      refine ⟨false, fun h => (by cases h), Ev.succ (Ev.neg c7 (Ev.pos c6 (Ev.neg a0 (Ev.neg a1 (Ev.bind hH (Ev.bind hF (Ev.pos d ?_))))))) (fun q => rfl)⟩
      exact del d rfl
     ·rw [if_neg (fun h => d h.2), if_neg (by omega)]
      refine ⟨s.L.z, hz, Ev.succ (Ev.neg c7 (Ev.pos c6 (Ev.neg a0 (Ev.neg a1 (Ev.bind hH (Ev.bind hF (Ev.neg d (Ev.neg (by omega) ?_)))))))) (fun q => rfl)⟩
      exact Ev.ret' rfl
  ·by_cases c5 : o.Code = 5
   ·rw [if_pos (.inr (.inr c5))]
    by_cases a0 : o.A < 0
    ·rw [if_pos (.inl a0)]
     exact ⟨s.L.z, hz, Ev.succ (Ev.neg c7 (Ev.neg c6 (Ev.pos c5 (Ev.pos a0 (Ev.ret _))))) (fun q => rfl)⟩
    ·by_cases a1 : 255 < o.A
     ·rw [if_pos (.inr a1)]
      exact ⟨s.L.z, hz, Ev.succ (Ev.neg c7 (Ev.neg c6 (Ev.pos c5 (Ev.neg a0 (Ev.pos a1 (Ev.ret _)))))) (fun q => rfl)⟩
     ·rw [if_neg (show ¬ (o.A < 0 ∨ 255 < o.A) by omega), if_neg (fun h => by omega), if_pos c5]
      obtain ⟨z, h3, h4⟩ := put rfl
      refine ⟨z, h3, Ev.succ (Ev.neg c7 (Ev.neg c6 (Ev.pos c5 (Ev.neg a0 (Ev.neg a1 (Ev.bind hH (Ev.bind hF ?_))))))) (fun q => rfl)⟩
      exact h4
   ·rw [if_neg (by omega)]
    exact ⟨s.L.z, hz, Ev.succ (Ev.neg c7 (Ev.neg c6 (Ev.neg c5 (Ev.ret _)))) (fun q => rfl)⟩
theorem zb0s (s : zjm) (hz : s.L.z = true → s.L.l = []) (hL : s.L.l.length ≤ 900000) (h2 : s.L.l.length % 2 = 0) (o : zjq) : Comes zkw s o (movV s.L.l o) := by
 unfold Comes movV
 by_cases a0 : o.A < 0
 ·rw [if_pos (.inl a0)]
  exact ⟨s.L.z, hz, Ev.succ (Ev.pos a0 (Ev.ret _)) (fun q => rfl)⟩
 by_cases a1 : 65536 ≤ o.A
 ·rw [if_pos (.inr (.inl a1))]
  exact ⟨s.L.z, hz, Ev.succ (Ev.neg a0 (Ev.pos a1 (Ev.ret _))) (fun q => rfl)⟩
 by_cases b0 : o.B < 0
 ·rw [if_pos (.inr (.inr b0))]
  exact ⟨s.L.z, hz, Ev.succ (Ev.neg a0 (Ev.neg a1 (Ev.pos b0 (Ev.ret _)))) (fun q => rfl)⟩
 rw [if_neg (show ¬ (o.A < 0 ∨ 65536 ≤ o.A ∨ o.B < 0) by omega)]
 generalize hf : wrp .i64 (Int.tdiv o.A 256) = f
 generalize ht : Int.tmod o.A 256 = t
 have start : ∀ {r : zjm × Int}, Ev (fun q => (if hasL f s.L.l < o.B then (some (s, 0)) else (if f = t then (some (s, 1)) else ((zku q s.L t (wrp .i64 (nz (hasL t s.L.l) + o.B))).bind fun r3 => (if r3.2 = true then (if 1099511627776 < (wrp .i64 (nz (hasL t s.L.l) + o.B)) then (some (s, 0)) else ((zku q r3.1 f (wrp .i64 (hasL f s.L.l - o.B))).bind fun r4 => (some ((⟨s.Kind, r4.1, s.Sealed, s.To⟩ : zjm), 1)))) else (some (s, 0))))))) r → Ev (fun q => zkw q s o) r := fun h => by
  have hf' := has_ev s.L f (by omega) h2
  have ht' := has_ev s.L t (by omega) h2
  subst hf; subst ht
  refine Ev.succ (Ev.neg a0 (Ev.neg a1 (Ev.neg b0 (Ev.bind hf' (Ev.bind ht' ?_))))) (fun q => rfl)
  exact h
 by_cases c1 : hasL f s.L.l < o.B
 ·rw [if_pos c1]
  exact ⟨s.L.z, hz, start (Ev.pos c1 (Ev.ret _))⟩
 rw [if_neg c1]
 by_cases c2 : f = t
 ·rw [if_pos c2]
  exact ⟨s.L.z, hz, start (Ev.neg c1 (Ev.pos c2 (Ev.ret _)))⟩
 rw [if_neg c2]
 have hP := put_ev s.L hz t (wrp .i64 (nz (hasL t s.L.l) + o.B)) (by omega) h2
 generalize wrp .i64 (nz (hasL t s.L.l) + o.B) = n at hP start ⊢
 by_cases c3 : putOk t s.L.l = true
 ·rw [if_pos c3] at hP ⊢
  by_cases c4 : 1099511627776 < n
  ·rw [if_pos c4]
   refine ⟨s.L.z, hz, start (Ev.neg c1 (Ev.neg c2 (Ev.bind hP (Ev.pos rfl (Ev.pos c4 ?_)))))⟩
   exact Ev.ret _
  ·rw [if_neg c4]
   have hl := zb0m t n s.L.l h2
   have he : (putL t n s.L.l).length % 2 = 0 := by rw [hl]; split <;> omega
   have hl2 : (putL t n s.L.l).length ≤ 1000000 := by rw [hl]; split <;> omega
   have hQ := put_ev ⟨false, putL t n s.L.l⟩ (fun h => by cases h) f (wrp .i64 (hasL f s.L.l - o.B)) hl2 he
   simp only at hQ
   by_cases c5 : putOk f (putL t n s.L.l) = true
   ·rw [if_pos c5] at hQ ⊢
    refine ⟨false, fun h => (by cases h), start (Ev.neg c1 (Ev.neg c2 (Ev.bind hP (Ev.pos rfl (Ev.neg c4 ?_)))))⟩
    exact Ev.bind hQ (Ev.ret' rfl)
   ·rw [if_neg c5] at hQ ⊢
    refine ⟨false, fun h => (by cases h), start (Ev.neg c1 (Ev.neg c2 (Ev.bind hP (Ev.pos rfl (Ev.neg c4 ?_)))))⟩
    exact Ev.bind hQ (Ev.ret' rfl)
 ·rw [if_neg c3] at hP ⊢
  refine ⟨s.L.z, hz, start (Ev.neg c1 (Ev.neg c2 (Ev.bind hP (Ev.neg (by simp) ?_))))⟩
  exact Ev.ret _
theorem zb0t (s : zjm) (hz : s.L.z = true → s.L.l = []) (hL : s.L.l.length ≤ 900000) (h2 : s.L.l.length % 2 = 0) (o : zjq) : Comes zkx s o (ledV s.L.l o) := by
 unfold ledV
 by_cases c9 : o.Code = 9
 ·rw [if_pos c9]
  obtain ⟨z, h1, h3⟩ := zb0s s hz hL h2 o
  refine ⟨z, h1, Ev.succ (Ev.pos c9 (Ev.bind h3 ?_)) (fun q => rfl)⟩
  exact Ev.ret' rfl
 unfold Comes
 rw [if_neg c9]
 have hH := has_ev s.L o.A (by omega) h2
 by_cases c7 : o.Code = 7
 ·rw [if_pos c7]
  by_cases a0 : o.A < 0
  ·rw [if_pos (.inl a0)]
   exact ⟨s.L.z, hz, Ev.succ (Ev.neg c9 (Ev.pos c7 (Ev.pos a0 (Ev.ret _)))) (fun q => rfl)⟩
  ·by_cases a1 : 255 < o.A
   ·rw [if_pos (.inr a1)]
    exact ⟨s.L.z, hz, Ev.succ (Ev.neg c9 (Ev.pos c7 (Ev.neg a0 (Ev.pos a1 (Ev.ret _))))) (fun q => rfl)⟩
   ·rw [if_neg (by omega)]
    refine ⟨s.L.z, hz, Ev.succ (Ev.neg c9 (Ev.pos c7 (Ev.neg a0 (Ev.neg a1 (Ev.bind hH ?_))))) (fun q => rfl)⟩
    exact Ev.ret' rfl
 ·rw [if_neg c7]
  by_cases c8 : o.Code = 8
  ·rw [if_pos c8]
   by_cases a0 : o.A < 0
   ·rw [if_pos (.inl a0)]
    exact ⟨s.L.z, hz, Ev.succ (Ev.neg c9 (Ev.neg c7 (Ev.pos c8 (Ev.pos a0 (Ev.ret _))))) (fun q => rfl)⟩
   ·by_cases a1 : 255 < o.A
    ·rw [if_pos (.inr (.inl a1))]
     exact ⟨s.L.z, hz, Ev.succ (Ev.neg c9 (Ev.neg c7 (Ev.pos c8 (Ev.neg a0 (Ev.pos a1 (Ev.ret _)))))) (fun q => rfl)⟩
    ·by_cases b0 : o.B < 0
     ·rw [if_pos (.inr (.inr b0))]
      exact ⟨s.L.z, hz, Ev.succ (Ev.neg c9 (Ev.neg c7 (Ev.pos c8 (Ev.neg a0 (Ev.neg a1 (Ev.pos b0 (Ev.ret _))))))) (fun q => rfl)⟩
     ·rw [if_neg (show ¬ (o.A < 0 ∨ 255 < o.A ∨ o.B < 0) by omega)]
      have hP := put_ev s.L hz o.A (cutI (wrp .i64 (nz (hasL o.A s.L.l) + cutI o.B))) (by omega) h2
      by_cases d : putOk o.A s.L.l = true
      ·rw [if_pos d] at hP ⊢
       refine ⟨false, fun h => (by cases h), Ev.succ (Ev.neg c9 (Ev.neg c7 (Ev.pos c8 (Ev.neg a0 (Ev.neg a1 (Ev.neg b0 (Ev.bind hH (Ev.bind (zbw2 o.B) (Ev.bind (zbw2 _) ?_))))))))) (fun q => rfl)⟩
       refine Ev.bind hP (Ev.pos rfl ?_)
       exact Ev.ret' rfl
      ·rw [if_neg d] at hP ⊢
       refine ⟨s.L.z, hz, Ev.succ (Ev.neg c9 (Ev.neg c7 (Ev.pos c8 (Ev.neg a0 (Ev.neg a1 (Ev.neg b0 (Ev.bind hH (Ev.bind (zbw2 o.B) (Ev.bind (zbw2 _) ?_))))))))) (fun q => rfl)⟩
       refine Ev.bind hP (Ev.neg (by simp) ?_)
       exact Ev.ret' rfl
  ·rw [if_neg c8]
   exact ⟨s.L.z, hz, Ev.succ (Ev.neg c9 (Ev.neg c7 (Ev.neg c8 (Ev.ret _)))) (fun q => rfl)⟩
theorem zb0u {k : Int} {l : List Int} (h : kindOk k l = true) (h0 : ¬ (k = 0 ∨ k = 1)) (h2 : ¬ (k = 2 ∨ k = 3)) : l.length % 2 = 0 := by
 unfold kindOk at h
 rw [if_neg h0, if_neg h2] at h
 split at h
 ·simp only [pairsOk, y7, decide_eq_true_eq] at h; exact h.2.1
 ·split at h
  ·simp only [pairsOk, y7, decide_eq_true_eq] at h; exact h.2.1
  ·cases h
theorem zb0v {k : Int} {l : List Int} (h : kindOk k l = true) (h0 : k = 0 ∨ k = 1) : l.length = 1 := by
 unfold kindOk at h
 rw [if_pos h0, decide_eq_true_eq] at h; exact h.1
def stV (s : zjm) (z : Bool) (r : (List Int × Bool × Int) × Int) : zjm × Int := (⟨s.Kind, ⟨z, r.1.1⟩, r.1.2.1, r.1.2.2⟩, r.2)
theorem zb0w (s : zjm) (hz : s.L.z = true → s.L.l = []) (hL : s.L.l.length ≤ 900000) (o : zjq) : ∃ z, (z = true → (stepV s o).1.1 = []) ∧ Ev (fun q => zky q s o) (stV s z (stepV s o)) := by
 have hM := zbyh s (by omega)
 unfold stepV stV
 by_cases m : mayS s = true
 ·rw [if_pos m]
  rw [m] at hM
  have hk := (zbyu m).2.2.2
  by_cases hs : s.Sealed = true
  ·rw [if_pos hs]
   exact ⟨s.L.z, hz, Ev.succ (Ev.bind hM (Ev.pos rfl (Ev.pos hs (Ev.ret _)))) (fun q => rfl)⟩
  rw [if_neg hs]
  by_cases c : o.Code = 10
  ·rw [if_pos c]
   refine ⟨s.L.z, hz, Ev.succ (Ev.bind hM (Ev.pos rfl (Ev.neg hs (Ev.pos c (Ev.ite (fun a0 => Ev.ite (fun a1 => Ev.ret' ?_) fun a1 => Ev.ret' ?_) fun a0 => Ev.ret' ?_))))) (fun q => rfl)⟩
   ·rw [if_pos ⟨a0, a1⟩]
   ·rw [if_neg (fun h => a1 h.2)]
   ·rw [if_neg (fun h => a0 h.1)]
  rw [if_neg c]
  by_cases k0 : s.Kind = 0
  ·obtain ⟨z, h1, h3⟩ := zb0p s hz (zb0v hk (.inl k0)) o
   rw [if_pos (show s.Kind = 0 ∨ s.Kind = 1 from .inl k0)]
   refine ⟨z, h1, Ev.succ (Ev.bind hM (Ev.pos rfl (Ev.neg hs (Ev.neg c (Ev.pos k0 (Ev.bind h3 ?_)))))) (fun q => rfl)⟩
   exact Ev.ret' rfl
  by_cases k1 : s.Kind = 1
  ·obtain ⟨z, h1, h3⟩ := zb0p s hz (zb0v hk (.inr k1)) o
   rw [if_pos (show s.Kind = 0 ∨ s.Kind = 1 from .inr k1)]
   refine ⟨z, h1, Ev.succ (Ev.bind hM (Ev.pos rfl (Ev.neg hs (Ev.neg c (Ev.neg k0 (Ev.pos k1 (Ev.bind h3 ?_))))))) (fun q => rfl)⟩
   exact Ev.ret' rfl
  rw [if_neg (show ¬ (s.Kind = 0 ∨ s.Kind = 1) by omega)]
  by_cases k2 : s.Kind = 2
  ·obtain ⟨z, h1, h3⟩ := zb0q s hz (by omega) o
   rw [if_pos (show s.Kind = 2 ∨ s.Kind = 3 from .inl k2)]
   refine ⟨z, h1, Ev.succ (Ev.bind hM (Ev.pos rfl (Ev.neg hs (Ev.neg c (Ev.neg k0 (Ev.neg k1 (Ev.pos k2 (Ev.bind h3 ?_)))))))) (fun q => rfl)⟩
   exact Ev.ret' rfl
  by_cases k3 : s.Kind = 3
  ·obtain ⟨z, h1, h3⟩ := zb0q s hz (by omega) o
   rw [if_pos (show s.Kind = 2 ∨ s.Kind = 3 from .inr k3)]
   refine ⟨z, h1, Ev.succ (Ev.bind hM (Ev.pos rfl (Ev.neg hs (Ev.neg c (Ev.neg k0 (Ev.neg k1 (Ev.neg k2 (Ev.pos k3 (Ev.bind h3 ?_))))))))) (fun q => rfl)⟩
   exact Ev.ret' rfl
  rw [if_neg (show ¬ (s.Kind = 2 ∨ s.Kind = 3) by omega)]
  have h2 := zb0u hk (by omega) (by omega)
  by_cases k4 : s.Kind = 4
  ·obtain ⟨z, h1, h3⟩ := zb0r s hz (by omega) h2 o
   rw [if_pos k4]
   refine ⟨z, h1, Ev.succ (Ev.bind hM (Ev.pos rfl (Ev.neg hs (Ev.neg c (Ev.neg k0 (Ev.neg k1 (Ev.neg k2 (Ev.neg k3 (Ev.pos k4 (Ev.bind h3 ?_)))))))))) (fun q => rfl)⟩
   exact Ev.ret' rfl
  ·obtain ⟨z, h1, h3⟩ := zb0t s hz hL h2 o
   rw [if_neg k4]
   refine ⟨z, h1, Ev.succ (Ev.bind hM (Ev.pos rfl (Ev.neg hs (Ev.neg c (Ev.neg k0 (Ev.neg k1 (Ev.neg k2 (Ev.neg k3 (Ev.neg k4 (Ev.bind h3 ?_)))))))))) (fun q => rfl)⟩
   exact Ev.ret' rfl
 ·rw [if_neg m]
  rw [show mayS s = false by simpa using m] at hM
  exact ⟨s.L.z, hz, Ev.succ (Ev.bind hM (Ev.neg (by simp) (Ev.ret _))) (fun q => rfl)⟩
theorem zb0x (key n : Int) : ∀ l : List Int, (putL key n l).length ≤ l.length + 2
 | [] => by simp [putL]
 | [a] => by simp [putL]
 | a :: b :: l => by
  have := zb0x key n l
  simp only [putL]
  split
  ·simp only [y22]; omega
  ·split <;> simp only [y22] <;> omega
theorem zb0y (key : Int) : ∀ l : List Int, (delL key l).length ≤ l.length
 | [] => by simp [delL]
 | [a] => by simp [delL]
 | a :: b :: l => by
  have := zb0y key l
  simp only [delL]
  split
  ·simp only [y22]; omega
  ·split <;> simp only [y22] <;> omega
theorem zb0z (k : Int) (l : List Int) (o : zjq) : (numV k l o).1.length ≤ l.length + 4 := by
 unfold numV; split <;> (try split) <;> (try split) <;> simp only [List.length_singleton] <;> omega
theorem zb00 (k : Int) (l : List Int) (o : zjq) : (linV k l o).1.length ≤ l.length + 4 := by
 unfold linV
 split
 ·simp only; omega
 ·split
  ·split <;> simp only [y11, List.length_singleton] <;> omega
  ·split
   ·split
    ·simp only; omega
    ·split <;> simp only [y14, y21] <;> omega
   ·simp only; omega
theorem zb01 (l : List Int) (o : zjq) : (stoV l o).1.length ≤ l.length + 4 := by
 have h1 := zb0x o.A (cutI o.B) l
 have h2 := zb0y o.A l
 unfold stoV
 split
 ·split
  ·simp only; omega
  ·split
   ·simp only; omega
   ·split
    ·split <;> simp only <;> omega
    ·simp only; omega
 ·simp only; omega
theorem zb02 (l : List Int) (o : zjq) : (movV l o).1.length ≤ l.length + 4 := by
 unfold movV
 generalize wrp .i64 (Int.tdiv o.A 256) = f
 generalize Int.tmod o.A 256 = t
 have h1 := zb0x t (wrp .i64 (nz (hasL t l) + o.B)) l
 have h2 := zb0x f (wrp .i64 (hasL f l - o.B)) (putL t (wrp .i64 (nz (hasL t l) + o.B)) l)
 split
 ·simp only; omega
 ·split
  ·simp only; omega
  ·split
   ·simp only; omega
   ·split
    ·split
     ·simp only; omega
     ·split <;> simp only <;> omega
    ·simp only; omega
theorem zb03 (l : List Int) (o : zjq) : (ledV l o).1.length ≤ l.length + 4 := by
 have h0 := zb02 l o
 have h1 := zb0x o.A (cutI (wrp .i64 (nz (hasL o.A l) + cutI o.B))) l
 unfold ledV
 split
 ·exact h0
 ·split
  ·split <;> simp only <;> omega
  ·split
   ·split
    ·simp only; omega
    ·split <;> simp only <;> omega
   ·simp only; omega
theorem zb04 (s : zjm) (o : zjq) : (stepV s o).1.1.length ≤ s.L.l.length + 4 := by
 unfold stepV
 split
 ·split
  ·simp only; omega
  ·split
   ·simp only; omega
   ·split
    ·exact zb0z _ _ _
    ·split
     ·exact zb00 _ _ _
     ·split
      ·exact zb01 _ _
      ·exact zb03 _ _
 ·simp only; omega
def nextS (s : zjm) (o : zjq) : zjm := ⟨s.Kind, ⟨false, (stepV s o).1.1⟩, (stepV s o).1.2.1, (stepV s o).1.2.2⟩
def setZ (z z' : Bool) (x : zjo) : zjo := ⟨x.Index, ⟨x.State.Kind, ⟨z, x.State.L.l⟩, x.State.Sealed, x.State.To⟩, ⟨z', x.Table.l⟩⟩
def noTN : zjo := ⟨0, ⟨0, ⟨false, []⟩, false, 0⟩, ⟨false, []⟩⟩
def nextN (s : zjo) (r : zjr) : zjo := ⟨wrp .i64 (s.Index + 1), nextS s.State r.Op, ⟨false, noteL s.Table.l r.Proc r.Seq (stepV s.State r.Op).2⟩⟩
/-- A snapshot behind records. -/
def takeV : zjo → List zjr → zjo × Int
 | s, [] => (setZ false false s, 0)
 | s, r :: l => if r.Index = s.Index then (if FitsR r then takeV (nextN s r) l else (noTN, 1)) else (noTN, 15)
theorem zb05 (z z' : Bool) (s : zjo) (l : List zjr) : takeV (setZ z z' s) l = takeV s l := by
 cases l <;> rfl
theorem zb06 (s : zjo) (r : zjr) (l : List zjr) : takeV s (r :: l) = if r.Index = s.Index then (if FitsR r then takeV (nextN s r) l else (noTN, 1)) else (noTN, 15) := rfl
def zOk (z z' : Bool) (x : zjo) : Prop := (z = true → x.State.L.l = []) ∧ (z' = true → x.Table.l = [])
theorem zb07 (zz : Bool) (L : List zjr) (hL : L.length ≤ 1000) : ∀ (k i : Nat) (s : zjo), L.length = i + k → zOk s.State.L.z s.Table.z s → s.State.L.l.length + 4 * k ≤ 900000 → s.Table.l.length + k ≤ 900000 →
  ∃ z z', zOk z z' (takeV s (L.drop i)).1 ∧ Ev (fun q => zkz q zz L (L.length : Int) (i : Int) s.Index s.State.Kind s.State.L.z s.State.L.l s.State.Sealed s.State.To s.Table.z s.Table.l true) (setZ z z' (takeV s (L.drop i)).1, (takeV s (L.drop i)).2)
 | 0, i, s, hk, hz, h1, h2 => by
  rw [y13 (by omega)]
  exact ⟨s.State.L.z, s.Table.z, hz, Ev.succ (Ev.ne (Ev.ret _)) (fun q => rfl)⟩
 | k + 1, i, s, hk, hz, h1, h2 => by
  have hi : i < L.length := by omega
  have he : L[((i : Int)).toNat]? = some L[i] := by simp [hi]
  rw [y10 hi]
  simp only [takeV]
  have w : wrp .i64 ((i : Int) + 1) = ((i + 1 : Nat) : Int) := by rw [zbwn (by omega) (by omega)]; omega
  by_cases c : L[i].Index = s.Index
  ·rw [if_pos c]
   by_cases d : FitsR L[i]
   ·rw [if_pos d]
    obtain ⟨z, hz1, hS⟩ := zb0w s.State hz.1 (by omega) L[i].Op
    have hN := zb0i s.Table hz.2 (by omega) ⟨L[i].Index, L[i].Proc, L[i].Seq, L[i].Op, (stepV s.State L[i].Op).2⟩
    have hl := zb04 s.State L[i].Op
    have hn := zb0a s.Table.l L[i].Proc L[i].Seq (stepV s.State L[i].Op).2
    have key := zb05 z false (nextN s L[i]) (L.drop (i + 1))
    obtain ⟨y, y', hy, ih⟩ := zb07 zz L hL k (i + 1) (setZ z false (nextN s L[i])) (by omega) ⟨hz1, fun h => by cases h⟩ (by simp only [setZ, nextN, nextS]; omega) (by simp only [setZ, nextN, nextS]; omega)
    rw [key] at hy ih
    rw [← w] at ih
    refine ⟨y, y', hy, Ev.succ (Ev.po (Ev.po (Ev.opt he (Ev.pos c (Ev.bind (zbw7 _) (Ev.pos (by simpa using d) (Ev.bind hS (Ev.bind hN ?_)))))))) (fun q => rfl)⟩
    exact ih
   ·rw [if_neg d]
    refine ⟨true, true, ⟨fun _ => rfl, fun _ => rfl⟩, Ev.succ (Ev.po (Ev.po (Ev.opt he (Ev.pos c (Ev.bind (zbw7 _) (Ev.neg (by simpa using d) ?_)))))) (fun q => rfl)⟩
    exact Ev.ret _
  ·rw [if_neg c]
   refine ⟨true, true, ⟨fun _ => rfl, fun _ => rfl⟩, Ev.succ (Ev.po (Ev.po (Ev.opt he (Ev.neg c ?_)))) (fun q => rfl)⟩
   exact Ev.ret _
theorem zb08 (s : zjo) (r : Sl zjr) (hr : r.l.length ≤ 1000) (hz : zOk s.State.L.z s.Table.z s) (h1 : s.State.L.l.length ≤ 800000) (h2 : s.Table.l.length ≤ 800000) :
  ∃ z z', zOk z z' (takeV s r.l).1 ∧ Ev (fun q => zk1 q s r) (setZ z z' (takeV s r.l).1, (takeV s r.l).2) := by
 suffices h : ∃ z z', zOk z z' (takeV s r.l).1 ∧ Ev (fun q => zk0 q r.z r.l (r.l.length : Int) s.Index s.State.Kind s.State.L.z s.State.L.l s.State.Sealed s.State.To s.Table.z s.Table.l) (setZ z z' (takeV s r.l).1, (takeV s r.l).2) by
  obtain ⟨z, z', h, h3⟩ := h
  exact ⟨z, z', h, Ev.succ h3 (fun q => rfl)⟩
 by_cases h0 : r.l.length = 0
 ·have hT : takeV s r.l = (setZ false false s, 0) := by rw [y35 h0]; rfl
  rw [hT]
  exact ⟨s.State.L.z, s.Table.z, hz, Ev.succ (Ev.ne (Ev.ret _)) (fun q => rfl)⟩
 ·have hi : 0 < r.l.length := by omega
  have he : r.l[0]? = some r.l[0] := y8 hi
  have hd : r.l = r.l[0] :: r.l.drop 1 := by
   have := y10 hi
   rwa [y38] at this
  have hT : takeV s r.l = if r.l[0].Index = s.Index then (if FitsR r.l[0] then takeV (nextN s r.l[0]) (r.l.drop 1) else (noTN, 1)) else (noTN, 15) := by
   have := congrArg (takeV s) hd
   exact this
  rw [hT]
  have w : wrp .i64 1 = ((1 : Nat) : Int) := by rw [zbwn (by omega) (by omega)]; rfl
  generalize r.l[0] = e at he hT ⊢
  by_cases c : e.Index = s.Index
  ·rw [if_pos c]
   by_cases d : FitsR e
   ·rw [if_pos d]
    obtain ⟨z, hz1, hS⟩ := zb0w s.State hz.1 (by omega) e.Op
    have hN := zb0i s.Table hz.2 (by omega) ⟨e.Index, e.Proc, e.Seq, e.Op, (stepV s.State e.Op).2⟩
    have hl := zb04 s.State e.Op
    have hn := zb0a s.Table.l e.Proc e.Seq (stepV s.State e.Op).2
    have key := zb05 z false (nextN s e) (r.l.drop 1)
    obtain ⟨y, y', hy, ih⟩ := zb07 r.z r.l hr (r.l.length - 1) 1 (setZ z false (nextN s e)) (by omega) ⟨hz1, fun h => by cases h⟩ (by simp only [setZ, nextN, nextS]; omega) (by simp only [setZ, nextN, nextS]; omega)
    rw [key] at hy ih
    rw [← w] at ih
    refine ⟨y, y', hy, Ev.succ (Ev.po (Ev.opt he (Ev.pos c (Ev.bind (zbw7 _) (Ev.pos (by simpa using d) (Ev.bind hS (Ev.bind hN ?_))))))) (fun q => rfl)⟩
    exact ih
   ·rw [if_neg d]
    refine ⟨true, true, ⟨fun _ => rfl, fun _ => rfl⟩, Ev.succ (Ev.po (Ev.opt he (Ev.pos c (Ev.bind (zbw7 _) (Ev.neg (by simpa using d) ?_))))) (fun q => rfl)⟩
    exact Ev.ret _
  ·rw [if_neg c]
   refine ⟨true, true, ⟨fun _ => rfl, fun _ => rfl⟩, Ev.succ (Ev.po (Ev.opt he (Ev.neg c ?_))) (fun q => rfl)⟩
   exact Ev.ret _
theorem zb09 : ∀ (l : List zjr) (s : zjo), (takeV s l).1.State.L.l.length ≤ s.State.L.l.length + 4 * l.length ∧ (takeV s l).1.Table.l.length ≤ s.Table.l.length + l.length
 | [], s => by simp [takeV, setZ]
 | r :: l, s => by
  rw [zb06]
  split
  ·split
   ·have h := zb09 l (nextN s r)
    have h1 := zb04 s.State r.Op
    have h2 := zb0a s.Table.l r.Proc r.Seq (stepV s.State r.Op).2
    simp only [nextN, nextS, y22] at h ⊢
    omega
   ·simp [noTN]
  ·simp [noTN]
theorem zb1a (a b c d : Bool) (x : zjo) : sameN (setZ a b x) (setZ c d x) = true := by simp [sameN, sameS, setZ]
theorem zb1b (p : Int) (e : zjn) (l : List zjn) : filP p (e :: l) = if e.Proc = p then filP p l else e :: filP p l := by
 unfold filP; rw [List.filter_cons]; by_cases c : e.Proc = p <;> simp [c]
def srt2 : Int → List Int → Prop
 | last, a :: _ :: l => last < a ∧ srt2 a l
 | _, _ => True
theorem zb1c : ∀ {l : List Int} {least last : Int}, prs least last l = true → srt2 last l
 | [], _, _, _ => trivial
 | [a], _, _, _ => trivial
 | a :: b :: l, least, last, h => by
  simp only [prs, y7, decide_eq_true_eq] at h
  exact ⟨h.1, zb1c h.2.2.2.2⟩
theorem isL_no : ∀ {l : List Int} {last key : Int}, srt2 last l → key ≤ last → isL key l = false
 | [], _, _, _, _ => rfl
 | [_], _, _, _, _ => rfl
 | a :: b :: l, last, key, h, hk => by
  have := h.1
  simp only [isL]
  rw [if_neg (by omega), decide_eq_false (by omega)]
theorem zb1d : ∀ {l : List Int} {key : Int}, l.length % 2 = 0 → isL key l = false → delL key l = l
 | [], _, _, _ => rfl
 | [a], _, h, _ => by simp at h
 | a :: b :: l, key, he, h => by
  simp only [isL, delL] at h ⊢
  split at h
  ·rename_i c; rw [if_pos c, zb1d (by simp only [y22] at he; omega) h]
  ·rename_i c; rw [if_neg c, if_neg (by simpa using h)]
theorem zb1e {key n : Int} : ∀ {l : List Int} {last : Int}, srt2 last l → last < key → srt2 last (putL key n l)
 | [], _, _, h => ⟨h, trivial⟩
 | [a], _, _, h => ⟨h, trivial⟩
 | a :: b :: l, last, h, hk => by
  simp only [putL]
  split
  ·rename_i c; exact ⟨h.1, zb1e h.2 c⟩
  ·split
   ·exact h
   ·exact ⟨hk, by have := h.1; omega, h.2⟩
theorem zb1f {f t y : Int} (hne : f ≠ t) : ∀ {l : List Int}, isL f l = true → isL f (putL t y l) = true
 | [], h => by simp [isL] at h
 | [a], h => by simp [isL] at h
 | a :: b :: l, h => by
  simp only [isL] at h
  simp only [putL]
  split at h
  ·rename_i c
   split
   ·simp only [isL]; rw [if_pos c]; exact zb1f hne h
   ·split
    ·simp only [isL]; rw [if_pos c]; exact h
    ·simp only [isL]; rw [if_pos (by omega), if_pos c]; exact h
  ·rename_i c
   have e : a = f := by simpa using h
   split
   ·simp only [isL]; rw [if_neg c]; exact h
   ·split
    ·omega
    ·simp only [isL]; rw [if_pos (by omega), if_neg c]; exact h
theorem zb1g {f t x y : Int} (hne : f ≠ t) : ∀ {l : List Int}, isL f l = true → putL f x (putL t y l) = putL t y (putL f x l)
 | [], h => by simp [isL] at h
 | [a], h => by simp [isL] at h
 | a :: b :: l, h => by
  simp only [isL] at h
  split at h
  ·rename_i c
   have e1 : ∀ v w : Int, ∀ m, putL f x (a :: w :: m) = a :: w :: putL f x m := fun v w m => by simp only [putL]; rw [if_pos c]
   rw [e1 0 b l]
   simp only [putL]
   by_cases d : a < t
   ·rw [if_pos d, if_pos d, e1 0, zb1g hne h]
   ·rw [if_neg d, if_neg d]
    by_cases e : a = t
    ·rw [if_pos e, if_pos e, e1 0]
    ·rw [if_neg e, if_neg e]
     have e2 : putL f x (t :: y :: a :: b :: l) = t :: y :: putL f x (a :: b :: l) := by
      rw [putL]; rw [if_pos (by omega)]
     rw [e2, e1 0]
  ·rename_i c
   have e : a = f := by simpa using h
   subst e
   have e1 : ∀ w : Int, ∀ m, putL a x (a :: w :: m) = a :: x :: m := fun w m => by simp only [putL]; rw [if_neg (by omega)]; simp
   rw [e1]
   simp only [putL]
   by_cases d : a < t
   ·rw [if_pos d, if_pos d, e1]
   ·rw [if_neg d, if_neg d, if_neg hne, if_neg hne]
    have e2 : putL a x (t :: y :: a :: b :: l) = t :: y :: putL a x (a :: b :: l) := by
     rw [putL]; rw [if_pos (by omega)]
    rw [e2, e1]
def fdR (key : Int) (i : Nat) (l : List Int) : Int := if isL key l = true then ((i + findN key l : Nat) : Int) else -1
theorem two_at {L : List Int} {i : Nat} (hi1 : i + 1 < L.length) : L.drop i = L[i] :: L[i + 1] :: L.drop (i + 2) := by rw [y10 (by omega), y10 hi1]
theorem zb1h (z : Bool) (L : List Int) (key : Int) (hL : L.length ≤ 1000000) : ∀ (k i : Nat) (last : Int), L.length = i + 2 * k → srt2 last (L.drop i) →
  Ev (fun q => zl1 q z L key (i : Int)) (fdR key i (L.drop i))
 | 0, i, last, hk, hs => by
  rw [y13 (by omega)]
  exact Ev.succ (Ev.ne (Ev.ret' rfl)) (fun q => rfl)
 | k + 1, i, last, hk, hs => by
  have hi : i < L.length := by omega
  have he : L[((i : Int)).toNat]? = some L[i] := by simp [hi]
  rw [two_at (by omega)] at hs ⊢
  have ih := zb1h z L key hL k (i + 2) L[i] (by omega) hs.2
  rw [show ((i + 2 : Nat) : Int) = wrp .i64 ((i : Int) + 2) by rw [zbwn (by omega) (by omega)]; omega] at ih
  by_cases c : L[i] = key
  ·refine Ev.succ (Ev.po (Ev.po (Ev.opt he (Ev.pos c (Ev.ret' ?_))))) (fun q => rfl)
   unfold fdR
   have e1 : isL key (L[i] :: L[i + 1] :: L.drop (i + 2)) = true := by simp only [isL]; rw [if_neg (by omega), decide_eq_true c]
   have e2 : findN key (L[i] :: L[i + 1] :: L.drop (i + 2)) = 0 := by simp only [findN]; rw [if_neg (by omega)]
   rw [if_pos e1, e2]; omega
  ·refine Ev.succ (Ev.po (Ev.po (Ev.opt he (Ev.neg c (Ev.cast ih ?_))))) (fun q => rfl)
   unfold fdR
   by_cases d : L[i] < key
   ·have e1 : isL key (L[i] :: L[i + 1] :: L.drop (i + 2)) = isL key (L.drop (i + 2)) := by simp only [isL]; rw [if_pos d]
    have e2 : findN key (L[i] :: L[i + 1] :: L.drop (i + 2)) = findN key (L.drop (i + 2)) + 2 := by simp only [findN]; rw [if_pos d]
    rw [e1, e2, show i + 2 + findN key (L.drop (i + 2)) = i + (findN key (L.drop (i + 2)) + 2) by omega]
   ·have e1 : isL key (L[i] :: L[i + 1] :: L.drop (i + 2)) = false := by simp only [isL]; rw [if_neg d, decide_eq_false c]
    rw [isL_no hs.2 (by omega), e1]; simp
theorem zb1i (s : Sl Int) (key : Int) (hL : s.l.length ≤ 1000000) (h2 : s.l.length % 2 = 0) {last : Int} (hs : srt2 last s.l) : Ev (fun q => zl2 q s key) (fdR key 0 s.l) := by
 have h := zb1h s.z s.l key hL (s.l.length / 2) 0 last (by omega) (by rw [y38]; exact hs)
 rw [y38] at h
 exact Ev.succ h (fun q => rfl)
theorem zb1j (z : Bool) (L : List Int) (key n : Int) (hL : L.length ≤ 1000000) : ∀ (k i : Nat) (last : Int) (y : Bool) (acc : List Int), L.length = i + 2 * k → srt2 last (L.drop i) → key ≤ last → acc.length ≤ i + 2 → acc ≠ [] → y = false →
  Ev (fun q => zl5 q z L key n true (i : Int) y acc) ⟨false, true, acc ++ L.drop i⟩
 | 0, i, last, y, acc, hk, hs, hl, ha, hn, hy => by
  rw [y13 (by omega), List.append_nil, hy]
  exact Ev.succ (Ev.ne (Ev.pos rfl (Ev.ret _))) (fun q => rfl)
 | k + 1, i, last, y, acc, hk, hs, hl, ha, hn, hy => by
  have hi : i < L.length := by omega
  have he : L[((i : Int)).toNat]? = some L[i] := by simp [hi]
  have hi1 : i + 1 < L.length := by omega
  have he1 : L[(wrp .i64 ((i : Int) + 1)).toNat]? = some L[i + 1] := by
   rw [show wrp .i64 ((i : Int) + 1) = ((i + 1 : Nat) : Int) by rw [zbwn (by omega) (by omega)]; omega, y28]; exact y8 hi1
  rw [two_at hi1] at hs ⊢
  have ih := zb1j z L key n hL k (i + 2) L[i] false ((acc ++ [L[i]]) ++ [L[i + 1]]) (by omega) hs.2 (by have := hs.1; omega) (by simp only [y11, List.length_singleton]; omega) (by simp) rfl
  rw [show ((i + 2 : Nat) : Int) = wrp .i64 ((i : Int) + 2) by rw [zbwn (by omega) (by omega)]; omega] at ih
  refine Ev.succ (Ev.po (Ev.pos rfl (Ev.po (Ev.opt he (Ev.neg (by have := hs.1; omega) (Ev.po (Ev.pos (by rw [zbwn (by omega) (by omega)]; omega) (Ev.opt he1 (Ev.po (Ev.cast ih ?_)))))))))) (fun q => rfl)
  simp
theorem zb1k (z : Bool) (L : List Int) (key n : Int) (hL : L.length ≤ 1000000) : ∀ (k i : Nat) (last : Int) (y : Bool) (acc : List Int), L.length = i + 2 * k → srt2 last (L.drop i) → acc.length ≤ i →
  Ev (fun q => zl5 q z L key n false (i : Int) y acc) ⟨false, true, acc ++ putL key n (L.drop i)⟩
 | 0, i, last, y, acc, hk, hs, ha => by
  rw [y13 (by omega)]
  refine Ev.succ (Ev.ne (Ev.neg (by simp) (Ev.po (Ev.po (Ev.ret' ?_))))) (fun q => rfl)
  simp [putL]
 | k + 1, i, last, y, acc, hk, hs, ha => by
  have hi : i < L.length := by omega
  have he : L[((i : Int)).toNat]? = some L[i] := by simp [hi]
  have hi1 : i + 1 < L.length := by omega
  have he1 : L[(wrp .i64 ((i : Int) + 1)).toNat]? = some L[i + 1] := by
   rw [show wrp .i64 ((i : Int) + 1) = ((i + 1 : Nat) : Int) by rw [zbwn (by omega) (by omega)]; omega, y28]; exact y8 hi1
  have w1 : 0 ≤ wrp .i64 ((i : Int) + 1) := by rw [zbwn (by omega) (by omega)]; omega
  have w2 : ((i + 2 : Nat) : Int) = wrp .i64 ((i : Int) + 2) := by rw [zbwn (by omega) (by omega)]; omega
  rw [two_at hi1] at hs ⊢
  by_cases c : key ≤ L[i]
  ·by_cases d : L[i] = key
   ·have h := zb1j z L key n hL k (i + 2) L[i] false ((acc ++ [key]) ++ [n]) (by omega) hs.2 c (by simp only [y11, List.length_singleton]; omega) (by simp) rfl
    rw [w2] at h
    refine Ev.succ (Ev.po (Ev.neg (by simp) (Ev.po (Ev.opt he (Ev.pos c (Ev.po (Ev.po (Ev.pos d (Ev.cast h ?_))))))))) (fun q => rfl)
    simp only [putL]; rw [if_neg (by omega), if_pos d, ← d]; simp
   ·have h := zb1j z L key n hL k (i + 2) L[i] false ((((acc ++ [key]) ++ [n]) ++ [L[i]]) ++ [L[i + 1]]) (by omega) hs.2 c (by simp only [y11, List.length_singleton]; omega) (by simp) rfl
    rw [w2] at h
    refine Ev.succ (Ev.po (Ev.neg (by simp) (Ev.po (Ev.opt he (Ev.pos c (Ev.po (Ev.po (Ev.neg d (Ev.po (Ev.pos w1 (Ev.opt he1 (Ev.po (Ev.cast h ?_))))))))))))) (fun q => rfl)
    simp only [putL]; rw [if_neg (by omega), if_neg d]; simp
  ·have h := zb1k z L key n hL k (i + 2) L[i] false ((acc ++ [L[i]]) ++ [L[i + 1]]) (by omega) hs.2 (by simp only [y11, List.length_singleton]; omega)
   rw [w2] at h
   refine Ev.succ (Ev.po (Ev.neg (by simp) (Ev.po (Ev.opt he (Ev.neg c (Ev.ne (Ev.po (Ev.pos w1 (Ev.opt he1 (Ev.po (Ev.cast h ?_))))))))))) (fun q => rfl)
   simp only [putL]; rw [if_pos (by omega)]; simp
theorem zb1l (s : Sl Int) (key n : Int) (hL : s.l.length ≤ 1000000) (h2 : s.l.length % 2 = 0) {last : Int} (hs : srt2 last s.l) : Ev (fun q => zl6 q s key n) ⟨false, true, putL key n s.l⟩ := by
 have h := zb1k s.z s.l key n hL (s.l.length / 2) 0 last true [] (by omega) (by rw [y38]; exact hs) (by simp)
 rw [y38, y47] at h
 exact Ev.succ h (fun q => rfl)
theorem zb1m (z : Bool) (L : List Int) (key : Int) (hL : L.length ≤ 1000000) : ∀ (k i : Nat) (last : Int) (y : Bool) (acc : List Int), L.length = i + 2 * k → srt2 last (L.drop i) → acc.length ≤ i → (y = true → acc = []) →
  ∃ x, (x = true → acc ++ delL key (L.drop i) = []) ∧ Ev (fun q => zl3 q z L key (i : Int) y acc) ⟨x, true, acc ++ delL key (L.drop i)⟩
 | 0, i, last, y, acc, hk, hs, ha, hy => by
  rw [y13 (by omega)]
  have e : acc ++ delL key [] = acc := by simp [delL]
  rw [e]
  exact ⟨y, hy, Ev.succ (Ev.ne (Ev.ret _)) (fun q => rfl)⟩
 | k + 1, i, last, y, acc, hk, hs, ha, hy => by
  have hi : i < L.length := by omega
  have he : L[((i : Int)).toNat]? = some L[i] := by simp [hi]
  have hi1 : i + 1 < L.length := by omega
  have he1 : L[(wrp .i64 ((i : Int) + 1)).toNat]? = some L[i + 1] := by
   rw [show wrp .i64 ((i : Int) + 1) = ((i + 1 : Nat) : Int) by rw [zbwn (by omega) (by omega)]; omega, y28]; exact y8 hi1
  have w1 : 0 ≤ wrp .i64 ((i : Int) + 1) := by rw [zbwn (by omega) (by omega)]; omega
  have w2 : ((i + 2 : Nat) : Int) = wrp .i64 ((i : Int) + 2) := by rw [zbwn (by omega) (by omega)]; omega
  have hev : (L.drop (i + 2)).length % 2 = 0 := by rw [y14]; omega
  rw [two_at hi1] at hs ⊢
  by_cases c : L[i] = key
  ·obtain ⟨x, hx, h⟩ := zb1m z L key hL k (i + 2) L[i] y acc (by omega) hs.2 (by omega) hy
   rw [w2] at h
   have e : delL key (L[i] :: L[i + 1] :: L.drop (i + 2)) = delL key (L.drop (i + 2)) := by
    rw [zb1d hev (isL_no hs.2 (by omega))]
    simp only [delL]; rw [if_neg (by omega), if_pos c]
   rw [e]
   exact ⟨x, hx, Ev.succ (Ev.po (Ev.po (Ev.opt he (Ev.pos c h)))) (fun q => rfl)⟩
  ·obtain ⟨x, hx, h⟩ := zb1m z L key hL k (i + 2) L[i] false ((acc ++ [L[i]]) ++ [L[i + 1]]) (by omega) hs.2 (by simp only [y11, List.length_singleton]; omega) (fun h => by cases h)
   rw [w2] at h
   have e : acc ++ delL key (L[i] :: L[i + 1] :: L.drop (i + 2)) = ((acc ++ [L[i]]) ++ [L[i + 1]]) ++ delL key (L.drop (i + 2)) := by
    by_cases d : L[i] < key
    ·simp only [delL]; rw [if_pos d]; simp
    ·rw [zb1d hev (isL_no hs.2 (by omega))]
     simp only [delL]; rw [if_neg d, if_neg c]; simp
   rw [e]
   exact ⟨x, hx, Ev.succ (Ev.po (Ev.po (Ev.opt he (Ev.neg c (Ev.po (Ev.pos w1 (Ev.opt he1 (Ev.pos (by omega) h)))))))) (fun q => rfl)⟩
theorem zb1n (s : Sl Int) (key : Int) (hL : s.l.length ≤ 1000000) (h2 : s.l.length % 2 = 0) {last : Int} (hs : srt2 last s.l) : ∃ x, (x = true → delL key s.l = []) ∧ Ev (fun q => zl4 q s key) ⟨x, true, delL key s.l⟩ := by
 obtain ⟨x, hx, h⟩ := zb1m s.z s.l key hL (s.l.length / 2) 0 last true [] (by omega) (by rw [y38]; exact hs) (by simp) (fun _ => rfl)
 rw [y38, y47] at hx h
 exact ⟨x, hx, Ev.succ h (fun q => rfl)⟩
theorem fd_is {key : Int} {l : List Int} (h2 : l.length % 2 = 0) (hL : l.length ≤ 1000000) (h : isL key l = true) : 0 ≤ fdR key 0 l ∧ 0 ≤ wrp .i64 (fdR key 0 l + 1) ∧ l[(wrp .i64 (fdR key 0 l + 1)).toNat]? = some (hasL key l) := by
 have hp := (zb0l key l h2).2.1 h
 have e : fdR key 0 l = (findN key l : Int) := by unfold fdR; rw [if_pos h, y43]
 have w : wrp .i64 (fdR key 0 l + 1) = ((findN key l + 1 : Nat) : Int) := by rw [e, zbwn (by omega) (by omega)]; omega
 rw [w, e, y28]
 exact ⟨by omega, by omega, hp.2⟩
theorem fd_no {key : Int} {l : List Int} (h2 : l.length % 2 = 0) (h : ¬ isL key l = true) : fdR key 0 l = -1 ∧ hasL key l = -1 := by
 have hp := (zb0l key l h2).2.2 (by simpa using h)
 exact ⟨by unfold fdR; rw [if_neg h], hp⟩
theorem zb1o (s : zjm) (hz : s.L.z = true → s.L.l = []) (h1 : s.L.l.length = 1) (o : zjq) : Comes zlz s o (numV s.Kind s.L.l o) := by
 obtain ⟨n, hn⟩ : ∃ n, s.L.l = [n] := List.length_eq_one_iff.1 h1
 have hg : s.L.l[0]? = some n := by rw [hn]; rfl
 have hh : s.L.l.headD 0 = n := by rw [hn]; rfl
 unfold Comes numV
 rw [hh]
 by_cases k0 : s.Kind = 0
 ·by_cases c1 : o.Code = 1
  ·rw [if_neg (by omega), if_pos ⟨k0, c1⟩]
   refine ⟨false, fun h => (by cases h), Ev.succ (Ev.opt hg (Ev.pos k0 (Ev.pos c1 (Ev.bind (zbw3 _) ?_)))) (fun q => rfl)⟩
   exact Ev.bind (zbw3 (wrp .i64 (n + cutI o.A))) (Ev.ret' rfl)
  ·by_cases c7 : o.Code = 7
   ·rw [if_pos c7]
    exact ⟨s.L.z, hz, Ev.succ (Ev.opt hg (Ev.pos k0 (Ev.neg c1 (Ev.ne (Ev.pos c7 (Ev.ret _)))))) (fun q => rfl)⟩
   ·rw [if_neg c7, if_neg (fun h => c1 h.2), if_neg (fun h => by omega)]
    exact ⟨s.L.z, hz, Ev.succ (Ev.opt hg (Ev.pos k0 (Ev.neg c1 (Ev.ne (Ev.neg c7 (Ev.ret _)))))) (fun q => rfl)⟩
 ·by_cases k1 : s.Kind = 1
  ·by_cases c2 : o.Code = 2
   ·rw [if_neg (by omega), if_neg (fun h => k0 h.1), if_pos ⟨k1, c2⟩]
    refine ⟨false, fun h => (by cases h), Ev.succ (Ev.opt hg (Ev.neg k0 (Ev.pos k1 (Ev.pos c2 ?_)))) (fun q => rfl)⟩
    exact Ev.bind (zbw3 o.A) (Ev.ret' rfl)
   ·by_cases c7 : o.Code = 7
    ·rw [if_pos c7]
     exact ⟨s.L.z, hz, Ev.succ (Ev.opt hg (Ev.neg k0 (Ev.pos k1 (Ev.neg c2 (Ev.pos c7 (Ev.ret _)))))) (fun q => rfl)⟩
    ·rw [if_neg c7, if_neg (fun h => k0 h.1), if_neg (fun h => c2 h.2)]
     exact ⟨s.L.z, hz, Ev.succ (Ev.opt hg (Ev.neg k0 (Ev.pos k1 (Ev.neg c2 (Ev.neg c7 (Ev.ret _)))))) (fun q => rfl)⟩
  ·by_cases c7 : o.Code = 7
   ·rw [if_pos c7]
    exact ⟨s.L.z, hz, Ev.succ (Ev.opt hg (Ev.neg k0 (Ev.neg k1 (Ev.pos c7 (Ev.ret _))))) (fun q => rfl)⟩
   ·rw [if_neg c7, if_neg (fun h => k0 h.1), if_neg (fun h => k1 h.1)]
    exact ⟨s.L.z, hz, Ev.succ (Ev.opt hg (Ev.neg k0 (Ev.neg k1 (Ev.neg c7 (Ev.ret _))))) (fun q => rfl)⟩
theorem zb1p (s : zjm) (hz : s.L.z = true → s.L.l = []) (hL : s.L.l.length ≤ 64) (o : zjq) : Comes zl0 s o (linV s.Kind s.L.l o) := by
 unfold Comes linV
 by_cases c3 : o.Code = 3
 ·rw [if_neg (by omega), if_pos c3]
  by_cases d : (s.L.l.length : Int) = 64
  ·rw [if_neg (by omega)]
   exact ⟨s.L.z, hz, Ev.succ (Ev.pos c3 (Ev.pos d (Ev.ret _))) (fun q => rfl)⟩
  ·rw [if_pos (by omega)]
   refine ⟨false, fun h => (by cases h), Ev.succ (Ev.pos c3 (Ev.neg d (Ev.po (Ev.bind (zbw3 _) (Ev.pos (by omega) ?_))))) (fun q => rfl)⟩
   exact Ev.ret' (by rw [zbwn (by omega) (by omega)]; rfl)
 ·by_cases c4 : o.Code = 4
  ·rw [if_neg (by omega), if_neg c3, if_pos c4]
   by_cases d : (s.L.l.length : Int) = 0
   ·rw [if_pos d]
    exact ⟨s.L.z, hz, Ev.succ (Ev.neg c3 (Ev.pos c4 (Ev.pos d (Ev.ret _)))) (fun q => rfl)⟩
   ·rw [if_neg d]
    have hdz : decide (s.L.l.length = 0) = false := by rw [decide_eq_false_iff_not]; omega
    by_cases k2 : s.Kind = 2
    ·rw [if_pos k2]
     have hg : s.L.l[0]? = some (s.L.l.headD 0) := by
      cases hl : s.L.l with
      | nil => rw [hl] at d; simp at d
      | cons a t => rfl
     refine ⟨false, fun h => (by cases h), Ev.succ (Ev.neg c3 (Ev.pos c4 (Ev.neg d (Ev.po (Ev.pos k2 (Ev.po (Ev.po (Ev.opt hg ?_)))))))) (fun q => rfl)⟩
     exact Ev.ret' (by rw [hdz]; rfl)
    ·rw [if_neg k2]
     have w1 : wrp .i64 ((s.L.l.length : Int) - 1) = ((s.L.l.length - 1 : Nat) : Int) := by rw [zbwn (by omega) (by omega)]; omega
     have hg : s.L.l[s.L.l.length - 1]? = some ((s.L.l[s.L.l.length - 1]?).getD 0) := by
      rw [y8 (by omega)]; rfl
     refine ⟨false, fun h => (by cases h), Ev.succ (Ev.neg c3 (Ev.pos c4 (Ev.neg d (Ev.po (Ev.neg k2 ?_))))) (fun q => rfl)⟩
     rw [w1]
     refine Ev.po (Ev.po (Ev.ne (Ev.po (Ev.opt (by rw [y28]; exact hg) ?_))))
     exact Ev.ret' (by rw [y28, hdz]; rfl)
  ·by_cases c7 : o.Code = 7
   ·rw [if_pos c7]
    exact ⟨s.L.z, hz, Ev.succ (Ev.neg c3 (Ev.neg c4 (Ev.pos c7 (Ev.ret _)))) (fun q => rfl)⟩
   ·rw [if_neg c7, if_neg c3, if_neg c4]
    exact ⟨s.L.z, hz, Ev.succ (Ev.neg c3 (Ev.neg c4 (Ev.neg c7 (Ev.ret _)))) (fun q => rfl)⟩
theorem zb1q (s : zjm) (hz : s.L.z = true → s.L.l = []) (hL : s.L.l.length ≤ 128) (h2 : s.L.l.length % 2 = 0) (hs : srt2 (-1) s.L.l) (o : zjq) : Comes zl7 s o (stoV s.L.l o) := by
 have hF := zb1i s.L o.A (by omega) h2 hs
 have hW := zb1l s.L o.A (cutI o.B) (by omega) h2 hs
 obtain ⟨x, hx, hO⟩ := zb1n s.L o.A (by omega) h2 hs
 unfold Comes stoV
 by_cases c7 : o.Code = 7
 ·rw [if_pos (.inl c7)]
  by_cases a0 : o.A < 0
  ·rw [if_pos (.inl a0)]
   exact ⟨s.L.z, hz, Ev.succ (Ev.pos c7 (Ev.pos a0 (Ev.ret _))) (fun q => rfl)⟩
  ·by_cases a1 : 255 < o.A
   ·rw [if_pos (.inr a1)]
    exact ⟨s.L.z, hz, Ev.succ (Ev.pos c7 (Ev.neg a0 (Ev.pos a1 (Ev.ret _)))) (fun q => rfl)⟩
   ·rw [if_neg (by omega), if_neg (fun h => by omega), if_neg (by omega)]
    by_cases d : isL o.A s.L.l = true
    ·obtain ⟨f1, f2, f3⟩ := fd_is h2 (by omega) d
     refine ⟨s.L.z, hz, Ev.succ (Ev.pos c7 (Ev.neg a0 (Ev.neg a1 (Ev.bind hF (Ev.pos f1 (Ev.pos f2 (Ev.opt f3 (Ev.ne (Ev.neg (by omega) ?_))))))))) (fun q => rfl)⟩
     exact Ev.ret' rfl
    ·obtain ⟨f1, f2⟩ := fd_no h2 d
     refine ⟨s.L.z, hz, Ev.succ (Ev.pos c7 (Ev.neg a0 (Ev.neg a1 (Ev.bind hF (Ev.neg (by rw [f1]; omega) (Ev.ne (Ev.neg (by omega) ?_))))))) (fun q => rfl)⟩
     exact Ev.ret' (by rw [f2]; rfl)
 ·by_cases c6 : o.Code = 6
  ·rw [if_pos (.inr (.inl c6))]
   by_cases a0 : o.A < 0
   ·rw [if_pos (.inl a0)]
    exact ⟨s.L.z, hz, Ev.succ (Ev.neg c7 (Ev.pos c6 (Ev.pos a0 (Ev.ret _)))) (fun q => rfl)⟩
   ·by_cases a1 : 255 < o.A
    ·rw [if_pos (.inr a1)]
     exact ⟨s.L.z, hz, Ev.succ (Ev.neg c7 (Ev.pos c6 (Ev.neg a0 (Ev.pos a1 (Ev.ret _))))) (fun q => rfl)⟩
    ·rw [if_neg (show ¬ (o.A < 0 ∨ 255 < o.A) by omega)]
     by_cases d : isL o.A s.L.l = true
     ·rw [if_pos ⟨c6, d⟩]
      obtain ⟨f1, f2, f3⟩ := fd_is h2 (by omega) d
      refine ⟨x, hx, Ev.succ (Ev.neg c7 (Ev.pos c6 (Ev.neg a0 (Ev.neg a1 (Ev.bind hF (Ev.pos f1 (Ev.pos f2 (Ev.opt f3 (Ev.bind hO (Ev.neg (by omega) ?_)))))))))) (fun q => rfl)⟩
      exact Ev.ret' rfl
     ·rw [if_neg (fun h => d h.2), if_neg (by omega)]
      obtain ⟨f1, f2⟩ := fd_no h2 d
      have hdn := zb1d h2 (show isL o.A s.L.l = false by simpa using d)
      rw [hdn] at hx hO
      refine ⟨x, hx, Ev.succ (Ev.neg c7 (Ev.pos c6 (Ev.neg a0 (Ev.neg a1 (Ev.bind hF (Ev.neg (by rw [f1]; omega) (Ev.bind hO (Ev.neg (by omega) ?_)))))))) (fun q => rfl)⟩
      exact Ev.ret' (by rw [f2]; rfl)
  ·by_cases c5 : o.Code = 5
   ·rw [if_pos (.inr (.inr c5))]
    by_cases a0 : o.A < 0
    ·rw [if_pos (.inl a0)]
     exact ⟨s.L.z, hz, Ev.succ (Ev.neg c7 (Ev.neg c6 (Ev.pos c5 (Ev.pos a0 (Ev.ret _))))) (fun q => rfl)⟩
    ·by_cases a1 : 255 < o.A
     ·rw [if_pos (.inr a1)]
      exact ⟨s.L.z, hz, Ev.succ (Ev.neg c7 (Ev.neg c6 (Ev.pos c5 (Ev.neg a0 (Ev.pos a1 (Ev.ret _)))))) (fun q => rfl)⟩
     ·rw [if_neg (show ¬ (o.A < 0 ∨ 255 < o.A) by omega), if_neg (fun h => by omega), if_pos c5]
      by_cases d : isL o.A s.L.l = true
      ·rw [if_pos (show putOk o.A s.L.l = true by unfold putOk; rw [d]; rfl)]
       obtain ⟨f1, f2, f3⟩ := fd_is h2 (by omega) d
       refine ⟨false, fun h => (by cases h), Ev.succ (Ev.neg c7 (Ev.neg c6 (Ev.pos c5 (Ev.neg a0 (Ev.neg a1 (Ev.bind hF (Ev.pos f1 (Ev.pos f2 (Ev.opt f3 (Ev.ne (Ev.bind (zbw3 _) ?_))))))))))) (fun q => rfl)⟩
       exact Ev.bind hW (Ev.ret' rfl)
      ·obtain ⟨f1, f2⟩ := fd_no h2 d
       have hpo : putOk o.A s.L.l = decide (s.L.l.length < 128) := by unfold putOk; rw [show isL o.A s.L.l = false by simpa using d]; rfl
       by_cases e : (s.L.l.length : Int) = 128
       ·rw [if_neg (by rw [hpo, decide_eq_true_eq]; omega)]
        refine ⟨s.L.z, hz, Ev.succ (Ev.neg c7 (Ev.neg c6 (Ev.pos c5 (Ev.neg a0 (Ev.neg a1 (Ev.bind hF (Ev.neg (by rw [f1]; omega) (Ev.pos (by rw [f1]; omega) (Ev.pos e ?_))))))))) (fun q => rfl)⟩
        exact Ev.ret _
       ·rw [if_pos (by rw [hpo, decide_eq_true_eq]; omega)]
        refine ⟨false, fun h => (by cases h), Ev.succ (Ev.neg c7 (Ev.neg c6 (Ev.pos c5 (Ev.neg a0 (Ev.neg a1 (Ev.bind hF (Ev.neg (by rw [f1]; omega) (Ev.pos (by rw [f1]; omega) (Ev.neg e (Ev.bind (zbw3 _) ?_)))))))))) (fun q => rfl)⟩
        exact Ev.bind hW (Ev.ret' (by rw [f2]; rfl))
   ·rw [if_neg (by omega)]
    exact ⟨s.L.z, hz, Ev.succ (Ev.neg c7 (Ev.neg c6 (Ev.neg c5 (Ev.ret _)))) (fun q => rfl)⟩
theorem zb1r {key : Int} : ∀ {l : List Int} {last : Int}, prs 0 last l = true → isL key l = true → 0 ≤ hasL key l
 | [], _, _, h => by simp [isL] at h
 | [a], _, _, h => by simp [isL] at h
 | a :: b :: l, last, hp, h => by
  simp only [prs, y7, decide_eq_true_eq] at hp
  simp only [isL, hasL] at h ⊢
  split at h
  ·rename_i c; rw [if_pos c]; exact zb1r hp.2.2.2.2 h
  ·rename_i c; rw [if_neg c, if_pos (by simpa using h)]; exact hp.2.2.1
theorem zb1s (s : zjm) (hz : s.L.z = true → s.L.l = []) (hL : s.L.l.length ≤ 128) (h2 : s.L.l.length % 2 = 0) (hp : prs 0 (-1) s.L.l = true) (o : zjq) : Comes zl8 s o (movV s.L.l o) := by
 have hs := zb1c hp
 unfold Comes movV
 by_cases a0 : o.A < 0
 ·rw [if_pos (.inl a0)]
  exact ⟨s.L.z, hz, Ev.succ (Ev.pos a0 (Ev.ret _)) (fun q => rfl)⟩
 by_cases a1 : 65535 < o.A
 ·rw [if_pos (.inr (.inl (by omega)))]
  exact ⟨s.L.z, hz, Ev.succ (Ev.neg a0 (Ev.pos a1 (Ev.ret _))) (fun q => rfl)⟩
 by_cases b0 : o.B < 0
 ·rw [if_pos (.inr (.inr b0))]
  exact ⟨s.L.z, hz, Ev.succ (Ev.neg a0 (Ev.neg a1 (Ev.pos b0 (Ev.ret _)))) (fun q => rfl)⟩
 rw [if_neg (show ¬ (o.A < 0 ∨ 65536 ≤ o.A ∨ o.B < 0) by omega)]
 have hf0 : 0 ≤ wrp .i64 (Int.tdiv o.A 256) := by
  have : Int.tdiv o.A 256 = o.A / 256 := Int.tdiv_eq_ediv_of_nonneg (by omega)
  rw [this, zbwn (by omega) (by omega)]; omega
 have ht0 : 0 ≤ Int.tmod o.A 256 := by
  rw [y59 (by omega)]; omega
 have hFf := zb1i s.L (wrp .i64 (Int.tdiv o.A 256)) (by omega) h2 hs
 have hFt := zb1i s.L (Int.tmod o.A 256) (by omega) h2 hs
 generalize hf : wrp .i64 (Int.tdiv o.A 256) = f at hf0 hFf ⊢
 generalize ht : Int.tmod o.A 256 = t at ht0 hFt ⊢
 have start : ∀ {r : zjm × Int} {g : Nat → Option (zjm × Int)}, (∀ q, ((zl2 q s.L f).bind fun r1 => ((zl2 q s.L t).bind fun r2 => (if r1 < 0 then (some (s, 0)) else (if 0 ≤ (wrp .i64 (r1 + 1)) then ((s.L.l[(wrp .i64 (r1 + 1)).toNat]?).bind fun e3 => (if e3 < o.B then (some (s, 0)) else (if f = t then (some (s, 1)) else (if 0 ≤ r2 then (if 0 ≤ (wrp .i64 (r2 + 1)) then ((s.L.l[(wrp .i64 (r2 + 1)).toNat]?).bind fun e4 => (if r2 < 0 then (if (s.L.l.length : Int) = 128 then (some (s, 0)) else (if 1099511627776 < (wrp .i64 (e4 + o.B)) then (some (s, 0)) else ((zl6 q s.L f (wrp .i64 (e3 - o.B))).bind fun r5 => ((zl6 q ⟨r5.n, r5.xs⟩ t (wrp .i64 (e4 + o.B))).bind fun r6 => (some ((⟨s.Kind, ⟨r6.n, r6.xs⟩, s.Sealed, s.To⟩ : zjm), 1)))))) else (if 1099511627776 < (wrp .i64 (e4 + o.B)) then (some (s, 0)) else ((zl6 q s.L f (wrp .i64 (e3 - o.B))).bind fun r7 => ((zl6 q ⟨r7.n, r7.xs⟩ t (wrp .i64 (e4 + o.B))).bind fun r8 => (some ((⟨s.Kind, ⟨r8.n, r8.xs⟩, s.Sealed, s.To⟩ : zjm), 1))))))) else none) else (if r2 < 0 then (if (s.L.l.length : Int) = 128 then (some (s, 0)) else (if 1099511627776 < (wrp .i64 (0 + o.B)) then (some (s, 0)) else ((zl6 q s.L f (wrp .i64 (e3 - o.B))).bind fun r9 => ((zl6 q ⟨r9.n, r9.xs⟩ t (wrp .i64 (0 + o.B))).bind fun r10 => (some ((⟨s.Kind, ⟨r10.n, r10.xs⟩, s.Sealed, s.To⟩ : zjm), 1)))))) else (if 1099511627776 < (wrp .i64 (0 + o.B)) then (some (s, 0)) else ((zl6 q s.L f (wrp .i64 (e3 - o.B))).bind fun r11 => ((zl6 q ⟨r11.n, r11.xs⟩ t (wrp .i64 (0 + o.B))).bind fun r12 => (some ((⟨s.Kind, ⟨r12.n, r12.xs⟩, s.Sealed, s.To⟩ : zjm), 1)))))))))) else none)))) = g q) → Ev g r → Ev (fun q => zl8 q s o) r := fun hg h => by
  refine Ev.succ (g := fun q => if o.A < 0 then (some (s, 0)) else (if 65535 < o.A then (some (s, 0)) else (if o.B < 0 then (some (s, 0)) else _)) ) (Ev.neg a0 (Ev.neg a1 (Ev.neg b0 h))) (fun q => ?_)
  rw [← hg q, ← hf, ← ht]; rfl
 by_cases df : isL f s.L.l = true
 ·obtain ⟨f1, f2, f3⟩ := fd_is h2 (by omega) df
  by_cases c1 : hasL f s.L.l < o.B
  ·rw [if_pos c1]
   refine ⟨s.L.z, hz, start (fun q => rfl) (Ev.bind hFf (Ev.bind hFt (Ev.ne (Ev.pos f2 (Ev.opt f3 (Ev.pos c1 ?_))))))⟩
   exact Ev.ret _
  rw [if_neg c1]
  by_cases c2 : f = t
  ·rw [if_pos c2]
   refine ⟨s.L.z, hz, start (fun q => rfl) (Ev.bind hFf (Ev.bind hFt (Ev.ne (Ev.pos f2 (Ev.opt f3 (Ev.neg c1 (Ev.pos c2 ?_)))))))⟩
   exact Ev.ret _
  rw [if_neg c2]
  have hW1 := zb1l s.L f (wrp .i64 (hasL f s.L.l - o.B)) (by omega) h2 hs
  have hlen := zb0m f (wrp .i64 (hasL f s.L.l - o.B)) s.L.l h2
  rw [if_pos df, Nat.add_zero] at hlen
  have hs1 := zb1e (n := wrp .i64 (hasL f s.L.l - o.B)) hs (show (-1 : Int) < f by omega)
  have hW2 := fun y => zb1l ⟨false, putL f (wrp .i64 (hasL f s.L.l - o.B)) s.L.l⟩ t y (by simp only; omega) (by simp only; omega) hs1
  simp only at hW2
  have fin : ∀ y, putOk f (putL t y s.L.l) = true := fun y => by unfold putOk; rw [zb1f c2 df]; rfl
  by_cases dt : isL t s.L.l = true
  ·obtain ⟨g1, g2, g3⟩ := fd_is h2 (by omega) dt
   have hnz : nz (hasL t s.L.l) = hasL t s.L.l := by
    have := zb1r hp dt
    unfold nz; rw [if_neg (by omega)]
   rw [if_pos (show putOk t s.L.l = true by unfold putOk; rw [dt]; rfl), hnz]
   by_cases c4 : 1099511627776 < wrp .i64 (hasL t s.L.l + o.B)
   ·rw [if_pos c4]
    refine ⟨s.L.z, hz, start (fun q => rfl) (Ev.bind hFf (Ev.bind hFt (Ev.ne (Ev.pos f2 (Ev.opt f3 (Ev.neg c1 (Ev.neg c2 (Ev.pos g1 (Ev.pos g2 (Ev.opt g3 (Ev.ne (Ev.pos c4 ?_))))))))))))⟩
    exact Ev.ret _
   ·rw [if_neg c4, if_pos (fin _), zb1g c2 df]
    refine ⟨false, fun h => (by cases h), start (fun q => rfl) (Ev.bind hFf (Ev.bind hFt (Ev.ne (Ev.pos f2 (Ev.opt f3 (Ev.neg c1 (Ev.neg c2 (Ev.pos g1 (Ev.pos g2 (Ev.opt g3 (Ev.ne (Ev.neg c4 (Ev.bind hW1 ?_)))))))))))))⟩
    exact Ev.bind (hW2 _) (Ev.ret' rfl)
  ·obtain ⟨g1, g2⟩ := fd_no h2 dt
   have hnz : nz (hasL t s.L.l) = 0 := by rw [g2]; rfl
   have hpo : putOk t s.L.l = decide (s.L.l.length < 128) := by unfold putOk; rw [show isL t s.L.l = false by simpa using dt]; rfl
   rw [hnz]
   by_cases e : (s.L.l.length : Int) = 128
   ·rw [if_neg (by rw [hpo, decide_eq_true_eq]; omega)]
    refine ⟨s.L.z, hz, start (fun q => rfl) (Ev.bind hFf (Ev.bind hFt (Ev.ne (Ev.pos f2 (Ev.opt f3 (Ev.neg c1 (Ev.neg c2 (Ev.neg (by rw [g1]; omega) (Ev.pos (by rw [g1]; omega) (Ev.pos e ?_))))))))))⟩
    exact Ev.ret _
   ·rw [if_pos (by rw [hpo, decide_eq_true_eq]; omega)]
    by_cases c4 : 1099511627776 < wrp .i64 (0 + o.B)
    ·rw [if_pos c4]
     refine ⟨s.L.z, hz, start (fun q => rfl) (Ev.bind hFf (Ev.bind hFt (Ev.ne (Ev.pos f2 (Ev.opt f3 (Ev.neg c1 (Ev.neg c2 (Ev.neg (by rw [g1]; omega) (Ev.pos (by rw [g1]; omega) (Ev.neg e (Ev.pos c4 ?_)))))))))))⟩
     exact Ev.ret _
    ·rw [if_neg c4, if_pos (fin _), zb1g c2 df]
     refine ⟨false, fun h => (by cases h), start (fun q => rfl) (Ev.bind hFf (Ev.bind hFt (Ev.ne (Ev.pos f2 (Ev.opt f3 (Ev.neg c1 (Ev.neg c2 (Ev.neg (by rw [g1]; omega) (Ev.pos (by rw [g1]; omega) (Ev.neg e (Ev.neg c4 (Ev.bind hW1 ?_))))))))))))⟩
     exact Ev.bind (hW2 _) (Ev.ret' rfl)
 ·obtain ⟨f1, f2⟩ := fd_no h2 df
  rw [if_pos (by rw [f2]; omega)]
  refine ⟨s.L.z, hz, start (fun q => rfl) (Ev.bind hFf (Ev.bind hFt (Ev.pos (by rw [f1]; omega) ?_)))⟩
  exact Ev.ret _
theorem zb1t (s : zjm) (hz : s.L.z = true → s.L.l = []) (hL : s.L.l.length ≤ 128) (h2 : s.L.l.length % 2 = 0) (hp : prs 0 (-1) s.L.l = true) (o : zjq) : Comes zl9 s o (ledV s.L.l o) := by
 have hs := zb1c hp
 unfold ledV
 by_cases c9 : o.Code = 9
 ·rw [if_pos c9]
  obtain ⟨z, h1, h3⟩ := zb1s s hz hL h2 hp o
  refine ⟨z, h1, Ev.succ (Ev.pos c9 (Ev.bind h3 ?_)) (fun q => rfl)⟩
  exact Ev.ret' rfl
 unfold Comes
 rw [if_neg c9]
 have hF := zb1i s.L o.A (by omega) h2 hs
 by_cases c7 : o.Code = 7
 ·rw [if_pos c7]
  by_cases a0 : o.A < 0
  ·rw [if_pos (.inl a0)]
   exact ⟨s.L.z, hz, Ev.succ (Ev.neg c9 (Ev.pos c7 (Ev.pos a0 (Ev.ret _)))) (fun q => rfl)⟩
  ·by_cases a1 : 255 < o.A
   ·rw [if_pos (.inr a1)]
    exact ⟨s.L.z, hz, Ev.succ (Ev.neg c9 (Ev.pos c7 (Ev.neg a0 (Ev.pos a1 (Ev.ret _))))) (fun q => rfl)⟩
   ·rw [if_neg (by omega)]
    by_cases d : isL o.A s.L.l = true
    ·obtain ⟨f1, f2, f3⟩ := fd_is h2 (by omega) d
     refine ⟨s.L.z, hz, Ev.succ (Ev.neg c9 (Ev.pos c7 (Ev.neg a0 (Ev.neg a1 (Ev.bind hF (Ev.pos f1 (Ev.pos f2 (Ev.opt f3 ?_)))))))) (fun q => rfl)⟩
     exact Ev.ret' rfl
    ·obtain ⟨f1, f2⟩ := fd_no h2 d
     refine ⟨s.L.z, hz, Ev.succ (Ev.neg c9 (Ev.pos c7 (Ev.neg a0 (Ev.neg a1 (Ev.bind hF (Ev.neg (by rw [f1]; omega) ?_)))))) (fun q => rfl)⟩
     exact Ev.ret' (by rw [f2]; rfl)
 ·rw [if_neg c7]
  by_cases c8 : o.Code = 8
  ·rw [if_pos c8]
   by_cases a0 : o.A < 0
   ·rw [if_pos (.inl a0)]
    exact ⟨s.L.z, hz, Ev.succ (Ev.neg c9 (Ev.neg c7 (Ev.pos c8 (Ev.pos a0 (Ev.ret _))))) (fun q => rfl)⟩
   ·by_cases a1 : 255 < o.A
    ·rw [if_pos (.inr (.inl a1))]
     exact ⟨s.L.z, hz, Ev.succ (Ev.neg c9 (Ev.neg c7 (Ev.pos c8 (Ev.neg a0 (Ev.pos a1 (Ev.ret _)))))) (fun q => rfl)⟩
    ·have hW := fun n => zb1l s.L o.A n (by omega) h2 hs
     by_cases d : isL o.A s.L.l = true
     ·obtain ⟨f1, f2, f3⟩ := fd_is h2 (by omega) d
      by_cases b0 : o.B < 0
      ·rw [if_pos (.inr (.inr b0))]
       refine ⟨s.L.z, hz, Ev.succ (Ev.neg c9 (Ev.neg c7 (Ev.pos c8 (Ev.neg a0 (Ev.neg a1 (Ev.bind hF (Ev.pos f1 (Ev.pos f2 (Ev.opt f3 (Ev.pos b0 ?_)))))))))) (fun q => rfl)⟩
       exact Ev.ret _
      ·rw [if_neg (show ¬ (o.A < 0 ∨ 255 < o.A ∨ o.B < 0) by omega), if_pos (show putOk o.A s.L.l = true by unfold putOk; rw [d]; rfl)]
       have hh := zb1r hp d
       have hnz : nz (hasL o.A s.L.l) = hasL o.A s.L.l := by unfold nz; rw [if_neg (by omega)]
       rw [hnz]
       refine ⟨false, fun h => (by cases h), Ev.succ (Ev.neg c9 (Ev.neg c7 (Ev.pos c8 (Ev.neg a0 (Ev.neg a1 (Ev.bind hF (Ev.pos f1 (Ev.pos f2 (Ev.opt f3 (Ev.neg b0 (Ev.ne (Ev.ne (Ev.bind (zbw3 o.B) (Ev.bind (zbw3 _) ?_)))))))))))))) (fun q => rfl)⟩
       exact Ev.bind (hW _) (Ev.ret' rfl)
     ·obtain ⟨f1, f2⟩ := fd_no h2 d
      by_cases b0 : o.B < 0
      ·rw [if_pos (.inr (.inr b0))]
       refine ⟨s.L.z, hz, Ev.succ (Ev.neg c9 (Ev.neg c7 (Ev.pos c8 (Ev.neg a0 (Ev.neg a1 (Ev.bind hF (Ev.neg (by rw [f1]; omega) (Ev.pos b0 ?_)))))))) (fun q => rfl)⟩
       exact Ev.ret _
      ·rw [if_neg (show ¬ (o.A < 0 ∨ 255 < o.A ∨ o.B < 0) by omega)]
       have hpo : putOk o.A s.L.l = decide (s.L.l.length < 128) := by unfold putOk; rw [show isL o.A s.L.l = false by simpa using d]; rfl
       by_cases e : (s.L.l.length : Int) = 128
       ·rw [if_neg (by rw [hpo, decide_eq_true_eq]; omega)]
        refine ⟨s.L.z, hz, Ev.succ (Ev.neg c9 (Ev.neg c7 (Ev.pos c8 (Ev.neg a0 (Ev.neg a1 (Ev.bind hF (Ev.neg (by rw [f1]; omega) (Ev.neg b0 (Ev.pos (by rw [f1]; omega) (Ev.pos e ?_)))))))))) (fun q => rfl)⟩
        exact Ev.ret _
       ·rw [if_pos (by rw [hpo, decide_eq_true_eq]; omega)]
        have hnz : nz (hasL o.A s.L.l) = 0 := by rw [f2]; rfl
        rw [hnz]
        refine ⟨false, fun h => (by cases h), Ev.succ (Ev.neg c9 (Ev.neg c7 (Ev.pos c8 (Ev.neg a0 (Ev.neg a1 (Ev.bind hF (Ev.neg (by rw [f1]; omega) (Ev.neg b0 (Ev.pos (by rw [f1]; omega) (Ev.neg e (Ev.bind (zbw3 o.B) (Ev.bind (zbw3 _) ?_)))))))))))) (fun q => rfl)⟩
        exact Ev.bind (hW _) (Ev.ret' rfl)
  ·rw [if_neg c8]
   exact ⟨s.L.z, hz, Ev.succ (Ev.neg c9 (Ev.neg c7 (Ev.neg c8 (Ev.ret _)))) (fun q => rfl)⟩
theorem zb1u {k : Int} {l : List Int} (h : kindOk k l = true) (h0 : ¬ (k = 0 ∨ k = 1)) (h2 : k = 2 ∨ k = 3) : l.length ≤ 64 := by
 unfold kindOk at h
 rw [if_neg h0, if_pos h2, decide_eq_true_eq] at h; exact h.1
theorem zb1v {k : Int} {l : List Int} (h : kindOk k l = true) (h4 : k = 4) : prs (-1099511627776) (-1) l = true := by
 unfold kindOk at h
 rw [if_neg (by omega), if_neg (by omega), if_pos h4] at h
 simp only [pairsOk, y7] at h; exact h.1
theorem zb1w {k : Int} {l : List Int} (h : kindOk k l = true) (h5 : k = 5) : prs 0 (-1) l = true := by
 unfold kindOk at h
 rw [if_neg (by omega), if_neg (by omega), if_neg (by omega), if_pos h5] at h
 simp only [pairsOk, y7] at h; exact h.1
theorem zb1x (s : zjm) (hz : s.L.z = true → s.L.l = []) (hL : s.L.l.length ≤ 900000) (o : zjq) : ∃ z, (z = true → (stepV s o).1.1 = []) ∧ Ev (fun q => zma q s o) (stV s z (stepV s o)) := by
 have hM := zbyk s (by omega)
 unfold stepV stV
 by_cases m : mayS s = true
 ·rw [if_pos m]
  rw [m] at hM
  have hk := (zbyu m).2.2.2
  have hko := zbyt hk
  by_cases hs : s.Sealed = true
  ·rw [if_pos hs]
   exact ⟨s.L.z, hz, Ev.succ (Ev.bind hM (Ev.pos rfl (Ev.pos hs (Ev.ret _)))) (fun q => rfl)⟩
  rw [if_neg hs]
  by_cases c : o.Code = 10
  ·rw [if_pos c]
   refine ⟨s.L.z, hz, Ev.succ (Ev.bind hM (Ev.pos rfl (Ev.neg hs (Ev.pos c (Ev.ite (fun a0 => Ev.ite (fun a1 => Ev.ret' ?_) fun a1 => Ev.ret' ?_) fun a0 => Ev.ret' ?_))))) (fun q => rfl)⟩
   ·rw [if_pos ⟨a0, by omega⟩]
   ·rw [if_neg (fun h => a1 (by omega))]
   ·rw [if_neg (fun h => a0 h.1)]
  rw [if_neg c]
  by_cases k0 : s.Kind = 0
  ·obtain ⟨z, h1, h3⟩ := zb1o s hz (zb0v hk (.inl k0)) o
   rw [if_pos (show s.Kind = 0 ∨ s.Kind = 1 from .inl k0)]
   refine ⟨z, h1, Ev.succ (Ev.bind hM (Ev.pos rfl (Ev.neg hs (Ev.neg c (Ev.pos k0 (Ev.bind h3 ?_)))))) (fun q => rfl)⟩
   exact Ev.ret' rfl
  by_cases k1 : s.Kind = 1
  ·obtain ⟨z, h1, h3⟩ := zb1o s hz (zb0v hk (.inr k1)) o
   rw [if_pos (show s.Kind = 0 ∨ s.Kind = 1 from .inr k1)]
   refine ⟨z, h1, Ev.succ (Ev.bind hM (Ev.pos rfl (Ev.neg hs (Ev.neg c (Ev.neg k0 (Ev.pos k1 (Ev.bind h3 ?_))))))) (fun q => rfl)⟩
   exact Ev.ret' rfl
  rw [if_neg (show ¬ (s.Kind = 0 ∨ s.Kind = 1) by omega)]
  by_cases k2 : s.Kind = 2
  ·obtain ⟨z, h1, h3⟩ := zb1p s hz (zb1u hk (by omega) (.inl k2)) o
   rw [if_pos (show s.Kind = 2 ∨ s.Kind = 3 from .inl k2)]
   refine ⟨z, h1, Ev.succ (Ev.bind hM (Ev.pos rfl (Ev.neg hs (Ev.neg c (Ev.neg k0 (Ev.neg k1 (Ev.pos k2 (Ev.bind h3 ?_)))))))) (fun q => rfl)⟩
   exact Ev.ret' rfl
  by_cases k3 : s.Kind = 3
  ·obtain ⟨z, h1, h3⟩ := zb1p s hz (zb1u hk (by omega) (.inr k3)) o
   rw [if_pos (show s.Kind = 2 ∨ s.Kind = 3 from .inr k3)]
   refine ⟨z, h1, Ev.succ (Ev.bind hM (Ev.pos rfl (Ev.neg hs (Ev.neg c (Ev.neg k0 (Ev.neg k1 (Ev.neg k2 (Ev.pos k3 (Ev.bind h3 ?_))))))))) (fun q => rfl)⟩
   exact Ev.ret' rfl
  rw [if_neg (show ¬ (s.Kind = 2 ∨ s.Kind = 3) by omega)]
  have h2 := zb0u hk (by omega) (by omega)
  by_cases k4 : s.Kind = 4
  ·obtain ⟨z, h1, h3⟩ := zb1q s hz hko.2.2.1 h2 (zb1c (zb1v hk k4)) o
   rw [if_pos k4]
   refine ⟨z, h1, Ev.succ (Ev.bind hM (Ev.pos rfl (Ev.neg hs (Ev.neg c (Ev.neg k0 (Ev.neg k1 (Ev.neg k2 (Ev.neg k3 (Ev.pos k4 (Ev.bind h3 ?_)))))))))) (fun q => rfl)⟩
   exact Ev.ret' rfl
  ·have k5 : s.Kind = 5 := by omega
   obtain ⟨z, h1, h3⟩ := zb1t s hz hko.2.2.1 h2 (zb1w hk k5) o
   rw [if_neg k4]
   refine ⟨z, h1, Ev.succ (Ev.bind hM (Ev.pos rfl (Ev.neg hs (Ev.neg c (Ev.neg k0 (Ev.neg k1 (Ev.neg k2 (Ev.neg k3 (Ev.neg k4 (Ev.pos k5 (Ev.bind h3 ?_))))))))))) (fun q => rfl)⟩
   exact Ev.ret' rfl
 ·rw [if_neg m]
  rw [show mayS s = false by simpa using m] at hM
  exact ⟨s.L.z, hz, Ev.succ (Ev.bind hM (Ev.neg (by simp) (Ev.ret _))) (fun q => rfl)⟩
/-- The document's table. -/
theorem zb1y (z : Bool) (L : List zjn) (hL : L.length ≤ 1000000) (p0 p s0 p3 p4 p5 x : Int) : ∀ (k i : Nat) (d : Bool) (y : Bool) (acc : List zjn), L.length = i + k → acc.length ≤ i + 1 → (¬ d = true → acc.length ≤ i) → (d = true → y = false) →
  Ev (fun q => zmb q z L d (i : Int) p0 p s0 p3 p4 p5 x y acc) ⟨false, true, acc ++ (if d = true then filP p (L.drop i) else insE ⟨p, s0, x⟩ (filP p (L.drop i)))⟩
 | 0, i, d, y, acc, hk, ha, ha2, hd => by
  rw [y13 (by omega)]
  by_cases c : d = true
  ·rw [if_pos c]
   refine Ev.succ (Ev.ne (Ev.pos c (Ev.ret' ?_))) (fun q => rfl)
   rw [hd c]; simp [filP]
  ·rw [if_neg c]
   exact Ev.succ (Ev.ne (Ev.neg c (Ev.po (Ev.ret' (by simp [filP, insE]))))) (fun q => rfl)
 | k + 1, i, d, y, acc, hk, ha, ha2, hd => by
  have hi : i < L.length := by omega
  have he : L[((i : Int)).toNat]? = some L[i] := by simp [hi]
  have w : ((i + 1 : Nat) : Int) = wrp .i64 ((i : Int) + 1) := by rw [zbwn (by omega) (by omega)]; omega
  rw [y10 hi, zb1b]
  by_cases c : d = true
  ·rw [if_pos c]
   by_cases e : L[i].Proc = p
   ·rw [if_pos e]
    have ih := zb1y z L hL p0 p s0 p3 p4 p5 x k (i + 1) d y acc (by omega) (by omega) (fun h => by have := ha2 h; omega) hd
    rw [w, if_pos c] at ih
    exact Ev.succ (Ev.po (Ev.pos c (Ev.po (Ev.opt he (Ev.pos e ih))))) (fun q => rfl)
   ·rw [if_neg e]
    have ih := zb1y z L hL p0 p s0 p3 p4 p5 x k (i + 1) d false (acc ++ [L[i]]) (by omega) (by rw [y11, List.length_singleton]; omega) (fun h => by have := ha2 h; rw [y11, List.length_singleton]; omega) (fun _ => rfl)
    rw [w, if_pos c] at ih
    exact Ev.succ (Ev.po (Ev.pos c (Ev.po (Ev.opt he (Ev.neg e (Ev.po (Ev.cast ih (by simp)))))))) (fun q => rfl)
  ·rw [if_neg c]
   by_cases g : p < L[i].Proc
   ·rw [if_neg (show ¬ L[i].Proc = p by omega)]
    have ih := zb1y z L hL p0 p s0 p3 p4 p5 x k (i + 1) true false ((acc ++ [⟨p, s0, x⟩]) ++ [L[i]]) (by omega) (by have := ha2 c; simp only [y11, List.length_singleton]; omega) (fun h => absurd rfl h) (fun _ => rfl)
    rw [w, if_pos rfl] at ih
    have e1 : insE ⟨p, s0, x⟩ (L[i] :: filP p (L.drop (i + 1))) = ⟨p, s0, x⟩ :: L[i] :: filP p (L.drop (i + 1)) := by simp only [insE]; rw [if_pos g]
    rw [e1]
    exact Ev.succ (Ev.po (Ev.neg c (Ev.po (Ev.opt he (Ev.pos g (Ev.po (Ev.ne (Ev.po (Ev.cast ih (by simp)))))))))) (fun q => rfl)
   ·by_cases e : L[i].Proc = p
    ·rw [if_pos e]
     have ih := zb1y z L hL p0 p s0 p3 p4 p5 x k (i + 1) d y acc (by omega) (by omega) (fun h => by have := ha2 h; omega) hd
     rw [w, if_neg c] at ih
     exact Ev.succ (Ev.po (Ev.neg c (Ev.po (Ev.opt he (Ev.neg g (Ev.pos e ih)))))) (fun q => rfl)
    ·rw [if_neg e]
     have ih := zb1y z L hL p0 p s0 p3 p4 p5 x k (i + 1) d false (acc ++ [L[i]]) (by omega) (by rw [y11, List.length_singleton]; omega) (fun h => by have := ha2 h; rw [y11, List.length_singleton]; omega) (fun _ => rfl)
     rw [w, if_neg c] at ih
     have e1 : insE ⟨p, s0, x⟩ (L[i] :: filP p (L.drop (i + 1))) = L[i] :: insE ⟨p, s0, x⟩ (filP p (L.drop (i + 1))) := by simp only [insE]; rw [if_neg g]
     rw [e1]
     exact Ev.succ (Ev.po (Ev.neg c (Ev.po (Ev.opt he (Ev.neg g (Ev.neg e (Ev.po (Ev.cast ih (by simp))))))))) (fun q => rfl)
theorem zb1z (s : Sl zjn) (hL : s.l.length ≤ 1000000) (r : zjr) : Ev (fun q => zmc q s r) ⟨false, true, noteL s.l r.Proc r.Seq r.Resp⟩ := by
 have h := zb1y s.z s.l hL r.Index r.Proc r.Seq r.Op.Code r.Op.A r.Op.B r.Resp s.l.length 0 false true [] (by omega) (by simp) (fun _ => by simp) (fun h => by cases h)
 rw [y38] at h
 exact Ev.succ (Ev.cast h (by simp [noteL])) (fun q => rfl)
theorem zb10 (zz : Bool) (L : List zjr) (hL : L.length ≤ 1000) : ∀ (k i : Nat) (s : zjo), L.length = i + k → zOk s.State.L.z s.Table.z s → s.State.L.l.length + 4 * k ≤ 900000 → s.Table.l.length + k ≤ 900000 →
  ∃ z z', zOk z z' (takeV s (L.drop i)).1 ∧ Ev (fun q => zmd q zz L (i : Int) s.Index s.State.Kind s.State.L.z s.State.L.l s.State.Sealed s.State.To s.Table.z s.Table.l true) (setZ z z' (takeV s (L.drop i)).1, (takeV s (L.drop i)).2)
 | 0, i, s, hk, hz, h1, h2 => by
  rw [y13 (by omega)]
  exact ⟨s.State.L.z, s.Table.z, hz, Ev.succ (Ev.ne (Ev.ret _)) (fun q => rfl)⟩
 | k + 1, i, s, hk, hz, h1, h2 => by
  have hi : i < L.length := by omega
  have he : L[((i : Int)).toNat]? = some L[i] := by simp [hi]
  rw [y10 hi]
  simp only [takeV]
  have w : wrp .i64 ((i : Int) + 1) = ((i + 1 : Nat) : Int) := by rw [zbwn (by omega) (by omega)]; omega
  by_cases c : L[i].Index = s.Index
  ·rw [if_pos c]
   by_cases d : FitsR L[i]
   ·rw [if_pos d]
    obtain ⟨z, hz1, hS⟩ := zb1x s.State hz.1 (by omega) L[i].Op
    have hN := zb1z s.Table (by omega) ⟨L[i].Index, L[i].Proc, L[i].Seq, L[i].Op, (stepV s.State L[i].Op).2⟩
    have hl := zb04 s.State L[i].Op
    have hn := zb0a s.Table.l L[i].Proc L[i].Seq (stepV s.State L[i].Op).2
    have key := zb05 z false (nextN s L[i]) (L.drop (i + 1))
    obtain ⟨y, y', hy, ih⟩ := zb10 zz L hL k (i + 1) (setZ z false (nextN s L[i])) (by omega) ⟨hz1, fun h => by cases h⟩ (by simp only [setZ, nextN, nextS]; omega) (by simp only [setZ, nextN, nextS]; omega)
    rw [key] at hy ih
    rw [← w] at ih
    refine ⟨y, y', hy, Ev.succ (Ev.po (Ev.po (Ev.opt he (Ev.pos c (Ev.bind (zbw8 _) (Ev.pos (by simpa using d) (Ev.bind hS (Ev.bind hN ?_)))))))) (fun q => rfl)⟩
    exact ih
   ·rw [if_neg d]
    refine ⟨true, true, ⟨fun _ => rfl, fun _ => rfl⟩, Ev.succ (Ev.po (Ev.po (Ev.opt he (Ev.pos c (Ev.bind (zbw8 _) (Ev.neg (by simpa using d) ?_)))))) (fun q => rfl)⟩
    exact Ev.ret _
  ·rw [if_neg c]
   refine ⟨true, true, ⟨fun _ => rfl, fun _ => rfl⟩, Ev.succ (Ev.po (Ev.po (Ev.opt he (Ev.neg c ?_)))) (fun q => rfl)⟩
   exact Ev.ret _
theorem zb11 (s : zjo) (r : Sl zjr) (hr : r.l.length ≤ 1000) (hz : zOk s.State.L.z s.Table.z s) (h1 : s.State.L.l.length ≤ 800000) (h2 : s.Table.l.length ≤ 800000) :
  ∃ z z', zOk z z' (takeV s r.l).1 ∧ Ev (fun q => zmf q s r) (setZ z z' (takeV s r.l).1, (takeV s r.l).2) := by
 suffices h : ∃ z z', zOk z z' (takeV s r.l).1 ∧ Ev (fun q => zme q r.z r.l s.Index s.State.Kind s.State.L.z s.State.L.l s.State.Sealed s.State.To s.Table.z s.Table.l) (setZ z z' (takeV s r.l).1, (takeV s r.l).2) by
  obtain ⟨z, z', h, h3⟩ := h
  exact ⟨z, z', h, Ev.succ h3 (fun q => rfl)⟩
 by_cases h0 : r.l.length = 0
 ·have hT : takeV s r.l = (setZ false false s, 0) := by rw [y35 h0]; rfl
  rw [hT]
  exact ⟨s.State.L.z, s.Table.z, hz, Ev.succ (Ev.ne (Ev.ret _)) (fun q => rfl)⟩
 ·have hi : 0 < r.l.length := by omega
  have he : r.l[0]? = some r.l[0] := y8 hi
  have hd : r.l = r.l[0] :: r.l.drop 1 := by
   have := y10 hi
   rwa [y38] at this
  have hT : takeV s r.l = if r.l[0].Index = s.Index then (if FitsR r.l[0] then takeV (nextN s r.l[0]) (r.l.drop 1) else (noTN, 1)) else (noTN, 15) := by
   have := congrArg (takeV s) hd
   exact this
  rw [hT]
  have w : wrp .i64 1 = ((1 : Nat) : Int) := by rw [zbwn (by omega) (by omega)]; rfl
  generalize r.l[0] = e at he hT ⊢
  by_cases c : e.Index = s.Index
  ·rw [if_pos c]
   by_cases d : FitsR e
   ·rw [if_pos d]
    obtain ⟨z, hz1, hS⟩ := zb1x s.State hz.1 (by omega) e.Op
    have hN := zb1z s.Table (by omega) ⟨e.Index, e.Proc, e.Seq, e.Op, (stepV s.State e.Op).2⟩
    have hl := zb04 s.State e.Op
    have hn := zb0a s.Table.l e.Proc e.Seq (stepV s.State e.Op).2
    have key := zb05 z false (nextN s e) (r.l.drop 1)
    obtain ⟨y, y', hy, ih⟩ := zb10 r.z r.l hr (r.l.length - 1) 1 (setZ z false (nextN s e)) (by omega) ⟨hz1, fun h => by cases h⟩ (by simp only [setZ, nextN, nextS]; omega) (by simp only [setZ, nextN, nextS]; omega)
    rw [key] at hy ih
    rw [← w] at ih
    refine ⟨y, y', hy, Ev.succ (Ev.po (Ev.opt he (Ev.pos c (Ev.bind (zbw8 _) (Ev.pos (by simpa using d) (Ev.bind hS (Ev.bind hN ?_))))))) (fun q => rfl)⟩
    exact ih
   ·rw [if_neg d]
    refine ⟨true, true, ⟨fun _ => rfl, fun _ => rfl⟩, Ev.succ (Ev.po (Ev.opt he (Ev.pos c (Ev.bind (zbw8 _) (Ev.neg (by simpa using d) ?_))))) (fun q => rfl)⟩
    exact Ev.ret _
  ·rw [if_neg c]
   refine ⟨true, true, ⟨fun _ => rfl, fun _ => rfl⟩, Ev.succ (Ev.po (Ev.opt he (Ev.neg c ?_))) (fun q => rfl)⟩
   exact Ev.ret _
theorem zb12 : ∀ (a0 : zjo) (a1 : (Sl zjr)) (a2 : zjr), zjo.ok a0 → okSl (fun x => zjr.ok x) a1 → zjr.ok a2 → ∃ q, zmk q a0 a1 a2 = some true := by
 intro s l r hs hl hr
 refine Ev.get (Ev.succ (Ev.bind zbz6 (Ev.bind (Few_ev s) (Ev.pos rfl (Ev.ite (fun h1 => Ev.ite (fun h2 => Ev.ret _) fun h2 => Ev.ite (fun h3 => Ev.ret _) fun h3 => ?_) fun h1 => Ev.ret _)))) (fun q => rfl))
 simp only [decide_eq_true_eq] at h1
 have hzs : zOk s.State.L.z s.Table.z s := ⟨hs.2.1.2.1.1, hs.2.2.1⟩
 have hz0 : zOk (decide (s.State.L.l.length = 0)) (decide (s.Table.l.length = 0)) s := ⟨fun h => y35 (by simpa using h), fun h => y35 (by simpa using h)⟩
 obtain ⟨y1, y2, _, e1⟩ := zb08 (setZ (decide (s.State.L.l.length = 0)) (decide (s.Table.l.length = 0)) s) l (by omega) hz0 (by simp only [setZ]; omega) (by simp only [setZ]; omega)
 rw [zb05] at e1
 obtain ⟨y3, y4, _, e2⟩ := zb11 s l (by omega) hzs (by omega) (by omega)
 have hlen := zb09 l.l s
 generalize takeV s l.l = V at e1 e2 hlen
 have e3 := zbzx (setZ y1 y2 V.1) (setZ y3 y4 V.1) (by simp only [setZ]; omega) (by simp only [setZ]; omega)
 rw [zb1a] at e3
 have e4 := zb0i ⟨decide (s.Table.l.length = 0), s.Table.l⟩ hz0.2 (by simp only; omega) r
 have e5 := zb1z s.Table (by omega) r
 have hnl := zb0a s.Table.l r.Proc r.Seq r.Resp
 simp only at e4
 generalize noteL s.Table.l r.Proc r.Seq r.Resp = N at e4 e5 hnl
 have e6 := zbzx (⟨0, (⟨0, ⟨true, []⟩, false, 0⟩ : zjm), ⟨false, N⟩⟩ : zjo) (⟨0, (⟨0, ⟨true, []⟩, false, 0⟩ : zjm), ⟨false, N⟩⟩ : zjo) (by simp) (by simp only; omega)
 rw [zbzy] at e6
 have e7 := zbzx (setZ (decide (s.State.L.l.length = 0)) (decide (s.Table.l.length = 0)) s) s (by simp only [setZ]; omega) (by simp only [setZ]; omega)
 have e8 : sameN (setZ (decide (s.State.L.l.length = 0)) (decide (s.Table.l.length = 0)) s) s = true := by simp [sameN, sameS, setZ]
 rw [e8] at e7
 refine Ev.po (Ev.po (Ev.bind e1 (Ev.bind e2 (Ev.bind e3 (Ev.bind e4 (Ev.bind e5 (Ev.bind e6 (Ev.bind e7 (Ev.pos rfl (Ev.pos rfl (Ev.pos rfl ?_)))))))))))
 exact Ev.ret _
end Go.Dvm.I
