/- Plain laws of the functions: part 1. -/
import Derived.Test.YtngajodhbioheaaGreatQi
set_option linter.all false
set_option maxRecDepth 100000
namespace Go.Dvm.I
open Go Go.Dvm
/-- With enough rounds. -/
def Ev {R : Type} (g : Nat → Option R) (r : R) : Prop := ∃ N, ∀ q, N ≤ q → g q = some r
section
variable {R S : Type}
theorem Ev.ret (r : R) : Ev (fun _ => some r) r := ⟨0, fun _ _ => rfl⟩
theorem Ev.ret' {r r' : R} (h : r = r') : Ev (fun _ => some r) r' := ⟨0, fun _ _ => by rw [h]⟩
theorem Ev.succ {f g : Nat → Option R} {r : R} (h : Ev g r) (e : ∀ q, f (q + 1) = g q) : Ev f r := by
 obtain ⟨N, h⟩ := h
 refine ⟨N + 1, fun q hq => ?_⟩
 obtain ⟨q, rfl⟩ : ∃ p, q = p + 1 := ⟨q - 1, by omega⟩
 rw [e]; exact h q (by omega)
theorem Ev.bind {g : Nat → Option S} {k : Nat → S → Option R} {s : S} {r : R} (h : Ev g s) (h2 : Ev (fun q => k q s) r) : Ev (fun q => (g q).bind (k q)) r := by
 obtain ⟨N, h⟩ := h
 obtain ⟨M, h2⟩ := h2
 exact ⟨N + M, fun q hq => by show (g q).bind (k q) = some r; rw [h q (by omega), y5]; exact h2 q (by omega)⟩
theorem Ev.opt {o : Option S} {k : Nat → S → Option R} {s : S} {r : R} (h : o = some s) (h2 : Ev (fun q => k q s) r) : Ev (fun q => o.bind (k q)) r := by
 subst h; exact h2
theorem Ev.pos {c : Prop} [Decidable c] {a b : Nat → Option R} {r : R} (hc : c) (h : Ev a r) : Ev (fun q => if c then a q else b q) r := by
 obtain ⟨N, h⟩ := h
 exact ⟨N, fun q hq => by show (if c then a q else b q) = some r; rw [if_pos hc]; exact h q hq⟩
theorem Ev.neg {c : Prop} [Decidable c] {a b : Nat → Option R} {r : R} (hc : ¬ c) (h : Ev b r) : Ev (fun q => if c then a q else b q) r := by
 obtain ⟨N, h⟩ := h
 exact ⟨N, fun q hq => by show (if c then a q else b q) = some r; rw [if_neg hc]; exact h q hq⟩
theorem Ev.po {c : Prop} [Decidable c] {a b : Nat → Option R} {r : R} (h : Ev a r) (hc : c := by omega) : Ev (fun q => if c then a q else b q) r := Ev.pos hc h
theorem Ev.ne {c : Prop} [Decidable c] {a b : Nat → Option R} {r : R} (h : Ev b r) (hc : ¬ c := by omega) : Ev (fun q => if c then a q else b q) r := Ev.neg hc h
theorem Ev.ite {c : Prop} [Decidable c] {a b : Nat → Option R} {r : R} (h1 : c → Ev a r) (h2 : ¬ c → Ev b r) : Ev (fun q => if c then a q else b q) r := by
 by_cases hc : c
 ·exact .pos hc (h1 hc)
 ·exact .neg hc (h2 hc)
theorem Ev.get {f : Nat → Option R} {r : R} (h : Ev f r) : ∃ q, f q = some r := by
 obtain ⟨N, h⟩ := h; exact ⟨N, h N (y14 _)⟩
theorem Ev.cast {f : Nat → Option R} {r r' : R} (h : Ev f r) (e : r = r') : Ev f r' := e ▸ h
end
theorem zb1z {x : Int} (h1 : -9223372036854775808 ≤ x) (h2 : x ≤ 9223372036854775807) : wrp .i64 x = x := by
 unfold wrp; simp [IntKind.wrap, IntKind.min, IntKind.max, IntKind.signed, IntKind.bits] <;> omega
theorem zb10 {x : Int} (h1 : 0 ≤ x) (h2 : x ≤ 18446744073709551615) : wrp .u64 x = x := by
 unfold wrp; simp [IntKind.wrap, IntKind.min, IntKind.max, IntKind.signed, IntKind.bits] <;> omega
theorem zb11 {x : Int} (h1 : 0 ≤ x) (h2 : x ≤ 4294967295) : wrp .u32 x = x := by
 unfold wrp; simp [IntKind.wrap, IntKind.min, IntKind.max, IntKind.signed, IntKind.bits] <;> omega
theorem wrp_u8 (x : Int) : wrp .u8 x = x % 256 := by
 unfold wrp; simp [IntKind.wrap, IntKind.min, IntKind.max, IntKind.signed, IntKind.bits] <;> omega
theorem zb12 {x : Int} (h1 : 0 ≤ x) : ishr .u64 x 7 = x / 128 := by
 unfold ishr; simp [IntKind.bits]
 rw [y54]; omega
theorem or128 {x : Int} (h1 : 0 ≤ x) (h2 : x < 256) : ibits .or .u8 x 128 = x % 128 + 128 := by
 obtain ⟨n, rfl⟩ := Int.eq_ofNat_of_zero_le h1
 have hn : n < 256 := by omega
 have : ∀ m : Fin 256, ibits .or .u8 (m.val : Int) 128 = (m.val : Int) % 128 + 128 := by unfold ibits; decide +kernel
 exact this ⟨n, hn⟩
/-- A number's groups. -/
def grp (n : Nat) : List Int := if h : n < 128 then [(n : Int)] else ((n % 128 + 128 : Nat) : Int) :: grp (n / 128)
theorem grp_lt {n : Nat} (h : n < 128) : grp n = [(n : Int)] := by rw [grp, dif_pos h]
theorem grp_ge {n : Nat} (h : ¬ n < 128) : grp n = ((n % 128 + 128 : Nat) : Int) :: grp (n / 128) := by rw [grp, dif_neg h]
theorem zb13 : ∀ (k : Nat) {n : Nat}, n < 128 ^ (k + 1) → (grp n).length ≤ k + 1
 | 0, n, h => by rw [grp_lt (by simpa using h)]; simp
 | k + 1, n, h => by
  by_cases hn : n < 128
  ·rw [grp_lt hn]; simp
  ·rw [grp_ge hn]
   have := zb13 k (n := n / 128) (by rw [Nat.div_lt_iff_lt_mul (by omega)]; rw [Nat.pow_succ] at h; exact h)
   simp; omega
theorem zb14 {n : Nat} (h : n < 18446744073709551616) : (grp n).length ≤ 10 := zb13 9 (by omega)
theorem zb15 (n : Nat) : 1 ≤ (grp n).length := by
 by_cases hn : n < 128
 ·rw [grp_lt hn]; simp
 ·rw [grp_ge hn]; simp
theorem zb16 : ∀ (n : Nat) (z : Bool) (l : List Int) (x : Bool), l.length + (grp n).length ≤ 4294967296 → Ev (fun q => zkl q (n : Int) z l x) ⟨false, x, l ++ grp n⟩ := by
 intro n
 induction n using Nat.strongRecOn with
 | ind n ih =>
  intro z l x hl
  refine Ev.succ ?_ (fun q => rfl)
  by_cases hn : n < 128
  ·rw [grp_lt hn] at hl ⊢
   refine Ev.ne (Ev.pos (by simpa using hl) (Ev.ret' ?_))
   rw [wrp_u8]; congr 3; omega
  ·rw [grp_ge hn] at hl ⊢
   simp only [y21] at hl
   refine Ev.po (Ev.pos (by omega) ?_)
   rw [zb12 (by omega), wrp_u8, or128 (by omega) (by omega)]
   have := ih (n / 128) (by omega) false (l ++ [((n % 128 + 128 : Nat) : Int)]) x (by simp; omega)
   rw [show ((n : Int) % 256 % 128 + 128) = ((n % 128 + 128 : Nat) : Int) by omega, show ((n : Int) / 128) = ((n / 128 : Nat) : Int) by omega]
   simpa using this
theorem zb17 {u : Int} (h1 : 0 ≤ u) (b : Ow Int) (hl : b.xs.length + (grp u.toNat).length ≤ 4294967296) : Ev (fun q => zkm q b u) ⟨false, b.x, b.xs ++ grp u.toNat⟩ := by
 have := zb16 u.toNat b.n b.xs b.x hl
 rw [Int.toNat_of_nonneg h1] at this
 exact Ev.succ this (fun q => rfl)
/-- What a number puts behind bytes. -/
def put (n : Int) : List Int := if n < 0 then [] else if 4611686018427387904 ≤ n then [] else grp n.toNat
theorem put_ok {n : Int} (h1 : 0 ≤ n) (h2 : n < 4611686018427387904) : put n = grp n.toNat := by
 unfold put; rw [if_neg (by omega), if_neg (by omega)]
theorem zb18 (n : Int) : (put n).length ≤ 10 := by
 unfold put; split
 ·simp
 ·split
  ·simp
  ·exact zb14 (by omega)
theorem zb19 {n : Int} (b : Ow Int) (h1 : 0 ≤ n) (h2 : n < 4611686018427387904) (hl : b.xs.length + 10 ≤ 4294967296) : Ev (fun q => zkn q b n) ⟨false, b.x, b.xs ++ put n⟩ := by
 refine Ev.succ ?_ (fun q => rfl)
 rw [put_ok h1 h2]
 have hg := zb14 (n := n.toNat) (by omega)
 refine Ev.ne (Ev.neg (by omega) ?_)
 rw [zb10 h1 (by omega)]
 exact Ev.bind (zb17 h1 b (by omega)) (Ev.ret _)
/-- Zigzag. -/
def zig (n : Int) : Nat := if 0 ≤ n then 2 * n.toNat else 2 * (-n).toNat - 1
theorem zig_lt {n : Int} (h : inR .i64 n) : zig n < 18446744073709551616 := by
 simp [inR, IntKind.min, IntKind.max, IntKind.signed, IntKind.bits] at h
 unfold zig; split <;> omega
def putS (n : Int) : List Int := grp (zig n)
theorem zb2a (k : IntKind) (n : Int) : k.wrap n = wrp k n := by unfold wrp; rfl
theorem xor0 {x : Int} (h1 : 0 ≤ x) (h2 : x < 18446744073709551616) : ibits .xor .u64 x 0 = x := by
 have e : ibits .xor .u64 x 0 = IntKind.wrap .u64 (((BitVec.ofInt 64 x ^^^ 0#64 : BitVec 64).toNat : Nat) : Int) := by unfold ibits; rfl
 rw [e, BitVec.xor_zero, y49, zb2a, zb10] <;> omega
theorem xor1 {x : Int} (h1 : 0 ≤ x) (h2 : x < 18446744073709551616) : ibits .xor .u64 x 18446744073709551615 = 18446744073709551615 - x := by
 have e : ibits .xor .u64 x 18446744073709551615 = IntKind.wrap .u64 (((BitVec.ofInt 64 x ^^^ BitVec.allOnes 64 : BitVec 64).toNat : Nat) : Int) := by unfold ibits; rfl
 rw [e, BitVec.xor_allOnes, BitVec.toNat_not, y49, zb2a, zb10] <;> omega
theorem ishl1 {x : Int} (h1 : 0 ≤ x) : ishl .u64 x 1 = (2 * x) % 18446744073709551616 := by
 unfold ishl
 simp [IntKind.wrap, IntKind.signed, IntKind.bits]
 omega
theorem zb2b (x : Int) : wrp .u64 x = x % 18446744073709551616 := by
 unfold wrp; simp [IntKind.wrap, IntKind.signed, IntKind.bits]
theorem ishr63 {x : Int} (h : inR .i64 x) : ishr .i64 x 63 = if 0 ≤ x then 0 else -1 := by
 simp [inR, IntKind.min, IntKind.max, IntKind.signed, IntKind.bits] at h
 unfold ishr; simp [IntKind.bits]
 rw [y54 _ (by omega)]
 split <;> omega
theorem zb2c {n : Int} (h : inR .i64 n) : Ev (fun q => zkp q n) ((zig n : Nat) : Int) := by
 refine Ev.succ (Ev.ret' ?_) (fun q => rfl)
 have hr := h
 simp [inR, IntKind.min, IntKind.max, IntKind.signed, IntKind.bits] at hr
 rw [ishr63 h]
 by_cases h0 : 0 ≤ n
 ·rw [if_pos h0, zb10 h0 (by omega), ishl1 h0, zb10 (by omega) (by omega), xor0 (by omega) (by omega)]
  unfold zig; rw [if_pos h0]; omega
 ·rw [if_neg h0, zb2b n, ishl1 (by omega), show wrp .u64 (-1) = 18446744073709551615 by rw [zb2b]; rfl, xor1 (by omega) (by omega)]
  unfold zig; rw [if_neg h0]; omega
theorem zb2d {n : Int} (b : Ow Int) (h : inR .i64 n) (hl : b.xs.length + 10 ≤ 4294967296) : Ev (fun q => zkq q b n) ⟨false, b.x, b.xs ++ putS n⟩ := by
 refine Ev.succ ?_ (fun q => rfl)
 have hg := zb14 (zig_lt h)
 have := zb17 (u := (zig n : Nat)) (by omega) b (by simpa using (by omega : b.xs.length + (grp (zig n)).length ≤ 4294967296))
 rw [y28] at this
 exact Ev.bind (zb2c h) (Ev.bind this (Ev.ret _))
def cutI (n : Int) : Int := if n < -1099511627776 then -1099511627776 else if 1099511627776 < n then 1099511627776 else n
theorem zb2e (n : Int) : Ev (fun q => zjl q n) (cutI n) := by
 refine Ev.succ (Ev.ret' ?_) (fun q => rfl)
 unfold cutI; split <;> split <;> split <;> (try split) <;> omega
theorem zb2f (n : Int) : Ev (fun q => zmw q n) (cutI n) := by
 refine Ev.succ ?_ (fun q => rfl)
 unfold cutI
 refine Ev.ite (fun h => ?_) fun h => Ev.ite (fun h1 => ?_) fun h1 => ?_
 ·rw [if_pos h]; exact Ev.ret _
 ·rw [if_neg h, if_pos h1]; exact Ev.ret _
 ·rw [if_neg h, if_neg h1]; exact Ev.ret _
def fitsOp (o : zjf) : Bool := decide (0 ≤ o.Code) && (decide (o.Code ≤ 10) && (decide (o.A = cutI o.A) && decide (o.B = cutI o.B)))
theorem zb2g (o : zjf) : Ev (fun q => zjm q o) (fitsOp o) := by
 refine Ev.succ ?_ (fun q => rfl)
 unfold fitsOp
 refine Ev.ite (fun h => Ev.ite (fun h1 => Ev.bind (zb2e _) (Ev.ite (fun h2 => Ev.bind (zb2e _) (Ev.ret' ?_)) fun h2 => Ev.ret' ?_)) fun h1 => Ev.ret' ?_) fun h => Ev.ret' ?_
 ·rw [decide_eq_true h, decide_eq_true h1, decide_eq_true h2]; rfl
 ·rw [decide_eq_true h, decide_eq_true h1, decide_eq_false h2]; rfl
 ·rw [decide_eq_true h, decide_eq_false h1]; rfl
 ·rw [decide_eq_false h]; rfl
theorem zb2h {n : Int} : n = cutI n ↔ -1099511627776 ≤ n ∧ n ≤ 1099511627776 := by
 unfold cutI
 by_cases h1 : n < -1099511627776
 ·rw [if_pos h1]; omega
 ·rw [if_neg h1]
  by_cases h2 : 1099511627776 < n
  ·rw [if_pos h2]; omega
  ·rw [if_neg h2]; omega
def FitsR (r : zjg) : Prop := 0 ≤ r.Index ∧ r.Index < 4611686018427387904 ∧ 0 ≤ r.Proc ∧ r.Proc ≤ 64 ∧ 0 ≤ r.Seq ∧ r.Seq < 4611686018427387904 ∧ fitsOp r.Op = true ∧ -1125899906842624 ≤ r.Resp ∧ r.Resp ≤ 1125899906842624
instance (r : zjg) : Decidable (FitsR r) := by unfold FitsR; infer_instance
theorem zb2i (r : zjg) : Ev (fun q => zjn q r) (decide (FitsR r)) := by
 refine Ev.succ ?_ (fun q => rfl)
 refine Ev.ite (fun h1 => Ev.ite (fun h2 => Ev.ite (fun h3 => Ev.ite (fun h4 => Ev.ite (fun h5 => Ev.ite (fun h6 => Ev.bind (zb2g _) (Ev.ite (fun h7 => Ev.ite (fun h8 => Ev.ret' ?_) fun h8 => Ev.ret' ?_) fun h7 => Ev.ret' ?_)) fun h6 => Ev.ret' ?_) fun h5 => Ev.ret' ?_) fun h4 => Ev.ret' ?_) fun h3 => Ev.ret' ?_) fun h2 => Ev.ret' ?_) fun h1 => Ev.ret' ?_ <;> simp only [FitsR, *] <;> simp
theorem zb2j {n : Int} (h : inR .i64 n) : (putS n).length ≤ 10 := zb14 (zig_lt h)
theorem zb2k {n : Int} (h1 : -9223372036854775808 ≤ n) (h2 : n ≤ 9223372036854775807) : inR .i64 n := by
 simp [inR, IntKind.min, IntKind.max, IntKind.signed, IntKind.bits]; omega
abbrev B32 := BitVec 32
def u (a : B32) : Int := (a.toNat : Int)
theorem u_nn (a : B32) : 0 ≤ u a := Int.natCast_nonneg _
theorem u_lt (a : B32) : u a < 4294967296 := by unfold u; have := a.isLt; omega
theorem zb2l (a : B32) : BitVec.ofInt 32 (u a) = a := by
 apply BitVec.eq_of_toNat_eq; rw [y49]; unfold u; have := a.isLt; omega
theorem wrp_u (a : B32) : IntKind.wrap .u32 ((a.toNat : Nat) : Int) = u a := by
 have := a.isLt
 rw [zb2a, zb11 (by omega) (by omega)]; rfl
theorem xor_u (a b : B32) : ibits .xor .u32 (u a) (u b) = u (a ^^^ b) := by
 have e : ibits .xor .u32 (u a) (u b) = IntKind.wrap .u32 (((BitVec.ofInt 32 (u a) ^^^ BitVec.ofInt 32 (u b) : B32).toNat : Nat) : Int) := by unfold ibits; rfl
 rw [e, zb2l, zb2l, wrp_u]
theorem and_u (a b : B32) : ibits .and .u32 (u a) (u b) = u (a &&& b) := by
 have e : ibits .and .u32 (u a) (u b) = IntKind.wrap .u32 (((BitVec.ofInt 32 (u a) &&& BitVec.ofInt 32 (u b) : B32).toNat : Nat) : Int) := by unfold ibits; rfl
 rw [e, zb2l, zb2l, wrp_u]
theorem u_lit (n : Nat) (h : n < 4294967296) : u (BitVec.ofNat 32 n) = (n : Int) := by
 unfold u; rw [BitVec.toNat_ofNat]; omega
theorem zb2m (x : Int) : wrp .u32 x = x % 4294967296 := by
 unfold wrp; simp [IntKind.wrap, IntKind.signed, IntKind.bits]
theorem ishr_u (a : B32) (k : Nat) (hk : k ≤ 32) : ishr .u32 (u a) (k : Int) = u (a >>> k) := by
 unfold ishr u
 simp only [IntKind.bits, y28, Nat.min_eq_left hk]
 rw [y54 _ (by exact_mod_cast Nat.zero_le _), BitVec.toNat_ushiftRight, Nat.shiftRight_eq_div_pow]
 simp
theorem zb2n (a : B32) : ishr .u32 (u a) 1 = u (a >>> 1) := ishr_u a 1 (by omega)
theorem zb2o (a : B32) : ishr .u32 (u a) 8 = u (a >>> 8) := ishr_u a 8 (by omega)
def poly : B32 := 2197175160#32
def bstep (a : B32) : B32 := if a &&& 1#32 = 1#32 then (a >>> 1) ^^^ poly else a >>> 1
theorem and1 (a : B32) : a &&& 1#32 = 0#32 ∨ a &&& 1#32 = 1#32 := by
 have : (a &&& 1#32).toNat = a.toNat % 2 := by rw [BitVec.toNat_and]; exact Nat.and_one_is_mod _
 rcases Nat.mod_two_eq_zero_or_one a.toNat with h | h
 ·left; exact BitVec.eq_of_toNat_eq (by rw [this, h]; rfl)
 ·right; exact BitVec.eq_of_toNat_eq (by rw [this, h]; rfl)
theorem zb2p (a : B32) : a &&& 1#32 = 1#32 ↔ u a % 2 = 1 := by
 have h : (a &&& 1#32).toNat = a.toNat % 2 := by rw [BitVec.toNat_and]; exact Nat.and_one_is_mod _
 unfold u
 constructor
 ·intro e; rw [e] at h; simp at h; omega
 ·intro e; exact BitVec.eq_of_toNat_eq (by rw [h]; simp; omega)
/-- The program's step. -/
theorem zb2q (a : B32) : ibits .xor .u32 (ishr .u32 (u a) 1) (ibits .and .u32 2197175160 (wrp .u32 (0 - (ibits .and .u32 (u a) 1)))) = u (bstep a) := by
 have e1 : (1 : Int) = u 1#32 := rfl
 have e2 : (2197175160 : Int) = u poly := by unfold poly; rw [u_lit _ (by omega)]; rfl
 rw [zb2n]
 conv => lhs; arg 4; rw [e2]; arg 4; rw [e1, and_u]
 unfold bstep
 rcases and1 a with h | h
 ·rw [h, if_neg (by decide)]
  have : wrp .u32 (0 - u 0#32) = u 0#32 := by rw [zb2m]; rfl
  rw [this, and_u, BitVec.and_zero, xor_u, BitVec.xor_zero]
 ·rw [h, if_pos rfl]
  have : wrp .u32 (0 - u 1#32) = u (BitVec.allOnes 32) := by rw [zb2m]; rfl
  rw [this, and_u, BitVec.and_allOnes, xor_u]
def biter : Nat → B32 → B32
 | 0, a => a
 | n + 1, a => biter n (bstep a)
def bentry (a : B32) : B32 := biter 8 a
theorem zb2r (v2 v5 : Int) (t0 t1 : List Int) (r : List Int) : ∀ (k : Nat) (a : B32) (v10 : Int), v10 = 8 - k → k ≤ 8 → 0 ≤ v2 → v2.toNat < 256 → v2.toNat + 1 ≤ t1.length →
  Ev (fun q => zkv q (wrp .i64 (v5 + 1)) t0 (List.set t1 v2.toNat (u (biter k a)))) r → Ev (fun q => zkw q v2 (u a) v5 v10 t0 t1) r
 | 0, a, v10, h1, h2, h3, h4, h5, h => Ev.succ (Ev.ne (Ev.pos h3 (Ev.pos h4 (Ev.pos h5 h)))) (fun q => rfl)
 | k + 1, a, v10, h1, h2, h3, h4, h5, h => by
  refine Ev.succ (Ev.pos (by omega) ?_) (fun q => rfl)
  rw [zb2q, zb1z (by omega) (by omega)]
  exact zb2r v2 v5 t0 t1 r k (bstep a) (v10 + 1) (by omega) (by omega) h3 h4 h5 h
/-- The table. -/
def tabN (n : Nat) : List Int := (List.range n).map fun i => u (bentry (BitVec.ofNat 32 i))
theorem zb2s {n i : Nat} (h : i < n) : (tabN n)[i]? = some (u (bentry (BitVec.ofNat 32 i))) := by
 unfold tabN; rw [y42, List.getElem?_range h]; rfl
theorem zb2t (n : Nat) : (tabN n).length = n := by simp [tabN]
theorem zb2u : ∀ (k i : Nat) (t1 : List Int), i + k = 256 → t1.length = 256 → (∀ j, j < i → t1[j]? = (tabN 256)[j]?) → Ev (fun q => zkv q (i : Int) (List.replicate 256 0) t1) (tabN 256)
 | 0, i, t1, hk, hl, ht => by
  refine Ev.succ (Ev.ne (Ev.po (Ev.po (Ev.pos (by simp) (Ev.pos (by simp) (Ev.ret' ?_)))))) (fun q => rfl)
  have e : t1 = tabN 256 := by
   apply List.ext_getElem?
   intro j
   by_cases hj : j < 256
   ·exact ht j (by omega)
   ·rw [y51 (by omega), y51 (by rw [zb2t]; omega)]
  have h2 := zb2t 256
  rw [e, List.take_of_length_le (i := 256) (by omega : (tabN 256).length ≤ 256), y12 (by simp), List.append_nil, List.take_of_length_le (by omega)]
 | k + 1, i, t1, hk, hl, ht => by
  refine Ev.succ (Ev.pos (by omega) ?_) (fun q => rfl)
  have e : wrp .u32 (i : Int) = u (BitVec.ofNat 32 i) := by rw [u_lit _ (by omega), zb11] <;> omega
  rw [e]
  refine zb2r _ _ _ _ _ 8 _ 0 (by omega) (by omega) (by omega) (by omega) (by omega) ?_
  rw [zb1z (by omega) (by omega), show ((i : Int) + 1) = ((i + 1 : Nat) : Int) by omega, y28]
  refine zb2u k (i + 1) _ (by omega) (by simpa using hl) fun j hj => ?_
  by_cases e : i = j
  ·subst e; rw [y23 (by omega), zb2s (by omega)]; rfl
  ·rw [y29 e]; exact ht j (by omega)
theorem zb2v : Ev (fun q => zkx q) (tabN 256) :=
 Ev.succ (zb2u 256 0 (List.replicate 256 0) (by omega) (by simp) (fun j hj => by omega)) (fun q => rfl)
/-- What a byte makes of a sum. -/
def bbyte (x : B32) (c : Int) : B32 := bentry ((x ^^^ BitVec.ofInt 32 c) &&& 255#32) ^^^ (x >>> 8)
def bmore (x : B32) (l : List Int) : B32 := l.foldl bbyte x
def isB (l : List Int) : Prop := ∀ c ∈ l, 0 ≤ c ∧ c < 256
theorem xor8 {x : B32} {c : Int} (h1 : 0 ≤ c) (h2 : c < 256) : ibits .xor .u8 (wrp .u8 (u x)) c = u ((x ^^^ BitVec.ofInt 32 c) &&& 255#32) := by
 have e : ibits .xor .u8 (wrp .u8 (u x)) c = IntKind.wrap .u8 (((BitVec.ofInt 8 (wrp .u8 (u x)) ^^^ BitVec.ofInt 8 c : BitVec 8).toNat : Nat) : Int) := by unfold ibits; rfl
 rw [e, zb2a, wrp_u8, wrp_u8]
 unfold u
 rw [BitVec.toNat_and, BitVec.toNat_xor, BitVec.toNat_xor, y49, y49, y49]
 obtain ⟨n, rfl⟩ := Int.eq_ofNat_of_zero_le h1
 have hn : n < 256 := by omega
 have e1 : (((x.toNat : Int) % 256 % ((2 ^ 8 : Nat) : Int)).toNat) = x.toNat % 256 := by omega
 have e2 : (((n : Int) % ((2 ^ 8 : Nat) : Int)).toNat) = n := by omega
 have e3 : (((n : Int) % ((2 ^ 32 : Nat) : Int)).toNat) = n := by omega
 rw [e1, e2, e3, show (255#32).toNat = 2 ^ 8 - 1 from rfl, Nat.and_two_pow_sub_one_eq_mod]
 have h3 : (x.toNat ^^^ n) % 2 ^ 8 = (x.toNat % 2 ^ 8) ^^^ (n % 2 ^ 8) := Nat.xor_mod_two_pow
 rw [h3, Nat.mod_eq_of_lt (show n < 2 ^ 8 by omega)]
 have h4 : (x.toNat % 2 ^ 8) ^^^ n < 2 ^ 8 := Nat.xor_lt_two_pow (Nat.mod_lt _ (by omega)) (by omega)
 simp only [Nat.reducePow] at h4 ⊢
 omega
theorem and255 (x : B32) : u (x &&& 255#32) < 256 := by
 unfold u
 rw [BitVec.toNat_and, show (255#32).toNat = 2 ^ 8 - 1 from rfl, Nat.and_two_pow_sub_one_eq_mod]; omega
theorem zb2w (a : B32) : (u a).toNat = a.toNat := by unfold u; omega
theorem ones : (4294967295 : Int) = u (BitVec.allOnes 32) := rfl
theorem zb2x (z : Bool) (l : List Int) (hb : isB l) (hl : l.length ≤ 1099511627776) : ∀ (k i : Nat) (x : B32), l.length = i + k → Ev (fun q => zky q (u x) z l (l.length : Int) (i : Int) (tabN 256)) (u (~~~ bmore x (l.drop i)))
 | 0, i, x, hk => by
  refine Ev.succ (Ev.ne (Ev.ret' ?_)) (fun q => rfl)
  rw [y12 (by omega), ones, xor_u]
  simp only [bmore, List.foldl_nil, BitVec.allOnes_xor]
 | k + 1, i, x, hk => by
  have hi : i < l.length := by omega
  have hg : l[(i : Int).toNat]? = some l[i] := by simpa using y7 hi
  obtain ⟨b1, b2⟩ := hb l[i] (y26 hi)
  refine Ev.succ (Ev.po (Ev.po (Ev.opt hg ?_))) (fun q => rfl)
  rw [xor8 b1 b2]
  have h255 := and255 (x ^^^ BitVec.ofInt 32 l[i])
  have hnn := u_nn ((x ^^^ BitVec.ofInt 32 l[i]) &&& 255#32)
  refine Ev.pos hnn (Ev.po (Ev.opt (zb2s (by omega)) ?_))
  rw [zb2o, xor_u, zb1z (by omega) (by omega), show ((i : Int) + 1) = ((i + 1 : Nat) : Int) by omega, zb2w]
  have := zb2x z l hb hl k (i + 1) (bentry ((x ^^^ BitVec.ofInt 32 l[i]) &&& 255#32) ^^^ (x >>> 8)) (by omega)
  rw [y9 hi]
  simp only [bmore, List.foldl_cons, bbyte, BitVec.ofNat_toNat, BitVec.setWidth_eq] at this ⊢
  exact this
theorem zb2y (x : B32) (s : Sl Int) (hb : isB s.l) (hl : s.l.length ≤ 1099511627776) : Ev (fun q => zkz q (u x) s) (u (~~~ bmore (~~~ x) s.l)) := by
 refine Ev.succ (Ev.bind zb2v (Ev.pos (zb2t 256) ?_)) (fun q => rfl)
 rw [ones, xor_u, BitVec.allOnes_xor]
 have := zb2x s.z s.l hb hl s.l.length 0 (~~~ x) (by omega)
 rw [y38] at this
 exact this
/-- The sum of bytes. -/
def bsum (l : List Int) : B32 := ~~~ bmore (BitVec.allOnes 32) l
theorem zb2z (s : Sl Int) (hb : isB s.l) (hl : s.l.length ≤ 1099511627776) : Ev (fun q => zk0 q s) (u (bsum s.l)) := by
 have := zb2y 0#32 s hb hl
 exact Ev.succ (Ev.bind this (Ev.ret' (by simp [bsum]))) (fun q => rfl)
theorem zb20 (x : B32) (a b : List Int) : bmore (bmore x a) b = bmore x (a ++ b) := by simp [bmore]
theorem zb21 {x : Int} (h : 0 ≤ x) (k : Nat) (hk : k ≤ 64) : ishr .u64 x (k : Int) = x / ((2 ^ k : Nat) : Int) := by
 unfold ishr
 simp only [IntKind.bits, y28, Nat.min_eq_left hk]
 rw [y54 _ (by exact_mod_cast Nat.zero_le _)]
 simp
/-- A number in four bytes. -/
def fix4 (v : Nat) : List Int := [((v % 256 : Nat) : Int), ((v / 256 % 256 : Nat) : Int), ((v / 65536 % 256 : Nat) : Int), ((v / 16777216 % 256 : Nat) : Int)]
theorem zb22 (v k : Nat) (hk : k ≤ 8) : wrp .u8 (ishr .u64 (v : Int) (wrp .i64 (8 * (k : Int)))) = ((v / 2 ^ (8 * k) % 256 : Nat) : Int) := by
 rw [zb1z (by omega) (by omega), show (8 * (k : Int)) = ((8 * k : Nat) : Int) by omega, zb21 (by omega) _ (by omega), wrp_u8]
 exact_mod_cast rfl
def bytesFrom (v : Nat) : Nat → Nat → List Int
 | _, 0 => []
 | i, k + 1 => ((v / 2 ^ (8 * i) % 256 : Nat) : Int) :: bytesFrom v (i + 1) k
theorem zb23 {v m : Nat} (hm : m ≤ 8) : ∀ (k i : Nat) (l : List Int), m = i + k → l.length + k ≤ 4294967296 → Ev (fun q => zk1 q (v : Int) (m : Int) (i : Int) false l) ⟨false, true, l ++ bytesFrom v i k⟩
 | 0, i, l, hk, hl => Ev.succ (Ev.ne (Ev.ret' (by simp [bytesFrom]))) (fun q => rfl)
 | k + 1, i, l, hk, hl => by
  have w : wrp .i64 (8 * (i : Int)) = 8 * (i : Int) := zb1z (by omega) (by omega)
  refine Ev.succ (Ev.po (Ev.neg (by rw [w]; omega) (Ev.pos (by omega) ?_))) (fun q => rfl)
  rw [zb22 v i (by omega), zb1z (x := (i : Int) + 1) (by omega) (by omega), show ((i : Int) + 1) = ((i + 1 : Nat) : Int) by omega]
  refine (zb23 hm k (i + 1) _ (by omega) (by simp; omega)).cast ?_
  simp [bytesFrom]
theorem zb24 {v m : Nat} (h0 : 0 < m) (hm : m ≤ 8) : Ev (fun q => zk2 q (v : Int) (m : Int)) ⟨false, true, bytesFrom v 0 m⟩ := by
 obtain ⟨k, rfl⟩ : ∃ k, m = k + 1 := ⟨m - 1, by omega⟩
 have w : wrp .i64 (8 * ((0 : Nat) : Int)) = 0 := zb1z (by omega) (by omega)
 have key : ∀ i : Int, i = ((0 : Nat) : Int) → Ev (fun q => zk1 q (v : Int) ((k + 1 : Nat) : Int) i true []) ⟨false, true, bytesFrom v 0 (k + 1)⟩ := by
  intro i hi
  refine Ev.succ (Ev.po (Ev.neg (by rw [hi, w]; omega) (Ev.pos (by simp) ?_))) (fun q => rfl)
  rw [hi, zb22 v 0 (by omega), zb1z (x := ((0 : Nat) : Int) + 1) (by omega) (by omega), show (((0 : Nat) : Int) + 1) = ((0 + 1 : Nat) : Int) by omega]
  refine (zb23 hm k 1 _ (by omega) (by simp; omega)).cast ?_
  simp [bytesFrom]
 exact Ev.succ (key 0 rfl) (fun q => rfl)
theorem bytes4 (v : Nat) : bytesFrom v 0 4 = fix4 v := by simp [bytesFrom, fix4]
theorem zb25 {v : Nat} (h : v < 18446744073709551616) : Ev (fun q => zk2 q (v : Int) 4) ⟨false, true, fix4 v⟩ := by
 have := zb24 (v := v) (m := 4) (by omega) (by omega)
 rw [bytes4] at this; exact this
theorem zb26 (a : B32) : Ev (fun q => zk3 q (u a)) ⟨false, true, fix4 a.toNat⟩ := by
 have h1 := u_nn a; have h2 := u_lt a
 have e : wrp .u64 (u a) = ((a.toNat : Nat) : Int) := by rw [zb10 h1 (by omega)]; rfl
 exact Ev.succ (Ev.bind (by rw [e]; exact zb25 (by have := a.isLt; omega)) (Ev.ret _)) (fun q => rfl)
theorem zb27 (a b : Sl Int) (ha : isB a.l) (hb : isB b.l) (la : a.l.length ≤ 1099511627776) (lb : b.l.length ≤ 1099511627776) : Ev (fun q => zk4 q a b) ⟨false, true, fix4 (bsum (a.l ++ b.l)).toNat⟩ := by
 have h2 := zb2y (bsum a.l) b hb lb
 have e : ~~~ bmore (~~~ bsum a.l) b.l = bsum (a.l ++ b.l) := by
  unfold bsum; rw [BitVec.not_not, zb20]
 rw [e] at h2
 exact Ev.succ (Ev.bind (zb2z a ha la) (Ev.bind h2 (Ev.bind (zb26 _) (Ev.ret _)))) (fun q => rfl)
def flat (l : List (Sl Int)) : List Int := l.flatMap (·.l)
theorem zb28 (a : Sl Int) (b : List (Sl Int)) : flat (a :: b) = a.l ++ flat b := by simp [flat]
theorem zb29 (z0 : Bool) (L : List (Sl Int)) (z : Bool) (hL : L.length ≤ 1099511627776) : ∀ (k i : Nat) (m : Nat) (l : List Int), L.length = i + k → m + (flat (L.drop i)).length ≤ l.length →
  Ev (fun q => zk5 q m z0 L (L.length : Int) (i : Int) z l) ⟨z, true, l.take m ++ flat (L.drop i)⟩
 | 0, i, m, l, hk, hl => by
  refine Ev.succ (Ev.ne (Ev.ret' ?_)) (fun q => rfl)
  rw [y12 (by omega)]; simp [flat]
 | k + 1, i, m, l, hk, hl => by
  have hi : i < L.length := by omega
  have hg : L[(i : Int).toNat]? = some L[i] := by simpa using y7 hi
  rw [y9 hi, zb28, y10] at hl
  refine Ev.succ (Ev.po (Ev.po (Ev.opt hg (Ev.pos (by omega) ?_)))) (fun q => rfl)
  rw [zb1z (by omega) (by omega), show ((i : Int) + 1) = ((i + 1 : Nat) : Int) by omega]
  refine (zb29 z0 L z hL k (i + 1) (m + L[i].l.length) _ (by omega) ?_).cast ?_
  ·simp only [y10, y20, y13]; omega
  ·congr 1
   rw [y9 hi, zb28, ← y33]
   congr 1
   rw [List.take_append_of_le_length (by simp only [y10, y20]; omega), List.take_of_length_le (by simp only [y10, y20]; omega)]
theorem zb3a (z0 : Bool) (L : List (Sl Int)) (hL : L.length ≤ 1099511627776) : ∀ (k i : Nat) (z : Bool) (l : List Int), L.length = i + k → l.length + (flat (L.drop i)).length ≤ 4294967296 →
  ∃ z', Ev (fun q => zk6 q z0 L (L.length : Int) (i : Int) z l) ⟨z', true, l ++ flat (L.drop i)⟩
 | 0, i, z, l, hk, hl => ⟨z, by
  refine Ev.succ (Ev.ne (Ev.ret' ?_)) (fun q => rfl)
  rw [y12 (by omega)]; simp [flat]⟩
 | k + 1, i, z, l, hk, hl => by
  have hi : i < L.length := by omega
  have hg : L[(i : Int).toNat]? = some L[i] := by simpa using y7 hi
  rw [y9 hi, zb28, y10] at hl
  obtain ⟨z', h⟩ := zb3a z0 L hL k (i + 1) (z && (decide (L[i].l.length = 0))) (l ++ L[i].l) (by omega) (by simp only [y10]; omega)
  refine ⟨z', Ev.succ (Ev.po (Ev.po (Ev.opt hg (Ev.pos (by omega) ?_)))) (fun q => rfl)⟩
  rw [zb1z (by omega) (by omega), show ((i : Int) + 1) = ((i + 1 : Nat) : Int) by omega]
  refine h.cast ?_
  rw [y9 hi, zb28]; simp
theorem zb3b (z0 z9 : Bool) (L : List (Sl Int)) (hL : L.length ≤ 1099511627776) (hf : (flat L).length ≤ 4294967296) : ∀ (k i : Nat) (m : Nat), L.length = i + k → m + (flat (L.drop i)).length = (flat L).length →
  ∃ z', Ev (fun q => zk8 q z0 L (m : Int) z9 L (L.length : Int) (i : Int)) ⟨z', true, flat L⟩
 | 0, i, m, hk, hm => by
  rw [y12 (by omega)] at hm
  have hm2 : m = (flat L).length := by simpa [flat] using hm
  have w : wrp .i64 ((m : Int) - wrp .i64 0) = (m : Int) := by rw [zb1z (x := 0) (by omega) (by omega), zb1z (by omega) (by omega)]; omega
  by_cases h0 : 0 < m
  ·refine ⟨decide (wrp .i64 ((m : Int) - wrp .i64 0) = 0), Ev.succ (Ev.ne (Ev.ne (Ev.pos (by rw [w]; omega) (Ev.pos (by rw [w]; omega) (Ev.pos (by rw [w]; omega) (Ev.neg (by rw [w]; omega) ?_)))))) (fun q => rfl)⟩
   rw [w]
   have := zb29 z0 L (decide ((m : Int) = 0)) hL L.length 0 0 (List.replicate (m : Int).toNat 0) (by omega) (by simp; omega)
   rw [y38] at this
   exact this
  ·have hnil : flat L = [] := y35 (by omega)
   match L, hk with
   | [], _ =>
    refine ⟨true, Ev.succ (Ev.neg (by simp) (Ev.neg (by omega) ?_)) (fun q => rfl)⟩
    rw [w]
    refine Ev.neg (by omega) ?_
    exact Ev.succ (g := fun _ => some ⟨true, true, []⟩) (Ev.ret' (by simp [flat])) (fun q => rfl)
   | a :: L', hk =>
    rw [zb28] at hnil
    obtain ⟨z', h⟩ := zb3a z0 (a :: L') hL L'.length 1 (decide (a.l.length = 0)) a.l (by simp; omega) (by
     have : flat (List.drop 1 (a :: L')) = flat L' := rfl
     rw [this, ← y10, hnil]; simp)
    refine ⟨z', Ev.succ (Ev.ne (Ev.neg (by omega) ?_)) (fun q => rfl)⟩
    rw [w]
    refine Ev.ne (Ev.succ (Ev.pos (by simp) (Ev.opt (s := a) rfl (Ev.pos ?_ ?_))) (fun q => rfl))
    ·have : a.l.length ≤ (a.l ++ flat L').length := by simp
     rw [hnil] at this; simp at this; simp [this]
    ·rw [zb1z (by omega) (by omega)]
     refine h.cast ?_
     rw [zb28]; rfl
 | k + 1, i, m, hk, hm => by
  have hi : i < L.length := by omega
  have hg : L[(i : Int).toNat]? = some L[i] := by simpa using y7 hi
  rw [y9 hi, zb28, y10] at hm
  obtain ⟨z', h⟩ := zb3b z0 z9 L hL hf k (i + 1) (m + L[i].l.length) (by omega) (by omega)
  refine ⟨z', Ev.succ (Ev.po (Ev.po (Ev.opt hg ?_))) (fun q => rfl)⟩
  have w : wrp .i64 ((m : Int) + (L[i].l.length : Int)) = ((m + L[i].l.length : Nat) : Int) := by rw [zb1z (by omega) (by omega)]; omega
  rw [w, zb1z (by omega) (by omega), show ((i : Int) + 1) = ((i + 1 : Nat) : Int) by omega]
  exact Ev.neg (by omega) h
theorem zb3c (s : Sl (Sl Int)) (hL : s.l.length ≤ 1099511627776) (hf : (flat s.l).length ≤ 4294967296) : ∃ z', Ev (fun q => zk9 q s) ⟨z', true, flat s.l⟩ := by
 obtain ⟨z', h⟩ := zb3b s.z s.z s.l hL hf s.l.length 0 0 (by omega) (by simp)
 exact ⟨z', Ev.succ h (fun q => rfl)⟩
theorem zb3d : ∀ n, isB (grp n) := by
 intro n
 induction n using Nat.strongRecOn with
 | ind n ih =>
  by_cases h : n < 128
  ·rw [grp_lt h]; intro c hc; simp at hc; omega
  ·rw [grp_ge h]; intro c hc
   rcases List.mem_cons.1 hc with rfl | hc
   ·omega
   ·exact ih (n / 128) (by omega) c hc
theorem zb3e (n : Int) : isB (put n) := by
 unfold put; split
 ·intro c hc; simp at hc
 ·split
  ·intro c hc; simp at hc
  ·exact zb3d _
theorem zb3f {a b : List Int} : isB (a ++ b) ↔ isB a ∧ isB b := by
 constructor
 ·intro h; exact ⟨fun c hc => h c (List.mem_append.2 (.inl hc)), fun c hc => h c (List.mem_append.2 (.inr hc))⟩
 ·rintro ⟨h1, h2⟩ c hc
  rcases List.mem_append.1 hc with h | h
  ·exact h1 c h
  ·exact h2 c h
/-- A frame. -/
def encF (l : List Int) : List Int := put (l.length : Int) ++ (l ++ fix4 (bsum (put (l.length : Int) ++ l)).toNat)
theorem zb3g (s : Sl Int) (hb : isB s.l) (hl : s.l.length ≤ 1048576) : ∃ z, Ev (fun q => zla q s) (⟨z, true, encF s.l⟩, 0) := by
 have hp := zb18 (s.l.length : Int)
 obtain ⟨z, h⟩ := zb3c ⟨false, [⟨false, put (s.l.length : Int)⟩, s, ⟨false, fix4 (bsum (put (s.l.length : Int) ++ s.l)).toNat⟩]⟩ (by simp) (by simp [flat, fix4]; omega)
 refine ⟨z, Ev.succ (Ev.neg (by omega) ?_) (fun q => rfl)⟩
 refine Ev.bind (zb19 ⟨true, true, []⟩ (by omega) (by omega) (by simp)) ?_
 refine Ev.bind (zb27 ⟨false, put (s.l.length : Int)⟩ s (zb3e (s.l.length : Int)) hb (by simp only; omega) (by omega)) ?_
 refine Ev.bind h ?_
 exact Ev.ret' (by simp [encF, flat])
/-- The number that bytes begin with, from the i-th group on. -/
def rd : Nat → List Int → Option (Nat × Nat)
 | _, [] => none
 | i, c :: l => if 10 ≤ i then none else if i = 9 ∧ 1 < c then none else if c = 0 ∧ 0 < i then none else if c < 128 then some (c.toNat, 1) else (rd (i + 1) l).map fun p => ((c % 128).toNat + 128 * p.1, p.2 + 1)
def resN : Option (Nat × Nat) → Int × Int
 | none => (0, 0)
 | some p => (p.1, p.2)
theorem and127 {x : Int} (h1 : 0 ≤ x) (h2 : x < 256) : ibits .and .u8 x 127 = x % 128 := by
 obtain ⟨n, rfl⟩ := Int.eq_ofNat_of_zero_le h1
 have hn : n < 256 := by omega
 have : ∀ m : Fin 256, ibits .and .u8 (m.val : Int) 127 = (m.val : Int) % 128 := by unfold ibits; decide +kernel
 exact this ⟨n, hn⟩
theorem or64 {a b : Nat} (ha : a < 18446744073709551616) (hb : b < 18446744073709551616) : ibits .or .u64 (a : Int) (b : Int) = ((a ||| b : Nat) : Int) := by
 have e : ibits .or .u64 (a : Int) (b : Int) = IntKind.wrap .u64 (((BitVec.ofInt 64 (a : Int) ||| BitVec.ofInt 64 (b : Int) : BitVec 64).toNat : Nat) : Int) := by unfold ibits; rfl
 have e1 : (BitVec.ofInt 64 (a : Int)).toNat = a := by rw [y49]; omega
 have e2 : (BitVec.ofInt 64 (b : Int)).toNat = b := by rw [y49]; omega
 have e3 : a ||| b < 2 ^ 64 := Nat.or_lt_two_pow (by omega) (by omega)
 rw [e, BitVec.toNat_or, e1, e2, zb2a, zb10 (by omega) (by omega)]
theorem ishl64 {x k : Nat} (hk : k ≤ 64) : ishl .u64 (x : Int) (k : Int) = ((x * 2 ^ k % 18446744073709551616 : Nat) : Int) := by
 unfold ishl
 simp only [IntKind.bits, y28, Nat.min_eq_left hk]
 rw [zb2a, zb2b]
 have : ((x : Int) * 2 ^ k) = ((x * 2 ^ k : Nat) : Int) := by rw [Int.natCast_mul, Int.natCast_pow]; rfl
 rw [this]
 exact (Int.natCast_emod _ _).symm
theorem zb3h {acc i : Nat} {c : Int} (hi : i ≤ 9) (h1 : 0 ≤ c) (h2 : c < 256) (ha : acc < 2 ^ (7 * i)) (h9 : i = 9 → c ≤ 1) :
  ibits .or .u64 (acc : Int) (ishl .u64 (wrp .u64 (ibits .and .u8 c 127)) (wrp .i64 (7 * (i : Int)))) = ((acc + (c % 128).toNat * 2 ^ (7 * i) : Nat) : Int) ∧ acc + (c % 128).toNat * 2 ^ (7 * i) < 18446744073709551616 ∧ acc + (c % 128).toNat * 2 ^ (7 * i) < 2 ^ (7 * (i + 1)) := by
 have hm : (c % 128).toNat < 128 := by omega
 have hp : 2 ^ (7 * i) ≤ 2 ^ 63 := Nat.pow_le_pow_right (by omega) (by omega)
 have hp1 : 2 ^ (7 * (i + 1)) = 128 * 2 ^ (7 * i) := by rw [show 7 * (i + 1) = 7 + 7 * i by omega, Nat.pow_add]
 have h4 : acc + (c % 128).toNat * 2 ^ (7 * i) < 2 ^ (7 * (i + 1)) := by
  rw [hp1]
  have : ((c % 128).toNat + 1) * 2 ^ (7 * i) ≤ 128 * 2 ^ (7 * i) := y17 _ (by omega)
  rw [y31] at this; omega
 have h5 : acc + (c % 128).toNat * 2 ^ (7 * i) < 18446744073709551616 := by
  by_cases e : i = 9
  ·have hc := h9 e
   have : (c % 128).toNat ≤ 1 := by omega
   subst e
   have h6 : (c % 128).toNat * 2 ^ (7 * 9) ≤ 1 * 2 ^ (7 * 9) := y17 _ this
   simp only [Nat.reduceMul, Nat.reducePow] at ha h6 ⊢
   omega
  ·have : 2 ^ (7 * (i + 1)) ≤ 2 ^ 63 := Nat.pow_le_pow_right (by omega) (by omega)
   simp only [Nat.reducePow] at this
   omega
 refine ⟨?_, h5, h4⟩
 rw [and127 h1 h2, zb10 (by omega) (by omega), zb1z (by omega) (by omega), show (7 * (i : Int)) = ((7 * i : Nat) : Int) by omega, show (c % 128) = (((c % 128).toNat : Nat) : Int) by omega, ishl64 (by omega)]
 have h6 : (c % 128).toNat * 2 ^ (7 * i) < 18446744073709551616 := by omega
 simp only [y28]
 rw [Nat.mod_eq_of_lt h6, or64 (by omega) h6]
 congr 1
 have := Nat.two_pow_add_eq_or_of_lt ha (c % 128).toNat
 rw [Nat.or_comm, Nat.mul_comm, ← this]; omega
theorem zb3i (z : Bool) (L : List Int) (hb : isB L) (m : Nat) (hm : m = min 10 L.length) : ∀ (k i acc : Nat), m = i + k → acc < 2 ^ (7 * i) →
  Ev (fun q => zlk q z L (acc : Int) (m : Int) (i : Int)) (match rd i (L.drop i) with | none => (0, 0) | some p => (((acc + p.1 * 2 ^ (7 * i) : Nat) : Int), ((i + p.2 : Nat) : Int)))
 | 0, i, acc, hk, ha => by
  refine Ev.succ (Ev.ne (Ev.ret' ?_)) (fun q => rfl)
  have : rd i (L.drop i) = none := by
   cases h : L.drop i with
   | nil => rfl
   | cons c l =>
    have : (L.drop i).length = l.length + 1 := by rw [h]; rfl
    rw [y13] at this
    simp only [rd]; rw [if_pos (by omega)]
  rw [this]
 | k + 1, i, acc, hk, ha => by
  have hi : i < L.length := by omega
  have hi9 : i ≤ 9 := by omega
  have hg : L[(i : Int).toNat]? = some L[i] := by simpa using y7 hi
  obtain ⟨b1, b2⟩ := hb L[i] (y26 hi)
  have w7 : wrp .i64 (7 * (i : Int)) = 7 * (i : Int) := zb1z (by omega) (by omega)
  have wi : wrp .i64 ((i : Int) + 1) = ((i + 1 : Nat) : Int) := by rw [zb1z (by omega) (by omega)]; omega
  rw [y9 hi]
  simp only [rd]
  rw [if_neg (by omega)]
  generalize hc : L[i] = c at hg b1 b2
  -- the ends
  have done : (i = 9 → c ≤ 1) → c < 128 → (((ibits .or .u64 (acc : Int) (ishl .u64 (wrp .u64 (ibits .and .u8 c 127)) (wrp .i64 (7 * (i : Int))))), (wrp .i64 ((i : Int) + 1))) : Int × Int) = (((acc + c.toNat * 2 ^ (7 * i) : Nat) : Int), ((i + 1 : Nat) : Int)) := by
   intro h9 h128
   rw [(zb3h hi9 b1 b2 ha h9).1, wi, show (c % 128).toNat = c.toNat by omega]
  have rest : i ≠ 9 → ¬ c < 128 → Ev (fun q => zlk q z L (ibits .or .u64 (acc : Int) (ishl .u64 (wrp .u64 (ibits .and .u8 c 127)) (wrp .i64 (7 * (i : Int))))) (m : Int) (wrp .i64 ((i : Int) + 1))) (match (rd (i + 1) (L.drop (i + 1))).map (fun p => ((c % 128).toNat + 128 * p.1, p.2 + 1)) with | none => (0, 0) | some p => (((acc + p.1 * 2 ^ (7 * i) : Nat) : Int), ((i + p.2 : Nat) : Int))) := by
   intro h9 h128
   obtain ⟨g1, g2, g3⟩ := zb3h hi9 b1 b2 ha (fun e => absurd e h9)
   rw [g1, wi]
   refine (zb3i z L hb m hm k (i + 1) _ (by omega) g3).cast ?_
   cases rd (i + 1) (L.drop (i + 1)) with
   | none => rfl
   | some p =>
    simp only [y39]
    have : 2 ^ (7 * (i + 1)) = 128 * 2 ^ (7 * i) := by rw [show 7 * (i + 1) = 7 + 7 * i by omega, Nat.pow_add]
    rw [this]
    congr 2
    ·rw [y31, Nat.mul_assoc 128, Nat.mul_left_comm p.1 128]; omega
    ·omega
  refine Ev.succ (Ev.po (Ev.po (Ev.opt hg (Ev.neg (by rw [w7]; omega) ?_)))) (fun q => rfl)
  refine Ev.ite (fun h9 => Ev.ite (fun h1 => ?_) fun h1 => Ev.ite (fun h0 => Ev.pos (by omega) ?_) fun h0 => Ev.pos (by omega) ?_) fun h9 => Ev.ite (fun h0 => Ev.ite (fun hp => ?_) fun hp => Ev.pos (by omega) ?_) fun h0 => Ev.ite (fun h128 => ?_) fun h128 => ?_
  ·rw [if_pos ⟨by omega, h1⟩]; exact Ev.ret _
  ·rw [if_neg (by omega), if_pos ⟨h0, by omega⟩]; exact Ev.ret _
  ·rw [if_neg (by omega), if_neg (by omega), if_pos (by omega)]; exact Ev.ret' (done (by omega) (by omega))
  ·rw [if_neg (by omega), if_pos ⟨h0, by omega⟩]; exact Ev.ret _
  ·rw [if_neg (by omega), if_neg (by omega), if_pos (by omega)]; exact Ev.ret' (done (by omega) (by omega))
  ·rw [if_neg (by omega), if_neg (by omega), if_pos h128]; exact Ev.ret' (done (by omega) h128)
  ·rw [if_neg (by omega), if_neg (by omega), if_neg h128]; exact rest (by omega) h128
theorem zb3j (s : Sl Int) (hb : isB s.l) : Ev (fun q => zll q s) (resN (rd 0 s.l)) := by
 have h := zb3i s.z s.l hb (min 10 s.l.length) rfl (min 10 s.l.length) 0 0 (by omega) (by simp)
 have e : (if 10 < (s.l.length : Int) then 10 else (s.l.length : Int)) = ((min 10 s.l.length : Nat) : Int) := by split <;> omega
 refine Ev.succ (g := fun q => zlk q s.z s.l 0 (if 10 < (s.l.length : Int) then 10 else (s.l.length : Int)) 0) ?_ (fun q => rfl)
 rw [e]
 refine h.cast ?_
 rw [y38]
 cases rd 0 s.l with
 | none => rfl
 | some p => simp [resN]
def getN (l : List Int) : Int × Int := match rd 0 l with
 | none => (0, 0)
 | some p => if 4611686018427387904 ≤ p.1 then (0, 0) else ((p.1 : Int), (p.2 : Int))
theorem zb3k (s : Sl Int) (hb : isB s.l) : Ev (fun q => zlm q s) (getN s.l) := by
 refine Ev.succ (Ev.bind (zb3j s hb) ?_) (fun q => rfl)
 unfold getN
 cases rd 0 s.l with
 | none => exact Ev.neg (by simp [resN]) (Ev.ret' (by rw [zb1z] <;> simp [resN]))
 | some p =>
  simp only [resN]
  refine Ev.ite (fun h => ?_) fun h => ?_
  ·rw [if_pos (by omega)]; exact Ev.ret _
  ·rw [if_neg (by omega), zb1z (by omega) (by omega)]; exact Ev.ret _
theorem rd_len : ∀ {l : List Int} {i : Nat} {p : Nat × Nat}, rd i l = some p → 1 ≤ p.2 ∧ p.2 ≤ l.length ∧ i + p.2 ≤ 10
 | [], i, p, h => by simp [rd] at h
 | c :: l, i, p, h => by
  simp only [rd] at h
  split at h
  ·cases h
  ·split at h
   ·cases h
   ·split at h
    ·cases h
    ·split at h
     ·simp at h; subst h; simp; omega
     ·cases hr : rd (i + 1) l with
      | none => simp [hr] at h
      | some r =>
       simp [hr] at h; subst h
       have := rd_len hr
       simp; omega
theorem zb3l {l : List Int} : 0 ≤ (getN l).2 ∧ (getN l).2 ≤ l.length ∧ (getN l).2 ≤ 10 ∧ 0 ≤ (getN l).1 ∧ (getN l).1 < 4611686018427387904 := by
 unfold getN
 cases h : rd 0 l with
 | none => simp
 | some p =>
  have := rd_len h
  simp only
  split <;> simp <;> omega
/-- Where the first byte below 128 stands. -/
def idxLow : List Int → Nat → Int
 | [], _ => -1
 | a :: l, i => if a < 128 then (i : Int) else idxLow l (i + 1)
def allHi (l : List Int) : Prop := ∀ c ∈ l, 128 ≤ c
instance (l : List Int) : Decidable (allHi l) := by unfold allHi; infer_instance
theorem zb3m : ∀ {l : List Int} {i : Nat}, ¬ 0 ≤ idxLow l i ↔ allHi l
 | [], i => by simp [idxLow, allHi]
 | a :: l, i => by
  have ih := zb3m (l := l) (i := i + 1)
  simp only [idxLow, allHi, List.mem_cons, forall_eq_or_imp] at ih ⊢
  by_cases h : a < 128
  ·rw [if_pos h]; constructor
   ·intro h'; omega
   ·rintro ⟨h1, _⟩; omega
  ·rw [if_neg h, ih]
   constructor
   ·intro h'; exact ⟨by omega, h'⟩
   ·exact fun h' => h'.2
theorem zb3n (z : Bool) (L : List Int) (hL : L.length ≤ 1099511627776) : ∀ (k i : Nat), L.length = i + k → Ev (fun q => zlh q z L (L.length : Int) (i : Int)) (idxLow (L.drop i) i)
 | 0, i, hk => by
  refine Ev.succ (Ev.ne (Ev.ret' ?_)) (fun q => rfl)
  rw [y12 (by omega)]; rfl
 | k + 1, i, hk => by
  have hi : i < L.length := by omega
  have hg : L[(i : Int).toNat]? = some L[i] := by simpa using y7 hi
  have h1 : Ev (fun q => zlg q L[i]) (decide (L[i] < 128)) := Ev.succ (Ev.ret _) (fun q => rfl)
  refine Ev.succ (Ev.po (Ev.po (Ev.opt hg (Ev.bind h1 ?_)))) (fun q => rfl)
  rw [y9 hi]
  simp only [idxLow]
  refine Ev.ite (fun h => ?_) fun h => ?_
  ·rw [if_pos (by simpa using h)]; exact Ev.ret _
  ·rw [if_neg (by simpa using h), zb1z (by omega) (by omega), show ((i : Int) + 1) = ((i + 1 : Nat) : Int) by omega]
   exact zb3n z L hL k (i + 1) (by omega)
def openB (l : List Int) : Bool := decide (l.length < 10 ∧ allHi l)
theorem zb3o (s : Sl Int) : Ev (fun q => zlj q s) (openB s.l) := by
 refine Ev.succ (Ev.ite (fun h => ?_) fun h => Ev.ret' ?_) (fun q => rfl)
 ·have := zb3n s.z s.l (by omega) s.l.length 0 (by omega)
  rw [y38] at this
  refine Ev.bind (Ev.succ this (fun q => rfl)) (Ev.ret' ?_)
  unfold openB
  rw [← decide_not, decide_eq_decide, zb3m]
  exact ⟨fun h1 => ⟨by omega, h1⟩, fun h1 => h1.2⟩
 ·unfold openB
  symm; rw [decide_eq_false_iff_not]; omega
theorem zb3p (z z2 : Bool) (A B : List Int) (hl : A.length = B.length) (hL : A.length ≤ 1099511627776) : ∀ (k i : Nat), A.length = i + k → Ev (fun q => zln q z A z2 B (A.length : Int) (i : Int)) (decide (A.drop i = B.drop i))
 | 0, i, hk => by
  refine Ev.succ (Ev.ne (Ev.ret' ?_)) (fun q => rfl)
  rw [y12 (by omega), y12 (by omega)]; simp
 | k + 1, i, hk => by
  have hi : i < A.length := by omega
  have hi2 : i < B.length := by omega
  have hg : A[(i : Int).toNat]? = some A[i] := by simpa using y7 hi
  have hg2 : B[(i : Int).toNat]? = some B[i] := by simpa using y7 hi2
  refine Ev.succ (Ev.po (Ev.po (Ev.opt hg (Ev.opt hg2 ?_)))) (fun q => rfl)
  rw [y9 hi, y9 hi2]
  refine Ev.ite (fun h => ?_) fun h => Ev.ret' (by symm; rw [decide_eq_false_iff_not]; intro e; exact h (List.cons.inj e).1)
  rw [zb1z (by omega) (by omega), show ((i : Int) + 1) = ((i + 1 : Nat) : Int) by omega]
  refine (zb3p z z2 A B hl hL k (i + 1) (by omega)).cast ?_
  rw [decide_eq_decide, List.cons.injEq]; simp only [h, true_and]
theorem zb3q (a b : Sl Int) (hL : a.l.length ≤ 1099511627776) : Ev (fun q => zlo q a b) (decide (a.l = b.l)) := by
 refine Ev.succ (Ev.ite (fun h => ?_) fun h => Ev.ret' ?_) (fun q => rfl)
 ·have := zb3p a.z b.z a.l b.l (by omega) hL a.l.length 0 (by omega)
  rw [y38, y38] at this; exact this
 ·symm; rw [decide_eq_false_iff_not]; intro e; rw [e] at h; exact h rfl
/-- The data of the frame that bytes begin with, how many bytes it has, and the error. -/
def decF (l : List Int) : List Int × Int × Int :=
 if openB l = true then ([], 0, 2) else if (getN l).2 = 0 then ([], 0, 3) else if 1048576 < (getN l).1 then ([], 0, 5) else if (l.length : Int) < (getN l).2 + 4 + (getN l).1 then ([], 0, 2)
 else if (l.drop ((getN l).2 + (getN l).1).toNat).take 4 = fix4 (bsum (l.take ((getN l).2 + (getN l).1).toNat)).toNat then ((l.take ((getN l).2 + (getN l).1).toNat).drop (getN l).2.toNat, (getN l).2 + (getN l).1 + 4, 0) else ([], 0, 4)
theorem zb3r {l : List Int} (h : isB l) (n : Nat) : isB (l.take n) := fun c hc => h c (y44 hc)
theorem zb3s {l : List Int} (h : isB l) (n : Nat) : isB (l.drop n) := fun c hc => h c (y53 hc)
theorem zb3t (s : Sl Int) (hz : s.z = true → s.l = []) (hb : isB s.l) (hl : s.l.length ≤ 4294967296) : ∃ z, Ev (fun q => zlq q s) (⟨z, true, (decF s.l).1⟩, (decF s.l).2.1, (decF s.l).2.2) := by
 unfold decF
 by_cases h1 : openB s.l = true
 ·rw [if_pos h1]
  exact ⟨true, Ev.succ (Ev.bind (zb3o s) (Ev.pos h1 (Ev.ret _))) (fun q => rfl)⟩
 rw [if_neg h1]
 by_cases h2 : (getN s.l).2 = 0
 ·rw [if_pos h2]
  exact ⟨true, Ev.succ (Ev.bind (zb3o s) (Ev.neg h1 (Ev.bind (zb3k s hb) (Ev.pos h2 (Ev.ret _))))) (fun q => rfl)⟩
 rw [if_neg h2]
 by_cases h3 : 1048576 < (getN s.l).1
 ·rw [if_pos h3]
  exact ⟨true, Ev.succ (Ev.bind (zb3o s) (Ev.neg h1 (Ev.bind (zb3k s hb) (Ev.neg h2 (Ev.pos h3 (Ev.ret _)))))) (fun q => rfl)⟩
 rw [if_neg h3]
 obtain ⟨g1, g2, g3, g4, g5⟩ := zb3l (l := s.l)
 generalize hk : (getN s.l).2 = k at *
 generalize hn : (getN s.l).1 = n at *
 have hg : getN s.l = (n, k) := by rw [← hk, ← hn]
 have hget := zb3k s hb
 rw [hg] at hget
 have w1 : wrp .i64 (k + 4) = k + 4 := zb1z (by omega) (by omega)
 have w2 : wrp .i64 (k + 4 + n) = k + 4 + n := zb1z (by omega) (by omega)
 have w3 : wrp .i64 (k + n) = k + n := zb1z (by omega) (by omega)
 have w4 : wrp .i64 (k + n + 4) = k + n + 4 := zb1z (by omega) (by omega)
 by_cases h4 : (s.l.length : Int) < k + 4 + n
 ·rw [if_pos h4]
  exact ⟨true, Ev.succ (Ev.bind (zb3o s) (Ev.neg h1 (Ev.bind hget (Ev.neg h2 (Ev.neg h3 (Ev.pos (by simp only; rw [w1, w2]; exact h4) (Ev.ret _))))))) (fun q => rfl)⟩
 rw [if_neg h4]
 have hzf : s.z = false := by
  cases hz' : s.z
  ·rfl
  ·have := hz hz'; rw [this] at h4; simp at h4; omega
 have hsum := zb27 ⟨s.z, List.take k.toNat s.l⟩ ⟨s.z, List.drop k.toNat (List.take (k + n).toNat s.l)⟩ (zb3r hb _) (zb3s (zb3r hb _) _) (by simp; omega) (by simp; omega)
 have heq := zb3q ⟨s.z, List.drop (k + n).toNat (List.take (k + n + 4).toNat s.l)⟩ ⟨false, fix4 (bsum (List.take k.toNat s.l ++ List.drop k.toNat (List.take (k + n).toNat s.l))).toNat⟩ (by simp; omega)
 have hcl : Ev (fun q => zlp q ⟨s.z, List.drop k.toNat (List.take (k + n).toNat s.l)⟩) ⟨false, true, List.drop k.toNat (List.take (k + n).toNat s.l)⟩ :=
  Ev.succ (Ev.neg (by simp [hzf]) (Ev.pos (by simp; omega) (Ev.ret _))) (fun q => rfl)
 have ht : List.take k.toNat s.l ++ List.drop k.toNat (List.take (k + n).toNat s.l) = List.take (k + n).toNat s.l := by
  have := List.take_append_drop k.toNat (List.take (k + n).toNat s.l)
  rw [List.take_take, Nat.min_eq_left (by omega)] at this; exact this
 rw [ht] at heq hsum
 have hd : List.drop (k + n).toNat (List.take (k + n + 4).toNat s.l) = List.take 4 (List.drop (k + n).toNat s.l) := by
  rw [List.drop_take]; congr 1; omega
 rw [hd] at heq
 have pre : ∀ {r : Ow Int × Int × Int}, Ev (fun q => (zlo q ⟨s.z, List.take 4 (List.drop (k + n).toNat s.l)⟩ ⟨false, fix4 (bsum (List.take (k + n).toNat s.l)).toNat⟩).bind fun r4 => (if r4 = true then ((zlp q ⟨s.z, (List.drop k.toNat (List.take (k + n).toNat s.l))⟩).bind fun r5 => (some (r5, k + n + 4, 0))) else (some (⟨true, true, []⟩, 0, 4)))) r → Ev (fun q => zlq q s) r := by
  intro r h
  refine Ev.succ (Ev.bind (zb3o s) (Ev.neg h1 (Ev.bind hget (Ev.neg h2 (Ev.neg h3 ?_))))) (fun q => rfl)
  simp only [w1, w2, w3, w4]
  refine Ev.neg h4 (Ev.po (Ev.po (Ev.po (Ev.po (Ev.po (Ev.po (Ev.po (Ev.po (Ev.po (Ev.bind hsum ?_))))))))))
  rw [hd]
  exact h
 by_cases h5 : List.take 4 (List.drop (k + n).toNat s.l) = fix4 (bsum (List.take (k + n).toNat s.l)).toNat
 ·rw [if_pos h5]
  exact ⟨false, pre (Ev.bind heq (Ev.pos (by simpa using h5) (Ev.bind hcl (Ev.ret _))))⟩
 ·rw [if_neg h5]
  exact ⟨true, pre (Ev.bind heq (Ev.neg (by simpa using h5) (Ev.ret _)))⟩
theorem isB_of {s : Sl Int} (h : okSl (fun x => inR .u8 x) s) : isB s.l := fun c hc => by
 have := h.2.2 c hc
 simp [inR, IntKind.min, IntKind.max, IntKind.signed, IntKind.bits] at this; omega
theorem rd_inv : ∀ {l : List Int} {i v k : Nat}, isB l → rd i l = some (v, k) → l.take k = grp v ∧ (0 < i → v ≠ 0)
 | [], i, v, k, hb, h => by simp [rd] at h
 | c :: l, i, v, k, hb, h => by
  obtain ⟨b1, b2⟩ := hb c y32
  simp only [rd] at h
  split at h
  ·cases h
  ·split at h
   ·cases h
   ·split at h
    ·cases h
    ·rename_i h1 h2 h3
     split at h
     ·simp at h; obtain ⟨rfl, rfl⟩ := h
      refine ⟨?_, fun hi e => h3 ⟨by omega, hi⟩⟩
      rw [grp_lt (by omega)]; simp; omega
     ·cases hr : rd (i + 1) l with
      | none => simp [hr] at h
      | some r =>
       obtain ⟨v', k'⟩ := r
       simp [hr] at h
       obtain ⟨rfl, rfl⟩ := h
       obtain ⟨e1, e2⟩ := rd_inv (fun c hc => hb c (y36 _ hc)) hr
       have hv := e2 (by omega)
       refine ⟨?_, fun _ => by omega⟩
       rw [grp_ge (by omega), List.take_succ_cons, e1]
       congr 1
       ·omega
       ·congr 1; omega
theorem zb3u {l x : List Int} {n : Int} (hb : isB l) (h : decF l = (x, n, 0)) : x.length ≤ 1048576 ∧ 0 ≤ n ∧ n.toNat ≤ l.length ∧ 5 ≤ n ∧ encF x = l.take n.toNat := by
 unfold decF at h
 split at h
 ·simp at h
 split at h
 ·simp at h
 split at h
 ·simp at h
 split at h
 ·simp at h
 split at h
 ·rename_i h1 h2 h3 h4 h5
  obtain ⟨g1, g2, g3, g4, g5⟩ := zb3l (l := l)
  have hrd : rd 0 l = some ((getN l).1.toNat, (getN l).2.toNat) := by
   unfold getN at h2 ⊢
   cases hr : rd 0 l with
   | none => rw [hr] at h2; simp at h2
   | some p =>
    rw [hr] at h2; simp only at h2 ⊢
    split at h2
    ·simp at h2
    ·rename_i hlt; rw [if_neg hlt]; simp
  obtain ⟨e1, _⟩ := rd_inv hb hrd
  generalize (getN l).2 = k at *
  generalize (getN l).1 = m at *
  simp only [y8, and_true] at h
  obtain ⟨hx, hn⟩ := h
  have hlx : x.length = m.toNat := by rw [← hx]; simp; omega
  refine ⟨by omega, by omega, by omega, by omega, ?_⟩
  have hput : put (x.length : Int) = l.take k.toNat := by
   rw [put_ok (by omega) (by omega), e1]; congr 1
  have hcat : l.take k.toNat ++ x = l.take (k + m).toNat := by
   rw [← hx]
   have := List.take_append_drop k.toNat (List.take (k + m).toNat l)
   rw [List.take_take, Nat.min_eq_left (by omega)] at this; exact this
  unfold encF
  rw [hput, hcat, ← h5, ← y33, hcat, ← hn, show (k + m + 4).toNat = (k + m).toNat + 4 by omega, List.take_add]
 ·simp at h
theorem zb3v {l : List Int} (hb : isB l) : isB (decF l).1 := by
 have nil : isB [] := fun c hc => by simp at hc
 unfold decF
 split; exact nil
 split; exact nil
 split; exact nil
 split; exact nil
 split
 ·exact zb3s (zb3r hb _) _
 ·exact nil
theorem tdiv_u (a : B32) (k : Nat) : Int.tdiv (u a) ((2 ^ k : Nat) : Int) = u (a >>> k) := by
 rw [Int.tdiv_eq_ediv_of_nonneg (u_nn a)]
 unfold u
 rw [BitVec.toNat_ushiftRight, Nat.shiftRight_eq_div_pow]
 exact (Int.natCast_ediv _ _).symm
theorem wrp_uu (a : B32) : wrp .u32 (u a) = u a := zb11 (u_nn a) (by have := u_lt a; omega)
theorem zb3w : ∀ (k : Nat) (a : B32) (i : Int), i = 8 - k → k ≤ 8 → Ev (fun q => zme q (u a) i) (u (biter k a))
 | 0, a, i, h1, h2 => Ev.succ (Ev.ne (Ev.ret _)) (fun q => rfl)
 | k + 1, a, i, h1, h2 => by
  have e1 : Int.tdiv (u a) 2 = u (a >>> 1) := tdiv_u a 1
  have e2 : Int.tmod (u a) 2 = u a % 2 := y60 (u_nn a)
  have hp : (2197175160 : Int) = u poly := by unfold poly; rw [u_lit _ (by omega)]; rfl
  have wi : wrp .i64 (i + 1) = i + 1 := zb1z (by omega) (by omega)
  have ih := zb3w k (bstep a) (i + 1) (by omega) (by omega)
  refine Ev.succ (Ev.pos (by omega) ?_) (fun q => rfl)
  simp only [biter]
  rw [e1, wrp_uu, hp, xor_u, wi, e2]
  unfold bstep at ih ⊢
  refine Ev.ite (fun h => ?_) fun h => ?_
  ·rw [if_pos ((zb2p a).2 h)] at ih ⊢; exact ih
  ·rw [if_neg (fun e => h ((zb2p a).1 e))] at ih ⊢; exact ih
theorem zb3x (a : B32) : Ev (fun q => zmf q (u a)) (u (bentry a)) := by
 have := zb3w 8 a 0 (by omega) (by omega)
 refine Ev.succ (g := fun q => zme q (wrp .u32 (u a)) 0) ?_ (fun q => rfl)
 rw [wrp_uu]; exact this
theorem zb3y (z : Bool) (l : List Int) (hb : isB l) (hl : l.length ≤ 1099511627776) : ∀ (k i : Nat) (x : B32), l.length = i + k → Ev (fun q => zmg q z l (u x) (i : Int)) (u (~~~ bmore x (l.drop i)))
 | 0, i, x, hk => by
  refine Ev.succ (Ev.ne (Ev.ret' ?_)) (fun q => rfl)
  rw [y12 (by omega), ones, xor_u]
  simp only [bmore, List.foldl_nil, BitVec.allOnes_xor]
 | k + 1, i, x, hk => by
  have hi : i < l.length := by omega
  have hg : l[(i : Int).toNat]? = some l[i] := by simpa using y7 hi
  obtain ⟨b1, b2⟩ := hb l[i] (y26 hi)
  have e8 : Int.tdiv (u x) 256 = u (x >>> 8) := tdiv_u x 8
  have wi : wrp .i64 ((i : Int) + 1) = ((i + 1 : Nat) : Int) := by rw [zb1z (by omega) (by omega)]; omega
  refine Ev.succ (Ev.po (Ev.po (Ev.opt hg (Ev.bind (by rw [xor8 b1 b2]; exact zb3x _) ?_)))) (fun q => rfl)
  rw [e8, wrp_uu, xor_u, wi]
  have := zb3y z l hb hl k (i + 1) (bentry ((x ^^^ BitVec.ofInt 32 l[i]) &&& 255#32) ^^^ (x >>> 8)) (by omega)
  rw [y9 hi]
  simp only [bmore, List.foldl_cons, bbyte] at this ⊢
  exact this
theorem zb3z (x : B32) (s : Sl Int) (hb : isB s.l) (hl : s.l.length ≤ 1099511627776) : Ev (fun q => zmh q (u x) s) (u (~~~ bmore (~~~ x) s.l)) := by
 have := zb3y s.z s.l hb hl s.l.length 0 (~~~ x) (by omega)
 rw [y38] at this
 refine Ev.succ (g := fun q => zmg q s.z s.l (ibits .xor .u32 4294967295 (u x)) 0) ?_ (fun q => rfl)
 rw [ones, xor_u, BitVec.allOnes_xor]
 exact this
theorem zb30 (s : Sl Int) (hb : isB s.l) (hl : s.l.length ≤ 1099511627776) : Ev (fun q => zmi q s) (u (bsum s.l)) := by
 have := zb3z 0#32 s hb hl
 exact Ev.succ (Ev.bind this (Ev.ret' (by simp [bsum]))) (fun q => rfl)
theorem zb31 (z : Bool) (L : List Int) (hL : L.length ≤ 1099511627776) : ∀ (k i : Nat), L.length = i + k → Ev (fun q => zl9 q z L (i : Int)) (decide (L.length < 10 ∧ allHi (L.drop i)))
 | 0, i, hk => by
  refine Ev.succ (Ev.ne (Ev.ret' ?_)) (fun q => rfl)
  rw [y12 (by omega), decide_eq_decide]
  simp [allHi]; omega
 | k + 1, i, hk => by
  have hi : i < L.length := by omega
  have hg : L[(i : Int).toNat]? = some L[i] := by simpa using y7 hi
  refine Ev.succ (Ev.po (Ev.po (Ev.opt hg ?_))) (fun q => rfl)
  rw [y9 hi]
  refine Ev.ite (fun h => Ev.ret' ?_) fun h => ?_
  ·symm; rw [decide_eq_false_iff_not]
   rintro ⟨_, h1⟩
   have := h1 _ y32; omega
  ·rw [zb1z (by omega) (by omega), show ((i : Int) + 1) = ((i + 1 : Nat) : Int) by omega]
   refine (zb31 z L hL k (i + 1) (by omega)).cast ?_
   rw [decide_eq_decide]
   constructor
   ·rintro ⟨h1, h2⟩
    refine ⟨h1, fun c hc => ?_⟩
    rcases List.mem_cons.1 hc with rfl | hc
    ·omega
    ·exact h2 c hc
   ·rintro ⟨h1, h2⟩; exact ⟨h1, fun c hc => h2 c (y36 _ hc)⟩
theorem zb32 (s : Sl Int) (hL : s.l.length ≤ 1099511627776) : Ev (fun q => zma q s) (openB s.l) := by
 have := zb31 s.z s.l hL s.l.length 0 (by omega)
 rw [y38] at this
 exact Ev.succ this (fun q => rfl)
theorem zb33 (z : Bool) (L : List Int) (hb : isB L) (hL : L.length ≤ 1099511627776) : ∀ (k i acc : Nat), 10 = i + k → i ≤ L.length → acc < 2 ^ (7 * i) → ∀ one : Int, (i ≤ 9 → one = ((2 ^ (7 * i) : Nat) : Int)) →
  Ev (fun q => zmb q z L (acc : Int) one (i : Int)) (match rd i (L.drop i) with | none => (0, 0) | some p => (((acc + p.1 * 2 ^ (7 * i) : Nat) : Int), ((i + p.2 : Nat) : Int)))
 | 0, i, acc, hk, hi, ha, one, ho => by
  have hi10 : i = 10 := by omega
  have : rd i (L.drop i) = none := by
   cases h : L.drop i with
   | nil => rfl
   | cons c l => simp only [rd]; rw [if_pos (by omega)]
  rw [this]
  exact Ev.succ (Ev.ite (fun h => Ev.ne (Ev.ret _)) fun h => Ev.ret _) (fun q => rfl)
 | k + 1, i, acc, hk, hi, ha, one, ho => by
  have hi9 : i ≤ 9 := by omega
  have ho' := ho hi9
  by_cases hlt : i < L.length
  ·have hg : L[(i : Int).toNat]? = some L[i] := by simpa using y7 hlt
   obtain ⟨b1, b2⟩ := hb L[i] (y26 hlt)
   have wi : wrp .i64 ((i : Int) + 1) = ((i + 1 : Nat) : Int) := by rw [zb1z (by omega) (by omega)]; omega
   rw [y9 hlt]
   simp only [rd]
   rw [if_neg (by omega)]
   generalize hc : L[i] = c at hg b1 b2
   have em : Int.tmod c 128 = c % 128 := y60 b1
   have wm : wrp .u64 (Int.tmod c 128) = c % 128 := by rw [em]; exact zb10 (by omega) (by omega)
   have hm : (c % 128).toNat < 128 := by omega
   -- the value
   have val : (i = 9 → c % 128 ≤ 1) → wrp .u64 ((acc : Int) + wrp .u64 (c % 128 * one)) = ((acc + (c % 128).toNat * 2 ^ (7 * i) : Nat) : Int) ∧ acc + (c % 128).toNat * 2 ^ (7 * i) < 2 ^ (7 * (i + 1)) := by
    intro h9
    have hp1 : 2 ^ (7 * (i + 1)) = 128 * 2 ^ (7 * i) := by rw [show 7 * (i + 1) = 7 + 7 * i by omega, Nat.pow_add]
    have h4 : acc + (c % 128).toNat * 2 ^ (7 * i) < 2 ^ (7 * (i + 1)) := by
     rw [hp1]
     have : ((c % 128).toNat + 1) * 2 ^ (7 * i) ≤ 128 * 2 ^ (7 * i) := y17 _ (by omega)
     rw [y31] at this; omega
    have h5 : acc + (c % 128).toNat * 2 ^ (7 * i) < 18446744073709551616 := by
     by_cases e : i = 9
     ·have hc := h9 e
      have : (c % 128).toNat ≤ 1 := by omega
      subst e
      have h6 : (c % 128).toNat * 2 ^ (7 * 9) ≤ 1 * 2 ^ (7 * 9) := y17 _ this
      simp only [Nat.reduceMul, Nat.reducePow] at ha h6 ⊢
      omega
     ·have : 2 ^ (7 * (i + 1)) ≤ 2 ^ 63 := Nat.pow_le_pow_right (by omega) (by omega)
      simp only [Nat.reducePow] at this
      omega
    refine ⟨?_, h4⟩
    have hmul : c % 128 * one = (((c % 128).toNat * 2 ^ (7 * i) : Nat) : Int) := by
     rw [ho', Int.natCast_mul]; congr 1; omega
    rw [hmul]
    generalize (c % 128).toNat * 2 ^ (7 * i) = X at h5
    rw [zb10 (x := (X : Int)) (by omega) (by omega), zb10 (by omega) (by omega)]; omega
   refine Ev.succ (Ev.po (Ev.po (Ev.po (Ev.opt hg ?_)))) (fun q => rfl)
   rw [wm]
   have rest : (i = 9 → c % 128 ≤ 1) → ¬ c < 128 → Ev (fun q => zmb q z L (wrp .u64 ((acc : Int) + wrp .u64 (c % 128 * one))) (wrp .u64 (one * 128)) (wrp .i64 ((i : Int) + 1))) (match (rd (i + 1) (L.drop (i + 1))).map (fun p => ((c % 128).toNat + 128 * p.1, p.2 + 1)) with | none => (0, 0) | some p => (((acc + p.1 * 2 ^ (7 * i) : Nat) : Int), ((i + p.2 : Nat) : Int))) := by
    intro h9 h128
    obtain ⟨v1, v2⟩ := val h9
    rw [v1, wi]
    refine (zb33 z L hb hL k (i + 1) _ (by omega) (by omega) v2 (wrp .u64 (one * 128)) (fun h10 => ?_)).cast ?_
    ·have hp1 : 2 ^ (7 * (i + 1)) = 2 ^ (7 * i) * 128 := by rw [show 7 * (i + 1) = 7 * i + 7 by omega, Nat.pow_add]
     have hlt : 2 ^ (7 * (i + 1)) ≤ 2 ^ 63 := Nat.pow_le_pow_right (by omega) (by omega)
     have e : one * 128 = ((2 ^ (7 * (i + 1)) : Nat) : Int) := by rw [ho', hp1, Int.natCast_mul]; rfl
     rw [e]
     generalize 2 ^ (7 * (i + 1)) = X at hlt
     simp only [Nat.reducePow] at hlt
     exact zb10 (by omega) (by omega)
    ·cases rd (i + 1) (L.drop (i + 1)) with
     | none => rfl
     | some p =>
      simp only [y39]
      have : 2 ^ (7 * (i + 1)) = 128 * 2 ^ (7 * i) := by rw [show 7 * (i + 1) = 7 + 7 * i by omega, Nat.pow_add]
      rw [this]
      congr 2
      ·rw [y31, Nat.mul_assoc 128, Nat.mul_left_comm p.1 128]; omega
      ·omega
   have done : (i = 9 → c ≤ 1) → c < 128 → ((wrp .u64 ((acc : Int) + wrp .u64 (c % 128 * one)), wrp .i64 ((i : Int) + 1)) : Int × Int) = (((acc + c.toNat * 2 ^ (7 * i) : Nat) : Int), ((i + 1 : Nat) : Int)) := by
    intro h9 h128
    rw [(val (by omega)).1, wi, show (c % 128).toNat = c.toNat by omega]
   refine Ev.ite (fun h9 => Ev.ite (fun h1 => ?_) fun h1 => Ev.ite (fun h128 => Ev.po (Ev.ite (fun h0 => ?_) fun h0 => ?_)) fun h128 => ?_) fun h9 => Ev.ite (fun h128 => Ev.ite (fun hp => Ev.ite (fun h0 => ?_) fun h0 => ?_) fun hp => ?_) fun h128 => ?_
   ·rw [if_pos ⟨by omega, by omega⟩]; exact Ev.ret _
   ·rw [if_neg (by omega), if_pos ⟨by omega, by omega⟩]; exact Ev.ret _
   ·rw [if_neg (by omega), if_neg (by omega), if_pos h128]; exact Ev.ret' (done (by omega) h128)
   ·-- the tenth, and it goes on
    rw [if_pos ⟨by omega, by omega⟩]
    obtain ⟨v1, v2⟩ := val (by omega)
    rw [v1, wi]
    have hk0 : k = 0 := by omega
    subst hk0
    refine (zb33 z L hb hL 0 (i + 1) _ (by omega) (by omega) v2 (wrp .u64 (one * 128)) (fun h10 => by omega)).cast ?_
    have : rd (i + 1) (L.drop (i + 1)) = none := by
     cases h : L.drop (i + 1) with
     | nil => rfl
     | cons c l => simp only [rd]; rw [if_pos (by omega)]
    rw [this]
   ·rw [if_neg (by omega), if_pos ⟨by omega, by omega⟩]; exact Ev.ret _
   ·rw [if_neg (by omega), if_neg (by omega), if_pos h128]; exact Ev.ret' (done (by omega) h128)
   ·rw [if_neg (by omega), if_neg (by omega), if_pos h128]; exact Ev.ret' (done (by omega) h128)
   ·rw [if_neg (by omega), if_neg (by omega), if_neg h128]; exact rest (by omega) h128
  ·rw [y12 (by omega)]
   exact Ev.succ (Ev.ne (Ev.ret _)) (fun q => rfl)
theorem zb34 (s : Sl Int) (hb : isB s.l) (hL : s.l.length ≤ 1099511627776) : Ev (fun q => zmc q s) (resN (rd 0 s.l)) := by
 have h := zb33 s.z s.l hb hL 10 0 0 (by omega) (by omega) (by simp) 1 (by simp)
 refine Ev.succ (g := fun q => zmb q s.z s.l 0 1 0) ?_ (fun q => rfl)
 refine h.cast ?_
 rw [y38]
 cases rd 0 s.l with
 | none => rfl
 | some p => simp [resN]
theorem zb35 (s : Sl Int) (hb : isB s.l) (hL : s.l.length ≤ 1099511627776) : Ev (fun q => zmd q s) (getN s.l) := by
 refine Ev.succ (Ev.bind (zb34 s hb hL) ?_) (fun q => rfl)
 unfold getN
 cases h : rd 0 s.l with
 | none => exact Ev.pos (by simp [resN]) (Ev.ret' rfl)
 | some p =>
  have := rd_len h
  simp only [resN]
  refine Ev.ne (Ev.ite (fun h => ?_) fun h => ?_)
  ·rw [if_pos (by omega)]; exact Ev.ret _
  ·rw [if_neg (by omega), zb1z (by omega) (by omega)]; exact Ev.ret _
/-- The number of bytes, the lowest first. -/
def numB : List Int → Nat
 | [] => 0
 | c :: l => c.toNat + 256 * numB l
theorem zb36 : ∀ {l : List Int}, isB l → numB l < 256 ^ l.length
 | [], _ => by simp [numB]
 | c :: l, h => by
  have h1 := h c y32
  have h2 := zb36 (l := l) fun c hc => h c (y36 _ hc)
  simp only [numB, y21, Nat.pow_succ]
  generalize 256 ^ l.length = X at h2
  omega
theorem zb37 (z : Bool) (L : List Int) (hb : isB L) (hL : L.length ≤ 8) : ∀ (k : Nat), k ≤ 8 → Ev (fun q => zmj q z L ((numB (L.drop k) : Nat) : Int) ((k : Int) - 1)) ((numB L : Nat) : Int)
 | 0, hk => Ev.succ (Ev.ne (Ev.ret' (by simp))) (fun q => rfl)
 | k + 1, hk => by
  have e : ((k + 1 : Nat) : Int) - 1 = (k : Int) := by omega
  rw [e]
  have wi : wrp .i64 ((k : Int) - 1) = (k : Int) - 1 := zb1z (by omega) (by omega)
  have ih := zb37 z L hb hL k (by omega)
  by_cases hi : k < L.length
  ·have hg : L[(k : Int).toNat]? = some L[k] := by simpa using y7 hi
   obtain ⟨b1, b2⟩ := hb L[k] (y26 hi)
   have hlt := zb36 (l := L.drop (k + 1)) (zb3s hb _)
   have hle : 256 ^ (L.drop (k + 1)).length ≤ 256 ^ 7 := Nat.pow_le_pow_right (by omega) (by rw [y13]; omega)
   have hlt2 : numB (L.drop (k + 1)) < 256 ^ 7 := y61 hlt hle
   rw [y9 hi] at ih
   simp only [numB] at ih
   generalize numB (L.drop (k + 1)) = X at hlt2 ih ⊢
   generalize L[k] = c at hg b1 b2 ih
   simp only [Nat.reducePow] at hlt2
   refine Ev.succ (Ev.po (Ev.po (Ev.opt hg ?_))) (fun q => rfl)
   rw [zb10 (x := (X : Int) * 256) (by omega) (by omega), zb10 (x := c) (by omega) (by omega), zb10 (by omega) (by omega), wi]
   rw [show ((c.toNat + 256 * X : Nat) : Int) = (X : Int) * 256 + c by omega] at ih
   exact ih
  ·rw [y12 (by omega)] at ih ⊢
   refine Ev.succ (Ev.po (Ev.neg (by omega) ?_)) (fun q => rfl)
   rw [wi]; exact ih
theorem zb38 (s : Sl Int) (hb : isB s.l) (hL : s.l.length ≤ 8) : Ev (fun q => zmk q s) ((numB s.l : Nat) : Int) := by
 have := zb37 s.z s.l hb hL 8 (by omega)
 rw [y12 hL] at this
 exact Ev.succ (g := fun q => zmj q s.z s.l 0 7) this (fun q => rfl)
theorem zb39 {l : List Int} {v : Nat} (hb : isB l) (hl : l.length = 4) (hv : v < 4294967296) : numB l = v ↔ l = fix4 v := by
 match l, hl with
 | [a, b, c, d], _ =>
  have h1 := hb a (by simp); have h2 := hb b (by simp); have h3 := hb c (by simp); have h4 := hb d (by simp)
  simp only [numB, fix4, List.cons.injEq, and_true]
  constructor
  ·intro h; refine ⟨?_, ?_, ?_, ?_⟩ <;> omega
  ·rintro ⟨e1, e2, e3, e4⟩; omega
theorem zb4a (s : Sl Int) (hb : isB s.l) (hl : s.l.length ≤ 4294967296) : ∃ z, Ev (fun q => zml q s) (⟨z, true, (decF s.l).1⟩, (decF s.l).2.1, (decF s.l).2.2) := by
 unfold decF
 have hop := zb32 s (by omega)
 have hget := zb35 s hb (by omega)
 by_cases h1 : openB s.l = true
 ·rw [if_pos h1]
  exact ⟨true, Ev.succ (Ev.bind hop (Ev.pos h1 (Ev.ret _))) (fun q => rfl)⟩
 rw [if_neg h1]
 by_cases h2 : (getN s.l).2 = 0
 ·rw [if_pos h2]
  exact ⟨true, Ev.succ (Ev.bind hop (Ev.neg h1 (Ev.bind hget (Ev.pos h2 (Ev.ret _))))) (fun q => rfl)⟩
 rw [if_neg h2]
 by_cases h3 : 1048576 < (getN s.l).1
 ·rw [if_pos h3]
  exact ⟨true, Ev.succ (Ev.bind hop (Ev.neg h1 (Ev.bind hget (Ev.neg h2 (Ev.pos h3 (Ev.ret _)))))) (fun q => rfl)⟩
 rw [if_neg h3]
 obtain ⟨g1, g2, g3, g4, g5⟩ := zb3l (l := s.l)
 generalize hk : (getN s.l).2 = k at *
 generalize hn : (getN s.l).1 = n at *
 have hg : getN s.l = (n, k) := by rw [← hk, ← hn]
 rw [hg] at hget
 have w1 : wrp .i64 (k + 4) = k + 4 := zb1z (by omega) (by omega)
 have w2 : wrp .i64 (k + 4 + n) = k + 4 + n := zb1z (by omega) (by omega)
 have w3 : wrp .i64 (k + n) = k + n := zb1z (by omega) (by omega)
 have w4 : wrp .i64 (k + n + 4) = k + n + 4 := zb1z (by omega) (by omega)
 by_cases h4 : (s.l.length : Int) < k + 4 + n
 ·rw [if_pos h4]
  exact ⟨true, Ev.succ (Ev.bind hop (Ev.neg h1 (Ev.bind hget (Ev.neg h2 (Ev.neg h3 (Ev.pos (by simp only; rw [w1, w2]; exact h4) (Ev.ret _))))))) (fun q => rfl)⟩
 rw [if_neg h4]
 have hsum := zb30 ⟨s.z, List.take (k + n).toNat s.l⟩ (zb3r hb _) (by simp; omega)
 have hd : List.drop (k + n).toNat (List.take (k + n + 4).toNat s.l) = List.take 4 (List.drop (k + n).toNat s.l) := by
  rw [List.drop_take]; congr 1; omega
 have h4l : (List.take 4 (List.drop (k + n).toNat s.l)).length = 4 := by simp; omega
 have hfix := zb38 ⟨s.z, List.take 4 (List.drop (k + n).toNat s.l)⟩ (zb3r (zb3s hb _) _) (by simp only; omega)
 have hw : wrp .u64 (u (bsum (List.take (k + n).toNat s.l))) = (((bsum (List.take (k + n).toNat s.l)).toNat : Nat) : Int) := by
  rw [zb10 (u_nn _) (by have := u_lt (bsum (List.take (k + n).toNat s.l)); omega)]; rfl
 have heq := zb39 (zb3r (zb3s hb (k + n).toNat) 4) h4l (v := (bsum (List.take (k + n).toNat s.l)).toNat) (by have := (bsum (List.take (k + n).toNat s.l)).isLt; omega)
 have pre : ∀ {r : Ow Int × Int × Int}, Ev (fun q => (if ((numB (List.take 4 (List.drop (k + n).toNat s.l)) : Nat) : Int) = (((bsum (List.take (k + n).toNat s.l)).toNat : Nat) : Int) then (if ((min ((k + n).toNat) s.l.length) - k.toNat) ≤ 4294967296 then (some ((⟨(decide (((min ((k + n).toNat) s.l.length) - k.toNat) = 0)), true, (List.drop k.toNat (List.take ((k + n).toNat) s.l))⟩, k + 4 + n, 0) : Ow Int × Int × Int)) else none) else (some (⟨true, true, []⟩, 0, 4)))) r → Ev (fun q => zml q s) r := by
  intro r h
  refine Ev.succ (Ev.bind hop (Ev.neg h1 (Ev.bind hget (Ev.neg h2 (Ev.neg h3 ?_))))) (fun q => rfl)
  simp only [w1, w2, w3, w4]
  refine Ev.neg h4 (Ev.po (Ev.po (Ev.po (Ev.po (Ev.bind hsum (Ev.po (Ev.po (Ev.bind (by rw [hd]; exact hfix) ?_))))))))
  rw [hw]
  exact h
 by_cases h5 : List.take 4 (List.drop (k + n).toNat s.l) = fix4 (bsum (List.take (k + n).toNat s.l)).toNat
 ·rw [if_pos h5]
  refine ⟨decide (((min ((k + n).toNat) s.l.length) - k.toNat) = 0), pre (Ev.pos ?_ (Ev.po (Ev.ret' ?_)))⟩
  ·have := heq.2 h5; rw [this]
  ·rw [show k + 4 + n = k + n + 4 by omega]
 ·rw [if_neg h5]
  refine ⟨true, pre (Ev.neg ?_ (Ev.ret _))⟩
  intro e; exact h5 (heq.1 (by omega))
/-- The frames that bytes begin with, how many bytes these have, and what ends them. -/
def walkF : Nat → List Int → List (List Int) × Nat × Int
 | 0, _ => ([], 0, 0)
 | f + 1, l => if l = [] then ([], 0, 0) else if (decF l).2.2 = 0 then let w := walkF f (l.drop (decF l).2.1.toNat); ((decF l).1 :: w.1, (decF l).2.1.toNat + w.2.1, w.2.2) else ([], 0, (decF l).2.2)
theorem zb4b {l : List Int} (hb : isB l) (h : (decF l).2.2 = 0) : 5 ≤ (decF l).2.1 ∧ (decF l).2.1.toNat ≤ l.length := by
 generalize hr : decF l = r at h
 obtain ⟨x, n, e⟩ := r
 simp only at h; subst h
 obtain ⟨k1, k2, k3, k4, k5⟩ := zb3u hb hr
 exact ⟨k4, k3⟩
/-- A loop over frames, whoever decodes. -/
theorem zb4c {D : Nat → Sl Int → Option (Ow Int × Int × Int)} {W : Nat → Bool → List Int → Int → Bool → List (Sl Int) → Option (Ow (Sl Int) × Int × Int)}
  (hW : ∀ q z L i z2 h, W (q + 1) z L i z2 h = if i < (L.length : Int) then (if 0 ≤ i then (if i ≤ (L.length : Int) then ((D q ⟨z, (List.drop i.toNat L)⟩).bind fun r1 => (if r1.2.2 = 0 then (if (h.length + 1) ≤ 4294967296 then (W q z L (wrp .i64 (i + r1.2.1)) false (h ++ [⟨r1.1.n, r1.1.xs⟩])) else none) else (some (⟨z2, true, h⟩, i, r1.2.2)))) else none) else none) else (some (⟨z2, true, h⟩, i, 0)))
  (z : Bool) (L : List Int) (hb : isB L) (hL : L.length ≤ 4294967296)
  (hD : ∀ i : Nat, i < L.length → ∃ z', Ev (fun q => D q ⟨z, L.drop i⟩) (⟨z', true, (decF (L.drop i)).1⟩, (decF (L.drop i)).2.1, (decF (L.drop i)).2.2)) :
  ∀ (f i : Nat) (z2 : Bool) (h : List (Sl Int)), i ≤ L.length → L.length - i < f → h.length ≤ i → ∃ z3 X, Ev (fun q => W q z L (i : Int) z2 h) (⟨z3, true, h ++ X⟩, ((i + (walkF f (L.drop i)).2.1 : Nat) : Int), (walkF f (L.drop i)).2.2) ∧ X.map (·.l) = (walkF f (L.drop i)).1
 | 0, i, z2, h, hi, hf, hh => by omega
 | f + 1, i, z2, h, hi, hf, hh => by
  by_cases hlt : i < L.length
  ·have hne : L.drop i ≠ [] := by intro e; have := congrArg List.length e; simp at this; omega
   obtain ⟨z', hd⟩ := hD i hlt
   simp only [walkF]
   rw [if_neg hne]
   by_cases he : (decF (L.drop i)).2.2 = 0
   ·rw [if_pos he]
    obtain ⟨k1, k2⟩ := zb4b (zb3s hb i) he
    rw [y13] at k2
    obtain ⟨z3, X, hx, hm⟩ := zb4c hW z L hb hL hD f (i + (decF (L.drop i)).2.1.toNat) false (h ++ [⟨z', (decF (L.drop i)).1⟩]) (by omega) (by omega) (by simp; omega)
    rw [← y50] at hx hm
    refine ⟨z3, ⟨z', (decF (L.drop i)).1⟩ :: X, ?_, ?_⟩
    ·refine Ev.succ (Ev.po (Ev.po (Ev.po (Ev.bind hd (Ev.pos he (Ev.pos (by omega) ?_)))))) (fun q => hW q _ _ _ _ _)
     have wi : wrp .i64 ((i : Int) + (decF (L.drop i)).2.1) = ((i + (decF (L.drop i)).2.1.toNat : Nat) : Int) := by
      rw [zb1z (by omega) (by omega)]; omega
     simp only [wi]
     refine hx.cast ?_
     simp only [y33, List.cons_append, y47, y57]
    ·simp [hm]
   ·rw [if_neg he]
    refine ⟨z2, [], Ev.succ (Ev.po (Ev.po (Ev.po (Ev.bind hd (Ev.neg he (Ev.ret' (by simp))))))) (fun q => hW q _ _ _ _ _), rfl⟩
  ·rw [y12 (by omega)]
   simp only [walkF, if_true]
   exact ⟨z2, [], Ev.succ (Ev.ne (Ev.ret' (by simp))) (fun q => hW q _ _ _ _ _), rfl⟩
def allF (l : List Int) : List (List Int) × Nat × Int := walkF (l.length + 1) l
theorem zb4d (s : Sl Int) (hz : s.z = true → s.l = []) (hb : isB s.l) (hl : s.l.length ≤ 4294967296) : ∃ z X, Ev (fun q => zls q s) (⟨z, true, X⟩, (((allF s.l).2.1 : Nat) : Int), (allF s.l).2.2) ∧ X.map (·.l) = (allF s.l).1 := by
 obtain ⟨z, X, h, hm⟩ := zb4c (D := fun q s => zlq q s) (W := zlr) (fun q z L i z2 h => rfl) s.z s.l hb hl (fun i hi => zb3t ⟨s.z, s.l.drop i⟩ (fun h => by rw [hz h]; simp) (zb3s hb i) (by simp; omega)) (s.l.length + 1) 0 true [] (by omega) (by omega) (by simp)
 rw [y38] at h hm
 refine ⟨z, X, Ev.succ h (fun q => rfl) |>.cast ?_, hm⟩
 simp [allF]
theorem zb4e (s : Sl Int) (hb : isB s.l) (hl : s.l.length ≤ 4294967296) : ∃ z X, Ev (fun q => zmn q s) (⟨z, true, X⟩, (((allF s.l).2.1 : Nat) : Int), (allF s.l).2.2) ∧ X.map (·.l) = (allF s.l).1 := by
 obtain ⟨z, X, h, hm⟩ := zb4c (D := fun q s => zml q s) (W := zmm) (fun q z L i z2 h => rfl) s.z s.l hb hl (fun i hi => zb4a ⟨s.z, s.l.drop i⟩ (zb3s hb i) (by simp; omega)) (s.l.length + 1) 0 true [] (by omega) (by omega) (by simp)
 rw [y38] at h hm
 refine ⟨z, X, Ev.succ h (fun q => rfl) |>.cast ?_, hm⟩
 simp [allF]
def allE (l : List Int) : List (List Int) × Int := if (allF l).2.2 = 0 then ((allF l).1, 0) else ([], (allF l).2.2)
theorem zb4f (s : Sl Int) (hz : s.z = true → s.l = []) (hb : isB s.l) (hl : s.l.length ≤ 4294967296) : ∃ z X, Ev (fun q => zlt q s) (⟨z, true, X⟩, (allE s.l).2) ∧ X.map (·.l) = (allE s.l).1 := by
 obtain ⟨z, X, h, hm⟩ := zb4d s hz hb hl
 unfold allE
 by_cases he : (allF s.l).2.2 = 0
 ·rw [if_pos he]; exact ⟨z, X, Ev.succ (Ev.bind h (Ev.pos he (Ev.ret _))) (fun q => rfl), hm⟩
 ·rw [if_neg he]; exact ⟨true, [], Ev.succ (Ev.bind h (Ev.neg he (Ev.ret _))) (fun q => rfl), rfl⟩
theorem zb4g (s : Sl Int) (hb : isB s.l) (hl : s.l.length ≤ 4294967296) : ∃ z X, Ev (fun q => zmo q s) (⟨z, true, X⟩, (allE s.l).2) ∧ X.map (·.l) = (allE s.l).1 := by
 obtain ⟨z, X, h, hm⟩ := zb4e s hb hl
 unfold allE
 by_cases he : (allF s.l).2.2 = 0
 ·rw [if_pos he]; exact ⟨z, X, Ev.succ (Ev.bind h (Ev.pos he (Ev.ret _))) (fun q => rfl), hm⟩
 ·rw [if_neg he]; exact ⟨true, [], Ev.succ (Ev.bind h (Ev.neg he (Ev.ret _))) (fun q => rfl), rfl⟩
def BB (D : List (List Int)) : List Int := D.flatMap encF
theorem zb4h (d : List Int) (D : List (List Int)) : BB (d :: D) = encF d ++ BB D := by simp [BB]
def zag (u : Nat) : Int := if u % 2 = 0 then ((u / 2 : Nat) : Int) else -((u / 2 : Nat) : Int) - 1
theorem zb4i (u : Nat) : zig (zag u) = u := by unfold zag zig; split <;> split <;> omega
theorem ixor0 {x : Int} (h1 : 0 ≤ x) (h2 : x < 9223372036854775808) : ibits .xor .i64 x 0 = x := by
 have e : ibits .xor .i64 x 0 = IntKind.wrap .i64 (((BitVec.ofInt 64 x ^^^ 0#64 : BitVec 64).toNat : Nat) : Int) := by unfold ibits; rfl
 rw [e, BitVec.xor_zero, y49, zb2a, zb1z] <;> omega
theorem zb4j {x : Int} (h1 : 9223372036854775808 ≤ x) (h2 : x < 18446744073709551616) : wrp .i64 x = x - 18446744073709551616 := by
 unfold wrp; simp [IntKind.wrap, IntKind.min, IntKind.max, IntKind.signed, IntKind.bits] <;> omega
theorem ixor1 {x : Int} (h1 : 0 ≤ x) (h2 : x < 9223372036854775808) : ibits .xor .i64 x (-1) = -x - 1 := by
 have e : ibits .xor .i64 x (-1) = IntKind.wrap .i64 (((BitVec.ofInt 64 x ^^^ BitVec.allOnes 64 : BitVec 64).toNat : Nat) : Int) := by unfold ibits; rfl
 rw [e, BitVec.xor_allOnes, BitVec.toNat_not, y49, zb2a, zb4j] <;> omega
theorem and1u {u : Nat} (h : u < 18446744073709551616) : ibits .and .u64 (u : Int) 1 = ((u % 2 : Nat) : Int) := by
 have e : ibits .and .u64 (u : Int) 1 = IntKind.wrap .u64 (((BitVec.ofInt 64 (u : Int) &&& 1#64 : BitVec 64).toNat : Nat) : Int) := by unfold ibits; rfl
 have e1 : (BitVec.ofInt 64 (u : Int)).toNat = u := by rw [y49]; omega
 rw [e, BitVec.toNat_and, e1, show (1#64 : BitVec 64).toNat = 1 from rfl, Nat.and_one_is_mod, zb2a, zb10 (by omega) (by omega)]
theorem ishr1 {x : Int} (h1 : 0 ≤ x) : ishr .u64 x 1 = x / 2 := by
 unfold ishr; simp [IntKind.bits]
 rw [y54]; omega
theorem zb4k {u : Nat} (h : u < 18446744073709551616) : Ev (fun q => zlz q (u : Int)) (zag u) := by
 refine Ev.succ (Ev.ret' ?_) (fun q => rfl)
 rw [ishr1 (by omega), and1u h, zb1z (by omega) (by omega)]
 unfold zag
 split
 ·rename_i e
  rw [e, show wrp .i64 ((0 : Nat) : Int) = 0 from zb1z (by omega) (by omega), show wrp .i64 (0 - 0) = 0 from zb1z (by omega) (by omega), ixor0 (by omega) (by omega)]; omega
 ·rename_i e
  rw [show u % 2 = 1 by omega, show wrp .i64 ((1 : Nat) : Int) = 1 from zb1z (by omega) (by omega), show wrp .i64 (0 - 1) = -1 from zb1z (by omega) (by omega), ixor1 (by omega) (by omega)]; omega
theorem rd_lt : ∀ {l : List Int} {i : Nat} {p : Nat × Nat}, isB l → i ≤ 9 → rd i l = some p → p.1 < 2 ^ (64 - 7 * i)
 | [], i, p, hb, hi, h => by simp [rd] at h
 | c :: l, i, p, hb, hi, h => by
  obtain ⟨b1, b2⟩ := hb c y32
  simp only [rd] at h
  split at h
  ·cases h
  ·split at h
   ·cases h
   ·rename_i h9
    split at h
    ·cases h
    ·split at h
     ·simp at h; subst h
      simp only
      by_cases e : i = 9
      ·subst e; simp; omega
      ·have : 2 ^ 7 ≤ 2 ^ (64 - 7 * i) := Nat.pow_le_pow_right (by omega) (by omega)
       omega
     ·cases hr : rd (i + 1) l with
      | none => simp [hr] at h
      | some r =>
       simp [hr] at h; subst h
       by_cases e : i = 9
       ·exfalso; subst e; exact h9 ⟨rfl, by omega⟩
       ·have := rd_lt (fun c hc => hb c (y36 _ hc)) (by omega) hr
        have e2 : 2 ^ (64 - 7 * i) = 128 * 2 ^ (64 - 7 * (i + 1)) := by rw [show 64 - 7 * i = 7 + (64 - 7 * (i + 1)) by omega, Nat.pow_add]
        simp only
        rw [e2]; omega
def getS (l : List Int) : Int × Int := match rd 0 l with
 | none => (0, 0)
 | some p => (zag p.1, (p.2 : Int))
theorem zb4l (s : Sl Int) (hb : isB s.l) : Ev (fun q => zl0 q s) (getS s.l) := by
 refine Ev.succ (Ev.bind (zb3j s hb) ?_) (fun q => rfl)
 unfold getS
 cases h : rd 0 s.l with
 | none => exact Ev.pos (by simp [resN]) (Ev.ret _)
 | some p =>
  have h1 := rd_len h
  have h2 := rd_lt hb (by omega) h
  simp only [resN]
  exact Ev.neg (by simp; omega) (Ev.bind (zb4k (by simpa using h2)) (Ev.ret _))
theorem zb4m {l : List Int} : 0 ≤ (getS l).2 ∧ (getS l).2 ≤ l.length ∧ (getS l).2 ≤ 10 := by
 unfold getS
 cases h : rd 0 l with
 | none => simp
 | some p =>
  have := rd_len h
  simp only; omega
def cutsB (l : List Int) : Prop := ∀ n ∈ l, n = cutI n
instance (l : List Int) : Decidable (cutsB l) := by unfold cutsB; infer_instance
theorem zb4n (n : Int) : Ev (fun q => zjo q n) (!(decide (n = cutI n))) := Ev.succ (Ev.bind (zb2e n) (Ev.ret _)) (fun q => rfl)
theorem zb4o (z : Bool) (L : List Int) (h0 : Int) (h1z : Bool) (h1l : List Int) (h2 : Bool) (h3 : Int) (hL : L.length ≤ 1000000) : ∀ (k i : Nat), L.length = i + k →
  ∃ r, Ev (fun q => zjr q z L (L.length : Int) (i : Int) h0 h1z h1l h2 h3) r ∧ (0 ≤ r ↔ ¬ cutsB (L.drop i))
 | 0, i, hk => by
  refine ⟨-1, Ev.succ (Ev.ne (Ev.ret _)) (fun q => rfl), ?_⟩
  rw [y12 (by omega)]; simp [cutsB]
 | k + 1, i, hk => by
  have hi : i < L.length := by omega
  have he : L[((i : Int)).toNat]? = some L[i] := by simp [hi]
  have hd := y9 hi
  by_cases h : L[i] = cutI L[i]
  ·obtain ⟨r, hr, hi2⟩ := zb4o z L h0 h1z h1l h2 h3 hL k (i + 1) (by omega)
   rw [show ((i + 1 : Nat) : Int) = wrp .i64 ((i : Int) + 1) by rw [zb1z (by omega) (by omega)]; omega] at hr
   refine ⟨r, Ev.succ (Ev.po (Ev.po (Ev.opt he (Ev.bind (zb4n _) (Ev.neg (by simpa using h) hr))))) (fun q => rfl), ?_⟩
   rw [hi2, hd]; unfold cutsB; simp only [List.mem_cons, forall_eq_or_imp]
   exact ⟨fun a b => a b.2, fun a b => a ⟨h, b⟩⟩
  ·refine ⟨i, Ev.succ (Ev.po (Ev.po (Ev.opt he (Ev.bind (zb4n _) (Ev.pos (by simpa using h) (Ev.ret _)))))) (fun q => rfl), ?_⟩
   rw [hd]; unfold cutsB; simp only [List.mem_cons, forall_eq_or_imp]
   exact ⟨fun _ b => h b.1, fun _ => by omega⟩
theorem zb4p (z : Bool) (L : List Int) (h0 : Int) (h1z : Bool) (h1l : List Int) (h2 : Bool) (h3 : Int) (hL : L.length ≤ 1000000) : ∃ r, Ev (fun q => zjs q z L h0 h1z h1l h2 h3) r ∧ (0 ≤ r ↔ ¬ cutsB L) := by
 obtain ⟨r, h, h4⟩ := zb4o z L h0 h1z h1l h2 h3 hL L.length 0 (by omega)
 exact ⟨r, Ev.succ h (fun q => rfl), by simpa using h4⟩
def prs (least : Int) : Int → List Int → Bool
 | last, a :: b :: t => decide (last < a) && (decide (a ≤ 255) && (decide (least ≤ b) && (decide (b ≤ 1099511627776) && prs least a t)))
 | _, _ => true
def pairsOk (least : Int) (l : List Int) : Bool := prs least (-1) l && (decide (l.length % 2 = 0) && decide (l.length ≤ 128))
theorem zb4q (z : Bool) (L : List Int) (least : Int) (hL : L.length ≤ 1000000) : ∀ (k i : Nat) (last : Int), L.length ≤ i + 2 * k → i ≤ 2000000 →
  Ev (fun q => zjp q z L least last (i : Int)) (prs least last (L.drop i) && (decide (L.length % 2 = 0) && decide (L.length ≤ 128)))
 | k, i, last, hk, hi9 => by
  have w1 : wrp .i64 ((i : Int) + 1) = ((i + 1 : Nat) : Int) := by rw [zb1z (by omega) (by omega)]; omega
  have w2 : wrp .i64 ((i : Int) + 2) = ((i + 2 : Nat) : Int) := by rw [zb1z (by omega) (by omega)]; omega
  by_cases h : i + 1 < L.length
  ·cases k with
   | zero => omega
   | succ k =>
    have he : L[((i : Int)).toNat]? = some L[i] := by rw [y28]; exact y7 (by omega)
    have he2 : L[(wrp .i64 ((i : Int) + 1)).toNat]? = some L[i + 1] := by rw [w1, y28]; exact y7 h
    have hd : L.drop i = L[i] :: L[i + 1] :: L.drop (i + 2) := by rw [y9 (by omega), y9 h]
    rw [hd]
    simp only [prs]
    refine Ev.succ (Ev.pos (by rw [w1]; omega) (Ev.po (Ev.opt he (Ev.ite (fun c => Ev.ret' ?_) fun c => Ev.ite (fun c2 => Ev.ret' ?_) fun c2 => Ev.pos (by rw [w1]; omega) (Ev.opt he2 (Ev.ite (fun c3 => Ev.ret' ?_) fun c3 => Ev.ite (fun c4 => Ev.ret' ?_) fun c4 => ?_)))))) (fun q => rfl)
    ·rw [decide_eq_false (show ¬ last < L[i] by omega)]; rfl
    ·rw [decide_eq_false (show ¬ L[i] ≤ 255 by omega)]; simp
    ·rw [decide_eq_false (show ¬ least ≤ L[i + 1] by omega)]; simp
    ·rw [decide_eq_false (show ¬ L[i + 1] ≤ 1099511627776 by omega)]; simp
    ·rw [decide_eq_true (show last < L[i] by omega), decide_eq_true (show L[i] ≤ 255 by omega), decide_eq_true (show least ≤ L[i + 1] by omega), decide_eq_true (show L[i + 1] ≤ 1099511627776 by omega), w2]
     simp only [y62]
     exact zb4q z L least hL k (i + 2) L[i] (by omega) (by omega)
  ·have hp : prs least last (L.drop i) = true := by
    have hl : (L.drop i).length ≤ 1 := by rw [y13]; omega
    generalize L.drop i = X at hl
    match X, hl with
    | [], _ => rfl
    | [a], _ => rfl
   rw [hp, y62]
   have ht : Int.tmod (L.length : Int) 2 = ((L.length % 2 : Nat) : Int) := by rw [y60 (by omega)]; omega
   refine Ev.succ (Ev.neg (by rw [w1]; omega) (Ev.ite (fun c => Ev.ret' ?_) fun c => Ev.ret' ?_)) (fun q => rfl)
   ·rw [ht] at c
    rw [decide_eq_true (show L.length % 2 = 0 by omega), y62]
    by_cases h4 : L.length ≤ 128
    ·rw [decide_eq_true h4, decide_eq_true (by omega)]
    ·rw [decide_eq_false h4, decide_eq_false (by omega)]
   ·rw [ht] at c
    rw [decide_eq_false (show ¬ L.length % 2 = 0 by omega)]; rfl
theorem zb4r (s : Sl Int) (least : Int) (hL : s.l.length ≤ 1000000) : Ev (fun q => zjq q s least) (pairsOk least s.l) := by
 have := zb4q s.z s.l least hL s.l.length 0 (-1) (by omega) (by omega)
 exact Ev.succ this (fun q => rfl)
theorem zb4s (z : Bool) (L : List Int) (least : Int) (hL : L.length ≤ 1000000) (h2 : L.length % 2 = 0) : ∀ (k i : Nat) (last : Int), L.length ≤ i + 2 * k → i ≤ 2000000 → i % 2 = 0 → (∀ e, 0 < i → L[i - 2]? = some e → e = last ∧ 0 ≤ last) → (i = 0 → last = -1) →
  Ev (fun q => zmu q z L least (i : Int)) (prs least last (L.drop i))
 | k, i, last, hk, hi9, hi2, hla, hl0 => by
  have w1 : wrp .i64 ((i : Int) + 1) = ((i + 1 : Nat) : Int) := by rw [zb1z (by omega) (by omega)]; omega
  have w2 : wrp .i64 ((i : Int) + 2) = ((i + 2 : Nat) : Int) := by rw [zb1z (by omega) (by omega)]; omega
  by_cases h : i < L.length
  ·have h' : i + 1 < L.length := by omega
   cases k with
   | zero => omega
   | succ k =>
    have he : L[((i : Int)).toNat]? = some L[i] := by rw [y28]; exact y7 (by omega)
    have he2 : L[(wrp .i64 ((i : Int) + 1)).toNat]? = some L[i + 1] := by rw [w1, y28]; exact y7 h'
    have hd : L.drop i = L[i] :: L[i + 1] :: L.drop (i + 2) := by rw [y9 (by omega), y9 h']
    rw [hd]
    simp only [prs]
    have tail : last < L[i] → ¬ L[i] < 0 → ¬ 255 < L[i] → Ev (fun q => if 0 ≤ (wrp .i64 ((i : Int) + 1)) then ((L[(wrp .i64 ((i : Int) + 1)).toNat]?).bind fun e4 => (if e4 < least then (some false) else (if 1099511627776 < e4 then (some false) else (zmu q z L least (wrp .i64 ((i : Int) + 2)))))) else none) (decide (last < L[i]) && (decide (L[i] ≤ 255) && (decide (least ≤ L[i + 1]) && (decide (L[i + 1] ≤ 1099511627776) && prs least L[i] (L.drop (i + 2)))))) := fun c0 c1 c2 => by
     rw [decide_eq_true c0, decide_eq_true (show L[i] ≤ 255 by omega)]
     refine Ev.pos (by rw [w1]; omega) (Ev.opt he2 (Ev.ite (fun c3 => Ev.ret' ?_) fun c3 => Ev.ite (fun c4 => Ev.ret' ?_) fun c4 => ?_))
     ·rw [decide_eq_false (show ¬ least ≤ L[i + 1] by omega)]; simp
     ·rw [decide_eq_false (show ¬ L[i + 1] ≤ 1099511627776 by omega)]; simp
     ·rw [decide_eq_true (show least ≤ L[i + 1] by omega), decide_eq_true (show L[i + 1] ≤ 1099511627776 by omega), w2]
      simp only [y62]
      refine zb4s z L least hL h2 k (i + 2) L[i] (by omega) (by omega) (by omega) (fun e _ hx => ?_) (by omega)
      rw [Nat.add_sub_cancel, y7 h] at hx
      simp only [y4] at hx
      exact ⟨hx.symm, by omega⟩
    refine Ev.succ (Ev.po (Ev.po (Ev.opt he (Ev.ite (fun c => Ev.ret' ?_) fun c => Ev.ite (fun c2 => Ev.ret' ?_) fun c2 => Ev.ite (fun c3 => ?_) fun c3 => ?_)))) (fun q => rfl)
    ·by_cases h0 : 0 < i
     ·have := (hla L[i - 2] h0 (y7 (by omega))).2
      rw [decide_eq_false (show ¬ last < L[i] by omega)]; rfl
     ·rw [decide_eq_false (show ¬ last < L[i] by have := hl0 (by omega); omega)]; rfl
    ·rw [decide_eq_false (show ¬ L[i] ≤ 255 by omega)]; simp
    ·have w3 : wrp .i64 ((i : Int) - 2) = ((i - 2 : Nat) : Int) := by rw [zb1z (by omega) (by omega)]; omega
     have he3 : L[(wrp .i64 ((i : Int) - 2)).toNat]? = some L[i - 2] := by rw [w3, y28]; exact y7 (by omega)
     have hq := hla L[i - 2] (by omega) (y7 (by omega))
     refine Ev.pos (by rw [w3]; omega) (Ev.opt he3 (Ev.ite (fun c4 => Ev.ret' ?_) fun c4 => tail (by omega) c c2))
     rw [decide_eq_false (show ¬ last < L[i] by omega)]; rfl
    ·exact tail (by have := hl0 (by omega); omega) c c2
  ·rw [y12 (by omega)]
   exact Ev.succ (Ev.ne (Ev.ret _)) (fun q => rfl)
theorem zb4t (s : Sl Int) (least : Int) (hL : s.l.length ≤ 1000000) : Ev (fun q => zmv q s least) (pairsOk least s.l) := by
 have ht : Int.tmod (s.l.length : Int) 2 = ((s.l.length % 2 : Nat) : Int) := by rw [y60 (by omega)]; omega
 unfold pairsOk
 refine Ev.succ (Ev.ite (fun c => Ev.ite (fun c2 => Ev.ret' ?_) fun c2 => ?_) fun c => Ev.ret' ?_) (fun q => rfl)
 ·rw [decide_eq_false (show ¬ s.l.length ≤ 128 by omega)]; simp
 ·rw [ht] at c
  rw [decide_eq_true (show s.l.length ≤ 128 by omega), decide_eq_true (show s.l.length % 2 = 0 by omega)]
  have := zb4s s.z s.l least hL (by omega) s.l.length 0 (-1) (by omega) (by omega) (by omega) (fun e h => by omega) (fun _ => rfl)
  refine Ev.cast this ?_
  simp
 ·rw [ht] at c
  rw [decide_eq_false (show ¬ s.l.length % 2 = 0 by omega)]; simp
def kindOk (k : Int) (l : List Int) : Bool :=
 if k = 0 ∨ k = 1 then decide (l.length = 1 ∧ cutsB l) else if k = 2 ∨ k = 3 then decide (l.length ≤ 64 ∧ cutsB l) else if k = 4 then pairsOk (-1099511627776) l else if k = 5 then pairsOk 0 l else false
def mayS (s : zjh) : Bool := if s.To < 0 then false else if 3 ≤ s.To then false else if s.Sealed = true then kindOk s.Kind s.L.l else if s.To = 0 then kindOk s.Kind s.L.l else false
theorem zb4u (s : zjh) (hL : s.L.l.length ≤ 1000000) : Ev (fun q => ((zjs q s.L.z s.L.l s.Kind s.L.z s.L.l s.Sealed s.To).bind fun r1 => (if s.Kind = 0 then (if (s.L.l.length : Int) = 1 then (some (!(decide (0 ≤ r1)))) else (some false)) else (if s.Kind = 1 then (if (s.L.l.length : Int) = 1 then (some (!(decide (0 ≤ r1)))) else (some false)) else (if s.Kind = 2 then (if (s.L.l.length : Int) ≤ 64 then (some (!(decide (0 ≤ r1)))) else (some false)) else (if s.Kind = 3 then (if (s.L.l.length : Int) ≤ 64 then (some (!(decide (0 ≤ r1)))) else (some false)) else (if s.Kind = 4 then ((zjq q s.L (-1099511627776)).bind fun r2 => (some r2)) else (if s.Kind = 5 then ((zjq q s.L 0).bind fun r3 => (some r3)) else (some false))))))))) (kindOk s.Kind s.L.l) := by
 obtain ⟨r, h, hr⟩ := zb4p s.L.z s.L.l s.Kind s.L.z s.L.l s.Sealed s.To hL
 have one : ∀ {P : Prop} [Decidable P], P → Ev (fun _ : Nat => (some (!(decide (0 ≤ r))) : Option Bool)) (decide (P ∧ cutsB s.L.l)) := fun {P} _ hp => Ev.ret' (by
  by_cases hc : cutsB s.L.l
  ·rw [decide_eq_false (fun e => hr.1 e hc)]; symm; simp only [Bool.not_false, decide_eq_true_eq]; exact ⟨hp, hc⟩
  ·rw [decide_eq_true (hr.2 hc)]; symm; simp only [Bool.not_true, decide_eq_false_iff_not]; exact fun e => hc e.2)
 have no : ∀ {P : Prop} [Decidable P], ¬ P → Ev (fun _ : Nat => (some false : Option Bool)) (decide (P ∧ cutsB s.L.l)) := fun {P} _ hp => Ev.ret' (by
  symm; simp only [decide_eq_false_iff_not]; exact fun e => hp e.1)
 refine Ev.bind h ?_
 unfold kindOk
 by_cases k0 : s.Kind = 0
 ·rw [if_pos (show s.Kind = 0 ∨ s.Kind = 1 from .inl k0)]
  by_cases hl : s.L.l.length = 1
  ·exact Ev.pos k0 (Ev.po (one hl))
  ·exact Ev.pos k0 (Ev.ne (no hl))
 by_cases k1 : s.Kind = 1
 ·rw [if_pos (show s.Kind = 0 ∨ s.Kind = 1 from .inr k1)]
  by_cases hl : s.L.l.length = 1
  ·exact Ev.neg k0 (Ev.pos k1 (Ev.po (one hl)))
  ·exact Ev.neg k0 (Ev.pos k1 (Ev.ne (no hl)))
 rw [if_neg (show ¬ (s.Kind = 0 ∨ s.Kind = 1) by omega)]
 by_cases k2 : s.Kind = 2
 ·rw [if_pos (show s.Kind = 2 ∨ s.Kind = 3 from .inl k2)]
  by_cases hl : s.L.l.length ≤ 64
  ·exact Ev.neg k0 (Ev.neg k1 (Ev.pos k2 (Ev.po (one hl))))
  ·exact Ev.neg k0 (Ev.neg k1 (Ev.pos k2 (Ev.ne (no hl))))
 by_cases k3 : s.Kind = 3
 ·rw [if_pos (show s.Kind = 2 ∨ s.Kind = 3 from .inr k3)]
  by_cases hl : s.L.l.length ≤ 64
  ·exact Ev.neg k0 (Ev.neg k1 (Ev.neg k2 (Ev.pos k3 (Ev.po (one hl)))))
  ·exact Ev.neg k0 (Ev.neg k1 (Ev.neg k2 (Ev.pos k3 (Ev.ne (no hl)))))
 rw [if_neg (show ¬ (s.Kind = 2 ∨ s.Kind = 3) by omega)]
 refine Ev.neg k0 (Ev.neg k1 (Ev.neg k2 (Ev.neg k3 (Ev.ite (fun k4 => ?_) fun k4 => Ev.ite (fun k5 => ?_) fun k5 => ?_))))
 ·rw [if_pos k4]; exact Ev.bind (zb4r _ _ hL) (Ev.ret _)
 ·rw [if_neg k4, if_pos k5]; exact Ev.bind (zb4r _ _ hL) (Ev.ret _)
 ·rw [if_neg k4, if_neg k5]; exact Ev.ret _
theorem zb4v (s : zjh) (hL : s.L.l.length ≤ 1000000) : Ev (fun q => zjt q s) (mayS s) := by
 have hb := zb4u s hL
 unfold mayS
 refine Ev.succ (Ev.ite (fun h => ?_) fun h => Ev.ite (fun h2 => ?_) fun h2 => Ev.ite (fun h3 => ?_) fun h3 => Ev.ite (fun h4 => ?_) fun h4 => ?_) (fun q => rfl)
 ·rw [if_pos h]; exact Ev.ret _
 ·rw [if_neg h, if_pos h2]; exact Ev.ret _
 ·rw [if_neg h, if_neg h2, if_pos h3]; exact hb
 ·rw [if_neg h, if_neg h2, if_neg h3, if_pos h4]; exact hb
 ·rw [if_neg h, if_neg h2, if_neg h3, if_neg h4]; exact Ev.ret _
theorem zb4w (h0 : Int) (z : Bool) (L : List Int) (h2 : Bool) (h3 : Int) (hL : L.length ≤ 1000000) : ∀ (k i : Nat), L.length = i + k →
  ∃ r, Ev (fun q => zmx q (i : Int) h0 z L h2 h3) r ∧ (r = true ↔ cutsB (L.drop i))
 | 0, i, hk => by
  refine ⟨true, Ev.succ (Ev.ne (Ev.ret _)) (fun q => rfl), ?_⟩
  rw [y12 (by omega)]; simp [cutsB]
 | k + 1, i, hk => by
  have hi : i < L.length := by omega
  have he : L[((i : Int)).toNat]? = some L[i] := by simp [hi]
  have hd := y9 hi
  by_cases h : L[i] = cutI L[i]
  ·obtain ⟨r, hr, hi2⟩ := zb4w h0 z L h2 h3 hL k (i + 1) (by omega)
   rw [show ((i + 1 : Nat) : Int) = wrp .i64 ((i : Int) + 1) by rw [zb1z (by omega) (by omega)]; omega] at hr
   refine ⟨r, Ev.succ (Ev.po (Ev.po (Ev.opt he (Ev.bind (zb2f _) (Ev.pos h hr))))) (fun q => rfl), ?_⟩
   rw [hi2, hd]; unfold cutsB; simp only [List.mem_cons, forall_eq_or_imp]
   exact ⟨fun a => ⟨h, a⟩, fun a => a.2⟩
  ·refine ⟨false, Ev.succ (Ev.po (Ev.po (Ev.opt he (Ev.bind (zb2f _) (Ev.neg h (Ev.ret _)))))) (fun q => rfl), ?_⟩
   rw [hd]
   exact ⟨fun e => (by cases e), fun a => absurd (a _ y32) h⟩
theorem zb4x (s : zjh) (hL : s.L.l.length ≤ 1000000) : Ev (fun q => (if s.Kind < 0 then (some false) else (if 6 ≤ s.Kind then (some false) else (if s.Kind = 4 then ((zmv q s.L (-1099511627776)).bind fun r1 => (some r1)) else (if s.Kind = 5 then ((zmv q s.L 0).bind fun r2 => (some r2)) else (if 64 < (s.L.l.length : Int) then (some false) else (if (s.L.l.length : Int) = 1 then (zmx q 0 s.Kind s.L.z s.L.l s.Sealed s.To) else (if s.Kind ≤ 1 then (some false) else (zmx q 0 s.Kind s.L.z s.L.l s.Sealed s.To))))))))) (kindOk s.Kind s.L.l) := by
 obtain ⟨r, h, hr⟩ := zb4w s.Kind s.L.z s.L.l s.Sealed s.To hL s.L.l.length 0 (by omega)
 rw [y38] at hr
 have one : ∀ {P : Prop} [Decidable P], P → r = (decide (P ∧ cutsB s.L.l)) := fun {P} _ hp => by
  by_cases hc : cutsB s.L.l
  ·rw [hr.2 hc]; symm; simp only [decide_eq_true_eq]; exact ⟨hp, hc⟩
  ·have : r = false := by cases r; rfl; exact absurd (hr.1 rfl) hc
   rw [this]; symm; simp only [decide_eq_false_iff_not]; exact fun e => hc e.2
 have no : ∀ {P : Prop} [Decidable P], ¬ P → false = (decide (P ∧ cutsB s.L.l)) := fun {P} _ hp => by
  symm; simp only [decide_eq_false_iff_not]; exact fun e => hp e.1
 unfold kindOk
 refine Ev.ite (fun c => Ev.ret' ?_) fun c => Ev.ite (fun c2 => Ev.ret' ?_) fun c2 => Ev.ite (fun k4 => ?_) fun k4 => Ev.ite (fun k5 => ?_) fun k5 => ?_
 ·rw [if_neg (show ¬ (s.Kind = 0 ∨ s.Kind = 1) by omega), if_neg (show ¬ (s.Kind = 2 ∨ s.Kind = 3) by omega), if_neg (show ¬ s.Kind = 4 by omega), if_neg (show ¬ s.Kind = 5 by omega)]
 ·rw [if_neg (show ¬ (s.Kind = 0 ∨ s.Kind = 1) by omega), if_neg (show ¬ (s.Kind = 2 ∨ s.Kind = 3) by omega), if_neg (show ¬ s.Kind = 4 by omega), if_neg (show ¬ s.Kind = 5 by omega)]
 ·rw [if_neg (show ¬ (s.Kind = 0 ∨ s.Kind = 1) by omega), if_neg (show ¬ (s.Kind = 2 ∨ s.Kind = 3) by omega), if_pos k4]; exact Ev.bind (zb4t _ _ hL) (Ev.ret _)
 ·rw [if_neg (show ¬ (s.Kind = 0 ∨ s.Kind = 1) by omega), if_neg (show ¬ (s.Kind = 2 ∨ s.Kind = 3) by omega), if_neg k4, if_pos k5]; exact Ev.bind (zb4t _ _ hL) (Ev.ret _)
 ·by_cases k01 : s.Kind = 0 ∨ s.Kind = 1
  ·rw [if_pos k01]
   refine Ev.ite (fun c3 => Ev.ret' ?_) fun c3 => Ev.ite (fun c4 => Ev.cast h ?_) fun c4 => Ev.po (Ev.ret' ?_)
   ·exact no (by omega)
   ·exact one (by omega)
   ·exact no (by omega)
  ·rw [if_neg k01, if_pos (show s.Kind = 2 ∨ s.Kind = 3 by omega)]
   refine Ev.ite (fun c3 => Ev.ret' ?_) fun c3 => Ev.ite (fun c4 => Ev.cast h ?_) fun c4 => Ev.ne (Ev.cast h ?_)
   ·exact no (by omega)
   ·exact one (by omega)
   ·exact one (by omega)
theorem zb4y (s : zjh) (hL : s.L.l.length ≤ 1000000) : Ev (fun q => zmy q s) (mayS s) := by
 have hb := zb4x s hL
 unfold mayS
 refine Ev.succ (Ev.ite (fun h => ?_) fun h => Ev.ite (fun h2 => ?_) fun h2 => Ev.ite (fun h3 => ?_) fun h3 => Ev.ite (fun h4 => ?_) fun h4 => ?_) (fun q => rfl)
 ·rw [if_pos h]; exact Ev.ret _
 ·rw [if_neg h, if_pos (by omega)]; exact Ev.ret _
 ·rw [if_neg h, if_neg (by omega), if_pos h3]; exact hb
 ·rw [if_neg h, if_neg (by omega), if_neg h3, if_pos h4]; exact hb
 ·rw [if_neg h, if_neg (by omega), if_neg h3, if_neg h4]; exact Ev.ret _
def entOk (e : zji) : Bool := decide (0 ≤ e.Proc) && (decide (e.Proc ≤ 64) && (decide (0 ≤ e.Seq) && (decide (e.Seq < 4611686018427387904) && (decide (-1125899906842624 ≤ e.Resp) && decide (e.Resp ≤ 1125899906842624)))))
theorem zb4z (e : zji) : Ev (fun q => zkh q e) (entOk e) := by
 unfold entOk
 exact Ev.succ (Ev.ite (fun h1 => Ev.ite (fun h2 => Ev.ite (fun h3 => Ev.ite (fun h4 => Ev.ite (fun h5 => Ev.ret' (by simp [*])) fun h5 => Ev.ret' (by simp [*])) fun h4 => Ev.ret' (by simp [*])) fun h3 => Ev.ret' (by simp [*])) fun h2 => Ev.ret' (by simp [*])) fun h1 => Ev.ret' (by simp [*])) (fun q => rfl)
def tabB : Int → List zji → Bool
 | _, [] => true
 | last, e :: t => entOk e && (decide (last < e.Proc) && tabB e.Proc t)
theorem zb40 (z z2 : Bool) (L : List zji) (hL : L.length ≤ 1000000) : ∀ (k i : Nat) (last : Int), L.length = i + k → (∀ e, 0 < i → L[i - 1]? = some e → e.Proc = last) → (i = 0 → last = -1) →
  Ev (fun q => zki q z L z2 L (L.length : Int) (i : Int)) (tabB last (L.drop i))
 | 0, i, last, hk, h1, h0 => by
  refine Ev.succ (Ev.ne (Ev.ret' ?_)) (fun q => rfl)
  rw [y12 (by omega)]; rfl
 | k + 1, i, last, hk, h1, h0 => by
  have hi : i < L.length := by omega
  have he : L[((i : Int)).toNat]? = some L[i] := by simp [hi]
  rw [y9 hi]
  simp only [tabB]
  have w1 : wrp .i64 ((i : Int) + 1) = ((i + 1 : Nat) : Int) := by rw [zb1z (by omega) (by omega)]; omega
  have ih := zb40 z z2 L hL k (i + 1) L[i].Proc (by omega) (fun e _ hx => by
   rw [Nat.add_sub_cancel, y7 hi] at hx
   simp only [y4] at hx; rw [hx]) (by omega)
  refine Ev.succ (Ev.po (Ev.po (Ev.opt he (Ev.bind (zb4z _) (Ev.ite (fun c => Ev.ite (fun c2 => ?_) fun c2 => ?_) fun c => Ev.ret' ?_))))) (fun q => rfl)
  ·have w3 : wrp .i64 ((i : Int) - 1) = ((i - 1 : Nat) : Int) := by rw [zb1z (by omega) (by omega)]; omega
   have he3 : L[(wrp .i64 ((i : Int) - 1)).toNat]? = some L[i - 1] := by rw [w3, y28]; exact y7 (by omega)
   have hq := h1 L[i - 1] (by omega) (y7 (by omega))
   refine Ev.pos (by rw [w3]; omega) (Ev.opt he3 (Ev.ite (fun c4 => Ev.ret' ?_) fun c4 => ?_))
   ·rw [c, decide_eq_false (show ¬ last < L[i].Proc by omega)]; rfl
   ·rw [c, decide_eq_true (show last < L[i].Proc by omega), w1]; simpa using ih
  ·have := h0 (by omega)
   have hp : 0 ≤ L[i].Proc := by unfold entOk at c; simp only [y6, decide_eq_true_eq] at c; exact c.1
   rw [c, decide_eq_true (show last < L[i].Proc by omega), w1]; simpa using ih
  ·simp only [Bool.not_eq_true] at c; rw [c]; rfl
theorem zb41 (s : Sl zji) (hL : s.l.length ≤ 1000000) : Ev (fun q => zkj q s) (tabB (-1) s.l) :=
 Ev.succ (zb40 s.z s.z s.l hL s.l.length 0 (-1) (by omega) (fun e h => by omega) (fun _ => rfl)) (fun q => rfl)
theorem zb42 (z : Bool) (L : List zji) (hL : L.length ≤ 1000000) : ∀ (k i : Nat) (last : Int), L.length = i + k → (∀ e, 0 < i → L[i - 1]? = some e → e.Proc = last) → (i = 0 → last = -1) →
  Ev (fun q => zm5 q z L (i : Int)) (tabB last (L.drop i))
 | 0, i, last, hk, h1, h0 => by
  refine Ev.succ (Ev.ne (Ev.ret' ?_)) (fun q => rfl)
  rw [y12 (by omega)]; rfl
 | k + 1, i, last, hk, h1, h0 => by
  have hi : i < L.length := by omega
  have he : L[((i : Int)).toNat]? = some L[i] := by simp [hi]
  rw [y9 hi]
  simp only [tabB]
  have w1 : wrp .i64 ((i : Int) + 1) = ((i + 1 : Nat) : Int) := by rw [zb1z (by omega) (by omega)]; omega
  have ih := zb42 z L hL k (i + 1) L[i].Proc (by omega) (fun e _ hx => by
   rw [Nat.add_sub_cancel, y7 hi] at hx
   simp only [y4] at hx; rw [hx]) (by omega)
  refine Ev.succ (Ev.po (Ev.po (Ev.opt he (Ev.ite (fun c1 => Ev.ret' ?_) fun c1 => Ev.ite (fun c2 => Ev.ret' ?_) fun c2 => Ev.ite (fun c3 => Ev.ret' ?_) fun c3 => Ev.ite (fun c4 => Ev.ret' ?_) fun c4 => Ev.ite (fun c5 => Ev.ret' ?_) fun c5 => Ev.ite (fun c6 => Ev.ret' ?_) fun c6 => Ev.ite (fun c7 => ?_) fun c7 => ?_)))) (fun q => rfl)
  ·unfold entOk; rw [decide_eq_false (show ¬ 0 ≤ L[i].Proc by omega)]; simp
  ·unfold entOk; rw [decide_eq_false (show ¬ L[i].Proc ≤ 64 by omega)]; simp
  ·unfold entOk; rw [decide_eq_false (show ¬ 0 ≤ L[i].Seq by omega)]; simp
  ·unfold entOk; rw [decide_eq_false (show ¬ L[i].Seq < 4611686018427387904 by omega)]; simp
  ·unfold entOk; rw [decide_eq_false (show ¬ -1125899906842624 ≤ L[i].Resp by omega)]; simp
  ·unfold entOk; rw [decide_eq_false (show ¬ L[i].Resp ≤ 1125899906842624 by omega)]; simp
  ·have c : entOk L[i] = true := by unfold entOk; simp only [y6, decide_eq_true_eq]; omega
   have w3 : wrp .i64 ((i : Int) - 1) = ((i - 1 : Nat) : Int) := by rw [zb1z (by omega) (by omega)]; omega
   have he3 : L[(wrp .i64 ((i : Int) - 1)).toNat]? = some L[i - 1] := by rw [w3, y28]; exact y7 (by omega)
   have hq := h1 L[i - 1] (by omega) (y7 (by omega))
   refine Ev.pos (by rw [w3]; omega) (Ev.opt he3 (Ev.ite (fun c4 => Ev.ret' ?_) fun c4 => ?_))
   ·rw [c, decide_eq_false (show ¬ last < L[i].Proc by omega)]; rfl
   ·rw [c, decide_eq_true (show last < L[i].Proc by omega), w1]; simpa using ih
  ·have c : entOk L[i] = true := by unfold entOk; simp only [y6, decide_eq_true_eq]; omega
   have := h0 (by omega)
   rw [c, decide_eq_true (show last < L[i].Proc by omega), w1]; simpa using ih
theorem zb43 (s : Sl zji) (hL : s.l.length ≤ 1000000) : Ev (fun q => zm6 q s) (tabB (-1) s.l) :=
 Ev.succ (zb42 s.z s.l hL s.l.length 0 (-1) (by omega) (fun e h => by omega) (fun _ => rfl)) (fun q => rfl)
def mayN (s : zjj) : Bool := decide (0 ≤ s.Index) && (decide (s.Index < 4611686018427387904) && (mayS s.State && tabB (-1) s.Table.l))
theorem zb44 (s : zjj) (h1 : s.State.L.l.length ≤ 1000000) (h2 : s.Table.l.length ≤ 1000000) : Ev (fun q => zkk q s) (mayN s) := by
 unfold mayN
 refine Ev.succ (Ev.ite (fun c1 => Ev.ite (fun c2 => Ev.bind (zb4v _ h1) (Ev.ite (fun c3 => Ev.bind (zb41 _ h2) (Ev.ret' ?_)) fun c3 => Ev.ret' ?_)) fun c2 => Ev.ret' ?_) fun c1 => Ev.ret' ?_) (fun q => rfl)
 ·simp [c1, c2, c3]
 ·simp [c3]
 ·simp [c2]
 ·simp [c1]
theorem zb45 (s : zjj) (h1 : s.State.L.l.length ≤ 1000000) (h2 : s.Table.l.length ≤ 1000000) : Ev (fun q => zm7 q s) (mayN s) := by
 unfold mayN
 refine Ev.succ (Ev.bind (zb4y _ h1) (Ev.bind (zb43 _ h2) (Ev.ite (fun c1 => Ev.ite (fun c2 => Ev.ite (fun c3 => Ev.ret' ?_) fun c3 => Ev.ret' ?_) fun c2 => Ev.ret' ?_) fun c1 => Ev.ret' ?_))) (fun q => rfl)
 ·simp [c1, c2, c3]
 ·simp [c3]
 ·simp only [Bool.not_eq_true] at c2; simp [c2]
 ·simp only [Bool.not_eq_true] at c1; simp [c1]
instance : DecidableEq zji := fun a b => if h : a.Proc = b.Proc ∧ a.Seq = b.Seq ∧ a.Resp = b.Resp then isTrue (by cases a; cases b; simp_all) else isFalse (fun e => h (by rw [e]; exact ⟨rfl, rfl, rfl⟩))
theorem zb46 {a b : zji} (h1 : a.Proc = b.Proc) (h2 : a.Seq = b.Seq) (h3 : a.Resp = b.Resp) : a = b := by cases a; cases b; simp_all
theorem zb47 {least : Int} : ∀ {l : List Int} {last : Int}, prs least last l = true → l.length % 2 = 0 → -1 ≤ last → -1099511627776 ≤ least → ∀ x ∈ l, -1099511627776 ≤ x ∧ x ≤ 1099511627776
 | [], last, h, h2, h3, h4, x, hx => by cases hx
 | [a], last, h, h2, h3, h4, x, hx => by simp at h2
 | a :: b :: t, last, h, h2, h3, h4, x, hx => by
  simp only [prs, y6, decide_eq_true_eq] at h
  simp only [y21] at h2
  rcases List.mem_cons.1 hx with e | e
  ·omega
  ·rcases List.mem_cons.1 e with e | e
   ·omega
   ·exact zb47 h.2.2.2.2 (by omega) (by omega) h4 x e
theorem zb48 {l : List Int} (h : cutsB l) : ∀ x ∈ l, -1099511627776 ≤ x ∧ x ≤ 1099511627776 := fun x hx => zb2h.1 (h x hx)
theorem zb49 {k : Int} {l : List Int} (h : kindOk k l = true) : 0 ≤ k ∧ k ≤ 5 ∧ l.length ≤ 128 ∧ ∀ x ∈ l, -1099511627776 ≤ x ∧ x ≤ 1099511627776 := by
 unfold kindOk at h
 split at h
 ·simp only [decide_eq_true_eq] at h; exact ⟨by omega, by omega, by omega, zb48 h.2⟩
 ·split at h
  ·simp only [decide_eq_true_eq] at h; exact ⟨by omega, by omega, by omega, zb48 h.2⟩
  ·split at h
   ·simp only [pairsOk, y6, decide_eq_true_eq] at h; exact ⟨by omega, by omega, by omega, zb47 h.1 h.2.1 (by omega) (by omega)⟩
   ·split at h
    ·simp only [pairsOk, y6, decide_eq_true_eq] at h; exact ⟨by omega, by omega, by omega, zb47 h.1 h.2.1 (by omega) (by omega)⟩
    ·cases h
theorem zb5a {s : zjh} (h : mayS s = true) : 0 ≤ s.To ∧ s.To ≤ 2 ∧ (s.Sealed = false → s.To = 0) ∧ kindOk s.Kind s.L.l = true := by
 unfold mayS at h
 split at h
 ·cases h
 ·split at h
  ·cases h
  ·split at h
   ·rename_i h1 h2 h3; exact ⟨by omega, by omega, fun e => (by rw [e] at h3; cases h3), h⟩
   ·split at h
    ·rename_i h1 h2 h3 h4; exact ⟨by omega, by omega, fun _ => h4, h⟩
    ·cases h
theorem zb5b {e : zji} (h : entOk e = true) : 0 ≤ e.Proc ∧ e.Proc ≤ 64 ∧ 0 ≤ e.Seq ∧ e.Seq < 4611686018427387904 ∧ -1125899906842624 ≤ e.Resp ∧ e.Resp ≤ 1125899906842624 := by
 simpa only [entOk, y6, decide_eq_true_eq] using h
theorem zb5c : ∀ {t : List zji} {last : Int}, tabB last t = true → ∀ e ∈ t, entOk e = true
 | [], last, h, e, he => by cases he
 | a :: t, last, h, e, he => by
  simp only [tabB, y6] at h
  rcases List.mem_cons.1 he with r | r
  ·rw [r]; exact h.1
  ·exact zb5c h.2.2 e r
theorem zb5d {s : zjj} (h : mayN s = true) : 0 ≤ s.Index ∧ s.Index < 4611686018427387904 ∧ mayS s.State = true ∧ tabB (-1) s.Table.l = true := by
 simpa only [mayN, y6, decide_eq_true_eq] using h
/-- A table has at most 65 entries. -/
theorem zb5e : ∀ {t : List zji} {last : Int}, tabB last t = true → -1 ≤ last → (t.length : Int) + last ≤ 64 ∨ t = []
 | [], last, h, h1 => .inr rfl
 | a :: t, last, h, h1 => by
  simp only [tabB, y6, decide_eq_true_eq] at h
  have ha := zb5b h.1
  rcases zb5e h.2.2 (by omega) with e | e
  ·left; rw [y21]; omega
  ·left; rw [e]; simp only [y21, y25]; omega
def sealN (s : zjh) : Int := if s.Sealed = true then s.To + 1 else 0
def numsB (l : List Int) : List Int := l.flatMap putS
theorem zb5f (x : Int) (l : List Int) : numsB (x :: l) = putS x ++ numsB l := by simp [numsB]
def inT (l : List Int) : Prop := ∀ x ∈ l, -1099511627776 ≤ x ∧ x ≤ 1099511627776
theorem inT_R {l : List Int} (h : inT l) {x : Int} (hx : x ∈ l) : inR .i64 x := by have := h x hx; exact zb2k (by omega) (by omega)
theorem zb5g {x : Int} {l : List Int} (h : inT (x :: l)) : inR .i64 x ∧ inT l := ⟨inT_R h y32, fun y hy => h y (y36 _ hy)⟩
theorem zb5h : ∀ {l : List Int}, inT l → (numsB l).length ≤ 10 * l.length
 | [], h => by simp [numsB]
 | x :: l, h => by
  have h2 := zb5h (zb5g h).2
  have h1 := zb2j (zb5g h).1
  rw [zb5f, y10, y21]; omega
theorem zb5i (n : Int) : isB (putS n) := zb3d _
theorem zb5j : ∀ {l : List Int}, isB (numsB l)
 | [] => fun c hc => by simp [numsB] at hc
 | x :: l => by rw [zb5f]; exact zb3f.2 ⟨zb5i _, zb5j⟩
def stateB (s : zjh) : List Int := ((put s.Kind ++ put (sealN s)) ++ put (s.L.l.length : Int)) ++ numsB s.L.l
theorem zb5k {s : zjh} (h : inT s.L.l) : (stateB s).length ≤ 30 + 10 * s.L.l.length := by
 have h1 := zb18 s.Kind; have h2 := zb18 (sealN s); have h3 := zb18 (s.L.l.length : Int); have h4 := zb5h h
 simp only [stateB, y10]; omega
theorem zb5l {s : zjh} : isB (stateB s) := zb3f.2 ⟨zb3f.2 ⟨zb3f.2 ⟨zb3e _, zb3e _⟩, zb3e _⟩, zb5j⟩
theorem zb5m (z : Bool) (L : List Int) (hL : L.length ≤ 1000000) (hT : inT L) : ∀ (k i : Nat) (l : List Int), L.length = i + k → l.length ≤ 1000 + 10 * i →
  Ev (fun q => zkr q z L (L.length : Int) (i : Int) false l true) (⟨false, true, l ++ numsB (L.drop i)⟩, 0)
 | 0, i, l, hk, hl => by
  refine Ev.succ (Ev.ne (Ev.ret' ?_)) (fun q => rfl)
  rw [y12 (by omega)]; simp [numsB]
 | k + 1, i, l, hk, hl => by
  have hi : i < L.length := by omega
  have he : L[((i : Int)).toNat]? = some L[i] := by simp [hi]
  have hr := inT_R hT (y26 hi)
  have hp := zb2j hr
  have ih := zb5m z L hL hT k (i + 1) (l ++ putS L[i]) (by omega) (by rw [y10]; omega)
  rw [show ((i + 1 : Nat) : Int) = wrp .i64 ((i : Int) + 1) by rw [zb1z (by omega) (by omega)]; omega] at ih
  refine Ev.succ (Ev.po (Ev.po (Ev.opt he (Ev.bind (zb2d ⟨false, true, l⟩ hr (by simp only; omega)) (Ev.cast ih ?_))))) (fun q => rfl)
  rw [y9 hi, zb5f, y33]
theorem zb5n {s : zjh} (h : mayS s = true) : 0 ≤ sealN s ∧ sealN s ≤ 3 := by
 have := zb5a h; unfold sealN; split <;> omega
theorem zb5o {s : zjh} (h : mayS s = true) : Ev (fun q => zko q s) (sealN s) := by
 have hm := zb5a h
 unfold sealN
 refine Ev.succ (Ev.ite (fun c => Ev.ret' ?_) fun c => Ev.ret' ?_) (fun q => rfl)
 ·rw [if_pos c, zb1z (by omega) (by omega)]
 ·rw [if_neg c]
theorem zb5p {s : zjh} (h : mayS s = true) : Ev (fun q => zks q s) (⟨false, true, stateB s⟩, 0) := by
 have hm := zb5a h
 have hk := zb49 hm.2.2.2
 have hs := zb5n h
 have hM := zb4v s (by omega)
 rw [h] at hM
 have p1 := zb18 s.Kind; have p2 := zb18 (sealN s); have p3 := zb18 (s.L.l.length : Int)
 have hl := zb5m s.L.z s.L.l (by omega) hk.2.2.2 s.L.l.length 0 ((put s.Kind ++ put (sealN s)) ++ put (s.L.l.length : Int)) (by omega) (by simp only [y10]; omega)
 rw [y38] at hl
 exact Ev.succ (Ev.bind hM (Ev.pos rfl (Ev.bind (zb19 ⟨true, true, []⟩ (by omega) (by omega) (by simp)) (Ev.bind (zb5o h) (Ev.bind (zb19 _ (by omega) (by omega) (by simp only [y47]; omega)) (Ev.bind (zb19 _ (by omega) (by omega) (by simp only [y47, y10]; omega)) hl)))))) (fun q => rfl)
def entB (e : zji) : List Int := put e.Proc ++ (put e.Seq ++ putS e.Resp)
def tabE (l : List zji) : List Int := l.flatMap entB
theorem zb5q (e : zji) (l : List zji) : tabE (e :: l) = entB e ++ tabE l := by simp [tabE]
def entsOk (l : List zji) : Prop := ∀ e ∈ l, entOk e = true
theorem zb5r {e : zji} (h : entOk e = true) : inR .i64 e.Resp := by have := zb5b h; exact zb2k (by omega) (by omega)
theorem zb5s {e : zji} (h : entOk e = true) : (entB e).length ≤ 30 := by
 have h1 := zb18 e.Proc; have h2 := zb18 e.Seq; have h3 := zb2j (zb5r h)
 simp only [entB, y10]; omega
theorem zb5t {e : zji} : isB (entB e) := zb3f.2 ⟨zb3e _, zb3f.2 ⟨zb3e _, zb5i _⟩⟩
theorem zb5u : ∀ {l : List zji}, entsOk l → (tabE l).length ≤ 30 * l.length
 | [], h => by simp [tabE]
 | e :: l, h => by
  have h1 := zb5s (h e y32)
  have h2 := zb5u (l := l) fun x hx => h x (y36 _ hx)
  rw [zb5q, y10, y21]; omega
theorem zb5v : ∀ {l : List zji}, isB (tabE l)
 | [] => fun c hc => by simp [tabE] at hc
 | e :: l => by rw [zb5q]; exact zb3f.2 ⟨zb5t, zb5v⟩
def wholeB (s : zjj) : List Int := ((put ((stateB s.State).length : Int) ++ stateB s.State) ++ put (s.Table.l.length : Int)) ++ tabE s.Table.l
theorem zb5w (z : Bool) (L : List zji) (hL : L.length ≤ 1000000) (hT : entsOk L) : ∀ (k i : Nat) (l : List Int), L.length = i + k → l.length ≤ 10000 + 30 * i →
  Ev (fun q => zkt q z L (L.length : Int) (i : Int) false l true) ⟨false, true, l ++ tabE (L.drop i)⟩
 | 0, i, l, hk, hl => by
  refine Ev.succ (Ev.ne (Ev.ret' ?_)) (fun q => rfl)
  rw [y12 (by omega)]; simp [tabE]
 | k + 1, i, l, hk, hl => by
  have hi : i < L.length := by omega
  have he : L[((i : Int)).toNat]? = some L[i] := by simp [hi]
  have hr := hT L[i] (y26 hi)
  have ho := zb5b hr
  have p1 := zb18 L[i].Proc; have p2 := zb18 L[i].Seq; have p3 := zb2j (zb5r hr)
  have ih := zb5w z L hL hT k (i + 1) (((l ++ put L[i].Proc) ++ put L[i].Seq) ++ putS L[i].Resp) (by omega) (by simp only [y10]; omega)
  rw [show ((i + 1 : Nat) : Int) = wrp .i64 ((i : Int) + 1) by rw [zb1z (by omega) (by omega)]; omega] at ih
  refine Ev.succ (Ev.po (Ev.po (Ev.opt he (Ev.bind (zb19 ⟨false, true, l⟩ (by omega) (by omega) (by simp only; omega)) (Ev.bind (zb19 _ (by omega) (by omega) (by simp only [y10]; omega)) (Ev.bind (zb2d _ (zb5r hr) (by simp only [y10]; omega)) (Ev.cast ih ?_))))))) (fun q => rfl)
  rw [y9 hi, zb5q, entB]; simp only [y33]
theorem zb5x {s : zjj} (h : mayN s = true) : (wholeB s).length ≤ 5000 ∧ (stateB s.State).length ≤ 1310 ∧ s.Table.l.length ≤ 65 := by
 have hm := zb5d h
 have hk := zb49 (zb5a hm.2.2.1).2.2.2
 have h1 := zb5k (s := s.State) hk.2.2.2
 have h2 := zb5u (zb5c hm.2.2.2)
 have h3 := zb5e hm.2.2.2 (by omega)
 have h4 : s.Table.l.length ≤ 65 := by
  rcases h3 with e | e
  ·omega
  ·rw [e]; simp
 have p1 := zb18 ((stateB s.State).length : Int); have p2 := zb18 (s.Table.l.length : Int)
 simp only [wholeB, y10]; omega
theorem zb5y {s : zjj} : isB (wholeB s) := zb3f.2 ⟨zb3f.2 ⟨zb3f.2 ⟨zb3e _, zb5l⟩, zb3e _⟩, zb5v⟩
theorem zb5z {s : zjj} (h : mayN s = true) : Ev (fun q => zku q s) ⟨false, true, wholeB s⟩ := by
 have hm := zb5d h
 have hl := zb5x h
 have p1 := zb18 ((stateB s.State).length : Int); have p2 := zb18 (s.Table.l.length : Int)
 have hw := zb5w s.Table.z s.Table.l (by omega) (zb5c hm.2.2.2) s.Table.l.length 0 ((put ((stateB s.State).length : Int) ++ stateB s.State) ++ put (s.Table.l.length : Int)) (by omega) (by simp only [y10]; omega)
 rw [y38] at hw
 exact Ev.succ (Ev.bind (zb5p hm.2.2.1) (Ev.bind (zb19 ⟨true, true, []⟩ (by omega) (by simp only; omega) (by simp)) (Ev.pos (by simp only [y47]; omega) (Ev.bind (zb19 _ (by omega) (by omega) (by simp only [y47, y10]; omega)) hw)))) (fun q => rfl)
/-- Pieces of 64 bytes. -/
def chks : Nat → List Int → List (List Int)
 | 0, _ => []
 | k + 1, l => if l.length = 0 then [] else l.take 64 :: chks k (l.drop 64)
def frsB (F : List (List Int)) : List Int := (F.map encF).flatten
theorem zb50 (f : List Int) (F : List (List Int)) : frsB (f :: F) = encF f ++ frsB F := by simp [frsB]
theorem zb51 (l : List Int) : (encF l).length = (put (l.length : Int)).length + l.length + 4 := by
 simp only [encF, fix4, y10, y21, y25]; omega
theorem zb52 (s : Sl Int) (hb : isB s.l) (hl : s.l.length ≤ 1048576) : ∃ z, Ev (fun q => zlb q s) ⟨z, true, encF s.l⟩ := by
 obtain ⟨z, h⟩ := zb3g s hb hl
 exact ⟨z, Ev.succ (Ev.bind h (Ev.ret _)) (fun q => rfl)⟩
theorem min64 (n : Nat) : (if 64 < (n : Int) then 64 else (n : Int)) = ((min 64 n : Nat) : Int) := by
 split <;> omega
theorem zb53 (z : Bool) (L : List Int) (hL : L.length ≤ 1000000) (hb : isB L) : ∀ (k i n : Nat) (hz : Bool) (l : List Int), L.length = i + n → n ≤ k → l.length ≤ 1000 + 20 * i →
  ∃ z', (hz = false → z' = false) ∧ Ev (fun q => zlc q i n z L hz l true) (⟨z', true, l ++ frsB (chks k (L.drop i))⟩, 0)
 | 0, i, n, hz, l, hk, hn, hl => by
  refine ⟨hz, id, Ev.succ (Ev.ne (Ev.ret' ?_)) (fun q => rfl)⟩
  simp [chks, frsB]
 | k + 1, i, n, hz, l, hk, hn, hl => by
  by_cases h0 : n = 0
  ·refine ⟨hz, id, Ev.succ (Ev.ne (Ev.ret' ?_)) (fun q => rfl)⟩
   rw [y12 (by omega)]; simp [chks, frsB]
  ·have ht : ((L.drop i).take (min 64 n)).length = min 64 n := by rw [y20, y13]; omega
   have p := zb18 (((L.drop i).take (min 64 n)).length : Int)
   have he := zb51 ((L.drop i).take (min 64 n))
   obtain ⟨z1, hF⟩ := zb52 ⟨z, (L.drop i).take (min 64 n)⟩ (zb3r (zb3s hb _) _) (by simp only; omega)
   obtain ⟨z', hzz, ih⟩ := zb53 z L hL hb k (i + min 64 n) (n - min 64 n) (hz && (decide ((encF ((L.drop i).take (min 64 n))).length = 0))) (l ++ encF ((L.drop i).take (min 64 n))) (by omega) (by omega) (by simp only [y10]; omega)
   refine ⟨z', fun h => hzz (by rw [h]; rfl), Ev.succ (Ev.pos (by omega) ?_) (fun q => rfl)⟩
   rw [min64 n, y28]
   refine Ev.po (Ev.po (Ev.po (Ev.bind hF (Ev.pos (by simp only; omega) (Ev.po (Ev.cast ih ?_))))))
   simp only [chks]
   rw [if_neg (by rw [y13]; omega), zb50, y33, y50]
   by_cases hn : n ≤ 64
   ·rw [Nat.min_eq_right hn, List.take_of_length_le (by rw [y13]; omega), List.take_of_length_le (by rw [y13]; omega), y12 (l := L) (i := i + n) (by omega), y12 (l := L) (i := i + 64) (by omega)]
   ·rw [Nat.min_eq_left (by omega)]
theorem zb54 (z x : Bool) (L : List Int) (hL : L.length ≤ 1000000) (hb : isB L) (hz : Bool) (l : List Int) (hl : l.length ≤ 900) :
  ∃ z', (L.length ≠ 0 → z' = false) ∧ Ev (fun q => zld q z L x hz l true) (⟨z', true, l ++ frsB (chks L.length L)⟩, 0) := by
 by_cases h0 : L.length = 0
 ·refine ⟨hz, fun h => absurd h0 h, Ev.succ (Ev.ne (Ev.ret' ?_)) (fun q => rfl)⟩
  rw [h0]; simp [chks, frsB]
 ·have ht : (L.take (min 64 L.length)).length = min 64 L.length := by rw [y20]; omega
  have p := zb18 ((L.take (min 64 L.length)).length : Int)
  have he := zb51 (L.take (min 64 L.length))
  obtain ⟨z1, hF⟩ := zb52 ⟨z, L.take (min 64 L.length)⟩ (zb3r hb _) (by simp only; omega)
  obtain ⟨z', hzz, ih⟩ := zb53 z L hL hb (L.length - 1) (min 64 L.length) (L.length - min 64 L.length) (hz && (decide ((encF (L.take (min 64 L.length))).length = 0))) (l ++ encF (L.take (min 64 L.length))) (by omega) (by omega) (by simp only [y10]; omega)
  refine ⟨z', fun _ => hzz (by rw [decide_eq_false (by omega), Bool.and_false]), Ev.succ (Ev.pos (by omega) ?_) (fun q => rfl)⟩
  rw [min64 L.length, y28]
  refine Ev.po (Ev.po (Ev.po (Ev.bind hF (Ev.pos (by simp only; omega) (Ev.cast ih ?_)))))
  obtain ⟨m, hm⟩ : ∃ m, L.length = m + 1 := ⟨L.length - 1, by omega⟩
  have hc : chks L.length L = L.take 64 :: chks (L.length - 1) (L.drop 64) := by rw [hm]; simp only [chks]; rw [if_neg (by omega)]; rfl
  rw [hc, zb50, y33]
  by_cases hn : L.length ≤ 64
  ·rw [Nat.min_eq_right hn, List.take_of_length_le (by omega), List.take_of_length_le hn, y12 (by omega), y12 (by omega)]
  ·rw [Nat.min_eq_left (by omega)]
/-- What the first frame tells. -/
def manB (i : Int) (w : List Int) : List Int := ((([115] ++ put 3) ++ put i) ++ put (w.length : Int)) ++ fix4 (bsum w).toNat
def snapB (s : zjj) : List Int := encF (manB s.Index (wholeB s)) ++ frsB (chks (wholeB s).length (wholeB s))
theorem zb55 (i : Int) (w : List Int) : (manB i w).length ≤ 35 := by
 have h1 := zb18 3; have h2 := zb18 i; have h3 := zb18 (w.length : Int)
 simp only [manB, fix4, y10, y21, y25]; omega
theorem zb56 (v : Nat) : isB (fix4 v) := by
 intro c hc; simp only [fix4, List.mem_cons, List.not_mem_nil, or_false] at hc; omega
theorem zb57 (i : Int) (w : List Int) : isB (manB i w) := by
 refine zb3f.2 ⟨zb3f.2 ⟨zb3f.2 ⟨zb3f.2 ⟨?_, zb3e _⟩, zb3e _⟩, zb3e _⟩, zb56 _⟩
 intro c hc; simp only [List.mem_cons, List.not_mem_nil, or_false] at hc; omega
theorem zb58 (s : zjj) (h1 : s.State.L.l.length ≤ 1000000) (h2 : s.Table.l.length ≤ 1000000) : ∃ z, (mayN s = true → z = false) ∧ Ev (fun q => zle q s) (if mayN s = true then (⟨z, true, snapB s⟩, 0) else (⟨true, true, []⟩, 1)) := by
 by_cases h : mayN s = true
 ·have hm := zb5d h
  have hl := zb5x h
  have q1 := zb18 3; have q2 := zb18 s.Index; have q3 := zb18 ((wholeB s).length : Int)
  have hml := zb55 s.Index (wholeB s)
  obtain ⟨z1, hF⟩ := zb52 ⟨false && (decide ((fix4 (bsum (wholeB s)).toNat).length = 0)), manB s.Index (wholeB s)⟩ (zb57 _ _) (by simp only; omega)
  have he := zb51 (manB s.Index (wholeB s)); have p := zb18 ((manB s.Index (wholeB s)).length : Int)
  obtain ⟨z, hzf, hE⟩ := zb54 false true (wholeB s) (by omega) zb5y z1 (encF (manB s.Index (wholeB s))) (by omega)
  refine ⟨z, fun _ => hzf (by have : 1 ≤ (put ((stateB s.State).length : Int)).length := (by rw [put_ok (by omega) (by omega)]; exact zb15 _); simp only [wholeB, y10]; omega), ?_⟩
  rw [if_pos h]
  refine Ev.succ (Ev.bind (zb44 s h1 h2) (Ev.pos h (Ev.bind (zb5z h) (Ev.bind (zb19 ⟨false, true, [115]⟩ (by omega) (by omega) (by simp)) (Ev.bind (zb19 _ (by omega) (by omega) (by simp only [y10, y21, y25]; omega)) (Ev.bind (zb19 _ (by omega) (by simp only; omega) (by simp only [y10, y21, y25]; omega)) (Ev.bind (zb2z ⟨false, wholeB s⟩ zb5y (by simp only; omega)) (Ev.bind (zb26 _) (Ev.pos ?_ (Ev.bind hF hE))))))))) ) (fun q => rfl)
  simp only [fix4, y10, y21, y25]; omega
 ·refine ⟨true, fun e => absurd e h, ?_⟩
  rw [if_neg h]
  exact Ev.succ (Ev.bind (zb44 s h1 h2) (Ev.neg h (Ev.ret _))) (fun q => rfl)
theorem zb59 (s : zjj) (h1 : s.State.L.l.length ≤ 1000000) (h2 : s.Table.l.length ≤ 1000000) : ∃ z, Ev (fun q => zle q s) (if mayN s = true then (⟨z, true, snapB s⟩, 0) else (⟨true, true, []⟩, 1)) := by
 obtain ⟨z, _, h⟩ := zb58 s h1 h2
 exact ⟨z, h⟩
/-- The same states, the same snapshots. -/
def sameS (a b : zjh) : Bool := decide (a.Kind = b.Kind) && (decide (a.Sealed = b.Sealed) && (decide (a.To = b.To) && decide (a.L.l = b.L.l)))
def sameN (a b : zjj) : Bool := decide (a.Index = b.Index) && (sameS a.State b.State && decide (a.Table.l = b.Table.l))
theorem zb6a (x0 : Int) (xz : Bool) (A : List Int) (x2 : Bool) (x3 y0 : Int) (yz : Bool) (B : List Int) (y2 : Bool) (y3 : Int) (hl : A.length = B.length) (hL : A.length ≤ 1099511627776) : ∀ (k i : Nat), A.length = i + k → Ev (fun q => zna q (i : Int) x0 xz A x2 x3 y0 yz B y2 y3) (decide (A.drop i = B.drop i))
 | 0, i, hk => by
  refine Ev.succ (Ev.ne (Ev.ret' ?_)) (fun q => rfl)
  rw [y12 (by omega), y12 (by omega)]; simp
 | k + 1, i, hk => by
  have hi : i < A.length := by omega
  have hi2 : i < B.length := by omega
  have hg : A[(i : Int).toNat]? = some A[i] := by simpa using y7 hi
  have hg2 : B[(i : Int).toNat]? = some B[i] := by simpa using y7 hi2
  refine Ev.succ (Ev.po (Ev.po (Ev.opt hg (Ev.opt hg2 ?_)))) (fun q => rfl)
  rw [y9 hi, y9 hi2]
  refine Ev.ite (fun h => ?_) fun h => Ev.ret' (by symm; rw [decide_eq_false_iff_not]; intro e; exact h (List.cons.inj e).1)
  rw [zb1z (by omega) (by omega), show ((i : Int) + 1) = ((i + 1 : Nat) : Int) by omega]
  refine (zb6a x0 xz A x2 x3 y0 yz B y2 y3 hl hL k (i + 1) (by omega)).cast ?_
  rw [decide_eq_decide, List.cons.injEq]; simp only [h, true_and]
theorem zb6b (a b : zjh) (hL : a.L.l.length ≤ 1099511627776) : Ev (fun q => znb q a b) (sameS a b) := by
 unfold sameS
 refine Ev.succ (Ev.ite (fun c1 => Ev.ite (fun c2 => Ev.ite (fun c3 => Ev.ite (fun c4 => ?_) fun c4 => Ev.ret' ?_) fun c3 => Ev.ret' ?_) fun c2 => Ev.ret' ?_) fun c1 => Ev.ret' ?_) (fun q => rfl)
 ·rw [beq_iff_eq] at c2
  refine Ev.cast (zb6a a.Kind a.L.z a.L.l a.Sealed a.To b.Kind b.L.z b.L.l b.Sealed b.To (by omega) hL a.L.l.length 0 (by omega)) ?_
  simp [c1, c2, c3]
 ·have : ¬ a.L.l = b.L.l := fun e => c4 (by rw [e])
  simp [this]
 ·simp [c3]
 ·rw [beq_iff_eq] at c2; simp [c2]
 ·simp [c1]
theorem zb6c (x0 x1 : Int) (xz : Bool) (xl : List Int) (x2 : Bool) (x3 : Int) (z : Bool) (A : List zji) (y0 y1 : Int) (yz : Bool) (yl : List Int) (y2 : Bool) (y3 : Int) (z2 : Bool) (B : List zji) (hl : A.length = B.length) (hL : A.length ≤ 1099511627776) : ∀ (k i : Nat), A.length = i + k → Ev (fun q => znc q (i : Int) x0 x1 xz xl x2 x3 z A y0 y1 yz yl y2 y3 z2 B) (decide (A.drop i = B.drop i))
 | 0, i, hk => by
  refine Ev.succ (Ev.ne (Ev.ret' ?_)) (fun q => rfl)
  rw [y12 (by omega), y12 (by omega)]; simp
 | k + 1, i, hk => by
  have hi : i < A.length := by omega
  have hi2 : i < B.length := by omega
  have hg : A[(i : Int).toNat]? = some A[i] := by simpa using y7 hi
  have hg2 : B[(i : Int).toNat]? = some B[i] := by simpa using y7 hi2
  have no : ¬ A[i] = B[i] → false = decide (A[i] :: A.drop (i + 1) = B[i] :: B.drop (i + 1)) := fun h => by
   symm; rw [decide_eq_false_iff_not]; intro e; exact h (List.cons.inj e).1
  rw [y9 hi, y9 hi2]
  refine Ev.succ (Ev.po (Ev.po (Ev.opt hg (Ev.opt hg2 (Ev.ite (fun c1 => Ev.ite (fun c2 => Ev.ite (fun c3 => ?_) fun c3 => Ev.ret' (no fun e => c3 (by rw [e]))) fun c2 => Ev.ret' (no fun e => c2 (by rw [e]))) fun c1 => Ev.ret' (no fun e => c1 (by rw [e]))))))) (fun q => rfl)
  rw [zb1z (by omega) (by omega), show ((i : Int) + 1) = ((i + 1 : Nat) : Int) by omega]
  refine (zb6c x0 x1 xz xl x2 x3 z A y0 y1 yz yl y2 y3 z2 B hl hL k (i + 1) (by omega)).cast ?_
  rw [decide_eq_decide, List.cons.injEq]; simp only [zb46 c1 c2 c3, true_and]
theorem zb6d (a b : zjj) (hL : a.State.L.l.length ≤ 1099511627776) (hT : a.Table.l.length ≤ 1099511627776) : Ev (fun q => znd q a b) (sameN a b) := by
 unfold sameN
 refine Ev.succ (Ev.bind (zb6b _ _ hL) (Ev.ite (fun c1 => Ev.ite (fun c2 => Ev.ite (fun c3 => ?_) fun c3 => Ev.ret' ?_) fun c2 => Ev.ret' ?_) fun c1 => Ev.ret' ?_)) (fun q => rfl)
 ·refine Ev.cast (zb6c a.Index a.State.Kind a.State.L.z a.State.L.l a.State.Sealed a.State.To a.Table.z a.Table.l b.Index b.State.Kind b.State.L.z b.State.L.l b.State.Sealed b.State.To b.Table.z b.Table.l (by omega) hT a.Table.l.length 0 (by omega)) ?_
  simp [c1, c2]
 ·have : ¬ a.Table.l = b.Table.l := fun e => c3 (by rw [e])
  simp [this]
 ·simp [c2]
 ·simp only [Bool.not_eq_true] at c1; simp [c1]
theorem zb6e (a : zjj) : sameN a a = true := by simp [sameN, sameS]
theorem mayC : mayS ⟨0, ⟨false, [0]⟩, false, 0⟩ = true := by
 simp [mayS, kindOk, cutsB, cutI]
theorem mayD (z z2 : Bool) : mayN ⟨1, ⟨0, ⟨z, [5]⟩, false, 0⟩, ⟨z2, [⟨2, 1, 0⟩]⟩⟩ = true := by
 simp [mayN, mayS, kindOk, cutsB, cutI, tabB, entOk]
theorem zb6f (z : Bool) : ∃ z', Ev (fun q => zkd q ⟨true, []⟩ ⟨0, 2, 1, ⟨1, 5, 0⟩, 0⟩) ⟨z', true, [⟨2, 1, 0⟩]⟩ := by
 have h68 : Ev (fun q => zj5 q ⟨true, []⟩) ⟨true, true, []⟩ := Ev.succ (g := fun _ => some ⟨true, true, []⟩) (Ev.ret _) (fun q => rfl)
 have hs00 : Ev (fun q => zj7 q 0 0 0 2 1 1 5 0 0 true [] true) (-1) := Ev.succ (g := fun _ => some (-1)) (Ev.ret _) (fun q => rfl)
 have hs0 : Ev (fun q => zj8 q 0 2 1 1 5 0 0 true [] true) (-1) := Ev.succ hs00 (fun q => rfl)
 have h0 : Ev (fun q => zka q 0 2 1 1 5 0 0 true [] true) (0, [], true) := Ev.succ (Ev.bind hs0 (Ev.pos rfl (Ev.ret _))) (fun q => rfl)
 have hs10 : Ev (fun q => zkb q 0 0 0 0 2 1 1 5 0 0 true [] true) (-1) := Ev.succ (g := fun _ => some (-1)) (Ev.ret _) (fun q => rfl)
 have h1 : Ev (fun q => zkc q 0 0 2 1 1 5 0 0 true [] true) (-1) := Ev.succ hs10 (fun q => rfl)
 have h72 : Ev (fun q => zj6 q ⟨true, true, []⟩ 0 ⟨false, [⟨2, 1, 0⟩]⟩) ⟨false, true, [⟨2, 1, 0⟩]⟩ := by
  refine Ev.succ (g := fun _ => some ⟨false, true, [⟨2, 1, 0⟩]⟩) (Ev.ret _) (fun q => rfl)
 exact ⟨false, Ev.succ (Ev.bind h68 (Ev.bind h0 (Ev.bind h1 (Ev.po (Ev.pos rfl (Ev.bind h72 (Ev.ret _))))))) (fun q => rfl)⟩
theorem zb6g {s : zjh} {o : zjf} {n : Int} (h : s.L.l[0]? = some n) (hk : s.Kind = 0) (hc : o.Code = 1) : Ev (fun q => zju q s o) (⟨s.Kind, ⟨false, [cutI (wrp .i64 (n + cutI o.A))]⟩, s.Sealed, s.To⟩, n) := by
 refine Ev.succ (Ev.opt h (Ev.ne (Ev.pos hk (Ev.pos hc ?_)))) (fun q => rfl)
 exact Ev.bind (zb2e _) (Ev.bind (zb2e _) (Ev.ret _))
theorem zb6h {s : zjh} {o : zjf} {n : Int} (hm : mayS s = true) (hL : s.L.l.length ≤ 1000000) (hs : s.Sealed = false) (h : s.L.l[0]? = some n) (hk : s.Kind = 0) (hc : o.Code = 1) : Ev (fun q => zj4 q s o) (⟨s.Kind, ⟨false, [cutI (wrp .i64 (n + cutI o.A))]⟩, s.Sealed, s.To⟩, n) := by
 have hM := zb4v s hL
 exact Ev.succ (Ev.bind hM (Ev.pos hm (Ev.neg (by rw [hs]; simp) (Ev.ne (Ev.pos hk (Ev.bind (zb6g h hk hc) (Ev.ret _))))))) (fun q => rfl)
theorem zb6i : Ev (fun q => zj4 q ⟨0, ⟨false, [0]⟩, false, 0⟩ ⟨1, 5, 0⟩) (⟨0, ⟨false, [5]⟩, false, 0⟩, 0) := by
 have := zb6h (s := ⟨0, ⟨false, [0]⟩, false, 0⟩) (o := ⟨1, 5, 0⟩) (n := 0) mayC (by simp) rfl rfl rfl rfl
 have e : cutI (wrp .i64 (0 + cutI 5)) = 5 := by rw [show cutI 5 = 5 by simp [cutI], zb1z (by omega) (by omega)]; simp [cutI]
 simp only [e] at this
 exact this
theorem zb6j {s : zjj} {r : Sl zjg} {e : zjg} {t : zjh} {n : Int} {z : Bool} {T : List zji} (h1 : r.l[0]? = some e) (h2 : r.l.length = 1) (hi : e.Index = s.Index) (hf : FitsR e)
  (hS : Ev (fun q => zj4 q s.State e.Op) (t, n)) (hN : Ev (fun q => zkd q s.Table ⟨e.Index, e.Proc, e.Seq, e.Op, n⟩) ⟨z, true, T⟩) : Ev (fun q => zkg q s r) (⟨wrp .i64 (s.Index + 1), t, ⟨z, T⟩⟩, 0) := by
 have w1 : wrp .i64 1 = 1 := zb1z (by omega) (by omega)
 have hl : ∀ a : Int, a = 1 → Ev (fun q => zke q r.z r.l (r.l.length : Int) a (wrp .i64 (s.Index + 1)) t.Kind t.L.z t.L.l t.Sealed t.To z T true) (⟨wrp .i64 (s.Index + 1), t, ⟨z, T⟩⟩, 0) := fun a ha =>
  Ev.succ (Ev.ne (Ev.ret _)) (fun q => rfl)
 have h0 : Ev (fun q => zkf q r.z r.l (r.l.length : Int) s.Index s.State.Kind s.State.L.z s.State.L.l s.State.Sealed s.State.To s.Table.z s.Table.l) (⟨wrp .i64 (s.Index + 1), t, ⟨z, T⟩⟩, 0) :=
  Ev.succ (Ev.po (Ev.opt h1 (Ev.pos hi (Ev.bind (zb2i e) (Ev.pos (by simpa using hf) (Ev.bind hS (Ev.bind hN (hl _ w1)))))))) (fun q => rfl)
 exact Ev.succ h0 (fun q => rfl)
theorem zb6k : ∃ z z', Ev (fun q => zkg q ⟨0, ⟨0, ⟨false, [0]⟩, false, 0⟩, ⟨true, []⟩⟩ ⟨false, [⟨0, 2, 1, ⟨1, 5, 0⟩, 0⟩]⟩) (⟨1, ⟨0, ⟨z, [5]⟩, false, 0⟩, ⟨z', [⟨2, 1, 0⟩]⟩⟩, 0) := by
 obtain ⟨z', hN⟩ := zb6f true
 have w2 : wrp .i64 (0 + 1) = 1 := zb1z (by omega) (by omega)
 have := zb6j (s := ⟨0, ⟨0, ⟨false, [0]⟩, false, 0⟩, ⟨true, []⟩⟩) (r := ⟨false, [⟨0, 2, 1, ⟨1, 5, 0⟩, 0⟩]⟩) rfl rfl rfl (by simp [FitsR, fitsOp, cutI]) zb6i hN
 simp only [w2] at this
 exact ⟨false, z', this⟩
theorem zb6l (s : zjj) : 10 < (snapB s).length := by
 have h := zb51 (manB s.Index (wholeB s))
 have g : ∀ n : Int, (put n).length = 0 ∨ 1 ≤ (put n).length := fun n => by omega
 have p3 : 1 ≤ (put 3).length := by rw [put_ok (by omega) (by omega)]; exact zb15 _
 have p4 : 1 ≤ (put ((manB s.Index (wholeB s)).length : Int)).length := by
  have := zb55 s.Index (wholeB s)
  rw [put_ok (by omega) (by omega)]; exact zb15 _
 have p5 : 1 + 1 + 4 ≤ (manB s.Index (wholeB s)).length := by simp only [manB, fix4, y10, y21, y25]; omega
 simp only [snapB, y10]; omega
theorem zb6m : Ev (fun q => zlf q) true := by
 obtain ⟨z, z', hT⟩ := zb6k
 obtain ⟨z2, hE⟩ := zb59 ⟨1, ⟨0, ⟨z, [5]⟩, false, 0⟩, ⟨z', [⟨2, 1, 0⟩]⟩⟩ (by simp) (by simp)
 rw [if_pos (mayD z z')] at hE
 have hl := zb6l ⟨1, ⟨0, ⟨z, [5]⟩, false, 0⟩, ⟨z', [⟨2, 1, 0⟩]⟩⟩
 generalize snapB ⟨1, ⟨0, ⟨z, [5]⟩, false, 0⟩, ⟨z', [⟨2, 1, 0⟩]⟩⟩ = B at hE hl
 have e1 : (⟨1, ⟨0, ⟨z, [5]⟩, false, 0⟩, ⟨z', [⟨2, 1, 0⟩]⟩⟩ : zjj).Index = 1 := rfl
 have e2 : (⟨1, ⟨0, ⟨z, [5]⟩, false, 0⟩, ⟨z', [⟨2, 1, 0⟩]⟩⟩ : zjj).Table.l = [⟨2, 1, 0⟩] := rfl
 have e3 : (⟨1, ⟨0, ⟨z, [5]⟩, false, 0⟩, ⟨z', [⟨2, 1, 0⟩]⟩⟩ : zjj).State.L.l = [5] := rfl
 generalize (⟨1, ⟨0, ⟨z, [5]⟩, false, 0⟩, ⟨z', [⟨2, 1, 0⟩]⟩⟩ : zjj) = x at hT hE e1 e2 e3
 have e4 : x.Table.l[0]? = some ⟨2, 1, 0⟩ := by rw [e2]; rfl
 have e5 : x.State.L.l[0]? = some 5 := by rw [e3]; rfl
 refine Ev.succ (Ev.bind hT (Ev.bind hE ?_)) (fun q => rfl)
 refine Ev.pos rfl (Ev.pos rfl (Ev.pos (by simp only; omega) (Ev.pos e1 (Ev.pos (by simp only [e2]; rfl) (Ev.opt e4 (Ev.pos rfl (Ev.pos rfl (Ev.pos rfl (Ev.pos (by simp only [e3]; rfl) (Ev.opt e5 (Ev.ret' (by simp))))))))))))
theorem zb6n (n : Int) : 1 ≤ (putS n).length := zb15 _
theorem zb6o {l : List Int} (hb : isB l) (h : (getN l).2 ≠ 0) : l.take (getN l).2.toNat = put (getN l).1 := by
 unfold getN at h ⊢
 cases e : rd 0 l with
 | none => simp [e] at h
 | some p =>
  simp only [e] at h ⊢
  split
  ·rename_i h2; rw [if_pos h2] at h; simp at h
  ·rename_i h2
   have := (rd_inv hb (show rd 0 l = some (p.1, p.2) from e)).1
   simp only [y28]
   rw [this, put_ok (by omega) (by omega), y28]
theorem zb6p {l : List Int} (hb : isB l) (h : (getS l).2 ≠ 0) : l.take (getS l).2.toNat = putS (getS l).1 := by
 unfold getS at h ⊢
 cases e : rd 0 l with
 | none => simp [e] at h
 | some p =>
  have := (rd_inv hb (show rd 0 l = some (p.1, p.2) from e)).1
  simp only [y28]
  rw [this, putS, zb4i]
theorem zb6q {l : List Int} (hb : isB l) (h : 0 < (getN l).2) : l = put (getN l).1 ++ l.drop (getN l).2.toNat := by
 rw [← zb6o hb (by omega), List.take_append_drop]
theorem zb6r {l : List Int} (hb : isB l) (h : 0 < (getS l).2) : l = putS (getS l).1 ++ l.drop (getS l).2.toNat := by
 rw [← zb6p hb (by omega), List.take_append_drop]
theorem zb6s : ∀ {f : Nat} {l : List Int}, isB l → ∀ d ∈ (walkF f l).1, isB d ∧ d.length ≤ 1048576
 | 0, l, hb, d, h => by simp [walkF] at h
 | f + 1, l, hb, d, h => by
  simp only [walkF] at h
  split at h
  ·simp at h
  ·split at h
   ·rename_i h1 h2
    rcases List.mem_cons.1 h with e | e
    ·rw [e]
     exact ⟨zb3v hb, (zb3u (l := l) (x := (decF l).1) (n := (decF l).2.1) hb (by rw [← h2])).1⟩
    ·exact zb6s (zb3s hb _) d e
   ·simp at h
theorem zb6t {l : List Int} (hb : isB l) : ∀ d ∈ (allE l).1, isB d ∧ d.length ≤ 1048576 := by
 unfold allE
 split
 ·exact zb6s hb
 ·simp
theorem zb6u : ∀ {f : Nat} {l : List Int}, isB l → l.length < f → (walkF f l).2.2 = 0 → BB (walkF f l).1 = l
 | 0, l, hb, hf, h => by omega
 | f + 1, l, hb, hf, h => by
  simp only [walkF] at h ⊢
  split at h
  ·rename_i e; rw [if_pos e]; simp [BB, e]
  ·rename_i e
   rw [if_neg e]
   split at h
   ·rename_i e2
    rw [if_pos e2]
    obtain ⟨k1, k2, k3, k4, k5⟩ := zb3u (l := l) (x := (decF l).1) (n := (decF l).2.1) hb (by rw [← e2])
    have := zb6u (f := f) (l := l.drop (decF l).2.1.toNat) (zb3s hb _) (by rw [y13]; omega) h
    simp only [zb4h, this, k5, List.take_append_drop]
   ·rename_i e2; exact absurd h e2
theorem zb6v {l : List Int} (hb : isB l) (h : (allE l).2 = 0) : BB (allE l).1 = l := by
 unfold allE at h ⊢
 split at h
 ·rename_i e; rw [if_pos e]; exact zb6u hb (by omega) e
 ·rename_i e; exact absurd h e
theorem zb6w (F : List (List Int)) : frsB F = BB F := by simp [frsB, BB, List.flatMap]
def noS : zjh := ⟨0, ⟨true, []⟩, false, 0⟩
def nums : Nat → List Int → List Int × Bool × List Int
 | 0, b => ([], true, b)
 | k + 1, b => ((getS b).1 :: (nums k (b.drop (getS b).2.toNat)).1, decide (0 < (getS b).2) && (nums k (b.drop (getS b).2.toNat)).2.1, (nums k (b.drop (getS b).2.toNat)).2.2)
theorem zb6x : ∀ {k : Nat} {b : List Int}, isB b → (nums k b).2.1 = true → b = numsB (nums k b).1 ++ (nums k b).2.2
 | 0, b, hb, h => by simp [nums, numsB]
 | k + 1, b, hb, h => by
  simp only [nums, y6, decide_eq_true_eq] at h ⊢
  rw [zb5f, y33, ← zb6x (zb3s hb _) h.2]
  exact zb6r hb h.1
theorem zb6y : ∀ {k : Nat} {b : List Int}, (nums k b).1.length = k
 | 0, b => rfl
 | k + 1, b => by simp only [nums, y21, zb6y]
/-- The state that was read. -/
def stR (x y : Int) (l : List Int) : zjh := ⟨x, ⟨l.isEmpty, l⟩, decide (0 < y), if y - 1 < 0 then 0 else y - 1⟩
def stD (b : List Int) : zjh × Int :=
 let x := getN b
 let b1 := b.drop x.2.toNat
 let y := getN b1
 let b2 := b1.drop y.2.toNat
 let z := getN b2
 let b3 := b2.drop z.2.toNat
 if 0 < x.2 ∧ 0 < y.2 ∧ 0 < z.2 ∧ y.1 ≤ 3 ∧ z.1 ≤ 128 then
  if (nums z.1.toNat b3).2.1 = true ∧ (nums z.1.toNat b3).2.2 = [] then
   if mayS (stR x.1 y.1 (nums z.1.toNat b3).1) = true then (stR x.1 y.1 (nums z.1.toNat b3).1, 0) else (noS, 1)
  else (noS, 3)
 else (noS, 3)
theorem zb6z {x y : Int} {l : List Int} (hy : 0 ≤ y) : sealN (stR x y l) = y := by
 unfold sealN stR
 by_cases h : 0 < y
 ·simp only [h, decide_true, if_true]; rw [if_neg (by omega)]; omega
 ·simp only [h, decide_false, y18, if_false]; omega
theorem zb60 {b : List Int} (hb : isB b) (h : (stD b).2 = 0) : mayS (stD b).1 = true ∧ stateB (stD b).1 = b := by
 simp only [stD] at h ⊢
 split at h
 ·rename_i c
  rw [if_pos c]
  split at h
  ·rename_i c2
   rw [if_pos c2]
   split at h
   ·rename_i c3
    rw [if_pos c3]
    refine ⟨c3, ?_⟩
    have y0 := (zb3l (l := b.drop (getN b).2.toNat)).2.2.2.1
    have z0 := zb3l (l := (b.drop (getN b).2.toNat).drop (getN (b.drop (getN b).2.toNat)).2.toNat)
    have hb1 := zb3s hb (getN b).2.toNat
    have hb2 := zb3s hb1 (getN (b.drop (getN b).2.toNat)).2.toNat
    have hb3 := zb3s hb2 (getN ((b.drop (getN b).2.toNat).drop (getN (b.drop (getN b).2.toNat)).2.toNat)).2.toNat
    have e0 := zb6q hb c.1
    have e1 := zb6q hb1 c.2.1
    have e2 := zb6q hb2 c.2.2.1
    have e3 := zb6x hb3 c2.1
    have hl := zb6y (k := (getN ((b.drop (getN b).2.toNat).drop (getN (b.drop (getN b).2.toNat)).2.toNat)).1.toNat) (b := ((b.drop (getN b).2.toNat).drop (getN (b.drop (getN b).2.toNat)).2.toNat).drop (getN ((b.drop (getN b).2.toNat).drop (getN (b.drop (getN b).2.toNat)).2.toNat)).2.toNat)
    rw [c2.2, List.append_nil] at e3
    simp only [stateB, zb6z y0]
    show ((put (getN b).1 ++ put _) ++ put (((nums _ _).1.length : Nat) : Int)) ++ numsB (nums _ _).1 = b
    rw [hl, Int.toNat_of_nonneg z0.2.2.2.1, ← e3, y33, y33, ← e2, ← e1, ← e0]
   ·cases h
  ·cases h
 ·cases h
def entD (b : List Int) : zji × Int :=
 let x := getN b
 let b1 := b.drop x.2.toNat
 let y := getN b1
 let b2 := b1.drop y.2.toNat
 let z := getS b2
 (⟨x.1, y.1, z.1⟩, if x.2 = 0 then 0 else if y.2 = 0 then 0 else if z.2 = 0 then 0 else x.2 + y.2 + z.2)
theorem zb61 {b : List Int} : 0 ≤ (entD b).2 ∧ (entD b).2 ≤ b.length := by
 have x := zb3l (l := b)
 have y := zb3l (l := b.drop (getN b).2.toNat)
 have z := zb4m (l := (b.drop (getN b).2.toNat).drop (getN (b.drop (getN b).2.toNat)).2.toNat)
 simp only [y13] at y z
 simp only [entD]
 split
 ·omega
 ·split
  ·omega
  ·split <;> omega
theorem drop3 (b : List Int) {i j k : Int} (h1 : 0 ≤ i) (h2 : 0 ≤ j) (h3 : 0 ≤ k) : b.drop (i + j + k).toNat = ((b.drop i.toNat).drop j.toNat).drop k.toNat := by
 rw [y50, y50]; congr 1; omega
theorem zb62 {b : List Int} (hb : isB b) (h : (entD b).2 ≠ 0) : b = entB (entD b).1 ++ b.drop (entD b).2.toNat := by
 have x := zb3l (l := b)
 have y := zb3l (l := b.drop (getN b).2.toNat)
 have z := zb4m (l := (b.drop (getN b).2.toNat).drop (getN (b.drop (getN b).2.toNat)).2.toNat)
 have hb1 := zb3s hb (getN b).2.toNat
 have hb2 := zb3s hb1 (getN (b.drop (getN b).2.toNat)).2.toNat
 simp only [entD] at h ⊢
 split at h
 ·exact absurd rfl h
 ·rename_i c1
  split at h
  ·exact absurd rfl h
  ·rename_i c2
   split at h
   ·exact absurd rfl h
   ·rename_i c3
    rw [if_neg c1, if_neg c2, if_neg c3]
    have e0 := zb6q hb (by omega)
    have e1 := zb6q hb1 (by omega)
    have e2 := zb6r hb2 (by omega)
    rw [drop3 b x.1 y.1 z.1]
    simp only [entB, y33]
    rw [← e2, ← e1, ← e0]
def ents : Nat → List Int → Option (List zji × List Int)
 | 0, b => some ([], b)
 | k + 1, b => if (entD b).2 = 0 then none else match ents k (b.drop (entD b).2.toNat) with
  | none => none
  | some t => some ((entD b).1 :: t.1, t.2)
theorem zb63 : ∀ {k : Nat} {b : List Int} {t : List zji × List Int}, isB b → ents k b = some t → b = tabE t.1 ++ t.2 ∧ t.1.length = k
 | 0, b, t, hb, h => by simp only [ents, y4] at h; subst h; simp [tabE]
 | k + 1, b, t, hb, h => by
  simp only [ents] at h
  split at h
  ·cases h
  ·rename_i c
   cases e : ents k (b.drop (entD b).2.toNat) with
   | none => simp [e] at h
   | some u =>
    simp only [e, y4] at h
    subst h
    obtain ⟨h1, h2⟩ := zb63 (zb3s hb _) e
    refine ⟨?_, by simp [h2]⟩
    simp only [zb5q, y33]
    rw [← h1]; exact zb62 hb c
def noT : zjh × List zji := (noS, [])
def whD (w : List Int) : (zjh × List zji) × Int :=
 if (getN w).2 = 0 then (noT, 3) else if (w.length : Int) - (getN w).2 < (getN w).1 then (noT, 3) else
 if (stD ((w.take ((getN w).2 + (getN w).1).toNat).drop (getN w).2.toNat)).2 = 3 then (noT, 3) else
 if (getN (w.drop ((getN w).2 + (getN w).1).toNat)).2 = 0 then (noT, 3) else
 if ((w.drop ((getN w).2 + (getN w).1).toNat).length : Int) < (getN (w.drop ((getN w).2 + (getN w).1).toNat)).1 then (noT, 3) else
 match ents (getN (w.drop ((getN w).2 + (getN w).1).toNat)).1.toNat ((w.drop ((getN w).2 + (getN w).1).toNat).drop (getN (w.drop ((getN w).2 + (getN w).1).toNat)).2.toNat) with
 | none => (noT, 3)
 | some t => if t.2 = [] then (((stD ((w.take ((getN w).2 + (getN w).1).toNat).drop (getN w).2.toNat)).1, t.1), (stD ((w.take ((getN w).2 + (getN w).1).toNat).drop (getN w).2.toNat)).2) else (noT, 3)
/-- A snapshot of its parts. -/
def mkN (i : Int) (p : zjh × List zji) : zjj := ⟨i, p.1, ⟨p.2.isEmpty, p.2⟩⟩
theorem zb64 {w : List Int} (hb : isB w) (h : (whD w).2 = 0) (i : Int) : wholeB (mkN i (whD w).1) = w := by
 have hn := zb3l (l := w)
 unfold whD at h ⊢
 split at h
 ·cases h
 ·rename_i c1
  rw [if_neg c1]
  split at h
  ·cases h
  ·rename_i c2
   rw [if_neg c2]
   split at h
   ·cases h
   ·rename_i c3
    rw [if_neg c3]
    split at h
    ·cases h
    ·rename_i c4
     rw [if_neg c4]
     split at h
     ·cases h
     ·rename_i c5
      rw [if_neg c5]
      generalize hS : (w.take ((getN w).2 + (getN w).1).toNat).drop (getN w).2.toNat = X at h ⊢
      have hbX : isB X := by rw [← hS]; exact zb3s (zb3r hb _) _
      have hm := zb3l (l := w.drop ((getN w).2 + (getN w).1).toNat)
      have hbW := zb3s hb ((getN w).2 + (getN w).1).toNat
      have hXl : (X.length : Int) = (getN w).1 := by rw [← hS, y13, y20]; omega
      have hw1 : w = (put (getN w).1 ++ X) ++ w.drop ((getN w).2 + (getN w).1).toNat := by
       rw [← zb6o hb c1, ← hS]
       have e : w.take (getN w).2.toNat = (w.take ((getN w).2 + (getN w).1).toNat).take (getN w).2.toNat := by rw [List.take_take]; congr 1; omega
       rw [e, List.take_append_drop, List.take_append_drop]
      cases he : ents (getN (w.drop ((getN w).2 + (getN w).1).toNat)).1.toNat ((w.drop ((getN w).2 + (getN w).1).toNat).drop (getN (w.drop ((getN w).2 + (getN w).1).toNat)).2.toNat) with
      | none => rw [he] at h; cases h
      | some t =>
       rw [he] at h
       simp only at h ⊢
       split at h
       ·rename_i c6
        rw [if_pos c6]
        obtain ⟨h1, h2⟩ := zb63 (zb3s hbW _) he
        rw [c6, List.append_nil] at h1
        obtain ⟨_, s2⟩ := zb60 hbX h
        have e2 := zb6q hbW (by omega)
        show ((put ((stateB (stD X).1).length : Int) ++ stateB (stD X).1) ++ put ((t.1.length : Nat) : Int)) ++ tabE t.1 = w
        rw [s2, hXl, h2, Int.toNat_of_nonneg hm.2.2.2.1, ← h1, y33, ← e2]
        exact hw1.symm
       ·cases h
def manD (d : List Int) : (Int × Int × Nat) × Int :=
 let x := getN (d.drop 1)
 let d1 := (d.drop 1).drop x.2.toNat
 let y := getN d1
 let d2 := d1.drop y.2.toNat
 let z := getN d2
 let d3 := d2.drop z.2.toNat
 if d[0]? = some 115 then
  if x.2 = 0 then ((0, 0, 0), 3) else if y.2 = 0 then ((0, 0, 0), 3) else if z.2 = 0 then ((0, 0, 0), 3) else if x.1 = 3 then if d3.length = 4 then ((y.1, z.1, numB d3), 0) else ((0, 0, 0), 3) else ((0, 0, 0), 6)
 else ((0, 0, 0), 3)
theorem take4 {l : List Int} (h : l.length = 4) (hb : isB l) {v : Nat} (hv : v < 4294967296) (e : numB l = v) : l = fix4 v := (zb39 hb h hv).1 e
theorem zb65 {d w : List Int} (hb : isB d) (h : (manD d).2 = 0) (h1 : (w.length : Int) = (manD d).1.2.1) (h2 : (bsum w).toNat = (manD d).1.2.2) : d = manB (manD d).1.1 w ∧ 0 ≤ (manD d).1.1 ∧ (manD d).1.1 < 4611686018427387904 := by
 have hb0 := zb3s hb 1
 have hb1 := zb3s hb0 (getN (d.drop 1)).2.toNat
 have hb2 := zb3s hb1 (getN ((d.drop 1).drop (getN (d.drop 1)).2.toNat)).2.toNat
 have hb3 := zb3s hb2 (getN (((d.drop 1).drop (getN (d.drop 1)).2.toNat).drop (getN ((d.drop 1).drop (getN (d.drop 1)).2.toNat)).2.toNat)).2.toNat
 have hy := zb3l (l := (d.drop 1).drop (getN (d.drop 1)).2.toNat)
 have hx := zb3l (l := d.drop 1)
 have hz := zb3l (l := ((d.drop 1).drop (getN (d.drop 1)).2.toNat).drop (getN ((d.drop 1).drop (getN (d.drop 1)).2.toNat)).2.toNat)
 simp only [manD] at h h1 h2 ⊢
 split at h
 ·rename_i c0
  rw [if_pos c0] at h1 h2 ⊢
  split at h
  ·cases h
  ·rename_i c1
   rw [if_neg c1] at h1 h2 ⊢
   split at h
   ·cases h
   ·rename_i c2
    rw [if_neg c2] at h1 h2 ⊢
    split at h
    ·cases h
    ·rename_i c3
     rw [if_neg c3] at h1 h2 ⊢
     split at h
     ·rename_i c4
      rw [if_pos c4] at h1 h2 ⊢
      split at h
      ·rename_i c5
       rw [if_pos c5] at h1 h2 ⊢
       simp only at h1 h2 ⊢
       refine ⟨?_, hy.2.2.2.1, hy.2.2.2.2⟩
       have e1 := zb6q hb0 (by omega)
       have e2 := zb6q hb1 (by omega)
       have e3 := zb6q hb2 (by omega)
       have e4 := take4 c5 hb3 (v := (bsum w).toNat) (by have := (bsum w).isLt; omega) h2.symm
       unfold manB
       rw [h1, ← c4, ← e4]
       simp only [y33]
       rw [← e3, ← e2, ← e1]
       cases d with
       | nil => simp at c0
       | cons a d => simp only [y37, y4] at c0; rw [c0]; rfl
      ·cases h
     ·cases h
 ·cases h
def cutB : List (List Int) → Bool
 | [] => true
 | [d] => decide (1 ≤ d.length) && decide (d.length ≤ 64)
 | d :: t => decide (d.length = 64) && cutB t
theorem zb66 {k : Nat} {l : List Int} (h : l.length = 0) : chks k l = [] := by
 cases k with
 | zero => rfl
 | succ k => simp only [chks]; rw [if_pos h]
theorem zb67 {k : Nat} {l : List Int} (h : l.length ≠ 0) : chks (k + 1) l = l.take 64 :: chks k (l.drop 64) := by simp only [chks]; rw [if_neg h]
theorem zb68 : ∀ {t : List (List Int)} {k : Nat}, cutB t = true → t.flatten.length ≤ k → chks k t.flatten = t
 | [], k, h, hk => zb66 rfl
 | [d], k, h, hk => by
  simp only [cutB, y6, decide_eq_true_eq] at h
  simp only [List.flatten_cons, List.flatten_nil, List.append_nil] at hk ⊢
  cases k with
  | zero => omega
  | succ k => rw [zb67 (by omega), List.take_of_length_le h.2, zb66 (by rw [y13]; omega)]
 | d :: e :: t, k, h, hk => by
  simp only [cutB, y6, decide_eq_true_eq] at h
  rw [List.flatten_cons, y10] at hk
  cases k with
  | zero => omega
  | succ k =>
   rw [List.flatten_cons, zb67 (by rw [y10]; omega), List.take_left' h.1, List.drop_left' h.1, zb68 h.2 (by omega)]
def noN : zjj := ⟨0, noS, ⟨true, []⟩⟩
def snD (b : List Int) : zjj × Int :=
 if (allE b).2 = 0 then match (allE b).1 with
  | [] => (noN, 16)
  | h :: t =>
   if (manD h).2 = 0 then
    if (t.flatten.length : Int) = (manD h).1.2.1 then
     if cutB t = true then
      if (bsum t.flatten).toNat = (manD h).1.2.2 then
       if (whD t.flatten).2 = 0 then
        if mayN (mkN (manD h).1.1 (whD t.flatten).1) = true then (mkN (manD h).1.1 (whD t.flatten).1, 0) else (noN, 1)
       else (noN, (whD t.flatten).2)
      else (noN, 4)
     else (noN, 3)
    else (noN, 16)
   else (noN, (manD h).2)
 else (noN, (allE b).2)
theorem zb69 : ∀ {t : List (List Int)}, (∀ d ∈ t, isB d) → isB t.flatten := fun h c hc => by
 obtain ⟨d, hd, hcd⟩ := List.mem_flatten.1 hc; exact h d hd c hcd
theorem zb7a {b : List Int} (hb : isB b) (h : (snD b).2 = 0) : mayN (snD b).1 = true ∧ snapB (snD b).1 = b := by
 unfold snD at h ⊢
 split at h
 ·rename_i c0
  rw [if_pos c0]
  have hf := zb6v hb c0
  have hme := zb6t hb
  cases he : (allE b).1 with
  | nil => rw [he] at h; cases h
  | cons d t =>
   rw [he] at h hf hme
   simp only at h ⊢
   split at h
   ·rename_i c1
    rw [if_pos c1]
    split at h
    ·rename_i c2
     rw [if_pos c2]
     split at h
     ·rename_i c3
      rw [if_pos c3]
      split at h
      ·rename_i c4
       rw [if_pos c4]
       split at h
       ·rename_i c5
        rw [if_pos c5]
        split at h
        ·rename_i c6
         rw [if_pos c6]
         have hbt : isB t.flatten := zb69 fun x hx => (hme x (y36 _ hx)).1
         obtain ⟨m1, m2, m3⟩ := zb65 (hme d y32).1 c1 c2 c4
         refine ⟨c6, ?_⟩
         unfold snapB
         rw [zb64 hbt c5, zb6w, zb68 c3 (y14 _)]
         show encF (manB (manD d).1.1 t.flatten) ++ BB t = b
         rw [← m1, ← zb4h]; exact hf
        ·cases h
       ·rename_i c5; exact absurd h c5
      ·cases h
     ·cases h
    ·cases h
   ·rename_i c1; exact absurd h c1
 ·rename_i c0; exact absurd h c0
theorem zb7b : ∀ (a : List Int) (c : Int), numB (a ++ [c]) = numB a + c.toNat * 256 ^ a.length
 | [], c => by simp [numB]
 | x :: a, c => by
  simp only [List.cons_append, numB, zb7b a c, y21, Nat.pow_succ]
  rw [Nat.mul_add, Nat.mul_comm (256 ^ a.length) 256, ← Nat.mul_assoc, ← Nat.mul_assoc, Nat.mul_comm c.toNat 256]; omega
theorem zb7c (z : Bool) (L : List Int) (hb : isB L) (hL : L.length ≤ 8) : ∀ (k i : Nat), L.length = i + k → Ev (fun q => zlu q z L ((numB (L.take i) : Nat) : Int) (L.length : Int) (i : Int)) ((numB L : Nat) : Int)
 | 0, i, hk => Ev.succ (Ev.ne (Ev.ret' (by rw [List.take_of_length_le (by omega)]))) (fun q => rfl)
 | k + 1, i, hk => by
  have hi : i < L.length := by omega
  have hg : L[(i : Int).toNat]? = some L[i] := by simpa using y7 hi
  obtain ⟨b1, b2⟩ := hb L[i] (y26 hi)
  have ih := zb7c z L hb hL k (i + 1) (by omega)
  have hw : wrp .i64 (8 * (i : Int)) = ((8 * i : Nat) : Int) := by rw [zb1z (by omega) (by omega)]; omega
  have hlt := zb36 (l := L.take i) (zb3r hb _)
  rw [y20, Nat.min_eq_left (by omega)] at hlt
  have hs : numB (L.take (i + 1)) = numB (L.take i) + L[i].toNat * 256 ^ i := by
   rw [← List.take_append_getElem hi, zb7b, y20, Nat.min_eq_left (by omega)]
  have hp : 2 ^ (8 * i) = 256 ^ i := by rw [Nat.pow_mul]
  have hpb : 256 ^ i ≤ 256 ^ 7 := Nat.pow_le_pow_right (by omega) (by omega)
  have h6 : L[i].toNat * 2 ^ (8 * i) < 18446744073709551616 := by
   rw [hp]
   have h : L[i].toNat * 256 ^ i ≤ 255 * 256 ^ 7 := Nat.mul_le_mul (by omega) hpb
   simp only [Nat.reducePow] at h; omega
  have hn : numB (L.take i) < 18446744073709551616 := by
   simp only [Nat.reducePow] at hpb; omega
  have key : ibits .or .u64 ((numB (L.take i) : Nat) : Int) (ishl .u64 (wrp .u64 L[i]) (wrp .i64 (8 * (i : Int)))) = ((numB (L.take (i + 1)) : Nat) : Int) := by
   rw [hw, zb10 b1 (by omega), show L[i] = ((L[i].toNat : Nat) : Int) by omega, ishl64 (by omega), Nat.mod_eq_of_lt (by simpa using h6), or64 hn (by simpa using h6), hs]
   congr 1
   rw [← hp] at hlt
   have := Nat.two_pow_add_eq_or_of_lt hlt L[i].toNat
   rw [Nat.or_comm, Nat.mul_comm, ← this, hp, Nat.mul_comm]; omega
  refine Ev.succ (Ev.po (Ev.po (Ev.opt hg (Ev.neg (by rw [hw]; omega) ?_)))) (fun q => rfl)
  rw [key, zb1z (by omega) (by omega), show ((i : Int) + 1) = ((i + 1 : Nat) : Int) by omega]
  exact ih
theorem zb7d (s : Sl Int) (hb : isB s.l) (hL : s.l.length ≤ 8) : Ev (fun q => zlv q s) ((numB s.l : Nat) : Int) := by
 have h := zb7c s.z s.l hb hL s.l.length 0 (by omega)
 refine Ev.succ (g := fun q => zlu q s.z s.l 0 (if 8 < (s.l.length : Int) then 8 else (s.l.length : Int)) 0) ?_ (fun q => rfl)
 rw [if_neg (show ¬ 8 < (s.l.length : Int) by omega)]; exact h
theorem zb7e (s : Sl Int) (hb : isB s.l) (hl : s.l.length ≤ 4294967296) : ∃ m, Ev (fun q => zlw q s) (m, (manD s.l).2) ∧ ((manD s.l).2 = 0 → m = ⟨(manD s.l).1.1, (manD s.l).1.2.1, (((manD s.l).1.2.2 : Nat) : Int)⟩) := by
 by_cases h0 : (s.l.length : Int) = 0
 ·have e : s.l[0]? = none := by rw [y51]; omega
  have hm : (manD s.l).2 = 3 := by simp only [manD, e]; rw [if_neg (by simp)]
  rw [hm]
  exact ⟨_, Ev.succ (Ev.pos h0 (Ev.ret _)) (fun q => rfl), fun h => by cases h⟩
 ·obtain ⟨a, he⟩ : ∃ a, s.l[0]? = some a := ⟨s.l[0]'(by omega), y7 (by omega)⟩
  obtain ⟨d, hd⟩ : ∃ d, d = s.l.drop 1 := ⟨_, rfl⟩
  have hlc : s.l.length = d.length + 1 := by rw [hd, y13]; omega
  have hb0 : isB d := by rw [hd]; exact zb3s hb 1
  have hb1 := zb3s hb0 (getN d).2.toNat
  have hb2 := zb3s hb1 (getN (d.drop (getN d).2.toNat)).2.toNat
  have hb3 := zb3s hb2 (getN ((d.drop (getN d).2.toNat).drop (getN (d.drop (getN d).2.toNat)).2.toNat)).2.toNat
  have hx := zb3l (l := d)
  have hy := zb3l (l := d.drop (getN d).2.toNat)
  have hz := zb3l (l := (d.drop (getN d).2.toNat).drop (getN (d.drop (getN d).2.toNat)).2.toNat)
  simp only [y13] at hy hz
  have hF := zb7d ⟨s.z, ((d.drop (getN d).2.toNat).drop (getN (d.drop (getN d).2.toNat)).2.toNat).drop (getN ((d.drop (getN d).2.toNat).drop (getN (d.drop (getN d).2.toNat)).2.toNat)).2.toNat⟩ hb3
  simp only [y13] at hF
  have pre : ∀ {m}, (a = 115 → Ev (fun q => (if (getN d).2 = 0 then (some ((⟨(getN (d.drop (getN d).2.toNat)).1, (getN ((d.drop (getN d).2.toNat).drop (getN (d.drop (getN d).2.toNat)).2.toNat)).1, 0⟩ : zjk), (3 : Int))) else (if (getN (d.drop (getN d).2.toNat)).2 = 0 then (some ((⟨(getN (d.drop (getN d).2.toNat)).1, (getN ((d.drop (getN d).2.toNat).drop (getN (d.drop (getN d).2.toNat)).2.toNat)).1, 0⟩ : zjk), 3)) else (if (getN ((d.drop (getN d).2.toNat).drop (getN (d.drop (getN d).2.toNat)).2.toNat)).2 = 0 then (some ((⟨(getN (d.drop (getN d).2.toNat)).1, (getN ((d.drop (getN d).2.toNat).drop (getN (d.drop (getN d).2.toNat)).2.toNat)).1, 0⟩ : zjk), 3)) else (if (getN d).1 = 3 then (if (((((s.l.length - 1) - (getN d).2.toNat) - (getN (d.drop (getN d).2.toNat)).2.toNat) - (getN ((d.drop (getN d).2.toNat).drop (getN (d.drop (getN d).2.toNat)).2.toNat)).2.toNat : Nat) : Int) = 4 then ((zlv q ⟨s.z, ((d.drop (getN d).2.toNat).drop (getN (d.drop (getN d).2.toNat)).2.toNat).drop (getN ((d.drop (getN d).2.toNat).drop (getN (d.drop (getN d).2.toNat)).2.toNat)).2.toNat⟩).bind fun r5 => (some ((⟨(getN (d.drop (getN d).2.toNat)).1, (getN ((d.drop (getN d).2.toNat).drop (getN (d.drop (getN d).2.toNat)).2.toNat)).1, r5⟩ : zjk), 0))) else (some ((⟨(getN (d.drop (getN d).2.toNat)).1, (getN ((d.drop (getN d).2.toNat).drop (getN (d.drop (getN d).2.toNat)).2.toNat)).1, 0⟩ : zjk), 3))) else (some ((⟨(getN (d.drop (getN d).2.toNat)).1, (getN ((d.drop (getN d).2.toNat).drop (getN (d.drop (getN d).2.toNat)).2.toNat)).1, 0⟩ : zjk), 6))))))) m) → a = 115 → Ev (fun q => zlw q s) m := fun {m} h ha => by
   refine Ev.succ (Ev.neg h0 (Ev.opt he (Ev.pos ha (Ev.pos (by omega) ?_)))) (fun q => rfl)
   rw [← hd]
   exact Ev.bind (zb3k ⟨s.z, d⟩ hb0) (Ev.pos hx.1 (Ev.pos (by simp only; omega) (Ev.bind (zb3k ⟨s.z, d.drop (getN d).2.toNat⟩ hb1) (Ev.pos hy.1 (Ev.pos (by simp only; omega) (Ev.bind (zb3k ⟨s.z, (d.drop (getN d).2.toNat).drop (getN (d.drop (getN d).2.toNat)).2.toNat⟩ hb2) (Ev.pos hz.1 (Ev.pos (by simp only; omega) (h ha)))))))))
  by_cases ha : a = 115
  ·have hm : manD s.l = (if (getN d).2 = 0 then ((0, 0, 0), 3) else if (getN (d.drop (getN d).2.toNat)).2 = 0 then ((0, 0, 0), 3) else if (getN ((d.drop (getN d).2.toNat).drop (getN (d.drop (getN d).2.toNat)).2.toNat)).2 = 0 then ((0, 0, 0), 3) else if (getN d).1 = 3 then if (((d.drop (getN d).2.toNat).drop (getN (d.drop (getN d).2.toNat)).2.toNat).drop (getN ((d.drop (getN d).2.toNat).drop (getN (d.drop (getN d).2.toNat)).2.toNat)).2.toNat).length = 4 then (((getN (d.drop (getN d).2.toNat)).1, (getN ((d.drop (getN d).2.toNat).drop (getN (d.drop (getN d).2.toNat)).2.toNat)).1, numB (((d.drop (getN d).2.toNat).drop (getN (d.drop (getN d).2.toNat)).2.toNat).drop (getN ((d.drop (getN d).2.toNat).drop (getN (d.drop (getN d).2.toNat)).2.toNat)).2.toNat)), 0) else ((0, 0, 0), 3) else ((0, 0, 0), 6)) := by
    simp only [manD, ← hd]; rw [if_pos (by rw [he, ha])]
   rw [hm]
   by_cases c1 : (getN d).2 = 0
   ·rw [if_pos c1]; exact ⟨_, pre (fun _ => Ev.pos c1 (Ev.ret _)) ha, fun h => by cases h⟩
   ·rw [if_neg c1]
    by_cases c2 : (getN (d.drop (getN d).2.toNat)).2 = 0
    ·rw [if_pos c2]; exact ⟨_, pre (fun _ => Ev.neg c1 (Ev.pos c2 (Ev.ret _))) ha, fun h => by cases h⟩
    ·rw [if_neg c2]
     by_cases c3 : (getN ((d.drop (getN d).2.toNat).drop (getN (d.drop (getN d).2.toNat)).2.toNat)).2 = 0
     ·rw [if_pos c3]; exact ⟨_, pre (fun _ => Ev.neg c1 (Ev.neg c2 (Ev.pos c3 (Ev.ret _)))) ha, fun h => by cases h⟩
     ·rw [if_neg c3]
      by_cases c4 : (getN d).1 = 3
      ·rw [if_pos c4]
       simp only [y13]
       by_cases c5 : d.length - (getN d).2.toNat - (getN (d.drop (getN d).2.toNat)).2.toNat - (getN ((d.drop (getN d).2.toNat).drop (getN (d.drop (getN d).2.toNat)).2.toNat)).2.toNat = 4
       ·rw [if_pos c5]
        exact ⟨_, pre (fun _ => Ev.neg c1 (Ev.neg c2 (Ev.neg c3 (Ev.pos c4 (Ev.pos (by rw [hlc]; omega) (Ev.bind (hF (by omega)) (Ev.ret _))))))) ha, fun _ => rfl⟩
       ·rw [if_neg c5]
        exact ⟨_, pre (fun _ => Ev.neg c1 (Ev.neg c2 (Ev.neg c3 (Ev.pos c4 (Ev.neg (by rw [hlc]; omega) (Ev.ret _)))))) ha, fun h => by cases h⟩
      ·rw [if_neg c4]
       exact ⟨_, pre (fun _ => Ev.neg c1 (Ev.neg c2 (Ev.neg c3 (Ev.neg c4 (Ev.ret _))))) ha, fun h => by cases h⟩
  ·have hm : manD s.l = ((0, 0, 0), 3) := by
    simp only [manD]; rw [if_neg (by rw [he]; simpa using ha)]
   rw [hm]
   exact ⟨_, Ev.succ (Ev.neg h0 (Ev.opt he (Ev.neg ha (Ev.ret _)))) (fun q => rfl), fun h => by cases h⟩
theorem zb7f {L : List (Sl Int)} {i : Nat} (hi : i < L.length) : cutB ((L.map (·.l)).drop i) = (decide (1 ≤ L[i].l.length) && (decide (L[i].l.length ≤ 64) && ((decide (L[i].l.length = 64) || decide (L.length = i + 1)) && cutB ((L.map (·.l)).drop (i + 1))))) := by
 rw [← List.map_drop, ← List.map_drop, y9 hi, y34]
 by_cases h : L.length = i + 1
 ·rw [y12 (show L.length ≤ i + 1 by omega)]; simp [cutB, h]
 ·have : ∃ e u, L.drop (i + 1) = e :: u := by
   cases hd : L.drop (i + 1) with
   | nil => have := congrArg List.length hd; rw [y13, y25] at this; omega
   | cons e u => exact ⟨e, u, rfl⟩
  obtain ⟨e, u, hu⟩ := this
  rw [hu, y34]
  simp only [cutB]
  rw [decide_eq_false h, Bool.or_false]
  by_cases h4 : L[i].l.length = 64
  ·simp [h4]
  ·simp [h4]
theorem zb7g (z : Bool) (L : List (Sl Int)) (z2 : Bool) (hL : L.length ≤ 1000000000) : ∀ (k i : Nat), L.length = i + k → Ev (fun q => zlx q z L z2 L (L.length : Int) (i : Int)) (cutB ((L.map (·.l)).drop i))
 | 0, i, hk => by
  refine Ev.succ (Ev.ne (Ev.ret' ?_)) (fun q => rfl)
  rw [y12 (by rw [y24]; omega)]; rfl
 | k + 1, i, hk => by
  have hi : i < L.length := by omega
  have he : L[((i : Int)).toNat]? = some L[i] := by simp [hi]
  have ih := zb7g z L z2 hL k (i + 1) (by omega)
  rw [show ((i + 1 : Nat) : Int) = wrp .i64 ((i : Int) + 1) by rw [zb1z (by omega) (by omega)]; omega] at ih
  have w : wrp .i64 ((L.length : Int) - 1) = (L.length : Int) - 1 := zb1z (by omega) (by omega)
  rw [zb7f hi]
  refine Ev.succ (Ev.po (Ev.po (Ev.opt he (Ev.ite (fun c1 => Ev.ret' ?_) fun c1 => Ev.ite (fun c2 => Ev.ret' ?_) fun c2 => Ev.ite (fun c3 => Ev.ite (fun c4 => Ev.ret' ?_) fun c4 => Ev.cast ih ?_) fun c3 => Ev.cast ih ?_)))) (fun q => rfl)
  ·rw [decide_eq_false (show ¬ 1 ≤ L[i].l.length by omega)]; rfl
  ·rw [decide_eq_false (show ¬ L[i].l.length ≤ 64 by omega)]; simp
  ·rw [w] at c4
   rw [decide_eq_false (show ¬ L[i].l.length = 64 by omega), decide_eq_false (show ¬ L.length = i + 1 by omega)]; simp
  ·rw [w] at c4
   rw [decide_eq_true (show 1 ≤ L[i].l.length by omega), decide_eq_true (show L[i].l.length ≤ 64 by omega), decide_eq_true (show L.length = i + 1 by omega)]; simp
  ·rw [decide_eq_true (show 1 ≤ L[i].l.length by omega), decide_eq_true (show L[i].l.length ≤ 64 by omega), decide_eq_true (show L[i].l.length = 64 by omega)]; simp
theorem zb7h (s : Sl (Sl Int)) (hL : s.l.length ≤ 1000000000) : Ev (fun q => zly q s) (cutB (s.l.map (·.l))) :=
 Ev.succ (zb7g s.z s.l s.z hL s.l.length 0 (by omega)) (fun q => rfl)
theorem zb7i (z : Bool) {l : List Int} (hb : isB l) : Ev (fun q => zlm q ⟨z, l⟩) (getN l) := zb3k ⟨z, l⟩ hb
theorem zb7j (z : Bool) {l : List Int} (hb : isB l) : Ev (fun q => zl0 q ⟨z, l⟩) (getS l) := zb4l ⟨z, l⟩ hb
def stE (fine : Bool) (k : Nat) (b acc : List Int) (x : Int) (sl : Bool) (to : Int) : zjh × Int :=
 if fine = true ∧ (nums k b).2.1 = true ∧ (nums k b).2.2 = [] then
  if mayS ⟨x, ⟨false, acc ++ (nums k b).1⟩, sl, to⟩ = true then (⟨x, ⟨false, acc ++ (nums k b).1⟩, sl, to⟩, 0) else (noS, 1)
 else (noS, 3)
theorem zb7k (fine : Bool) (k : Nat) (b acc : List Int) (x : Int) (sl : Bool) (to : Int) : stE fine (k + 1) b acc x sl to = stE (fine && decide (0 < (getS b).2)) k (b.drop (getS b).2.toNat) (acc ++ [(getS b).1]) x sl to := by
 by_cases h : 0 < (getS b).2
 ·rw [decide_eq_true h, Bool.and_true]
  unfold stE
  simp only [nums, decide_eq_true h, y62, y33, List.singleton_append]
 ·rw [decide_eq_false h, Bool.and_false]
  unfold stE
  rw [if_neg (by simp [nums, h]), if_neg (by simp)]
theorem zb7l (k : Nat) (b acc : List Int) (x : Int) (sl : Bool) (to : Int) : stE false k b acc x sl to = (noS, 3) := by
 unfold stE; rw [if_neg (by simp)]
theorem zb7m (z : Bool) (x : Int) (sl : Bool) (to : Int) (m : Nat) (hm : m ≤ 128) : ∀ (k i : Nat) (b : List Int) (fine : Bool) (acc : List Int), m = i + k → acc.length = i → isB b →
  Ev (fun q => zl1 q (m : Int) (i : Int) z b fine x sl to acc) (stE fine k b acc x sl to)
 | 0, i, b, fine, acc, hk, ha, hb => by
  unfold stE
  simp only [nums, List.append_nil]
  refine Ev.succ (Ev.ne (Ev.ite (fun c1 => Ev.ite (fun c2 => Ev.ret' ?_) fun c2 => Ev.bind (zb4v _ (by simp only; omega)) (Ev.ite (fun c3 => Ev.ret' ?_) fun c3 => Ev.ret' ?_)) fun c1 => Ev.ret' ?_)) (fun q => rfl)
  ·rw [if_neg (by rintro ⟨_, _, e⟩; rw [e] at c2; simp at c2)]; rfl
  ·rw [if_pos ⟨c1, trivial, y35 (by omega)⟩, if_pos c3]
  ·rw [if_pos ⟨c1, trivial, y35 (by omega)⟩, if_neg c3]; rfl
  ·rw [if_neg (fun e => c1 e.1)]; rfl
 | k + 1, i, b, fine, acc, hk, ha, hb => by
  have hs := zb4m (l := b)
  have ih := fun f => zb7m z x sl to m hm k (i + 1) (b.drop (getS b).2.toNat) f (acc ++ [(getS b).1]) (by omega) (by rw [y10, List.length_singleton]; omega) (zb3s hb _)
  rw [show ((i + 1 : Nat) : Int) = wrp .i64 ((i : Int) + 1) by rw [zb1z (by omega) (by omega)]; omega] at ih
  rw [zb7k]
  refine Ev.succ (Ev.po (Ev.bind (zb7j z hb) (Ev.ite (fun c => ?_) fun c => ?_))) (fun q => rfl)
  ·rw [c, y62]
   exact Ev.pos hs.1 (Ev.pos hs.2.1 (Ev.po (ih _)))
  ·have c' : fine = false := by simpa using c
   rw [c', Bool.false_and]
   exact Ev.pos hs.1 (Ev.pos hs.2.1 (Ev.po (ih _)))
theorem zb7n (z : Bool) (x : Int) (sl : Bool) (to : Int) (m : Nat) (hm : m ≤ 128) (b : List Int) (hb : isB b) :
  Ev (fun q => zl2 q (m : Int) z b true x sl to) (if (nums m b).2.1 = true ∧ (nums m b).2.2 = [] then if mayS ⟨x, ⟨(nums m b).1.isEmpty, (nums m b).1⟩, sl, to⟩ = true then (⟨x, ⟨(nums m b).1.isEmpty, (nums m b).1⟩, sl, to⟩, 0) else (noS, 1) else (noS, 3)) := by
 by_cases h0 : m = 0
 ·have hn : nums m b = ([], true, b) := by rw [h0]; rfl
  simp only [hn, List.isEmpty_nil]
  refine Ev.succ (Ev.ne (Ev.pos rfl (Ev.ite (fun c2 => Ev.ret' ?_) fun c2 => Ev.bind (zb4v _ (by simp)) (Ev.ite (fun c3 => Ev.ret' ?_) fun c3 => Ev.ret' ?_)))) (fun q => rfl)
  ·rw [if_neg (by rintro ⟨_, e⟩; rw [e] at c2; simp at c2)]; rfl
  ·rw [if_pos ⟨trivial, y35 (by omega)⟩, if_pos c3]
  ·rw [if_pos ⟨trivial, y35 (by omega)⟩, if_neg c3]; rfl
 ·obtain ⟨k, hk⟩ : ∃ k, m = k + 1 := ⟨m - 1, by omega⟩
  have hs := zb4m (l := b)
  have ih := zb7m z x sl to m hm k 1 (b.drop (getS b).2.toNat) (decide (0 < (getS b).2)) [(getS b).1] (by omega) rfl (zb3s hb _)
  rw [show ((1 : Nat) : Int) = wrp .i64 1 by rw [zb1z (by omega) (by omega)]; rfl] at ih
  refine Ev.succ (Ev.po (Ev.bind (zb7j z hb) (Ev.pos rfl (Ev.pos hs.1 (Ev.pos hs.2.1 (Ev.cast ih ?_)))))) (fun q => rfl)
  have e := zb7k true k b [] x sl to
  rw [y62, y47] at e
  rw [← e, hk]
  unfold stE
  by_cases c : (nums (k + 1) b).2.1 = true ∧ (nums (k + 1) b).2.2 = []
  ·rw [if_pos ⟨rfl, c⟩, if_pos c]; rfl
  ·rw [if_neg (fun e => c e.2), if_neg c]
theorem zb7o (s : Sl Int) (hb : isB s.l) (hl : s.l.length ≤ 1000000) : Ev (fun q => zl3 q s) (stD s.l) := by
 have hx := zb3l (l := s.l)
 have hy := zb3l (l := s.l.drop (getN s.l).2.toNat)
 have hz := zb3l (l := (s.l.drop (getN s.l).2.toNat).drop (getN (s.l.drop (getN s.l).2.toNat)).2.toNat)
 simp only [y13] at hy hz
 have hb1 := zb3s hb (getN s.l).2.toNat
 have hb2 := zb3s hb1 (getN (s.l.drop (getN s.l).2.toNat)).2.toNat
 have hb3 := zb3s hb2 (getN ((s.l.drop (getN s.l).2.toNat).drop (getN (s.l.drop (getN s.l).2.toNat)).2.toNat)).2.toNat
 have g1 := zb3k s hb
 have g2 := zb7i s.z hb1
 have g3 := zb7i s.z hb2
 simp only [stD]
 have hl0 := zb7n s.z (getN s.l).1 (decide (0 < (getN (s.l.drop (getN s.l).2.toNat)).1)) (if (getN (s.l.drop (getN s.l).2.toNat)).1 - 1 < 0 then 0 else (getN (s.l.drop (getN s.l).2.toNat)).1 - 1) (getN ((s.l.drop (getN s.l).2.toNat).drop (getN (s.l.drop (getN s.l).2.toNat)).2.toNat)).1.toNat
 rw [show ((((getN ((s.l.drop (getN s.l).2.toNat).drop (getN (s.l.drop (getN s.l).2.toNat)).2.toNat)).1.toNat : Nat)) : Int) = (getN ((s.l.drop (getN s.l).2.toNat).drop (getN (s.l.drop (getN s.l).2.toNat)).2.toNat)).1 by omega] at hl0
 have w : wrp .i64 ((getN (s.l.drop (getN s.l).2.toNat)).1 - 1) = (getN (s.l.drop (getN s.l).2.toNat)).1 - 1 := zb1z (by omega) (by omega)
 refine Ev.succ (Ev.bind g1 (Ev.pos hx.1 (Ev.pos hx.2.1 (Ev.bind g2 (Ev.ite (fun c1 => Ev.pos hy.1 (Ev.po (Ev.bind g3 (Ev.ite (fun c2 => Ev.pos hz.1 (Ev.po (Ev.ite (fun c3 => Ev.ite (fun c4 => Ev.ret' ?_) fun c4 => Ev.ite (fun c5 => Ev.ret' ?_) fun c5 => ?_) fun c3 => Ev.ret' ?_))) fun c2 => Ev.pos hz.1 (Ev.po (Ev.ret' ?_)))))) fun c1 => Ev.pos hy.1 (Ev.po (Ev.bind g3 (Ev.pos hz.1 (Ev.po (Ev.ret' ?_)))))))))) (fun q => rfl)
 ·rw [if_neg (by omega)]; rfl
 ·rw [if_neg (by omega)]; rfl
 ·rw [w, if_pos (And.intro c1 (And.intro c2 (And.intro c3 (And.intro (Int.not_lt.1 c4) (Int.not_lt.1 c5))))), decide_eq_true c3]
  exact hl0 (by omega) _ hb3
 ·rw [if_neg (by omega)]; rfl
 ·rw [if_neg (by omega)]; rfl
 ·rw [if_neg (by omega)]; rfl
theorem zb7p (s : Sl Int) (hb : isB s.l) : Ev (fun q => zl4 q s) (entD s.l) := by
 have hx := zb3l (l := s.l)
 have hy := zb3l (l := s.l.drop (getN s.l).2.toNat)
 have hz := zb4m (l := (s.l.drop (getN s.l).2.toNat).drop (getN (s.l.drop (getN s.l).2.toNat)).2.toNat)
 simp only [y13] at hy
 have hb1 := zb3s hb (getN s.l).2.toNat
 have hb2 := zb3s hb1 (getN (s.l.drop (getN s.l).2.toNat)).2.toNat
 have g1 := zb3k s hb
 have g2 := zb7i s.z hb1
 have g3 := zb7j s.z hb2
 simp only [entD]
 refine Ev.succ (Ev.bind g1 (Ev.pos hx.1 (Ev.pos hx.2.1 (Ev.bind g2 (Ev.pos hy.1 (Ev.po (Ev.bind g3 (Ev.ite (fun c1 => Ev.ret' ?_) fun c1 => Ev.ite (fun c2 => Ev.ret' ?_) fun c2 => Ev.ite (fun c3 => Ev.ret' ?_) fun c3 => Ev.ret' ?_)))))))) (fun q => rfl)
 ·rw [if_pos c1]
 ·rw [if_neg c1, if_pos c2]
 ·rw [if_neg c1, if_neg c2, if_pos c3]
 ·rw [if_neg c1, if_neg c2, if_neg c3]
  rw [zb1z (x := (getN s.l).2 + _) (by omega) (by omega), zb1z (by omega) (by omega)]
/-- What becomes of a table's bytes. -/
def enE (k : Nat) (b : List Int) (e : Int) : Int := match ents k b with
 | none => 3
 | some t => if t.2 = [] then e else 3
theorem zb7q (z : Bool) (e : Int) (x : Int) (lz : Bool) (ll : List Int) (sl : Bool) (to : Int) (m : Nat) (hm : m ≤ 1000000) : ∀ (k i : Nat) (b : List Int) (acc : List zji), m = i + k → acc.length = i → isB b → b.length ≤ 1000000 →
  ∃ r, Ev (fun q => zl5 q z b e (m : Int) (i : Int) x lz ll sl to acc) (r, enE k b e) ∧ (∀ t, ents k b = some t → t.2 = [] → r = ⟨0, ⟨x, ⟨lz, ll⟩, sl, to⟩, ⟨false, acc ++ t.1⟩⟩)
 | 0, i, b, acc, hk, ha, hb, hl => by
  unfold enE
  simp only [ents, y4]
  by_cases c : b = []
  ·rw [if_pos c]
   refine ⟨_, Ev.succ (Ev.ne (Ev.neg (by rw [c]; simp) (Ev.ret _))) (fun q => rfl), fun t ht _ => ?_⟩
   subst ht; simp
  ·rw [if_neg c]
   have : 0 < b.length := List.length_pos_iff.2 c
   refine ⟨_, Ev.succ (Ev.ne (Ev.po (Ev.ret _))) (fun q => rfl), fun t ht h2 => ?_⟩
   subst ht; exact absurd h2 c
 | k + 1, i, b, acc, hk, ha, hb, hl => by
  have he := zb61 (b := b)
  obtain ⟨r, h1, h2⟩ := zb7q z e x lz ll sl to m hm k (i + 1) (b.drop (entD b).2.toNat) (acc ++ [(entD b).1]) (by omega) (by rw [y10, List.length_singleton]; omega) (zb3s hb _) (by rw [y13]; omega)
  rw [show ((i + 1 : Nat) : Int) = wrp .i64 ((i : Int) + 1) by rw [zb1z (by omega) (by omega)]; omega] at h1
  unfold enE at h1 ⊢
  simp only [ents]
  by_cases c : (entD b).2 = 0
  ·rw [if_pos c]
   exact ⟨_, Ev.succ (Ev.po (Ev.bind (zb7p ⟨z, b⟩ hb) (Ev.pos c (Ev.ret _)))) (fun q => rfl), fun t ht => by cases ht⟩
  ·rw [if_neg c]
   refine ⟨r, Ev.succ (Ev.po (Ev.bind (zb7p ⟨z, b⟩ hb) (Ev.neg c (Ev.po (Ev.pos he.1 (Ev.pos he.2 (Ev.cast h1 ?_))))))) (fun q => rfl), ?_⟩
   ·cases ents k (b.drop (entD b).2.toNat) <;> rfl
   ·intro t ht h3
    cases hq : ents k (b.drop (entD b).2.toNat) with
    | none => rw [hq] at ht; cases ht
    | some u =>
     rw [hq] at ht
     simp only [y4] at ht
     subst ht
     rw [h2 u hq h3]; simp
theorem zb7r (z : Bool) (e : Int) (st : zjh) (m : Nat) (hm : m ≤ 1000000) (b : List Int) (hb : isB b) (hl : b.length ≤ 1000000) :
  ∃ r, Ev (fun q => zl6 q z b e (m : Int) st.Kind st.L.z st.L.l st.Sealed st.To) (r, enE m b e) ∧ (∀ t, ents m b = some t → t.2 = [] → r = mkN 0 (st, t.1)) := by
 by_cases h0 : m = 0
 ·have hn : ents m b = some ([], b) := by rw [h0]; rfl
  unfold enE
  simp only [hn, y4]
  by_cases c : b = []
  ·rw [if_pos c]
   refine ⟨_, Ev.succ (Ev.ne (Ev.neg (by rw [c]; simp) (Ev.ret _))) (fun q => rfl), fun t ht _ => ?_⟩
   subst ht; rfl
  ·rw [if_neg c]
   have : 0 < b.length := List.length_pos_iff.2 c
   refine ⟨_, Ev.succ (Ev.ne (Ev.po (Ev.ret _))) (fun q => rfl), fun t ht h2 => ?_⟩
   subst ht; exact absurd h2 c
 ·obtain ⟨k, hk⟩ : ∃ k, m = k + 1 := ⟨m - 1, by omega⟩
  have he := zb61 (b := b)
  obtain ⟨r, h1, h2⟩ := zb7q z e st.Kind st.L.z st.L.l st.Sealed st.To m hm k 1 (b.drop (entD b).2.toNat) [(entD b).1] (by omega) rfl (zb3s hb _) (by rw [y13]; omega)
  rw [show ((1 : Nat) : Int) = wrp .i64 1 by rw [zb1z (by omega) (by omega)]; rfl] at h1
  unfold enE at h1 ⊢
  have hE : ents m b = if (entD b).2 = 0 then none else match ents k (b.drop (entD b).2.toNat) with | none => none | some t => some ((entD b).1 :: t.1, t.2) := by rw [hk]; rfl
  rw [hE]
  by_cases c : (entD b).2 = 0
  ·rw [if_pos c]
   exact ⟨_, Ev.succ (Ev.po (Ev.bind (zb7p ⟨z, b⟩ hb) (Ev.pos c (Ev.ret _)))) (fun q => rfl), fun t ht => by cases ht⟩
  ·rw [if_neg c]
   refine ⟨r, Ev.succ (Ev.po (Ev.bind (zb7p ⟨z, b⟩ hb) (Ev.neg c (Ev.pos he.1 (Ev.pos he.2 (Ev.cast h1 ?_)))))) (fun q => rfl), ?_⟩
   ·cases ents k (b.drop (entD b).2.toNat) <;> rfl
   ·intro t ht h3
    cases hq : ents k (b.drop (entD b).2.toNat) with
    | none => rw [hq] at ht; cases ht
    | some u =>
     rw [hq] at ht
     simp only [y4] at ht
     subst ht
     rw [h2 u hq h3]; rfl
theorem zb7s (s : Sl Int) (hb : isB s.l) (hl : s.l.length ≤ 1000000) : ∃ r, Ev (fun q => zl7 q s) (r, (whD s.l).2) ∧ ((whD s.l).2 = 0 → r = mkN 0 (whD s.l).1) := by
 have hn := zb3l (l := s.l)
 have g1 := zb3k s hb
 unfold whD
 by_cases c1 : (getN s.l).2 = 0
 ·rw [if_pos c1]; exact ⟨_, Ev.succ (Ev.bind g1 (Ev.pos c1 (Ev.ret _))) (fun q => rfl), fun h => by cases h⟩
 ·rw [if_neg c1]
  have w1 : wrp .i64 ((s.l.length : Int) - (getN s.l).2) = (s.l.length : Int) - (getN s.l).2 := zb1z (by omega) (by omega)
  by_cases c2 : (s.l.length : Int) - (getN s.l).2 < (getN s.l).1
  ·rw [if_pos c2]; exact ⟨_, Ev.succ (Ev.bind g1 (Ev.neg c1 (Ev.pos (by rw [w1]; exact c2) (Ev.ret _)))) (fun q => rfl), fun h => by cases h⟩
  ·rw [if_neg c2]
   have w2 : wrp .i64 ((getN s.l).2 + (getN s.l).1) = (getN s.l).2 + (getN s.l).1 := zb1z (by omega) (by omega)
   generalize hX : (s.l.take ((getN s.l).2 + (getN s.l).1).toNat).drop (getN s.l).2.toNat = X
   generalize hW : s.l.drop ((getN s.l).2 + (getN s.l).1).toNat = W
   have hbX : isB X := by rw [← hX]; exact zb3s (zb3r hb _) _
   have hlX : X.length ≤ 1000000 := by rw [← hX, y13, y20]; omega
   have hbW : isB W := by rw [← hW]; exact zb3s hb _
   have hlW : W.length = s.l.length - ((getN s.l).2 + (getN s.l).1).toNat := by rw [← hW, y13]
   have hm := zb3l (l := W)
   have hS := zb7o ⟨s.z, X⟩ hbX hlX
   have hG := zb7i s.z hbW
   have pre : ∀ {r : zjj × Int}, Ev (fun q => (zl3 q ⟨s.z, X⟩).bind fun r2 => (if r2.2 = 3 then (some ((⟨0, (⟨0, ⟨true, []⟩, false, 0⟩ : zjh), ⟨true, []⟩⟩ : zjj), r2.2)) else (if 0 ≤ (getN s.l).2 + (getN s.l).1 then (if (getN s.l).2 + (getN s.l).1 ≤ (s.l.length : Int) then ((zlm q ⟨s.z, W⟩).bind fun r3 => (if r3.2 = 0 then (some ((⟨0, (⟨0, ⟨true, []⟩, false, 0⟩ : zjh), ⟨true, []⟩⟩ : zjj), 3)) else (if (((s.l.length - ((getN s.l).2 + (getN s.l).1).toNat) : Nat) : Int) < r3.1 then (some ((⟨0, (⟨0, ⟨true, []⟩, false, 0⟩ : zjh), ⟨true, []⟩⟩ : zjj), 3)) else (if 0 ≤ r3.2 then (if r3.2 ≤ (((s.l.length - ((getN s.l).2 + (getN s.l).1).toNat) : Nat) : Int) then (zl6 q s.z (List.drop r3.2.toNat W) r2.2 r3.1 r2.1.Kind r2.1.L.z r2.1.L.l r2.1.Sealed r2.1.To) else none) else none)))) else none) else none))) r → Ev (fun q => zl7 q s) r := fun {r} h => by
    refine Ev.succ (Ev.bind g1 (Ev.neg c1 (Ev.neg (by rw [w1]; exact c2) (Ev.pos hn.1 (Ev.pos (by rw [w2]; omega) (Ev.pos (by rw [w2]; omega) ?_)))))) (fun q => rfl)
    rw [w2, hX, hW]; exact h
   by_cases c3 : (stD X).2 = 3
   ·rw [if_pos c3]; exact ⟨_, pre (Ev.bind hS (Ev.pos c3 (Ev.ret' (by rw [c3])))), fun h => by cases h⟩
   ·rw [if_neg c3]
    by_cases c4 : (getN W).2 = 0
    ·rw [if_pos c4]; exact ⟨_, pre (Ev.bind hS (Ev.neg c3 (Ev.po (Ev.po (Ev.bind hG (Ev.pos c4 (Ev.ret _))))))), fun h => by cases h⟩
    ·rw [if_neg c4]
     by_cases c5 : (W.length : Int) < (getN W).1
     ·rw [if_pos c5]; exact ⟨_, pre (Ev.bind hS (Ev.neg c3 (Ev.po (Ev.po (Ev.bind hG (Ev.neg c4 (Ev.po (Ev.ret _)))))))), fun h => by cases h⟩
     ·rw [if_neg c5]
      obtain ⟨r, h1, h2⟩ := zb7r s.z (stD X).2 (stD X).1 (getN W).1.toNat (by omega) (W.drop (getN W).2.toNat) (zb3s hbW _) (by rw [y13]; omega)
      rw [show ((((getN W).1.toNat : Nat)) : Int) = (getN W).1 by omega] at h1
      refine ⟨r, pre (Ev.bind hS (Ev.neg c3 (Ev.po (Ev.po (Ev.bind hG (Ev.neg c4 (Ev.ne (Ev.pos hm.1 (Ev.po (Ev.cast h1 ?_)))))))))), ?_⟩
      ·unfold enE
       cases ents (getN W).1.toNat (W.drop (getN W).2.toNat) with
       | none => rfl
       | some t => simp only; split <;> rfl
      ·intro h
       cases he : ents (getN W).1.toNat (W.drop (getN W).2.toNat) with
       | none => rw [he] at h; cases h
       | some t =>
        rw [he] at h
        simp only at h ⊢
        split at h
        ·rename_i c6
         rw [if_pos c6]; exact h2 t he c6
        ·cases h
theorem zb7t (l : List (Sl Int)) : flat l = (l.map (·.l)).flatten := by simp [flat, List.flatMap]
theorem zb7u : ∀ D : List (List Int), D.flatten.length ≤ (BB D).length ∧ D.length ≤ (BB D).length
 | [] => by simp
 | d :: D => by
  have h := zb7u D
  have e := zb51 d
  rw [zb4h, List.flatten_cons, y10, y10, y21]; omega
theorem zb7v {b : List Int} (hb : isB b) : (allE b).1.flatten.length ≤ b.length ∧ (allE b).1.length ≤ b.length := by
 by_cases h : (allE b).2 = 0
 ·have := zb7u (allE b).1; rw [zb6v hb h] at this; exact this
 ·unfold allE at h ⊢
  split
  ·rename_i e; rw [if_pos e] at h; exact absurd rfl h
  ·simp
theorem zb7w (s : Sl Int) (hz : s.z = true → s.l = []) (hb : isB s.l) (hl : s.l.length ≤ 1000000) : Ev (fun q => zl8 q s) (snD s.l) := by
 obtain ⟨z, X, hA, hX⟩ := zb4f s hz hb (by omega)
 have hme := zb6t hb
 have hlo := zb7v hb
 unfold snD
 by_cases c0 : (allE s.l).2 = 0
 ·rw [if_pos c0]
  rw [← hX] at hme hlo ⊢
  rw [c0] at hA
  by_cases hx : X.length = 0
  ·have hX0 : X = [] := y35 hx
   refine Ev.succ (Ev.bind hA (Ev.pos rfl (Ev.pos (by simp only; omega) (Ev.ret' ?_)))) (fun q => rfl)
   rw [hX0]; rfl
  ·obtain ⟨e, he⟩ : ∃ e, X[0]? = some e := ⟨X[0]'(by omega), y7 (by omega)⟩
   obtain ⟨T, hT⟩ : ∃ T, T = X.drop 1 := ⟨_, rfl⟩
   have hXe : X = e :: T := by
    cases X with
    | nil => simp at hx
    | cons a X => simp only [y37, y4] at he; rw [hT, he]; rfl
   have hml : X.map (·.l) = e.l :: T.map (·.l) := by rw [hXe, y34]
   rw [hml] at hme hlo ⊢
   dsimp only
   have hbe := hme e.l y32
   have hbt : isB (T.map (·.l)).flatten := zb69 fun d hd => (hme d (y36 _ hd)).1
   have hTl : T.length ≤ 1000000 := by have := hlo.2; rw [y21, y24] at this; omega
   have hTf : (T.map (·.l)).flatten.length ≤ 1000000 := by have := hlo.1; rw [List.flatten_cons, y10] at this; omega
   obtain ⟨m, hM, hm⟩ := zb7e e hbe.1 (by omega)
   obtain ⟨z', hC⟩ := zb3c ⟨z, T⟩ (by simp only; omega) (by simp only [zb7t]; omega)
   simp only [zb7t] at hC
   have hK := zb7h ⟨z, T⟩ (by simp only; omega)
   generalize (T.map (·.l)).flatten = w at hbt hTf hC ⊢
   have hS := zb2z ⟨z', w⟩ hbt (by simp only; omega)
   obtain ⟨r, hR, hr⟩ := zb7s ⟨z', w⟩ hbt hTf
   simp only at hS hR hr hK
   have pre : ∀ {x : zjj × Int}, Ev (fun q => (zlw q e).bind fun r3 => (if r3.2 = 0 then (if 1 ≤ X.length then ((zk9 q ⟨z, T⟩).bind fun r4 => (if (r4.xs.length : Int) = r3.1.size then ((zly q ⟨z, T⟩).bind fun r5 => (if r5 = true then ((zk0 q ⟨r4.n, r4.xs⟩).bind fun r6 => (if (wrp .u64 r6) = r3.1.sum then ((zl7 q ⟨r4.n, r4.xs⟩).bind fun r7 => (if r7.2 = 0 then ((zkk q (⟨r3.1.index, r7.1.State, r7.1.Table⟩ : zjj)).bind fun r8 => (if r8 = true then (some ((⟨r3.1.index, r7.1.State, r7.1.Table⟩ : zjj), 0)) else (some ((⟨0, (⟨0, ⟨true, []⟩, false, 0⟩ : zjh), ⟨true, []⟩⟩ : zjj), 1)))) else (some ((⟨0, (⟨0, ⟨true, []⟩, false, 0⟩ : zjh), ⟨true, []⟩⟩ : zjj), r7.2)))) else (some ((⟨0, (⟨0, ⟨true, []⟩, false, 0⟩ : zjh), ⟨true, []⟩⟩ : zjj), 4)))) else (some ((⟨0, (⟨0, ⟨true, []⟩, false, 0⟩ : zjh), ⟨true, []⟩⟩ : zjj), 3)))) else (some ((⟨0, (⟨0, ⟨true, []⟩, false, 0⟩ : zjh), ⟨true, []⟩⟩ : zjj), 16)))) else none) else (some ((⟨0, (⟨0, ⟨true, []⟩, false, 0⟩ : zjh), ⟨true, []⟩⟩ : zjj), r3.2)))) x → Ev (fun q => zl8 q s) x := fun {x} h => by
    refine Ev.succ (Ev.bind hA ?_) (fun q => rfl)
    refine Ev.pos rfl (Ev.neg (by simp only; omega) (Ev.pos (by simp only; omega) (Ev.opt he ?_)))
    rw [hT] at h; exact h
   have hn : noN = (⟨0, (⟨0, ⟨true, []⟩, false, 0⟩ : zjh), ⟨true, []⟩⟩ : zjj) := rfl
   simp only [hn]
   refine pre (Ev.bind hM ?_)
   refine Ev.ite (fun c1 => ?_) fun c1 => Ev.ret' (by simp only at c1; rw [if_neg c1])
   simp only at c1
   have hm := hm c1
   subst hm
   rw [if_pos c1]
   refine Ev.po (Ev.bind hC (Ev.ite (fun c2 => ?_) fun c2 => Ev.ret' (by simp only at c2; rw [if_neg c2])))
   simp only at c2
   rw [if_pos c2]
   refine Ev.bind hK (Ev.ite (fun c3 => ?_) fun c3 => Ev.ret' (by rw [if_neg c3]))
   rw [if_pos c3]
   have hw : wrp .u64 (u (bsum w)) = (((bsum w).toNat : Nat) : Int) := by rw [zb10 (u_nn _) (by have := u_lt (bsum w); omega)]; rfl
   refine Ev.bind hS (Ev.ite (fun c4 => ?_) fun c4 => Ev.ret' (by rw [hw] at c4; simp only at c4; rw [if_neg (fun e => c4 (by rw [e]))]))
   rw [hw] at c4
   simp only at c4
   rw [if_pos (by omega)]
   refine Ev.bind hR (Ev.ite (fun c5 => ?_) fun c5 => Ev.ret' (by simp only at c5; rw [if_neg c5]))
   simp only at c5
   have hr := hr c5
   subst hr
   rw [if_pos c5]
   have hiv := zb64 hbt c5 0
   have hbnd : (whD w).1.1.L.l.length ≤ 1000000 ∧ (whD w).1.2.length ≤ 1000000 := by
    have hst : (stateB (whD w).1.1).length ≤ w.length := by
     have : (stateB (whD w).1.1).length ≤ (wholeB (mkN 0 (whD w).1)).length := by simp only [wholeB, mkN, y10]; omega
     rw [hiv] at this; exact this
    have htb : (tabE (whD w).1.2).length ≤ w.length := by
     have : (tabE (whD w).1.2).length ≤ (wholeB (mkN 0 (whD w).1)).length := by simp only [wholeB, mkN, y10]; omega
     rw [hiv] at this; exact this
    have g1 : ∀ l : List Int, l.length ≤ (numsB l).length := fun l => by
     induction l with
     | nil => simp
     | cons a l ih => have := zb6n a; rw [zb5f, y10, y21]; omega
    have g2 : ∀ l : List zji, l.length ≤ (tabE l).length := fun l => by
     induction l with
     | nil => simp
     | cons e l ih => have := zb6n e.Resp; rw [zb5q, y10, y21]; simp only [entB, y10]; omega
    have h1 := g1 (whD w).1.1.L.l
    have h2 := g2 (whD w).1.2
    simp only [stateB, y10] at hst
    omega
   refine Ev.bind (zb44 (mkN (manD e.l).1.1 (whD w).1) hbnd.1 hbnd.2) (Ev.ite (fun c6 => Ev.ret' ?_) fun c6 => Ev.ret' ?_)
   ·rw [if_pos c6]; rfl
   ·rw [if_neg c6]
 ·rw [if_neg c0]
  exact Ev.succ (Ev.bind hA (Ev.neg c0 (Ev.ret _))) (fun q => rfl)
theorem zb7x {s : zjj} (h : mayN s = true) : s.State.L.l.length ≤ 1000000 ∧ s.Table.l.length ≤ 1000000 := by
 have hm := zb5d h
 have hk := zb49 (zb5a hm.2.2.1).2.2.2
 have := zb5x h
 omega
theorem zb7y {u : Nat} (h : u < 18446744073709551616) : Ev (fun q => zms q (u : Int)) (zag u) := by
 have e1 : Int.tmod (u : Int) 2 = ((u % 2 : Nat) : Int) := by rw [y60 (by omega)]; omega
 have e2 : Int.tdiv (u : Int) 2 = ((u / 2 : Nat) : Int) := by rw [Int.tdiv_eq_ediv_of_nonneg (by omega)]; omega
 have e3 : wrp .i64 (wrp .u64 ((u / 2 : Nat) : Int)) = ((u / 2 : Nat) : Int) := by rw [zb10 (by omega) (by omega), zb1z (by omega) (by omega)]
 refine Ev.succ (g := fun _ => if (Int.tmod (u : Int) 2) = 0 then (some (wrp .i64 (wrp .u64 (Int.tdiv (u : Int) 2)))) else (some (wrp .i64 ((wrp .i64 (0 - (wrp .i64 (wrp .u64 (Int.tdiv (u : Int) 2))))) - 1)))) ?_ (fun q => rfl)
 simp only [e1, e2, e3]
 unfold zag
 refine Ev.ite (fun h => Ev.ret' ?_) fun h => Ev.ret' ?_
 ·rw [if_pos (by omega)]
 ·rw [if_neg (by omega), zb1z (x := 0 - ((u / 2 : Nat) : Int)) (by omega) (by omega), zb1z (by omega) (by omega)]; omega
theorem zb7z (s : Sl Int) (hb : isB s.l) (hL : s.l.length ≤ 1099511627776) : Ev (fun q => zmt q s) (getS s.l) := by
 refine Ev.succ (Ev.bind (zb34 s hb hL) ?_) (fun q => rfl)
 unfold getS
 cases h : rd 0 s.l with
 | none => exact Ev.pos (by simp [resN]) (Ev.ret _)
 | some p =>
  have h1 := rd_len h
  have h2 := rd_lt hb (by omega) h
  simp only [resN]
  exact Ev.neg (by simp; omega) (Ev.bind (zb7y (by simpa using h2)) (Ev.ret _))
theorem rGet (z : Bool) {l : List Int} (hb : isB l) (hl : l.length ≤ 1000000) : Ev (fun q => zmd q ⟨z, l⟩) (getN l) := zb35 ⟨z, l⟩ hb (by simp only; omega)
theorem rGetS (z : Bool) {l : List Int} (hb : isB l) (hl : l.length ≤ 1000000) : Ev (fun q => zmt q ⟨z, l⟩) (getS l) := zb7z ⟨z, l⟩ hb (by simp only; omega)
theorem zb70 (z : Bool) (L : List (Sl Int)) (hL : L.length ≤ 1000000000) : ∀ (k i : Nat), L.length = i + k → Ev (fun q => zmq q z L (i : Int)) (cutB ((L.map (·.l)).drop i))
 | 0, i, hk => by
  refine Ev.succ (Ev.ne (Ev.ret' ?_)) (fun q => rfl)
  rw [y12 (by rw [y24]; omega)]; rfl
 | k + 1, i, hk => by
  have hi : i < L.length := by omega
  have he : L[((i : Int)).toNat]? = some L[i] := by simp [hi]
  have ih := zb70 z L hL k (i + 1) (by omega)
  rw [show ((i + 1 : Nat) : Int) = wrp .i64 ((i : Int) + 1) by rw [zb1z (by omega) (by omega)]; omega] at ih
  have w : wrp .i64 ((L.length : Int) - 1) = (L.length : Int) - 1 := zb1z (by omega) (by omega)
  rw [zb7f hi]
  refine Ev.succ (Ev.po (Ev.po (Ev.opt he (Ev.ite (fun c1 => Ev.ret' ?_) fun c1 => Ev.ite (fun c2 => Ev.ret' ?_) fun c2 => Ev.ite (fun c3 => Ev.ite (fun c4 => Ev.ret' ?_) fun c4 => Ev.cast ih ?_) fun c3 => Ev.cast ih ?_)))) (fun q => rfl)
  ·rw [decide_eq_false (show ¬ L[i].l.length ≤ 64 by omega)]; simp
  ·rw [decide_eq_false (show ¬ 1 ≤ L[i].l.length by omega)]; rfl
  ·rw [w] at c4
   rw [decide_eq_false (show ¬ L[i].l.length = 64 by omega), decide_eq_false (show ¬ L.length = i + 1 by omega)]; simp
  ·rw [w] at c4
   rw [decide_eq_true (show 1 ≤ L[i].l.length by omega), decide_eq_true (show L[i].l.length ≤ 64 by omega), decide_eq_true (show L.length = i + 1 by omega)]; simp
  ·rw [decide_eq_true (show 1 ≤ L[i].l.length by omega), decide_eq_true (show L[i].l.length ≤ 64 by omega), decide_eq_true (show L[i].l.length = 64 by omega)]; simp
theorem zb71 (s : Sl (Sl Int)) (hL : s.l.length ≤ 1000000000) : Ev (fun q => zmr q s) (cutB (s.l.map (·.l))) :=
 Ev.succ (zb70 s.z s.l hL s.l.length 0 (by omega)) (fun q => rfl)
theorem dropi (l : List Int) {i j : Int} (h1 : 0 ≤ i) (h2 : 0 ≤ j) : l.drop (i + j).toNat = (l.drop i.toNat).drop j.toNat := by
 rw [y50]; congr 1; omega
theorem zb72 (s : Sl Int) (hb : isB s.l) (hl : s.l.length ≤ 1000000) : Ev (fun q => zmp q s) ((manD s.l).1.1, (manD s.l).1.2.1, (((manD s.l).1.2.2 : Nat) : Int), (manD s.l).2) := by
 by_cases h0 : (s.l.length : Int) < 1
 ·have e : s.l[0]? = none := by rw [y51]; omega
  have hm : manD s.l = ((0, 0, 0), 3) := by simp only [manD, e]; rw [if_neg (by simp)]
  rw [hm]
  exact Ev.succ (Ev.pos h0 (Ev.ret _)) (fun q => rfl)
 ·obtain ⟨a, he⟩ : ∃ a, s.l[0]? = some a := ⟨s.l[0]'(by omega), y7 (by omega)⟩
  obtain ⟨d, hd⟩ : ∃ d, d = s.l.drop 1 := ⟨_, rfl⟩
  have hlc : s.l.length = d.length + 1 := by rw [hd, y13]; omega
  have hb0 : isB d := by rw [hd]; exact zb3s hb 1
  have hb1 := zb3s hb0 (getN d).2.toNat
  have hb2 := zb3s hb1 (getN (d.drop (getN d).2.toNat)).2.toNat
  have hb3 := zb3s hb2 (getN ((d.drop (getN d).2.toNat).drop (getN (d.drop (getN d).2.toNat)).2.toNat)).2.toNat
  have hx := zb3l (l := d)
  have hy := zb3l (l := d.drop (getN d).2.toNat)
  have hz := zb3l (l := (d.drop (getN d).2.toNat).drop (getN (d.drop (getN d).2.toNat)).2.toNat)
  simp only [y13] at hy hz
  by_cases ha : a = 115
  ·have hm : manD s.l = (if (getN d).2 = 0 then ((0, 0, 0), 3) else if (getN (d.drop (getN d).2.toNat)).2 = 0 then ((0, 0, 0), 3) else if (getN ((d.drop (getN d).2.toNat).drop (getN (d.drop (getN d).2.toNat)).2.toNat)).2 = 0 then ((0, 0, 0), 3) else if (getN d).1 = 3 then if (((d.drop (getN d).2.toNat).drop (getN (d.drop (getN d).2.toNat)).2.toNat).drop (getN ((d.drop (getN d).2.toNat).drop (getN (d.drop (getN d).2.toNat)).2.toNat)).2.toNat).length = 4 then (((getN (d.drop (getN d).2.toNat)).1, (getN ((d.drop (getN d).2.toNat).drop (getN (d.drop (getN d).2.toNat)).2.toNat)).1, numB (((d.drop (getN d).2.toNat).drop (getN (d.drop (getN d).2.toNat)).2.toNat).drop (getN ((d.drop (getN d).2.toNat).drop (getN (d.drop (getN d).2.toNat)).2.toNat)).2.toNat)), 0) else ((0, 0, 0), 3) else ((0, 0, 0), 6)) := by
    simp only [manD, ← hd]; rw [if_pos (by rw [he, ha])]
   rw [hm]
   refine Ev.succ (Ev.neg h0 (Ev.opt he (Ev.pos ha (Ev.pos (by omega) ?_)))) (fun q => rfl)
   have w1 : wrp .i64 (1 + (getN d).2) = 1 + (getN d).2 := zb1z (by omega) (by omega)
   have D1 : s.l.drop (1 + (getN d).2).toNat = d.drop (getN d).2.toNat := by rw [dropi _ (by omega) hx.1, hd]; rfl
   have w2 : wrp .i64 (1 + (getN d).2 + (getN (d.drop (getN d).2.toNat)).2) = 1 + (getN d).2 + (getN (d.drop (getN d).2.toNat)).2 := zb1z (by omega) (by omega)
   have D2 : s.l.drop (1 + (getN d).2 + (getN (d.drop (getN d).2.toNat)).2).toNat = (d.drop (getN d).2.toNat).drop (getN (d.drop (getN d).2.toNat)).2.toNat := by rw [dropi _ (by omega) hy.1, D1]
   have w3 : wrp .i64 (1 + (getN d).2 + (getN (d.drop (getN d).2.toNat)).2 + (getN ((d.drop (getN d).2.toNat).drop (getN (d.drop (getN d).2.toNat)).2.toNat)).2) = 1 + (getN d).2 + (getN (d.drop (getN d).2.toNat)).2 + (getN ((d.drop (getN d).2.toNat).drop (getN (d.drop (getN d).2.toNat)).2.toNat)).2 := zb1z (by omega) (by omega)
   have D3 : s.l.drop (1 + (getN d).2 + (getN (d.drop (getN d).2.toNat)).2 + (getN ((d.drop (getN d).2.toNat).drop (getN (d.drop (getN d).2.toNat)).2.toNat)).2).toNat = ((d.drop (getN d).2.toNat).drop (getN (d.drop (getN d).2.toNat)).2.toNat).drop (getN ((d.drop (getN d).2.toNat).drop (getN (d.drop (getN d).2.toNat)).2.toNat)).2.toNat := by rw [dropi _ (by omega) hz.1, D2]
   rw [← hd]
   refine Ev.bind (rGet _ hb0 (by omega)) ?_
   rw [w1, D1]
   refine Ev.po (Ev.po (Ev.bind (rGet _ hb1 (by simp only [y13]; omega)) ?_))
   rw [w2, D2]
   refine Ev.po (Ev.po (Ev.bind (rGet _ hb2 (by simp only [y13]; omega)) ?_))
   rw [w3, D3]
   refine Ev.ite (fun c1 => Ev.ret' (by rw [if_pos c1]; rfl)) fun c1 => Ev.ite (fun c2 => Ev.ret' (by rw [if_neg c1, if_pos c2]; rfl)) fun c2 => Ev.ite (fun c3 => Ev.ret' (by rw [if_neg c1, if_neg c2, if_pos c3]; rfl)) fun c3 => Ev.ite (fun c4 => Ev.po (Ev.po (Ev.ite (fun c5 => ?_) fun c5 => Ev.ret' ?_))) fun c4 => Ev.ret' ?_
   ·have h4 : (((d.drop (getN d).2.toNat).drop (getN (d.drop (getN d).2.toNat)).2.toNat).drop (getN ((d.drop (getN d).2.toNat).drop (getN (d.drop (getN d).2.toNat)).2.toNat)).2.toNat).length = 4 := by simp only [y13]; omega
    rw [if_neg c1, if_neg c2, if_neg c3, if_pos c4, if_pos h4]
    have hF := zb38 ⟨s.z, ((d.drop (getN d).2.toNat).drop (getN (d.drop (getN d).2.toNat)).2.toNat).drop (getN ((d.drop (getN d).2.toNat).drop (getN (d.drop (getN d).2.toNat)).2.toNat)).2.toNat⟩ hb3 (by simp only; omega)
    exact Ev.bind hF (Ev.ret _)
   ·have h4 : ¬ (((d.drop (getN d).2.toNat).drop (getN (d.drop (getN d).2.toNat)).2.toNat).drop (getN ((d.drop (getN d).2.toNat).drop (getN (d.drop (getN d).2.toNat)).2.toNat)).2.toNat).length = 4 := by simp only [y13]; omega
    rw [if_neg c1, if_neg c2, if_neg c3, if_pos c4, if_neg h4]; rfl
   ·rw [if_neg c1, if_neg c2, if_neg c3, if_neg c4]; rfl
  ·have hm : manD s.l = ((0, 0, 0), 3) := by
    simp only [manD]; rw [if_neg (by rw [he]; simpa using ha)]
   rw [hm]
   exact Ev.succ (Ev.neg h0 (Ev.opt he (Ev.neg ha (Ev.ret _)))) (fun q => rfl)
theorem zb73 (z : Bool) (L : List Int) (hb : isB L) (hL : L.length ≤ 1000000) (x : Int) (sl : Bool) (to : Int) (m : Nat) (hm : m ≤ 128) : ∀ (k i p : Nat) (acc : List Int), m = i + k → acc.length = i → p ≤ L.length →
  Ev (fun q => zmz q z L (m : Int) (p : Int) (i : Int) x sl to acc) (stE true k (L.drop p) acc x sl to)
 | 0, i, p, acc, hk, ha, hp => by
  unfold stE
  simp only [nums, List.append_nil]
  refine Ev.succ (Ev.ne (Ev.ite (fun c1 => Ev.bind (zb4y _ (by simp only; omega)) (Ev.ite (fun c3 => Ev.ret' ?_) fun c3 => Ev.ret' ?_)) fun c1 => Ev.ret' ?_)) (fun q => rfl)
  ·rw [if_pos ⟨trivial, trivial, y12 (by omega)⟩, if_pos c3]
  ·rw [if_pos ⟨trivial, trivial, y12 (by omega)⟩, if_neg c3]; rfl
  ·rw [if_neg (by rintro ⟨_, _, e⟩; have := congrArg List.length e; rw [y13, y25] at this; omega)]; rfl
 | k + 1, i, p, acc, hk, ha, hp => by
  have hs := zb4m (l := L.drop p)
  rw [y13] at hs
  have ih := zb73 z L hb hL x sl to m hm k (i + 1) (p + (getS (L.drop p)).2.toNat) (acc ++ [(getS (L.drop p)).1]) (by omega) (by rw [y10, List.length_singleton]; omega) (by omega)
  rw [show ((i + 1 : Nat) : Int) = wrp .i64 ((i : Int) + 1) by rw [zb1z (by omega) (by omega)]; omega, show ((p + (getS (L.drop p)).2.toNat : Nat) : Int) = wrp .i64 ((p : Int) + (getS (L.drop p)).2) by rw [zb1z (by omega) (by omega)]; omega] at ih
  rw [zb7k]
  refine Ev.succ (Ev.po (Ev.po (Ev.po (Ev.bind (rGetS z (zb3s hb p) (by rw [y13]; omega)) (Ev.ite (fun c => Ev.ret' ?_) fun c => Ev.po (Ev.cast ih ?_)))))) (fun q => rfl)
  ·rw [decide_eq_false (by omega), Bool.and_false, zb7l]; rfl
  ·rw [decide_eq_true (by omega), Bool.and_true, y50]
theorem zb74 (z : Bool) (L : List Int) (hb : isB L) (hL : L.length ≤ 1000000) (x : Int) (sl : Bool) (to : Int) (m : Nat) (hm : m ≤ 128) (p : Nat) (hp : p ≤ L.length) :
  Ev (fun q => zm0 q z L (m : Int) (p : Int) x sl to) (if (nums m (L.drop p)).2.1 = true ∧ (nums m (L.drop p)).2.2 = [] then if mayS ⟨x, ⟨(nums m (L.drop p)).1.isEmpty, (nums m (L.drop p)).1⟩, sl, to⟩ = true then (⟨x, ⟨(nums m (L.drop p)).1.isEmpty, (nums m (L.drop p)).1⟩, sl, to⟩, 0) else (noS, 1) else (noS, 3)) := by
 by_cases h0 : m = 0
 ·have hn : nums m (L.drop p) = ([], true, L.drop p) := by rw [h0]; rfl
  simp only [hn, List.isEmpty_nil]
  refine Ev.succ (Ev.ne (Ev.ite (fun c1 => Ev.bind (zb4y _ (by simp)) (Ev.ite (fun c3 => Ev.ret' ?_) fun c3 => Ev.ret' ?_)) fun c1 => Ev.ret' ?_)) (fun q => rfl)
  ·rw [if_pos ⟨trivial, y12 (by omega)⟩, if_pos c3]
  ·rw [if_pos ⟨trivial, y12 (by omega)⟩, if_neg c3]; rfl
  ·rw [if_neg (by rintro ⟨_, e⟩; have := congrArg List.length e; rw [y13, y25] at this; omega)]; rfl
 ·obtain ⟨k, hk⟩ : ∃ k, m = k + 1 := ⟨m - 1, by omega⟩
  have hs := zb4m (l := L.drop p)
  rw [y13] at hs
  have ih := zb73 z L hb hL x sl to m hm k 1 (p + (getS (L.drop p)).2.toNat) [(getS (L.drop p)).1] (by omega) rfl (by omega)
  rw [show ((1 : Nat) : Int) = wrp .i64 1 by rw [zb1z (by omega) (by omega)]; rfl, show ((p + (getS (L.drop p)).2.toNat : Nat) : Int) = wrp .i64 ((p : Int) + (getS (L.drop p)).2) by rw [zb1z (by omega) (by omega)]; omega] at ih
  have e := zb7k true k (L.drop p) [] x sl to
  rw [y62, y47] at e
  have goal : stE true (k + 1) (L.drop p) [] x sl to = (if (nums m (L.drop p)).2.1 = true ∧ (nums m (L.drop p)).2.2 = [] then if mayS ⟨x, ⟨(nums m (L.drop p)).1.isEmpty, (nums m (L.drop p)).1⟩, sl, to⟩ = true then (⟨x, ⟨(nums m (L.drop p)).1.isEmpty, (nums m (L.drop p)).1⟩, sl, to⟩, 0) else (noS, 1) else (noS, 3)) := by
   rw [hk]
   unfold stE
   by_cases c : (nums (k + 1) (L.drop p)).2.1 = true ∧ (nums (k + 1) (L.drop p)).2.2 = []
   ·rw [if_pos ⟨rfl, c⟩, if_pos c]; rfl
   ·rw [if_neg (fun e => c e.2), if_neg c]
  rw [← goal, e]
  refine Ev.succ (Ev.po (Ev.po (Ev.po (Ev.bind (rGetS z (zb3s hb p) (by rw [y13]; omega)) (Ev.ite (fun c => Ev.ret' ?_) fun c => Ev.cast ih ?_))))) (fun q => rfl)
  ·rw [decide_eq_false (by omega), zb7l]; rfl
  ·rw [decide_eq_true (by omega), y50]
theorem zb75 (s : Sl Int) (hb : isB s.l) (hl : s.l.length ≤ 1000000) : Ev (fun q => zm1 q s) (stD s.l) := by
 have hx := zb3l (l := s.l)
 have hy := zb3l (l := s.l.drop (getN s.l).2.toNat)
 have hz := zb3l (l := (s.l.drop (getN s.l).2.toNat).drop (getN (s.l.drop (getN s.l).2.toNat)).2.toNat)
 simp only [y13] at hy hz
 have hb1 := zb3s hb (getN s.l).2.toNat
 have hb2 := zb3s hb1 (getN (s.l.drop (getN s.l).2.toNat)).2.toNat
 have w1 : wrp .i64 ((getN s.l).2 + (getN (s.l.drop (getN s.l).2.toNat)).2) = (getN s.l).2 + (getN (s.l.drop (getN s.l).2.toNat)).2 := zb1z (by omega) (by omega)
 have D1 : s.l.drop ((getN s.l).2 + (getN (s.l.drop (getN s.l).2.toNat)).2).toNat = (s.l.drop (getN s.l).2.toNat).drop (getN (s.l.drop (getN s.l).2.toNat)).2.toNat := dropi _ hx.1 hy.1
 have w2 : wrp .i64 ((getN s.l).2 + (getN (s.l.drop (getN s.l).2.toNat)).2 + (getN ((s.l.drop (getN s.l).2.toNat).drop (getN (s.l.drop (getN s.l).2.toNat)).2.toNat)).2) = (((getN s.l).2 + (getN (s.l.drop (getN s.l).2.toNat)).2 + (getN ((s.l.drop (getN s.l).2.toNat).drop (getN (s.l.drop (getN s.l).2.toNat)).2.toNat)).2).toNat : Int) := by rw [zb1z (by omega) (by omega)]; omega
 have D2 : s.l.drop ((getN s.l).2 + (getN (s.l.drop (getN s.l).2.toNat)).2 + (getN ((s.l.drop (getN s.l).2.toNat).drop (getN (s.l.drop (getN s.l).2.toNat)).2.toNat)).2).toNat = ((s.l.drop (getN s.l).2.toNat).drop (getN (s.l.drop (getN s.l).2.toNat)).2.toNat).drop (getN ((s.l.drop (getN s.l).2.toNat).drop (getN (s.l.drop (getN s.l).2.toNat)).2.toNat)).2.toNat := by rw [dropi _ (by omega) hz.1, D1]
 have hl0 := fun sl to hm => zb74 s.z s.l hb hl (getN s.l).1 sl to (getN ((s.l.drop (getN s.l).2.toNat).drop (getN (s.l.drop (getN s.l).2.toNat)).2.toNat)).1.toNat hm ((getN s.l).2 + (getN (s.l.drop (getN s.l).2.toNat)).2 + (getN ((s.l.drop (getN s.l).2.toNat).drop (getN (s.l.drop (getN s.l).2.toNat)).2.toNat)).2).toNat (by omega)
 rw [D2, show ((((getN ((s.l.drop (getN s.l).2.toNat).drop (getN (s.l.drop (getN s.l).2.toNat)).2.toNat)).1.toNat : Nat)) : Int) = (getN ((s.l.drop (getN s.l).2.toNat).drop (getN (s.l.drop (getN s.l).2.toNat)).2.toNat)).1 by omega] at hl0
 have w : wrp .i64 ((getN (s.l.drop (getN s.l).2.toNat)).1 - 1) = (getN (s.l.drop (getN s.l).2.toNat)).1 - 1 := zb1z (by omega) (by omega)
 simp only [stD]
 refine Ev.succ (Ev.bind (rGet s.z hb hl) (Ev.pos hx.1 (Ev.pos hx.2.1 (Ev.bind (rGet _ hb1 (by rw [y13]; omega)) ?_)))) (fun q => rfl)
 rw [w1, D1]
 refine Ev.po (Ev.po (Ev.bind (rGet _ hb2 (by simp only [y13]; omega)) ?_))
 rw [w2, w]
 refine Ev.ite (fun c1 => Ev.ret' ?_) fun c1 => Ev.ite (fun c2 => Ev.ret' ?_) fun c2 => Ev.ite (fun c3 => Ev.ret' ?_) fun c3 => Ev.ite (fun c4 => Ev.ret' ?_) fun c4 => Ev.ite (fun c5 => Ev.ret' ?_) fun c5 => ?_
 ·rw [if_neg (by omega)]; rfl
 ·rw [if_neg (by omega)]; rfl
 ·rw [if_neg (by omega)]; rfl
 ·rw [if_neg (by omega)]; rfl
 ·rw [if_neg (by omega)]; rfl
 ·rw [if_pos (show 0 < (getN s.l).2 ∧ 0 < (getN (s.l.drop (getN s.l).2.toNat)).2 ∧ 0 < (getN ((s.l.drop (getN s.l).2.toNat).drop (getN (s.l.drop (getN s.l).2.toNat)).2.toNat)).2 ∧ (getN (s.l.drop (getN s.l).2.toNat)).1 ≤ 3 ∧ (getN ((s.l.drop (getN s.l).2.toNat).drop (getN (s.l.drop (getN s.l).2.toNat)).2.toNat)).1 ≤ 128 by omega)]
  refine Ev.ite (fun c6 => ?_) fun c6 => ?_
  ·refine Ev.cast (hl0 _ _ (by omega)) ?_
   unfold stR
   rw [if_neg (show ¬ (getN (s.l.drop (getN s.l).2.toNat)).1 - 1 < 0 by omega)]
  ·refine Ev.cast (hl0 _ _ (by omega)) ?_
   unfold stR
   rw [if_pos (show (getN (s.l.drop (getN s.l).2.toNat)).1 - 1 < 0 by omega)]
theorem zb76 (b : List Int) : (entD b).1 = ⟨(getN b).1, (getN (b.drop (getN b).2.toNat)).1, (getS ((b.drop (getN b).2.toNat).drop (getN (b.drop (getN b).2.toNat)).2.toNat)).1⟩ ∧ (entD b).2 = (if (getN b).2 = 0 then 0 else if (getN (b.drop (getN b).2.toNat)).2 = 0 then 0 else if (getS ((b.drop (getN b).2.toNat).drop (getN (b.drop (getN b).2.toNat)).2.toNat)).2 = 0 then 0 else (getN b).2 + (getN (b.drop (getN b).2.toNat)).2 + (getS ((b.drop (getN b).2.toNat).drop (getN (b.drop (getN b).2.toNat)).2.toNat)).2) := ⟨rfl, rfl⟩
/-- What becomes of a table's bytes, with those ahead. -/
def tbR (k : Nat) (b : List Int) (acc : List zji) : Ow zji × Bool := match ents k b with
 | none => (⟨true, true, []⟩, false)
 | some t => (⟨(acc ++ t.1).isEmpty, true, acc ++ t.1⟩, decide (t.2 = []))
theorem zb77 {k : Nat} {b : List Int} {acc : List zji} (h : (entD b).2 = 0) : tbR (k + 1) b acc = (⟨true, true, []⟩, false) := by
 unfold tbR ents; rw [if_pos h]
theorem zb78 {k : Nat} {b : List Int} {acc : List zji} (h : (entD b).2 ≠ 0) : tbR (k + 1) b acc = tbR k (b.drop (entD b).2.toNat) (acc ++ [(entD b).1]) := by
 unfold tbR
 have : ents (k + 1) b = match ents k (b.drop (entD b).2.toNat) with | none => none | some t => some ((entD b).1 :: t.1, t.2) := if_neg h
 rw [this]
 cases ents k (b.drop (entD b).2.toNat) with
 | none => rfl
 | some t => simp
theorem zb79 (z : Bool) (L : List Int) (hb : isB L) (hL : L.length ≤ 1000000) (m : Nat) (hm : m ≤ 1000000) : ∀ (k i p : Nat) (hz : Bool) (acc : List zji), m = i + k → acc.length = i → p ≤ L.length → hz = acc.isEmpty →
  Ev (fun q => zm2 q z L (m : Int) (p : Int) (i : Int) hz acc) (tbR k (L.drop p) acc)
 | 0, i, p, hz, acc, hk, ha, hp, hh => by
  refine Ev.succ (Ev.ne (Ev.ret' ?_)) (fun q => rfl)
  unfold tbR
  simp only [ents, List.append_nil, hh]
  congr 1
  by_cases c : p = L.length
  ·rw [decide_eq_true (by omega), decide_eq_true (y12 (by omega))]
  ·rw [decide_eq_false (by omega), decide_eq_false (fun e => by have := congrArg List.length e; rw [y13, y25] at this; omega)]
 | k + 1, i, p, hz, acc, hk, ha, hp, hh => by
  obtain ⟨d, hd⟩ : ∃ d, d = L.drop p := ⟨_, rfl⟩
  have hbd : isB d := by rw [hd]; exact zb3s hb p
  have hld : d.length = L.length - p := by rw [hd, y13]
  have hx := zb3l (l := d)
  have hy := zb3l (l := d.drop (getN d).2.toNat)
  have hs := zb4m (l := (d.drop (getN d).2.toNat).drop (getN (d.drop (getN d).2.toNat)).2.toNat)
  simp only [y13] at hy hs
  have hb1 := zb3s hbd (getN d).2.toNat
  have hb2 := zb3s hb1 (getN (d.drop (getN d).2.toNat)).2.toNat
  obtain ⟨q1, q2⟩ := zb76 d
  have w1 : wrp .i64 ((p : Int) + (getN d).2) = (p : Int) + (getN d).2 := zb1z (by omega) (by omega)
  have D1 : L.drop ((p : Int) + (getN d).2).toNat = d.drop (getN d).2.toNat := by rw [dropi _ (by omega) hx.1, hd]; rfl
  have w2 : wrp .i64 ((p : Int) + (getN d).2 + (getN (d.drop (getN d).2.toNat)).2) = (p : Int) + (getN d).2 + (getN (d.drop (getN d).2.toNat)).2 := zb1z (by omega) (by omega)
  have D2 : L.drop ((p : Int) + (getN d).2 + (getN (d.drop (getN d).2.toNat)).2).toNat = (d.drop (getN d).2.toNat).drop (getN (d.drop (getN d).2.toNat)).2.toNat := by rw [dropi _ (by omega) hy.1, D1]
  refine Ev.succ (Ev.po (Ev.po (Ev.pos (by omega) ?_))) (fun q => rfl)
  rw [y28, ← hd]
  refine Ev.bind (rGet _ hbd (by omega)) ?_
  rw [w1, D1]
  refine Ev.po (Ev.po (Ev.bind (rGet _ hb1 (by rw [y13]; omega)) ?_))
  rw [w2, D2]
  refine Ev.po (Ev.po (Ev.bind (rGetS _ hb2 (by simp only [y13]; omega)) ?_))
  refine Ev.ite (fun c1 => Ev.ret' ?_) fun c1 => Ev.ite (fun c2 => Ev.ret' ?_) fun c2 => Ev.ite (fun c3 => Ev.ret' ?_) fun c3 => Ev.pos (by omega) ?_
  ·rw [zb77 (by rw [q2, if_pos c1])]
  ·rw [zb77 (by rw [q2, if_neg c1, if_pos c2])]
  ·rw [zb77 (by rw [q2, if_neg c1, if_neg c2, if_pos c3])]
  ·rw [if_neg c1, if_neg c2, if_neg c3] at q2
   rw [zb78 (by omega), q1]
   have ih := zb79 z L hb hL m hm k (i + 1) (p + (entD d).2.toNat) false (acc ++ [⟨(getN d).1, (getN (d.drop (getN d).2.toNat)).1, (getS ((d.drop (getN d).2.toNat).drop (getN (d.drop (getN d).2.toNat)).2.toNat)).1⟩]) (by omega) (by rw [y10, List.length_singleton]; omega) (by omega) (by cases acc <;> rfl)
   rw [show ((i + 1 : Nat) : Int) = wrp .i64 ((i : Int) + 1) by rw [zb1z (by omega) (by omega)]; omega, show ((p + (entD d).2.toNat : Nat) : Int) = wrp .i64 ((p : Int) + (getN d).2 + (getN (d.drop (getN d).2.toNat)).2 + (getS ((d.drop (getN d).2.toNat).drop (getN (d.drop (getN d).2.toNat)).2.toNat)).2) by rw [zb1z (by omega) (by omega)]; omega] at ih
   have e2 : ∀ n, d.drop n = L.drop (p + n) := fun n => by rw [hd, y50]
   refine Ev.cast ih ?_
   rw [e2 (entD d).2.toNat]
theorem zb8a (s : Sl Int) (hb : isB s.l) (hl : s.l.length ≤ 1000000) : Ev (fun q => zm3 q s) (if (getN s.l).2 = 0 then (⟨true, true, []⟩, false) else if (s.l.length : Int) < (getN s.l).1 then (⟨true, true, []⟩, false) else tbR (getN s.l).1.toNat (s.l.drop (getN s.l).2.toNat) []) := by
 have hx := zb3l (l := s.l)
 refine Ev.succ (Ev.bind (rGet s.z hb hl) (Ev.ite (fun c1 => Ev.ret' ?_) fun c1 => Ev.ite (fun c2 => Ev.ret' ?_) fun c2 => ?_)) (fun q => rfl)
 ·rw [if_pos c1]
 ·rw [if_neg c1, if_pos c2]
 ·rw [if_neg c1, if_neg c2]
  have := zb79 s.z s.l hb hl (getN s.l).1.toNat (by omega) (getN s.l).1.toNat 0 (getN s.l).2.toNat true [] (by omega) rfl (by omega) rfl
  rw [show ((((getN s.l).1.toNat : Nat)) : Int) = (getN s.l).1 by omega, show ((((getN s.l).2.toNat : Nat)) : Int) = (getN s.l).2 by omega] at this
  exact this
theorem zb8b (s : Sl Int) (hb : isB s.l) (hl : s.l.length ≤ 1000000) : ∃ r, Ev (fun q => zm4 q s) (r, (whD s.l).2) ∧ ((whD s.l).2 = 0 → r = mkN 0 (whD s.l).1) := by
 have hn := zb3l (l := s.l)
 have g1 := rGet s.z hb hl
 unfold whD
 by_cases c1 : (getN s.l).2 = 0
 ·rw [if_pos c1]; exact ⟨_, Ev.succ (Ev.bind g1 (Ev.pos c1 (Ev.ret _))) (fun q => rfl), fun h => by cases h⟩
 ·rw [if_neg c1]
  have w1 : wrp .i64 ((s.l.length : Int) - (getN s.l).2) = (s.l.length : Int) - (getN s.l).2 := zb1z (by omega) (by omega)
  by_cases c2 : (s.l.length : Int) - (getN s.l).2 < (getN s.l).1
  ·rw [if_pos c2]; exact ⟨_, Ev.succ (Ev.bind g1 (Ev.neg c1 (Ev.pos (by rw [w1]; exact c2) (Ev.ret _)))) (fun q => rfl), fun h => by cases h⟩
  ·rw [if_neg c2]
   have w2 : wrp .i64 ((getN s.l).2 + (getN s.l).1) = (getN s.l).2 + (getN s.l).1 := zb1z (by omega) (by omega)
   generalize hX : (s.l.take ((getN s.l).2 + (getN s.l).1).toNat).drop (getN s.l).2.toNat = X
   generalize hW : s.l.drop ((getN s.l).2 + (getN s.l).1).toNat = W
   have hbX : isB X := by rw [← hX]; exact zb3s (zb3r hb _) _
   have hlX : X.length ≤ 1000000 := by rw [← hX, y13, y20]; omega
   have hbW : isB W := by rw [← hW]; exact zb3s hb _
   have hlW : W.length = s.l.length - ((getN s.l).2 + (getN s.l).1).toNat := by rw [← hW, y13]
   have hS := zb75 ⟨s.z, X⟩ hbX hlX
   have hT := zb8a ⟨s.z, W⟩ hbW (by simp only; omega)
   simp only at hS hT
   have pre : ∀ {r : zjj × Int} {t : Ow zji × Bool}, Ev (fun q => zm3 q ⟨s.z, W⟩) t → r = (if (stD X).2 = 3 then ((⟨0, (⟨0, ⟨true, []⟩, false, 0⟩ : zjh), ⟨true, []⟩⟩ : zjj), 3) else if t.2 = true then ((⟨0, (stD X).1, ⟨t.1.n, t.1.xs⟩⟩ : zjj), (stD X).2) else ((⟨0, (⟨0, ⟨true, []⟩, false, 0⟩ : zjh), ⟨true, []⟩⟩ : zjj), 3)) → Ev (fun q => zm4 q s) r := fun {r t} ht hr => by
    refine Ev.succ (Ev.bind g1 (Ev.neg c1 (Ev.neg (by rw [w1]; exact c2) (Ev.pos hn.1 (Ev.pos (by rw [w2]; omega) (Ev.pos (by rw [w2]; omega) ?_)))))) (fun q => rfl)
    rw [w2, hX, hW]
    refine Ev.bind hS (Ev.po (Ev.po (Ev.bind ht (Ev.ite (fun d1 => Ev.ret' ?_) fun d1 => Ev.ite (fun d2 => Ev.ret' ?_) fun d2 => Ev.ret' ?_))))
    ·rw [hr, if_pos d1]
    ·rw [hr, if_neg d1, if_pos d2]
    ·rw [hr, if_neg d1, if_neg d2]
   by_cases c3 : (stD X).2 = 3
   ·rw [if_pos c3]; exact ⟨_, pre hT (by rw [if_pos c3]), fun h => by cases h⟩
   ·rw [if_neg c3]
    by_cases c4 : (getN W).2 = 0
    ·rw [if_pos c4] at hT ⊢; exact ⟨_, pre hT (by rw [if_neg c3, if_neg (by simp)]), fun h => by cases h⟩
    ·rw [if_neg c4] at hT ⊢
     by_cases c5 : (W.length : Int) < (getN W).1
     ·rw [if_pos c5] at hT ⊢; exact ⟨_, pre hT (by rw [if_neg c3, if_neg (by simp)]), fun h => by cases h⟩
     ·rw [if_neg c5] at hT ⊢
      cases he : ents (getN W).1.toNat (W.drop (getN W).2.toNat) with
      | none =>
       have : tbR (getN W).1.toNat (W.drop (getN W).2.toNat) [] = (⟨true, true, []⟩, false) := by unfold tbR; rw [he]
       rw [this] at hT
       exact ⟨_, pre hT (by rw [if_neg c3, if_neg (by simp)]), fun h => by cases h⟩
      | some t =>
       have : tbR (getN W).1.toNat (W.drop (getN W).2.toNat) [] = (⟨t.1.isEmpty, true, t.1⟩, decide (t.2 = [])) := by unfold tbR; rw [he]; rfl
       rw [this] at hT
       simp only
       by_cases c6 : t.2 = []
       ·rw [if_pos c6]
        exact ⟨mkN 0 ((stD X).1, t.1), pre hT (by rw [if_neg c3, if_pos (by simpa using c6)]; rfl), fun h => rfl⟩
       ·rw [if_neg c6]
        exact ⟨noN, pre hT (by rw [if_neg c3, if_neg (by simpa using c6)]; rfl), fun h => by cases h⟩
/-- What the loop of Decode goes on with. -/
def refTail (q : Nat) (v7 v8 v9 : Int) (h2z : Bool) (h2l : List (Sl Int)) (h3z : Bool) (h3l : List Int) : Option (zjj × Int) :=
 (if (h3l.length : Int) = v8 then (if 1 ≤ h2l.length then ((zmr q ⟨h2z, (List.drop 1 h2l)⟩).bind fun r5 => (if r5 = true then ((zmi q ⟨h3z, h3l⟩).bind fun r6 => (if (wrp .u64 r6) = v9 then ((zm4 q ⟨h3z, h3l⟩).bind fun r7 => (if r7.2 = 0 then ((zm7 q (⟨v7, r7.1.State, r7.1.Table⟩ : zjj)).bind fun r8 => (if r8 = true then (some ((⟨v7, r7.1.State, r7.1.Table⟩ : zjj), 0)) else (some ((⟨0, (⟨0, ⟨true, []⟩, false, 0⟩ : zjh), ⟨true, []⟩⟩ : zjj), 1)))) else (some ((⟨0, (⟨0, ⟨true, []⟩, false, 0⟩ : zjh), ⟨true, []⟩⟩ : zjj), r7.2)))) else (some ((⟨0, (⟨0, ⟨true, []⟩, false, 0⟩ : zjh), ⟨true, []⟩⟩ : zjj), 4)))) else (some ((⟨0, (⟨0, ⟨true, []⟩, false, 0⟩ : zjh), ⟨true, []⟩⟩ : zjj), 3)))) else none) else (some ((⟨0, (⟨0, ⟨true, []⟩, false, 0⟩ : zjh), ⟨true, []⟩⟩ : zjj), 16)))
theorem zb8c (v7 v8 v9 : Int) (z : Bool) (X : List (Sl Int)) (x : Bool) (hL : X.length ≤ 1000000) : ∀ (k i : Nat) (hz : Bool) (acc : List Int), X.length = i + k → acc.length + (flat (X.drop i)).length ≤ 4294967296 →
  ∃ z', ∀ {r}, Ev (fun q => refTail q v7 v8 v9 z X z' (acc ++ flat (X.drop i))) r → Ev (fun q => zm8 q v7 v8 v9 (i : Int) z X x hz acc) r
 | 0, i, hz, acc, hk, hl => by
  refine ⟨hz, fun {r} h => Ev.succ (Ev.neg (by omega) ?_) (fun q => rfl)⟩
  rw [y12 (by omega)] at h
  simp only [flat, List.flatMap_nil, List.append_nil] at h
  exact h
 | k + 1, i, hz, acc, hk, hl => by
  have hi : i < X.length := by omega
  have hg : X[(i : Int).toNat]? = some X[i] := by simpa using y7 hi
  rw [y9 hi, zb28, y10] at hl
  obtain ⟨z', ih⟩ := zb8c v7 v8 v9 z X x hL k (i + 1) (hz && (decide (X[i].l.length = 0))) (acc ++ X[i].l) (by omega) (by rw [y10]; omega)
  refine ⟨z', fun {r} h => Ev.succ (Ev.po (Ev.po (Ev.po (Ev.opt hg (Ev.pos (by omega) ?_))))) (fun q => rfl)⟩
  rw [zb1z (by omega) (by omega), show ((i : Int) + 1) = ((i + 1 : Nat) : Int) by omega]
  refine ih ?_
  rw [y33, ← zb28, ← y9 hi]; exact h
theorem zb8d {w : List Int} (hb : isB w) (hl : w.length ≤ 1000000) (h : (whD w).2 = 0) : (whD w).1.1.L.l.length ≤ 1000000 ∧ (whD w).1.2.length ≤ 1000000 := by
 have hiv := zb64 hb h 0
 have hst : (stateB (whD w).1.1).length ≤ w.length := by
  have : (stateB (whD w).1.1).length ≤ (wholeB (mkN 0 (whD w).1)).length := by simp only [wholeB, mkN, y10]; omega
  rw [hiv] at this; exact this
 have htb : (tabE (whD w).1.2).length ≤ w.length := by
  have : (tabE (whD w).1.2).length ≤ (wholeB (mkN 0 (whD w).1)).length := by simp only [wholeB, mkN, y10]; omega
  rw [hiv] at this; exact this
 have g1 : ∀ l : List Int, l.length ≤ (numsB l).length := fun l => by
  induction l with
  | nil => simp
  | cons a l ih => have := zb6n a; rw [zb5f, y10, y21]; omega
 have g2 : ∀ l : List zji, l.length ≤ (tabE l).length := fun l => by
  induction l with
  | nil => simp
  | cons e l ih => have := zb6n e.Resp; rw [zb5q, y10, y21]; simp only [entB, y10]; omega
 have h1 := g1 (whD w).1.1.L.l
 have h2 := g2 (whD w).1.2
 simp only [stateB, y10] at hst
 omega
theorem zb8e (s : Sl Int) (hb : isB s.l) (hl : s.l.length ≤ 1000000) : Ev (fun q => zm9 q s) (snD s.l) := by
 obtain ⟨z, X, hA, hX⟩ := zb4g s hb (by omega)
 have hme := zb6t hb
 have hlo := zb7v hb
 unfold snD
 by_cases c0 : (allE s.l).2 = 0
 ·rw [if_pos c0]
  rw [← hX] at hme hlo ⊢
  rw [c0] at hA
  by_cases hx : X.length = 0
  ·have hX0 : X = [] := y35 hx
   refine Ev.succ (Ev.bind hA (Ev.pos rfl (Ev.pos (by simp only; omega) (Ev.ret' ?_)))) (fun q => rfl)
   rw [hX0]; rfl
  ·obtain ⟨e, he⟩ : ∃ e, X[0]? = some e := ⟨X[0]'(by omega), y7 (by omega)⟩
   obtain ⟨T, hT⟩ : ∃ T, T = X.drop 1 := ⟨_, rfl⟩
   have hXe : X = e :: T := by
    cases X with
    | nil => simp at hx
    | cons a X => simp only [y37, y4] at he; rw [hT, he]; rfl
   have hml : X.map (·.l) = e.l :: T.map (·.l) := by rw [hXe, y34]
   rw [hml] at hme hlo ⊢
   dsimp only
   have hbe := hme e.l y32
   have hbt : isB (T.map (·.l)).flatten := zb69 fun d hd => (hme d (y36 _ hd)).1
   have hTl : T.length + 1 ≤ 1000000 := by have := hlo.2; rw [y21, y24] at this; omega
   have hTf : (T.map (·.l)).flatten.length ≤ 1000000 := by have := hlo.1; rw [List.flatten_cons, y10] at this; omega
   have hel : e.l.length ≤ 1000000 := by have := hlo.1; rw [List.flatten_cons, y10] at this; omega
   have hM := zb72 e hbe.1 hel
   have hXl : X.length = T.length + 1 := by rw [hXe, y21]
   have hfl : flat (X.drop 1) = (T.map (·.l)).flatten := by rw [← hT, zb7t]
   obtain ⟨z', hloop⟩ := zb8c (manD e.l).1.1 (manD e.l).1.2.1 (((manD e.l).1.2.2 : Nat) : Int) z X true (by omega) T.length 1 true [] (by omega) (by rw [hfl, y25]; omega)
   rw [hfl, y47] at hloop
   have hK := zb71 ⟨z, T⟩ (by simp only; omega)
   generalize (T.map (·.l)).flatten = w at hbt hTf hloop ⊢
   have hS := zb30 ⟨z', w⟩ hbt (by simp only; omega)
   obtain ⟨r, hR, hr⟩ := zb8b ⟨z', w⟩ hbt hTf
   simp only at hS hR hr hK
   have hn : noN = (⟨0, (⟨0, ⟨true, []⟩, false, 0⟩ : zjh), ⟨true, []⟩⟩ : zjj) := rfl
   simp only [hn]
   refine Ev.succ (Ev.bind hA ?_) (fun q => rfl)
   refine Ev.pos rfl (Ev.neg (by simp only; omega) (Ev.pos (by simp only; omega) (Ev.opt he (Ev.bind hM ?_))))
   refine Ev.ite (fun c1 => ?_) fun c1 => Ev.ret' (by simp only at c1; rw [if_neg c1])
   simp only at c1
   rw [if_pos c1]
   refine hloop ?_
   unfold refTail
   rw [← hT]
   refine Ev.ite (fun c2 => ?_) fun c2 => Ev.ret' (by rw [if_neg c2])
   rw [if_pos c2]
   refine Ev.po (Ev.bind hK (Ev.ite (fun c3 => ?_) fun c3 => Ev.ret' (by rw [if_neg c3])))
   rw [if_pos c3]
   have hw : wrp .u64 (u (bsum w)) = (((bsum w).toNat : Nat) : Int) := by rw [zb10 (u_nn _) (by have := u_lt (bsum w); omega)]; rfl
   refine Ev.bind hS (Ev.ite (fun c4 => ?_) fun c4 => Ev.ret' (by rw [hw] at c4; rw [if_neg (fun e => c4 (by rw [e]))]))
   rw [hw] at c4
   rw [if_pos (by omega)]
   refine Ev.bind hR (Ev.ite (fun c5 => ?_) fun c5 => Ev.ret' (by simp only at c5; rw [if_neg c5]))
   simp only at c5
   have hr := hr c5
   subst hr
   rw [if_pos c5]
   have hbnd := zb8d hbt hTf c5
   refine Ev.bind (zb45 (mkN (manD e.l).1.1 (whD w).1) hbnd.1 hbnd.2) (Ev.ite (fun c6 => Ev.ret' ?_) fun c6 => Ev.ret' ?_)
   ·rw [if_pos c6]; rfl
   ·rw [if_neg c6]
 ·rw [if_neg c0]
  exact Ev.succ (Ev.bind hA (Ev.neg c0 (Ev.ret _))) (fun q => rfl)
theorem zb8f {b : List Int} (hb : isB b) : (snD b).1.State.L.l.length ≤ 1000000 ∧ (snD b).1.Table.l.length ≤ 1000000 := by
 by_cases h : (snD b).2 = 0
 ·exact zb7x (zb7a hb h).1
 ·have : (snD b).1 = noN := by
   unfold snD at h ⊢
   split
   ·split
    ·rfl
    ·split
     ·split
      ·split
       ·split
        ·split
         ·split
          ·rename_i c0 _ _ _ e c1 c2 c3 c4 c5 c6; rw [if_pos c0, e] at h; dsimp only at h; rw [if_pos c1, if_pos c2, if_pos c3, if_pos c4, if_pos c5, if_pos c6] at h; exact absurd rfl h
          ·rfl
         ·rfl
        ·rfl
       ·rfl
      ·rfl
     ·rfl
   ·rfl
  rw [this]; simp [noN, noS]
theorem zb8g : ∀ (a0 : (Sl Int)), okSl (fun x => inR .u8 x) a0 → ∃ q, zne q a0 = some true := by
 intro s hs
 have hb := isB_of hs
 refine Ev.get (Ev.succ (Ev.bind zb6m (Ev.ite (fun h => Ev.ret _) fun h => ?_)) (fun q => rfl))
 have hbd := zb8f hb
 have hS := zb6d (snD s.l).1 (snD s.l).1 (by omega) (by omega)
 rw [zb6e] at hS
 exact Ev.bind (zb7w s hs.1 hb (by omega)) (Ev.bind (zb8e s hb (by omega)) (Ev.bind hS (Ev.pos rfl (Ev.pos rfl (Ev.ret' (by simp))))))
end Go.Dvm.I
