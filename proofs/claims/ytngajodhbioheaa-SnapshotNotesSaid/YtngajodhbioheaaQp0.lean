/- Plain laws of the functions: part 1. -/
import Derived.Test.YtngajodhbioheaaQi
set_option linter.all false
set_option maxRecDepth 100000
namespace Go.Dvm.I
open Go Go.Dvm
/-- With enough rounds. -/
def Ev {R : Type} (g : Nat → Option R) (r : R) : Prop := ∃ N, ∀ q, N ≤ q → g q = some r
section
variable {R S : Type}
theorem Ev.ret (r : R) : Ev (fun _ => some r) r := ⟨0, fun _ _ => rfl⟩
theorem Ev.ret' {r r' : R} (h : r = r') : Ev (fun _ => some r) r' := ⟨0, fun _ _ => by rw [h]⟩
theorem Ev.succ {f g : Nat → Option R} {r : R} (h : Ev g r) (e : ∀ q, f (q + 1) = g q) : Ev f r := by
 obtain ⟨N, h⟩ := h
 refine ⟨N + 1, fun q hq => ?_⟩
 obtain ⟨q, rfl⟩ : ∃ p, q = p + 1 := ⟨q - 1, by omega⟩
 rw [e]; exact h q (by omega)
theorem Ev.bind {g : Nat → Option S} {k : Nat → S → Option R} {s : S} {r : R} (h : Ev g s) (h2 : Ev (fun q => k q s) r) : Ev (fun q => (g q).bind (k q)) r := by
 obtain ⟨N, h⟩ := h
 obtain ⟨M, h2⟩ := h2
 exact ⟨N + M, fun q hq => by show (g q).bind (k q) = some r; rw [h q (by omega), y4]; exact h2 q (by omega)⟩
theorem Ev.opt {o : Option S} {k : Nat → S → Option R} {s : S} {r : R} (h : o = some s) (h2 : Ev (fun q => k q s) r) : Ev (fun q => o.bind (k q)) r := by
 subst h; exact h2
theorem Ev.pos {c : Prop} [Decidable c] {a b : Nat → Option R} {r : R} (hc : c) (h : Ev a r) : Ev (fun q => if c then a q else b q) r := by
 obtain ⟨N, h⟩ := h
 exact ⟨N, fun q hq => by show (if c then a q else b q) = some r; rw [if_pos hc]; exact h q hq⟩
theorem Ev.neg {c : Prop} [Decidable c] {a b : Nat → Option R} {r : R} (hc : ¬ c) (h : Ev b r) : Ev (fun q => if c then a q else b q) r := by
 obtain ⟨N, h⟩ := h
 exact ⟨N, fun q hq => by show (if c then a q else b q) = some r; rw [if_neg hc]; exact h q hq⟩
theorem Ev.po {c : Prop} [Decidable c] {a b : Nat → Option R} {r : R} (h : Ev a r) (hc : c := by omega) : Ev (fun q => if c then a q else b q) r := Ev.pos hc h
theorem Ev.ne {c : Prop} [Decidable c] {a b : Nat → Option R} {r : R} (h : Ev b r) (hc : ¬ c := by omega) : Ev (fun q => if c then a q else b q) r := Ev.neg hc h
theorem Ev.ite {c : Prop} [Decidable c] {a b : Nat → Option R} {r : R} (h1 : c → Ev a r) (h2 : ¬ c → Ev b r) : Ev (fun q => if c then a q else b q) r := by
 by_cases hc : c
 ·exact .pos hc (h1 hc)
 ·exact .neg hc (h2 hc)
theorem Ev.get {f : Nat → Option R} {r : R} (h : Ev f r) : ∃ q, f q = some r := by
 obtain ⟨N, h⟩ := h; exact ⟨N, h N (y13 _)⟩
theorem Ev.cast {f : Nat → Option R} {r r' : R} (h : Ev f r) (e : r = r') : Ev f r' := e ▸ h
end
theorem zbh4 {x : Int} (h1 : -9223372036854775808 ≤ x) (h2 : x ≤ 9223372036854775807) : wrp .i64 x = x := by
 unfold wrp; simp [IntKind.wrap, IntKind.min, IntKind.max, IntKind.signed, IntKind.bits] <;> omega
theorem zbh5 {x : Int} (h1 : 0 ≤ x) (h2 : x ≤ 18446744073709551615) : wrp .u64 x = x := by
 unfold wrp; simp [IntKind.wrap, IntKind.min, IntKind.max, IntKind.signed, IntKind.bits] <;> omega
theorem zbh6 {x : Int} (h1 : 0 ≤ x) (h2 : x ≤ 4294967295) : wrp .u32 x = x := by
 unfold wrp; simp [IntKind.wrap, IntKind.min, IntKind.max, IntKind.signed, IntKind.bits] <;> omega
theorem wrp_u8 (x : Int) : wrp .u8 x = x % 256 := by
 unfold wrp; simp [IntKind.wrap, IntKind.min, IntKind.max, IntKind.signed, IntKind.bits] <;> omega
theorem zbh7 {x : Int} (h1 : 0 ≤ x) : ishr .u64 x 7 = x / 128 := by
 unfold ishr; simp [IntKind.bits]
 rw [y51]; omega
theorem or128 {x : Int} (h1 : 0 ≤ x) (h2 : x < 256) : ibits .or .u8 x 128 = x % 128 + 128 := by
 obtain ⟨n, rfl⟩ := Int.eq_ofNat_of_zero_le h1
 have hn : n < 256 := by omega
 have : ∀ m : Fin 256, ibits .or .u8 (m.val : Int) 128 = (m.val : Int) % 128 + 128 := by unfold ibits; decide +kernel
 exact this ⟨n, hn⟩
/-- A number's groups. -/
def grp (n : Nat) : List Int := if h : n < 128 then [(n : Int)] else ((n % 128 + 128 : Nat) : Int) :: grp (n / 128)
theorem grp_lt {n : Nat} (h : n < 128) : grp n = [(n : Int)] := by rw [grp, dif_pos h]
theorem grp_ge {n : Nat} (h : ¬ n < 128) : grp n = ((n % 128 + 128 : Nat) : Int) :: grp (n / 128) := by rw [grp, dif_neg h]
theorem zbh8 : ∀ (k : Nat) {n : Nat}, n < 128 ^ (k + 1) → (grp n).length ≤ k + 1
 | 0, n, h => by rw [grp_lt (by simpa using h)]; simp
 | k + 1, n, h => by
  by_cases hn : n < 128
  ·rw [grp_lt hn]; simp
  ·rw [grp_ge hn]
   have := zbh8 k (n := n / 128) (by rw [Nat.div_lt_iff_lt_mul (by omega)]; rw [Nat.pow_succ] at h; exact h)
   simp; omega
theorem zbh9 {n : Nat} (h : n < 18446744073709551616) : (grp n).length ≤ 10 := zbh8 9 (by omega)
theorem zbia (n : Nat) : 1 ≤ (grp n).length := by
 by_cases hn : n < 128
 ·rw [grp_lt hn]; simp
 ·rw [grp_ge hn]; simp
theorem zbib : ∀ (n : Nat) (z : Bool) (l : List Int) (x : Bool), l.length + (grp n).length ≤ 4294967296 → Ev (fun q => zlc q (n : Int) z l x) ⟨false, x, l ++ grp n⟩ := by
 intro n
 induction n using Nat.strongRecOn with
 | ind n ih =>
  intro z l x hl
  refine Ev.succ ?_ (fun q => rfl)
  by_cases hn : n < 128
  ·rw [grp_lt hn] at hl ⊢
   refine Ev.ne (Ev.pos (by simpa using hl) (Ev.ret' ?_))
   rw [wrp_u8]; congr 3; omega
  ·rw [grp_ge hn] at hl ⊢
   simp only [y20] at hl
   refine Ev.po (Ev.pos (by omega) ?_)
   rw [zbh7 (by omega), wrp_u8, or128 (by omega) (by omega)]
   have := ih (n / 128) (by omega) false (l ++ [((n % 128 + 128 : Nat) : Int)]) x (by simp; omega)
   rw [show ((n : Int) % 256 % 128 + 128) = ((n % 128 + 128 : Nat) : Int) by omega, show ((n : Int) / 128) = ((n / 128 : Nat) : Int) by omega]
   simpa using this
theorem zbic {u : Int} (h1 : 0 ≤ u) (b : Ow Int) (hl : b.xs.length + (grp u.toNat).length ≤ 4294967296) : Ev (fun q => zld q b u) ⟨false, b.x, b.xs ++ grp u.toNat⟩ := by
 have := zbib u.toNat b.n b.xs b.x hl
 rw [Int.toNat_of_nonneg h1] at this
 exact Ev.succ this (fun q => rfl)
/-- What a number puts behind bytes. -/
def put (n : Int) : List Int := if n < 0 then [] else if 4611686018427387904 ≤ n then [] else grp n.toNat
theorem put_ok {n : Int} (h1 : 0 ≤ n) (h2 : n < 4611686018427387904) : put n = grp n.toNat := by
 unfold put; rw [if_neg (by omega), if_neg (by omega)]
theorem zbid (n : Int) : (put n).length ≤ 10 := by
 unfold put; split
 ·simp
 ·split
  ·simp
  ·exact zbh9 (by omega)
theorem zbie {n : Int} (b : Ow Int) (h1 : 0 ≤ n) (h2 : n < 4611686018427387904) (hl : b.xs.length + 10 ≤ 4294967296) : Ev (fun q => zle q b n) ⟨false, b.x, b.xs ++ put n⟩ := by
 refine Ev.succ ?_ (fun q => rfl)
 rw [put_ok h1 h2]
 have hg := zbh9 (n := n.toNat) (by omega)
 refine Ev.ne (Ev.neg (by omega) ?_)
 rw [zbh5 h1 (by omega)]
 exact Ev.bind (zbic h1 b (by omega)) (Ev.ret _)
/-- Zigzag. -/
def zig (n : Int) : Nat := if 0 ≤ n then 2 * n.toNat else 2 * (-n).toNat - 1
theorem zig_lt {n : Int} (h : inR .i64 n) : zig n < 18446744073709551616 := by
 simp [inR, IntKind.min, IntKind.max, IntKind.signed, IntKind.bits] at h
 unfold zig; split <;> omega
def putS (n : Int) : List Int := grp (zig n)
theorem zbif (k : IntKind) (n : Int) : k.wrap n = wrp k n := by unfold wrp; rfl
theorem xor0 {x : Int} (h1 : 0 ≤ x) (h2 : x < 18446744073709551616) : ibits .xor .u64 x 0 = x := by
 have e : ibits .xor .u64 x 0 = IntKind.wrap .u64 (((BitVec.ofInt 64 x ^^^ 0#64 : BitVec 64).toNat : Nat) : Int) := by unfold ibits; rfl
 rw [e, BitVec.xor_zero, y47, zbif, zbh5] <;> omega
theorem xor1 {x : Int} (h1 : 0 ≤ x) (h2 : x < 18446744073709551616) : ibits .xor .u64 x 18446744073709551615 = 18446744073709551615 - x := by
 have e : ibits .xor .u64 x 18446744073709551615 = IntKind.wrap .u64 (((BitVec.ofInt 64 x ^^^ BitVec.allOnes 64 : BitVec 64).toNat : Nat) : Int) := by unfold ibits; rfl
 rw [e, BitVec.xor_allOnes, BitVec.toNat_not, y47, zbif, zbh5] <;> omega
theorem ishl1 {x : Int} (h1 : 0 ≤ x) : ishl .u64 x 1 = (2 * x) % 18446744073709551616 := by
 unfold ishl
 simp [IntKind.wrap, IntKind.signed, IntKind.bits]
 omega
theorem zbig (x : Int) : wrp .u64 x = x % 18446744073709551616 := by
 unfold wrp; simp [IntKind.wrap, IntKind.signed, IntKind.bits]
theorem ishr63 {x : Int} (h : inR .i64 x) : ishr .i64 x 63 = if 0 ≤ x then 0 else -1 := by
 simp [inR, IntKind.min, IntKind.max, IntKind.signed, IntKind.bits] at h
 unfold ishr; simp [IntKind.bits]
 rw [y51 _ (by omega)]
 split <;> omega
theorem zbih {n : Int} (h : inR .i64 n) : Ev (fun q => zlf q n) ((zig n : Nat) : Int) := by
 refine Ev.succ (Ev.ret' ?_) (fun q => rfl)
 have hr := h
 simp [inR, IntKind.min, IntKind.max, IntKind.signed, IntKind.bits] at hr
 rw [ishr63 h]
 by_cases h0 : 0 ≤ n
 ·rw [if_pos h0, zbh5 h0 (by omega), ishl1 h0, zbh5 (by omega) (by omega), xor0 (by omega) (by omega)]
  unfold zig; rw [if_pos h0]; omega
 ·rw [if_neg h0, zbig n, ishl1 (by omega), show wrp .u64 (-1) = 18446744073709551615 by rw [zbig]; rfl, xor1 (by omega) (by omega)]
  unfold zig; rw [if_neg h0]; omega
theorem zbii {n : Int} (b : Ow Int) (h : inR .i64 n) (hl : b.xs.length + 10 ≤ 4294967296) : Ev (fun q => zlg q b n) ⟨false, b.x, b.xs ++ putS n⟩ := by
 refine Ev.succ ?_ (fun q => rfl)
 have hg := zbh9 (zig_lt h)
 have := zbic (u := (zig n : Nat)) (by omega) b (by simpa using (by omega : b.xs.length + (grp (zig n)).length ≤ 4294967296))
 rw [y26] at this
 exact Ev.bind (zbih h) (Ev.bind this (Ev.ret _))
def cutI (n : Int) : Int := if n < -1099511627776 then -1099511627776 else if 1099511627776 < n then 1099511627776 else n
theorem zbij (n : Int) : Ev (fun q => zjs q n) (cutI n) := by
 refine Ev.succ (Ev.ret' ?_) (fun q => rfl)
 unfold cutI; split <;> split <;> split <;> (try split) <;> omega
def fitsOp (o : zjp) : Bool := decide (0 ≤ o.Code) && (decide (o.Code ≤ 10) && (decide (o.A = cutI o.A) && decide (o.B = cutI o.B)))
theorem zbik (o : zjp) : Ev (fun q => zkl q o) (fitsOp o) := by
 refine Ev.succ ?_ (fun q => rfl)
 unfold fitsOp
 refine Ev.ite (fun h => Ev.ite (fun h1 => Ev.bind (zbij _) (Ev.ite (fun h2 => Ev.bind (zbij _) (Ev.ret' ?_)) fun h2 => Ev.ret' ?_)) fun h1 => Ev.ret' ?_) fun h => Ev.ret' ?_
 ·rw [decide_eq_true h, decide_eq_true h1, decide_eq_true h2]; rfl
 ·rw [decide_eq_true h, decide_eq_true h1, decide_eq_false h2]; rfl
 ·rw [decide_eq_true h, decide_eq_false h1]; rfl
 ·rw [decide_eq_false h]; rfl
theorem zbil {n : Int} : n = cutI n ↔ -1099511627776 ≤ n ∧ n ≤ 1099511627776 := by
 unfold cutI
 by_cases h1 : n < -1099511627776
 ·rw [if_pos h1]; omega
 ·rw [if_neg h1]
  by_cases h2 : 1099511627776 < n
  ·rw [if_pos h2]; omega
  ·rw [if_neg h2]; omega
def FitsR (r : zjq) : Prop := 0 ≤ r.Index ∧ r.Index < 4611686018427387904 ∧ 0 ≤ r.Proc ∧ r.Proc ≤ 64 ∧ 0 ≤ r.Seq ∧ r.Seq < 4611686018427387904 ∧ fitsOp r.Op = true ∧ -1125899906842624 ≤ r.Resp ∧ r.Resp ≤ 1125899906842624
instance (r : zjq) : Decidable (FitsR r) := by unfold FitsR; infer_instance
theorem zbim (r : zjq) : Ev (fun q => zkm q r) (decide (FitsR r)) := by
 refine Ev.succ ?_ (fun q => rfl)
 refine Ev.ite (fun h1 => Ev.ite (fun h2 => Ev.ite (fun h3 => Ev.ite (fun h4 => Ev.ite (fun h5 => Ev.ite (fun h6 => Ev.bind (zbik _) (Ev.ite (fun h7 => Ev.ite (fun h8 => Ev.ret' ?_) fun h8 => Ev.ret' ?_) fun h7 => Ev.ret' ?_)) fun h6 => Ev.ret' ?_) fun h5 => Ev.ret' ?_) fun h4 => Ev.ret' ?_) fun h3 => Ev.ret' ?_) fun h2 => Ev.ret' ?_) fun h1 => Ev.ret' ?_ <;> simp only [FitsR, *] <;> simp
theorem zbin {n : Int} (h : inR .i64 n) : (putS n).length ≤ 10 := zbh9 (zig_lt h)
theorem zbio {n : Int} (h1 : -9223372036854775808 ≤ n) (h2 : n ≤ 9223372036854775807) : inR .i64 n := by
 simp [inR, IntKind.min, IntKind.max, IntKind.signed, IntKind.bits]; omega
abbrev B32 := BitVec 32
def u (a : B32) : Int := (a.toNat : Int)
theorem u_nn (a : B32) : 0 ≤ u a := Int.natCast_nonneg _
theorem u_lt (a : B32) : u a < 4294967296 := by unfold u; have := a.isLt; omega
theorem zbip (a : B32) : BitVec.ofInt 32 (u a) = a := by
 apply BitVec.eq_of_toNat_eq; rw [y47]; unfold u; have := a.isLt; omega
theorem wrp_u (a : B32) : IntKind.wrap .u32 ((a.toNat : Nat) : Int) = u a := by
 have := a.isLt
 rw [zbif, zbh6 (by omega) (by omega)]; rfl
theorem xor_u (a b : B32) : ibits .xor .u32 (u a) (u b) = u (a ^^^ b) := by
 have e : ibits .xor .u32 (u a) (u b) = IntKind.wrap .u32 (((BitVec.ofInt 32 (u a) ^^^ BitVec.ofInt 32 (u b) : B32).toNat : Nat) : Int) := by unfold ibits; rfl
 rw [e, zbip, zbip, wrp_u]
theorem and_u (a b : B32) : ibits .and .u32 (u a) (u b) = u (a &&& b) := by
 have e : ibits .and .u32 (u a) (u b) = IntKind.wrap .u32 (((BitVec.ofInt 32 (u a) &&& BitVec.ofInt 32 (u b) : B32).toNat : Nat) : Int) := by unfold ibits; rfl
 rw [e, zbip, zbip, wrp_u]
theorem u_lit (n : Nat) (h : n < 4294967296) : u (BitVec.ofNat 32 n) = (n : Int) := by
 unfold u; rw [BitVec.toNat_ofNat]; omega
theorem zbiq (x : Int) : wrp .u32 x = x % 4294967296 := by
 unfold wrp; simp [IntKind.wrap, IntKind.signed, IntKind.bits]
theorem ishr_u (a : B32) (k : Nat) (hk : k ≤ 32) : ishr .u32 (u a) (k : Int) = u (a >>> k) := by
 unfold ishr u
 simp only [IntKind.bits, y26, Nat.min_eq_left hk]
 rw [y51 _ (by exact_mod_cast Nat.zero_le _), BitVec.toNat_ushiftRight, Nat.shiftRight_eq_div_pow]
 simp
theorem zbir (a : B32) : ishr .u32 (u a) 1 = u (a >>> 1) := ishr_u a 1 (by omega)
theorem zbis (a : B32) : ishr .u32 (u a) 8 = u (a >>> 8) := ishr_u a 8 (by omega)
def poly : B32 := 2197175160#32
def bstep (a : B32) : B32 := if a &&& 1#32 = 1#32 then (a >>> 1) ^^^ poly else a >>> 1
theorem and1 (a : B32) : a &&& 1#32 = 0#32 ∨ a &&& 1#32 = 1#32 := by
 have : (a &&& 1#32).toNat = a.toNat % 2 := by rw [BitVec.toNat_and]; exact Nat.and_one_is_mod _
 rcases Nat.mod_two_eq_zero_or_one a.toNat with h | h
 ·left; exact BitVec.eq_of_toNat_eq (by rw [this, h]; rfl)
 ·right; exact BitVec.eq_of_toNat_eq (by rw [this, h]; rfl)
/-- The program's step. -/
theorem zbit (a : B32) : ibits .xor .u32 (ishr .u32 (u a) 1) (ibits .and .u32 2197175160 (wrp .u32 (0 - (ibits .and .u32 (u a) 1)))) = u (bstep a) := by
 have e1 : (1 : Int) = u 1#32 := rfl
 have e2 : (2197175160 : Int) = u poly := by unfold poly; rw [u_lit _ (by omega)]; rfl
 rw [zbir]
 conv => lhs; arg 4; rw [e2]; arg 4; rw [e1, and_u]
 unfold bstep
 rcases and1 a with h | h
 ·rw [h, if_neg (by decide)]
  have : wrp .u32 (0 - u 0#32) = u 0#32 := by rw [zbiq]; rfl
  rw [this, and_u, BitVec.and_zero, xor_u, BitVec.xor_zero]
 ·rw [h, if_pos rfl]
  have : wrp .u32 (0 - u 1#32) = u (BitVec.allOnes 32) := by rw [zbiq]; rfl
  rw [this, and_u, BitVec.and_allOnes, xor_u]
def biter : Nat → B32 → B32
 | 0, a => a
 | n + 1, a => biter n (bstep a)
def bentry (a : B32) : B32 := biter 8 a
theorem zbiu (v2 v5 : Int) (t0 t1 : List Int) (r : List Int) : ∀ (k : Nat) (a : B32) (v10 : Int), v10 = 8 - k → k ≤ 8 → 0 ≤ v2 → v2.toNat < 256 → v2.toNat + 1 ≤ t1.length →
  Ev (fun q => zk2 q (wrp .i64 (v5 + 1)) t0 (List.set t1 v2.toNat (u (biter k a)))) r → Ev (fun q => zk3 q v2 (u a) v5 v10 t0 t1) r
 | 0, a, v10, h1, h2, h3, h4, h5, h => Ev.succ (Ev.ne (Ev.pos h3 (Ev.pos h4 (Ev.pos h5 h)))) (fun q => rfl)
 | k + 1, a, v10, h1, h2, h3, h4, h5, h => by
  refine Ev.succ (Ev.pos (by omega) ?_) (fun q => rfl)
  rw [zbit, zbh4 (by omega) (by omega)]
  exact zbiu v2 v5 t0 t1 r k (bstep a) (v10 + 1) (by omega) (by omega) h3 h4 h5 h
/-- The table. -/
def tabN (n : Nat) : List Int := (List.range n).map fun i => u (bentry (BitVec.ofNat 32 i))
theorem zbiv {n i : Nat} (h : i < n) : (tabN n)[i]? = some (u (bentry (BitVec.ofNat 32 i))) := by
 unfold tabN; rw [y40, List.getElem?_range h]; rfl
theorem zbiw (n : Nat) : (tabN n).length = n := by simp [tabN]
theorem zbix : ∀ (k i : Nat) (t1 : List Int), i + k = 256 → t1.length = 256 → (∀ j, j < i → t1[j]? = (tabN 256)[j]?) → Ev (fun q => zk2 q (i : Int) (List.replicate 256 0) t1) (tabN 256)
 | 0, i, t1, hk, hl, ht => by
  refine Ev.succ (Ev.ne (Ev.po (Ev.po (Ev.pos (by simp) (Ev.pos (by simp) (Ev.ret' ?_)))))) (fun q => rfl)
  have e : t1 = tabN 256 := by
   apply List.ext_getElem?
   intro j
   by_cases hj : j < 256
   ·exact ht j (by omega)
   ·rw [y48 (by omega), y48 (by rw [zbiw]; omega)]
  have h2 := zbiw 256
  rw [e, List.take_of_length_le (i := 256) (by omega : (tabN 256).length ≤ 256), y11 (by simp), List.append_nil, List.take_of_length_le (by omega)]
 | k + 1, i, t1, hk, hl, ht => by
  refine Ev.succ (Ev.pos (by omega) ?_) (fun q => rfl)
  have e : wrp .u32 (i : Int) = u (BitVec.ofNat 32 i) := by rw [u_lit _ (by omega), zbh6] <;> omega
  rw [e]
  refine zbiu _ _ _ _ _ 8 _ 0 (by omega) (by omega) (by omega) (by omega) (by omega) ?_
  rw [zbh4 (by omega) (by omega), show ((i : Int) + 1) = ((i + 1 : Nat) : Int) by omega, y26]
  refine zbix k (i + 1) _ (by omega) (by simpa using hl) fun j hj => ?_
  by_cases e : i = j
  ·subst e; rw [y22 (by omega), zbiv (by omega)]; rfl
  ·rw [y27 e]; exact ht j (by omega)
theorem zbiy : Ev (fun q => zk4 q) (tabN 256) :=
 Ev.succ (zbix 256 0 (List.replicate 256 0) (by omega) (by simp) (fun j hj => by omega)) (fun q => rfl)
/-- What a byte makes of a sum. -/
def bbyte (x : B32) (c : Int) : B32 := bentry ((x ^^^ BitVec.ofInt 32 c) &&& 255#32) ^^^ (x >>> 8)
def bmore (x : B32) (l : List Int) : B32 := l.foldl bbyte x
def isB (l : List Int) : Prop := ∀ c ∈ l, 0 ≤ c ∧ c < 256
theorem xor8 {x : B32} {c : Int} (h1 : 0 ≤ c) (h2 : c < 256) : ibits .xor .u8 (wrp .u8 (u x)) c = u ((x ^^^ BitVec.ofInt 32 c) &&& 255#32) := by
 have e : ibits .xor .u8 (wrp .u8 (u x)) c = IntKind.wrap .u8 (((BitVec.ofInt 8 (wrp .u8 (u x)) ^^^ BitVec.ofInt 8 c : BitVec 8).toNat : Nat) : Int) := by unfold ibits; rfl
 rw [e, zbif, wrp_u8, wrp_u8]
 unfold u
 rw [BitVec.toNat_and, BitVec.toNat_xor, BitVec.toNat_xor, y47, y47, y47]
 obtain ⟨n, rfl⟩ := Int.eq_ofNat_of_zero_le h1
 have hn : n < 256 := by omega
 have e1 : (((x.toNat : Int) % 256 % ((2 ^ 8 : Nat) : Int)).toNat) = x.toNat % 256 := by omega
 have e2 : (((n : Int) % ((2 ^ 8 : Nat) : Int)).toNat) = n := by omega
 have e3 : (((n : Int) % ((2 ^ 32 : Nat) : Int)).toNat) = n := by omega
 rw [e1, e2, e3, show (255#32).toNat = 2 ^ 8 - 1 from rfl, Nat.and_two_pow_sub_one_eq_mod]
 have h3 : (x.toNat ^^^ n) % 2 ^ 8 = (x.toNat % 2 ^ 8) ^^^ (n % 2 ^ 8) := Nat.xor_mod_two_pow
 rw [h3, Nat.mod_eq_of_lt (show n < 2 ^ 8 by omega)]
 have h4 : (x.toNat % 2 ^ 8) ^^^ n < 2 ^ 8 := Nat.xor_lt_two_pow (Nat.mod_lt _ (by omega)) (by omega)
 simp only [Nat.reducePow] at h4 ⊢
 omega
theorem and255 (x : B32) : u (x &&& 255#32) < 256 := by
 unfold u
 rw [BitVec.toNat_and, show (255#32).toNat = 2 ^ 8 - 1 from rfl, Nat.and_two_pow_sub_one_eq_mod]; omega
theorem zbiz (a : B32) : (u a).toNat = a.toNat := by unfold u; omega
theorem ones : (4294967295 : Int) = u (BitVec.allOnes 32) := rfl
theorem zbi0 (z : Bool) (l : List Int) (hb : isB l) (hl : l.length ≤ 1099511627776) : ∀ (k i : Nat) (x : B32), l.length = i + k → Ev (fun q => zk5 q (u x) z l (l.length : Int) (i : Int) (tabN 256)) (u (~~~ bmore x (l.drop i)))
 | 0, i, x, hk => by
  refine Ev.succ (Ev.ne (Ev.ret' ?_)) (fun q => rfl)
  rw [y11 (by omega), ones, xor_u]
  simp only [bmore, List.foldl_nil, BitVec.allOnes_xor]
 | k + 1, i, x, hk => by
  have hi : i < l.length := by omega
  have hg : l[(i : Int).toNat]? = some l[i] := by simpa using y6 hi
  obtain ⟨b1, b2⟩ := hb l[i] (List.getElem_mem hi)
  refine Ev.succ (Ev.po (Ev.po (Ev.opt hg ?_))) (fun q => rfl)
  rw [xor8 b1 b2]
  have h255 := and255 (x ^^^ BitVec.ofInt 32 l[i])
  have hnn := u_nn ((x ^^^ BitVec.ofInt 32 l[i]) &&& 255#32)
  refine Ev.pos hnn (Ev.po (Ev.opt (zbiv (by omega)) ?_))
  rw [zbis, xor_u, zbh4 (by omega) (by omega), show ((i : Int) + 1) = ((i + 1 : Nat) : Int) by omega, zbiz]
  have := zbi0 z l hb hl k (i + 1) (bentry ((x ^^^ BitVec.ofInt 32 l[i]) &&& 255#32) ^^^ (x >>> 8)) (by omega)
  rw [y8 hi]
  simp only [bmore, List.foldl_cons, bbyte, BitVec.ofNat_toNat, BitVec.setWidth_eq] at this ⊢
  exact this
theorem zbi1 (x : B32) (s : Sl Int) (hb : isB s.l) (hl : s.l.length ≤ 1099511627776) : Ev (fun q => zk6 q (u x) s) (u (~~~ bmore (~~~ x) s.l)) := by
 refine Ev.succ (Ev.bind zbiy (Ev.pos (zbiw 256) ?_)) (fun q => rfl)
 rw [ones, xor_u, BitVec.allOnes_xor]
 have := zbi0 s.z s.l hb hl s.l.length 0 (~~~ x) (by omega)
 rw [y36] at this
 exact this
/-- The sum of bytes. -/
def bsum (l : List Int) : B32 := ~~~ bmore (BitVec.allOnes 32) l
theorem zbi2 (s : Sl Int) (hb : isB s.l) (hl : s.l.length ≤ 1099511627776) : Ev (fun q => zk7 q s) (u (bsum s.l)) := by
 have := zbi1 0#32 s hb hl
 exact Ev.succ (Ev.bind this (Ev.ret' (by simp [bsum]))) (fun q => rfl)
theorem zbi3 (x : B32) (a b : List Int) : bmore (bmore x a) b = bmore x (a ++ b) := by simp [bmore]
theorem zbi4 {x : Int} (h : 0 ≤ x) (k : Nat) (hk : k ≤ 64) : ishr .u64 x (k : Int) = x / ((2 ^ k : Nat) : Int) := by
 unfold ishr
 simp only [IntKind.bits, y26, Nat.min_eq_left hk]
 rw [y51 _ (by exact_mod_cast Nat.zero_le _)]
 simp
/-- A number in four bytes. -/
def fix4 (v : Nat) : List Int := [((v % 256 : Nat) : Int), ((v / 256 % 256 : Nat) : Int), ((v / 65536 % 256 : Nat) : Int), ((v / 16777216 % 256 : Nat) : Int)]
theorem zbi5 (v k : Nat) (hk : k ≤ 8) : wrp .u8 (ishr .u64 (v : Int) (wrp .i64 (8 * (k : Int)))) = ((v / 2 ^ (8 * k) % 256 : Nat) : Int) := by
 rw [zbh4 (by omega) (by omega), show (8 * (k : Int)) = ((8 * k : Nat) : Int) by omega, zbi4 (by omega) _ (by omega), wrp_u8]
 exact_mod_cast rfl
def bytesFrom (v : Nat) : Nat → Nat → List Int
 | _, 0 => []
 | i, k + 1 => ((v / 2 ^ (8 * i) % 256 : Nat) : Int) :: bytesFrom v (i + 1) k
theorem zbi6 {v m : Nat} (hm : m ≤ 8) : ∀ (k i : Nat) (l : List Int), m = i + k → l.length + k ≤ 4294967296 → Ev (fun q => zk8 q (v : Int) (m : Int) (i : Int) false l) ⟨false, true, l ++ bytesFrom v i k⟩
 | 0, i, l, hk, hl => Ev.succ (Ev.ne (Ev.ret' (by simp [bytesFrom]))) (fun q => rfl)
 | k + 1, i, l, hk, hl => by
  have w : wrp .i64 (8 * (i : Int)) = 8 * (i : Int) := zbh4 (by omega) (by omega)
  refine Ev.succ (Ev.po (Ev.neg (by rw [w]; omega) (Ev.pos (by omega) ?_))) (fun q => rfl)
  rw [zbi5 v i (by omega), zbh4 (x := (i : Int) + 1) (by omega) (by omega), show ((i : Int) + 1) = ((i + 1 : Nat) : Int) by omega]
  refine (zbi6 hm k (i + 1) _ (by omega) (by simp; omega)).cast ?_
  simp [bytesFrom]
theorem zbi7 {v m : Nat} (h0 : 0 < m) (hm : m ≤ 8) : Ev (fun q => zk9 q (v : Int) (m : Int)) ⟨false, true, bytesFrom v 0 m⟩ := by
 obtain ⟨k, rfl⟩ : ∃ k, m = k + 1 := ⟨m - 1, by omega⟩
 have w : wrp .i64 (8 * ((0 : Nat) : Int)) = 0 := zbh4 (by omega) (by omega)
 have key : ∀ i : Int, i = ((0 : Nat) : Int) → Ev (fun q => zk8 q (v : Int) ((k + 1 : Nat) : Int) i true []) ⟨false, true, bytesFrom v 0 (k + 1)⟩ := by
  intro i hi
  refine Ev.succ (Ev.po (Ev.neg (by rw [hi, w]; omega) (Ev.pos (by simp) ?_))) (fun q => rfl)
  rw [hi, zbi5 v 0 (by omega), zbh4 (x := ((0 : Nat) : Int) + 1) (by omega) (by omega), show (((0 : Nat) : Int) + 1) = ((0 + 1 : Nat) : Int) by omega]
  refine (zbi6 hm k 1 _ (by omega) (by simp; omega)).cast ?_
  simp [bytesFrom]
 exact Ev.succ (key 0 rfl) (fun q => rfl)
theorem bytes4 (v : Nat) : bytesFrom v 0 4 = fix4 v := by simp [bytesFrom, fix4]
theorem zbi8 {v : Nat} (h : v < 18446744073709551616) : Ev (fun q => zk9 q (v : Int) 4) ⟨false, true, fix4 v⟩ := by
 have := zbi7 (v := v) (m := 4) (by omega) (by omega)
 rw [bytes4] at this; exact this
theorem zbi9 (a : B32) : Ev (fun q => zla q (u a)) ⟨false, true, fix4 a.toNat⟩ := by
 have h1 := u_nn a; have h2 := u_lt a
 have e : wrp .u64 (u a) = ((a.toNat : Nat) : Int) := by rw [zbh5 h1 (by omega)]; rfl
 exact Ev.succ (Ev.bind (by rw [e]; exact zbi8 (by have := a.isLt; omega)) (Ev.ret _)) (fun q => rfl)
theorem zbja (a b : Sl Int) (ha : isB a.l) (hb : isB b.l) (la : a.l.length ≤ 1099511627776) (lb : b.l.length ≤ 1099511627776) : Ev (fun q => zlb q a b) ⟨false, true, fix4 (bsum (a.l ++ b.l)).toNat⟩ := by
 have h2 := zbi1 (bsum a.l) b hb lb
 have e : ~~~ bmore (~~~ bsum a.l) b.l = bsum (a.l ++ b.l) := by
  unfold bsum; rw [BitVec.not_not, zbi3]
 rw [e] at h2
 exact Ev.succ (Ev.bind (zbi2 a ha la) (Ev.bind h2 (Ev.bind (zbi9 _) (Ev.ret _)))) (fun q => rfl)
def flat (l : List (Sl Int)) : List Int := l.flatMap (·.l)
theorem zbjb (a : Sl Int) (b : List (Sl Int)) : flat (a :: b) = a.l ++ flat b := by simp [flat]
theorem zbjc (z0 : Bool) (L : List (Sl Int)) (z : Bool) (hL : L.length ≤ 1099511627776) : ∀ (k i : Nat) (m : Nat) (l : List Int), L.length = i + k → m + (flat (L.drop i)).length ≤ l.length →
  Ev (fun q => zlh q m z0 L (L.length : Int) (i : Int) z l) ⟨z, true, l.take m ++ flat (L.drop i)⟩
 | 0, i, m, l, hk, hl => by
  refine Ev.succ (Ev.ne (Ev.ret' ?_)) (fun q => rfl)
  rw [y11 (by omega)]; simp [flat]
 | k + 1, i, m, l, hk, hl => by
  have hi : i < L.length := by omega
  have hg : L[(i : Int).toNat]? = some L[i] := by simpa using y6 hi
  rw [y8 hi, zbjb, y9] at hl
  refine Ev.succ (Ev.po (Ev.po (Ev.opt hg (Ev.pos (by omega) ?_)))) (fun q => rfl)
  rw [zbh4 (by omega) (by omega), show ((i : Int) + 1) = ((i + 1 : Nat) : Int) by omega]
  refine (zbjc z0 L z hL k (i + 1) (m + L[i].l.length) _ (by omega) ?_).cast ?_
  ·simp only [y9, y19, y12]; omega
  ·congr 1
   rw [y8 hi, zbjb, ← y31]
   congr 1
   rw [List.take_append_of_le_length (by simp only [y9, y19]; omega), List.take_of_length_le (by simp only [y9, y19]; omega)]
theorem zbjd (z0 : Bool) (L : List (Sl Int)) (hL : L.length ≤ 1099511627776) : ∀ (k i : Nat) (z : Bool) (l : List Int), L.length = i + k → l.length + (flat (L.drop i)).length ≤ 4294967296 →
  ∃ z', Ev (fun q => zli q z0 L (L.length : Int) (i : Int) z l) ⟨z', true, l ++ flat (L.drop i)⟩
 | 0, i, z, l, hk, hl => ⟨z, by
  refine Ev.succ (Ev.ne (Ev.ret' ?_)) (fun q => rfl)
  rw [y11 (by omega)]; simp [flat]⟩
 | k + 1, i, z, l, hk, hl => by
  have hi : i < L.length := by omega
  have hg : L[(i : Int).toNat]? = some L[i] := by simpa using y6 hi
  rw [y8 hi, zbjb, y9] at hl
  obtain ⟨z', h⟩ := zbjd z0 L hL k (i + 1) (z && (decide (L[i].l.length = 0))) (l ++ L[i].l) (by omega) (by simp only [y9]; omega)
  refine ⟨z', Ev.succ (Ev.po (Ev.po (Ev.opt hg (Ev.pos (by omega) ?_)))) (fun q => rfl)⟩
  rw [zbh4 (by omega) (by omega), show ((i : Int) + 1) = ((i + 1 : Nat) : Int) by omega]
  refine h.cast ?_
  rw [y8 hi, zbjb]; simp
theorem zbje (z0 z9 : Bool) (L : List (Sl Int)) (hL : L.length ≤ 1099511627776) (hf : (flat L).length ≤ 4294967296) : ∀ (k i : Nat) (m : Nat), L.length = i + k → m + (flat (L.drop i)).length = (flat L).length →
  ∃ z', Ev (fun q => zlk q z0 L (m : Int) z9 L (L.length : Int) (i : Int)) ⟨z', true, flat L⟩
 | 0, i, m, hk, hm => by
  rw [y11 (by omega)] at hm
  have hm2 : m = (flat L).length := by simpa [flat] using hm
  have w : wrp .i64 ((m : Int) - wrp .i64 0) = (m : Int) := by rw [zbh4 (x := 0) (by omega) (by omega), zbh4 (by omega) (by omega)]; omega
  by_cases h0 : 0 < m
  ·refine ⟨decide (wrp .i64 ((m : Int) - wrp .i64 0) = 0), Ev.succ (Ev.ne (Ev.ne (Ev.pos (by rw [w]; omega) (Ev.pos (by rw [w]; omega) (Ev.pos (by rw [w]; omega) (Ev.neg (by rw [w]; omega) ?_)))))) (fun q => rfl)⟩
   rw [w]
   have := zbjc z0 L (decide ((m : Int) = 0)) hL L.length 0 0 (List.replicate (m : Int).toNat 0) (by omega) (by simp; omega)
   rw [y36] at this
   exact this
  ·have hnil : flat L = [] := y33 (by omega)
   match L, hk with
   | [], _ =>
    refine ⟨true, Ev.succ (Ev.neg (by simp) (Ev.neg (by omega) ?_)) (fun q => rfl)⟩
    rw [w]
    refine Ev.neg (by omega) ?_
    exact Ev.succ (g := fun _ => some ⟨true, true, []⟩) (Ev.ret' (by simp [flat])) (fun q => rfl)
   | a :: L', hk =>
    rw [zbjb] at hnil
    obtain ⟨z', h⟩ := zbjd z0 (a :: L') hL L'.length 1 (decide (a.l.length = 0)) a.l (by simp; omega) (by
     have : flat (List.drop 1 (a :: L')) = flat L' := rfl
     rw [this, ← y9, hnil]; simp)
    refine ⟨z', Ev.succ (Ev.ne (Ev.neg (by omega) ?_)) (fun q => rfl)⟩
    rw [w]
    refine Ev.ne (Ev.succ (Ev.pos (by simp) (Ev.opt (s := a) rfl (Ev.pos ?_ ?_))) (fun q => rfl))
    ·have : a.l.length ≤ (a.l ++ flat L').length := by simp
     rw [hnil] at this; simp at this; simp [this]
    ·rw [zbh4 (by omega) (by omega)]
     refine h.cast ?_
     rw [zbjb]; rfl
 | k + 1, i, m, hk, hm => by
  have hi : i < L.length := by omega
  have hg : L[(i : Int).toNat]? = some L[i] := by simpa using y6 hi
  rw [y8 hi, zbjb, y9] at hm
  obtain ⟨z', h⟩ := zbje z0 z9 L hL hf k (i + 1) (m + L[i].l.length) (by omega) (by omega)
  refine ⟨z', Ev.succ (Ev.po (Ev.po (Ev.opt hg ?_))) (fun q => rfl)⟩
  have w : wrp .i64 ((m : Int) + (L[i].l.length : Int)) = ((m + L[i].l.length : Nat) : Int) := by rw [zbh4 (by omega) (by omega)]; omega
  rw [w, zbh4 (by omega) (by omega), show ((i : Int) + 1) = ((i + 1 : Nat) : Int) by omega]
  exact Ev.neg (by omega) h
theorem zbjf (s : Sl (Sl Int)) (hL : s.l.length ≤ 1099511627776) (hf : (flat s.l).length ≤ 4294967296) : ∃ z', Ev (fun q => zll q s) ⟨z', true, flat s.l⟩ := by
 obtain ⟨z', h⟩ := zbje s.z s.z s.l hL hf s.l.length 0 0 (by omega) (by simp)
 exact ⟨z', Ev.succ h (fun q => rfl)⟩
theorem zbjg : ∀ n, isB (grp n) := by
 intro n
 induction n using Nat.strongRecOn with
 | ind n ih =>
  by_cases h : n < 128
  ·rw [grp_lt h]; intro c hc; simp at hc; omega
  ·rw [grp_ge h]; intro c hc
   rcases List.mem_cons.1 hc with rfl | hc
   ·omega
   ·exact ih (n / 128) (by omega) c hc
theorem zbjh (n : Int) : isB (put n) := by
 unfold put; split
 ·intro c hc; simp at hc
 ·split
  ·intro c hc; simp at hc
  ·exact zbjg _
theorem zbji {a b : List Int} : isB (a ++ b) ↔ isB a ∧ isB b := by
 constructor
 ·intro h; exact ⟨fun c hc => h c (List.mem_append.2 (.inl hc)), fun c hc => h c (List.mem_append.2 (.inr hc))⟩
 ·rintro ⟨h1, h2⟩ c hc
  rcases List.mem_append.1 hc with h | h
  ·exact h1 c h
  ·exact h2 c h
/-- A frame. -/
def encF (l : List Int) : List Int := put (l.length : Int) ++ (l ++ fix4 (bsum (put (l.length : Int) ++ l)).toNat)
theorem zbjj (s : Sl Int) (hb : isB s.l) (hl : s.l.length ≤ 1048576) : ∃ z, Ev (fun q => zlm q s) (⟨z, true, encF s.l⟩, 0) := by
 have hp := zbid (s.l.length : Int)
 obtain ⟨z, h⟩ := zbjf ⟨false, [⟨false, put (s.l.length : Int)⟩, s, ⟨false, fix4 (bsum (put (s.l.length : Int) ++ s.l)).toNat⟩]⟩ (by simp) (by simp [flat, fix4]; omega)
 refine ⟨z, Ev.succ (Ev.neg (by omega) ?_) (fun q => rfl)⟩
 refine Ev.bind (zbie ⟨true, true, []⟩ (by omega) (by omega) (by simp)) ?_
 refine Ev.bind (zbja ⟨false, put (s.l.length : Int)⟩ s (zbjh (s.l.length : Int)) hb (by simp only; omega) (by omega)) ?_
 refine Ev.bind h ?_
 exact Ev.ret' (by simp [encF, flat])
/-- The number that bytes begin with, from the i-th group on. -/
def rd : Nat → List Int → Option (Nat × Nat)
 | _, [] => none
 | i, c :: l => if 10 ≤ i then none else if i = 9 ∧ 1 < c then none else if c = 0 ∧ 0 < i then none else if c < 128 then some (c.toNat, 1) else (rd (i + 1) l).map fun p => ((c % 128).toNat + 128 * p.1, p.2 + 1)
def getN (l : List Int) : Int × Int := match rd 0 l with
 | none => (0, 0)
 | some p => if 4611686018427387904 ≤ p.1 then (0, 0) else ((p.1 : Int), (p.2 : Int))
theorem zbjk {l : List Int} (h : isB l) (n : Nat) : isB (l.take n) := fun c hc => h c (y42 hc)
theorem zbjl {l : List Int} (h : isB l) (n : Nat) : isB (l.drop n) := fun c hc => h c (y50 hc)
def cutsB (l : List Int) : Prop := ∀ n ∈ l, n = cutI n
instance (l : List Int) : Decidable (cutsB l) := by unfold cutsB; infer_instance
theorem zbjm (n : Int) : Ev (fun q => zjt q n) (!(decide (n = cutI n))) := Ev.succ (Ev.bind (zbij n) (Ev.ret _)) (fun q => rfl)
theorem zbjn (z : Bool) (L : List Int) (h0 : Int) (h1z : Bool) (h1l : List Int) (h2 : Bool) (h3 : Int) (hL : L.length ≤ 1000000) : ∀ (k i : Nat), L.length = i + k →
  ∃ r, Ev (fun q => zjw q z L (L.length : Int) (i : Int) h0 h1z h1l h2 h3) r ∧ (0 ≤ r ↔ ¬ cutsB (L.drop i))
 | 0, i, hk => by
  refine ⟨-1, Ev.succ (Ev.ne (Ev.ret _)) (fun q => rfl), ?_⟩
  rw [y11 (by omega)]; simp [cutsB]
 | k + 1, i, hk => by
  have hi : i < L.length := by omega
  have he : L[((i : Int)).toNat]? = some L[i] := by simp [hi]
  have hd := y8 hi
  by_cases h : L[i] = cutI L[i]
  ·obtain ⟨r, hr, hi2⟩ := zbjn z L h0 h1z h1l h2 h3 hL k (i + 1) (by omega)
   rw [show ((i + 1 : Nat) : Int) = wrp .i64 ((i : Int) + 1) by rw [zbh4 (by omega) (by omega)]; omega] at hr
   refine ⟨r, Ev.succ (Ev.po (Ev.po (Ev.opt he (Ev.bind (zbjm _) (Ev.neg (by simpa using h) hr))))) (fun q => rfl), ?_⟩
   rw [hi2, hd]; unfold cutsB; simp only [List.mem_cons, forall_eq_or_imp]
   exact ⟨fun a b => a b.2, fun a b => a ⟨h, b⟩⟩
  ·refine ⟨i, Ev.succ (Ev.po (Ev.po (Ev.opt he (Ev.bind (zbjm _) (Ev.pos (by simpa using h) (Ev.ret _)))))) (fun q => rfl), ?_⟩
   rw [hd]; unfold cutsB; simp only [List.mem_cons, forall_eq_or_imp]
   exact ⟨fun _ b => h b.1, fun _ => by omega⟩
theorem zbjo (z : Bool) (L : List Int) (h0 : Int) (h1z : Bool) (h1l : List Int) (h2 : Bool) (h3 : Int) (hL : L.length ≤ 1000000) : ∃ r, Ev (fun q => zjx q z L h0 h1z h1l h2 h3) r ∧ (0 ≤ r ↔ ¬ cutsB L) := by
 obtain ⟨r, h, h4⟩ := zbjn z L h0 h1z h1l h2 h3 hL L.length 0 (by omega)
 exact ⟨r, Ev.succ h (fun q => rfl), by simpa using h4⟩
def prs (least : Int) : Int → List Int → Bool
 | last, a :: b :: t => decide (last < a) && (decide (a ≤ 255) && (decide (least ≤ b) && (decide (b ≤ 1099511627776) && prs least a t)))
 | _, _ => true
def pairsOk (least : Int) (l : List Int) : Bool := prs least (-1) l && (decide (l.length % 2 = 0) && decide (l.length ≤ 128))
theorem zbjp (z : Bool) (L : List Int) (least : Int) (hL : L.length ≤ 1000000) : ∀ (k i : Nat) (last : Int), L.length ≤ i + 2 * k → i ≤ 2000000 →
  Ev (fun q => zju q z L least last (i : Int)) (prs least last (L.drop i) && (decide (L.length % 2 = 0) && decide (L.length ≤ 128)))
 | k, i, last, hk, hi9 => by
  have w1 : wrp .i64 ((i : Int) + 1) = ((i + 1 : Nat) : Int) := by rw [zbh4 (by omega) (by omega)]; omega
  have w2 : wrp .i64 ((i : Int) + 2) = ((i + 2 : Nat) : Int) := by rw [zbh4 (by omega) (by omega)]; omega
  by_cases h : i + 1 < L.length
  ·cases k with
   | zero => omega
   | succ k =>
    have he : L[((i : Int)).toNat]? = some L[i] := by rw [y26]; exact y6 (by omega)
    have he2 : L[(wrp .i64 ((i : Int) + 1)).toNat]? = some L[i + 1] := by rw [w1, y26]; exact y6 h
    have hd : L.drop i = L[i] :: L[i + 1] :: L.drop (i + 2) := by rw [y8 (by omega), y8 h]
    rw [hd]
    simp only [prs]
    refine Ev.succ (Ev.pos (by rw [w1]; omega) (Ev.po (Ev.opt he (Ev.ite (fun c => Ev.ret' ?_) fun c => Ev.ite (fun c2 => Ev.ret' ?_) fun c2 => Ev.pos (by rw [w1]; omega) (Ev.opt he2 (Ev.ite (fun c3 => Ev.ret' ?_) fun c3 => Ev.ite (fun c4 => Ev.ret' ?_) fun c4 => ?_)))))) (fun q => rfl)
    ·rw [decide_eq_false (show ¬ last < L[i] by omega)]; rfl
    ·rw [decide_eq_false (show ¬ L[i] ≤ 255 by omega)]; simp
    ·rw [decide_eq_false (show ¬ least ≤ L[i + 1] by omega)]; simp
    ·rw [decide_eq_false (show ¬ L[i + 1] ≤ 1099511627776 by omega)]; simp
    ·rw [decide_eq_true (show last < L[i] by omega), decide_eq_true (show L[i] ≤ 255 by omega), decide_eq_true (show least ≤ L[i + 1] by omega), decide_eq_true (show L[i + 1] ≤ 1099511627776 by omega), w2]
     simp only [y58]
     exact zbjp z L least hL k (i + 2) L[i] (by omega) (by omega)
  ·have hp : prs least last (L.drop i) = true := by
    have hl : (L.drop i).length ≤ 1 := by rw [y12]; omega
    generalize L.drop i = X at hl
    match X, hl with
    | [], _ => rfl
    | [a], _ => rfl
   rw [hp, y58]
   have ht : Int.tmod (L.length : Int) 2 = ((L.length % 2 : Nat) : Int) := by rw [Int.tmod_eq_emod_of_nonneg (by omega)]; omega
   refine Ev.succ (Ev.neg (by rw [w1]; omega) (Ev.ite (fun c => Ev.ret' ?_) fun c => Ev.ret' ?_)) (fun q => rfl)
   ·rw [ht] at c
    rw [decide_eq_true (show L.length % 2 = 0 by omega), y58]
    by_cases h4 : L.length ≤ 128
    ·rw [decide_eq_true h4, decide_eq_true (by omega)]
    ·rw [decide_eq_false h4, decide_eq_false (by omega)]
   ·rw [ht] at c
    rw [decide_eq_false (show ¬ L.length % 2 = 0 by omega)]; rfl
theorem zbjq (s : Sl Int) (least : Int) (hL : s.l.length ≤ 1000000) : Ev (fun q => zjv q s least) (pairsOk least s.l) := by
 have := zbjp s.z s.l least hL s.l.length 0 (-1) (by omega) (by omega)
 exact Ev.succ this (fun q => rfl)
def kindOk (k : Int) (l : List Int) : Bool :=
 if k = 0 ∨ k = 1 then decide (l.length = 1 ∧ cutsB l) else if k = 2 ∨ k = 3 then decide (l.length ≤ 64 ∧ cutsB l) else if k = 4 then pairsOk (-1099511627776) l else if k = 5 then pairsOk 0 l else false
def mayS (s : zjl) : Bool := if s.To < 0 then false else if 3 ≤ s.To then false else if s.Sealed = true then kindOk s.Kind s.L.l else if s.To = 0 then kindOk s.Kind s.L.l else false
theorem zbjr (s : zjl) (hL : s.L.l.length ≤ 1000000) : Ev (fun q => ((zjx q s.L.z s.L.l s.Kind s.L.z s.L.l s.Sealed s.To).bind fun r1 => (if s.Kind = 0 then (if (s.L.l.length : Int) = 1 then (some (!(decide (0 ≤ r1)))) else (some false)) else (if s.Kind = 1 then (if (s.L.l.length : Int) = 1 then (some (!(decide (0 ≤ r1)))) else (some false)) else (if s.Kind = 2 then (if (s.L.l.length : Int) ≤ 64 then (some (!(decide (0 ≤ r1)))) else (some false)) else (if s.Kind = 3 then (if (s.L.l.length : Int) ≤ 64 then (some (!(decide (0 ≤ r1)))) else (some false)) else (if s.Kind = 4 then ((zjv q s.L (-1099511627776)).bind fun r2 => (some r2)) else (if s.Kind = 5 then ((zjv q s.L 0).bind fun r3 => (some r3)) else (some false))))))))) (kindOk s.Kind s.L.l) := by
 obtain ⟨r, h, hr⟩ := zbjo s.L.z s.L.l s.Kind s.L.z s.L.l s.Sealed s.To hL
 have one : ∀ {P : Prop} [Decidable P], P → Ev (fun _ : Nat => (some (!(decide (0 ≤ r))) : Option Bool)) (decide (P ∧ cutsB s.L.l)) := fun {P} _ hp => Ev.ret' (by
  by_cases hc : cutsB s.L.l
  ·rw [decide_eq_false (fun e => hr.1 e hc)]; symm; simp only [Bool.not_false, decide_eq_true_eq]; exact ⟨hp, hc⟩
  ·rw [decide_eq_true (hr.2 hc)]; symm; simp only [Bool.not_true, decide_eq_false_iff_not]; exact fun e => hc e.2)
 have no : ∀ {P : Prop} [Decidable P], ¬ P → Ev (fun _ : Nat => (some false : Option Bool)) (decide (P ∧ cutsB s.L.l)) := fun {P} _ hp => Ev.ret' (by
  symm; simp only [decide_eq_false_iff_not]; exact fun e => hp e.1)
 refine Ev.bind h ?_
 unfold kindOk
 by_cases k0 : s.Kind = 0
 ·rw [if_pos (show s.Kind = 0 ∨ s.Kind = 1 from .inl k0)]
  by_cases hl : s.L.l.length = 1
  ·exact Ev.pos k0 (Ev.po (one hl))
  ·exact Ev.pos k0 (Ev.ne (no hl))
 by_cases k1 : s.Kind = 1
 ·rw [if_pos (show s.Kind = 0 ∨ s.Kind = 1 from .inr k1)]
  by_cases hl : s.L.l.length = 1
  ·exact Ev.neg k0 (Ev.pos k1 (Ev.po (one hl)))
  ·exact Ev.neg k0 (Ev.pos k1 (Ev.ne (no hl)))
 rw [if_neg (show ¬ (s.Kind = 0 ∨ s.Kind = 1) by omega)]
 by_cases k2 : s.Kind = 2
 ·rw [if_pos (show s.Kind = 2 ∨ s.Kind = 3 from .inl k2)]
  by_cases hl : s.L.l.length ≤ 64
  ·exact Ev.neg k0 (Ev.neg k1 (Ev.pos k2 (Ev.po (one hl))))
  ·exact Ev.neg k0 (Ev.neg k1 (Ev.pos k2 (Ev.ne (no hl))))
 by_cases k3 : s.Kind = 3
 ·rw [if_pos (show s.Kind = 2 ∨ s.Kind = 3 from .inr k3)]
  by_cases hl : s.L.l.length ≤ 64
  ·exact Ev.neg k0 (Ev.neg k1 (Ev.neg k2 (Ev.pos k3 (Ev.po (one hl)))))
  ·exact Ev.neg k0 (Ev.neg k1 (Ev.neg k2 (Ev.pos k3 (Ev.ne (no hl)))))
 rw [if_neg (show ¬ (s.Kind = 2 ∨ s.Kind = 3) by omega)]
 refine Ev.neg k0 (Ev.neg k1 (Ev.neg k2 (Ev.neg k3 (Ev.ite (fun k4 => ?_) fun k4 => Ev.ite (fun k5 => ?_) fun k5 => ?_))))
 ·rw [if_pos k4]; exact Ev.bind (zbjq _ _ hL) (Ev.ret _)
 ·rw [if_neg k4, if_pos k5]; exact Ev.bind (zbjq _ _ hL) (Ev.ret _)
 ·rw [if_neg k4, if_neg k5]; exact Ev.ret _
theorem zbjs (s : zjl) (hL : s.L.l.length ≤ 1000000) : Ev (fun q => zjy q s) (mayS s) := by
 have hb := zbjr s hL
 unfold mayS
 refine Ev.succ (Ev.ite (fun h => ?_) fun h => Ev.ite (fun h2 => ?_) fun h2 => Ev.ite (fun h3 => ?_) fun h3 => Ev.ite (fun h4 => ?_) fun h4 => ?_) (fun q => rfl)
 ·rw [if_pos h]; exact Ev.ret _
 ·rw [if_neg h, if_pos h2]; exact Ev.ret _
 ·rw [if_neg h, if_neg h2, if_pos h3]; exact hb
 ·rw [if_neg h, if_neg h2, if_neg h3, if_pos h4]; exact hb
 ·rw [if_neg h, if_neg h2, if_neg h3, if_neg h4]; exact Ev.ret _
def entOk (e : zjm) : Bool := decide (0 ≤ e.Proc) && (decide (e.Proc ≤ 64) && (decide (0 ≤ e.Seq) && (decide (e.Seq < 4611686018427387904) && (decide (-1125899906842624 ≤ e.Resp) && decide (e.Resp ≤ 1125899906842624)))))
theorem zbjt (e : zjm) : Ev (fun q => zjz q e) (entOk e) := by
 unfold entOk
 exact Ev.succ (Ev.ite (fun h1 => Ev.ite (fun h2 => Ev.ite (fun h3 => Ev.ite (fun h4 => Ev.ite (fun h5 => Ev.ret' (by simp [*])) fun h5 => Ev.ret' (by simp [*])) fun h4 => Ev.ret' (by simp [*])) fun h3 => Ev.ret' (by simp [*])) fun h2 => Ev.ret' (by simp [*])) fun h1 => Ev.ret' (by simp [*])) (fun q => rfl)
def tabB : Int → List zjm → Bool
 | _, [] => true
 | last, e :: t => entOk e && (decide (last < e.Proc) && tabB e.Proc t)
theorem zbju (z z2 : Bool) (L : List zjm) (hL : L.length ≤ 1000000) : ∀ (k i : Nat) (last : Int), L.length = i + k → (∀ e, 0 < i → L[i - 1]? = some e → e.Proc = last) → (i = 0 → last = -1) →
  Ev (fun q => zj0 q z L z2 L (L.length : Int) (i : Int)) (tabB last (L.drop i))
 | 0, i, last, hk, h1, h0 => by
  refine Ev.succ (Ev.ne (Ev.ret' ?_)) (fun q => rfl)
  rw [y11 (by omega)]; rfl
 | k + 1, i, last, hk, h1, h0 => by
  have hi : i < L.length := by omega
  have he : L[((i : Int)).toNat]? = some L[i] := by simp [hi]
  rw [y8 hi]
  simp only [tabB]
  have w1 : wrp .i64 ((i : Int) + 1) = ((i + 1 : Nat) : Int) := by rw [zbh4 (by omega) (by omega)]; omega
  have ih := zbju z z2 L hL k (i + 1) L[i].Proc (by omega) (fun e _ hx => by
   rw [Nat.add_sub_cancel, y6 hi] at hx
   simp only [y1] at hx; rw [hx]) (by omega)
  refine Ev.succ (Ev.po (Ev.po (Ev.opt he (Ev.bind (zbjt _) (Ev.ite (fun c => Ev.ite (fun c2 => ?_) fun c2 => ?_) fun c => Ev.ret' ?_))))) (fun q => rfl)
  ·have w3 : wrp .i64 ((i : Int) - 1) = ((i - 1 : Nat) : Int) := by rw [zbh4 (by omega) (by omega)]; omega
   have he3 : L[(wrp .i64 ((i : Int) - 1)).toNat]? = some L[i - 1] := by rw [w3, y26]; exact y6 (by omega)
   have hq := h1 L[i - 1] (by omega) (y6 (by omega))
   refine Ev.pos (by rw [w3]; omega) (Ev.opt he3 (Ev.ite (fun c4 => Ev.ret' ?_) fun c4 => ?_))
   ·rw [c, decide_eq_false (show ¬ last < L[i].Proc by omega)]; rfl
   ·rw [c, decide_eq_true (show last < L[i].Proc by omega), w1]; simpa using ih
  ·have := h0 (by omega)
   have hp : 0 ≤ L[i].Proc := by unfold entOk at c; simp only [y5, decide_eq_true_eq] at c; exact c.1
   rw [c, decide_eq_true (show last < L[i].Proc by omega), w1]; simpa using ih
  ·simp only [Bool.not_eq_true] at c; rw [c]; rfl
theorem zbjv (s : Sl zjm) (hL : s.l.length ≤ 1000000) : Ev (fun q => zj1 q s) (tabB (-1) s.l) :=
 Ev.succ (zbju s.z s.z s.l hL s.l.length 0 (-1) (by omega) (fun e h => by omega) (fun _ => rfl)) (fun q => rfl)
theorem zbjw (z : Bool) (L : List zjm) (hL : L.length ≤ 1000000) : ∀ (k i : Nat) (last : Int), L.length = i + k → (∀ e, 0 < i → L[i - 1]? = some e → e.Proc = last) → (i = 0 → last = -1) →
  Ev (fun q => zkj q z L (i : Int)) (tabB last (L.drop i))
 | 0, i, last, hk, h1, h0 => by
  refine Ev.succ (Ev.ne (Ev.ret' ?_)) (fun q => rfl)
  rw [y11 (by omega)]; rfl
 | k + 1, i, last, hk, h1, h0 => by
  have hi : i < L.length := by omega
  have he : L[((i : Int)).toNat]? = some L[i] := by simp [hi]
  rw [y8 hi]
  simp only [tabB]
  have w1 : wrp .i64 ((i : Int) + 1) = ((i + 1 : Nat) : Int) := by rw [zbh4 (by omega) (by omega)]; omega
  have ih := zbjw z L hL k (i + 1) L[i].Proc (by omega) (fun e _ hx => by
   rw [Nat.add_sub_cancel, y6 hi] at hx
   simp only [y1] at hx; rw [hx]) (by omega)
  refine Ev.succ (Ev.po (Ev.po (Ev.opt he (Ev.ite (fun c1 => Ev.ret' ?_) fun c1 => Ev.ite (fun c2 => Ev.ret' ?_) fun c2 => Ev.ite (fun c3 => Ev.ret' ?_) fun c3 => Ev.ite (fun c4 => Ev.ret' ?_) fun c4 => Ev.ite (fun c5 => Ev.ret' ?_) fun c5 => Ev.ite (fun c6 => Ev.ret' ?_) fun c6 => Ev.ite (fun c7 => ?_) fun c7 => ?_)))) (fun q => rfl)
  ·unfold entOk; rw [decide_eq_false (show ¬ 0 ≤ L[i].Proc by omega)]; simp
  ·unfold entOk; rw [decide_eq_false (show ¬ L[i].Proc ≤ 64 by omega)]; simp
  ·unfold entOk; rw [decide_eq_false (show ¬ 0 ≤ L[i].Seq by omega)]; simp
  ·unfold entOk; rw [decide_eq_false (show ¬ L[i].Seq < 4611686018427387904 by omega)]; simp
  ·unfold entOk; rw [decide_eq_false (show ¬ -1125899906842624 ≤ L[i].Resp by omega)]; simp
  ·unfold entOk; rw [decide_eq_false (show ¬ L[i].Resp ≤ 1125899906842624 by omega)]; simp
  ·have c : entOk L[i] = true := by unfold entOk; simp only [y5, decide_eq_true_eq]; omega
   have w3 : wrp .i64 ((i : Int) - 1) = ((i - 1 : Nat) : Int) := by rw [zbh4 (by omega) (by omega)]; omega
   have he3 : L[(wrp .i64 ((i : Int) - 1)).toNat]? = some L[i - 1] := by rw [w3, y26]; exact y6 (by omega)
   have hq := h1 L[i - 1] (by omega) (y6 (by omega))
   refine Ev.pos (by rw [w3]; omega) (Ev.opt he3 (Ev.ite (fun c4 => Ev.ret' ?_) fun c4 => ?_))
   ·rw [c, decide_eq_false (show ¬ last < L[i].Proc by omega)]; rfl
   ·rw [c, decide_eq_true (show last < L[i].Proc by omega), w1]; simpa using ih
  ·have c : entOk L[i] = true := by unfold entOk; simp only [y5, decide_eq_true_eq]; omega
   have := h0 (by omega)
   rw [c, decide_eq_true (show last < L[i].Proc by omega), w1]; simpa using ih
theorem zbjx (s : Sl zjm) (hL : s.l.length ≤ 1000000) : Ev (fun q => zkk q s) (tabB (-1) s.l) :=
 Ev.succ (zbjw s.z s.l hL s.l.length 0 (-1) (by omega) (fun e h => by omega) (fun _ => rfl)) (fun q => rfl)
def mayN (s : zjn) : Bool := decide (0 ≤ s.Index) && (decide (s.Index < 4611686018427387904) && (mayS s.State && tabB (-1) s.Table.l))
theorem zbjy (s : zjn) (h1 : s.State.L.l.length ≤ 1000000) (h2 : s.Table.l.length ≤ 1000000) : Ev (fun q => zj2 q s) (mayN s) := by
 unfold mayN
 refine Ev.succ (Ev.ite (fun c1 => Ev.ite (fun c2 => Ev.bind (zbjs _ h1) (Ev.ite (fun c3 => Ev.bind (zbjv _ h2) (Ev.ret' ?_)) fun c3 => Ev.ret' ?_)) fun c2 => Ev.ret' ?_) fun c1 => Ev.ret' ?_) (fun q => rfl)
 ·simp [c1, c2, c3]
 ·simp [c3]
 ·simp [c2]
 ·simp [c1]
instance : DecidableEq zjm := fun a b => if h : a.Proc = b.Proc ∧ a.Seq = b.Seq ∧ a.Resp = b.Resp then isTrue (by cases a; cases b; simp_all) else isFalse (fun e => h (by rw [e]; exact ⟨rfl, rfl, rfl⟩))
theorem zbjz {a b : zjm} (h1 : a.Proc = b.Proc) (h2 : a.Seq = b.Seq) (h3 : a.Resp = b.Resp) : a = b := by cases a; cases b; simp_all
theorem zbj0 (z z2 : Bool) (A B : List Int) (hl : A.length = B.length) (hL : A.length ≤ 1099511627776) : ∀ (k i : Nat), A.length = i + k → Ev (fun q => zkd q z A z2 B (A.length : Int) (i : Int)) (decide (A.drop i = B.drop i))
 | 0, i, hk => by
  refine Ev.succ (Ev.ne (Ev.ret' ?_)) (fun q => rfl)
  rw [y11 (by omega), y11 (by omega)]; simp
 | k + 1, i, hk => by
  have hi : i < A.length := by omega
  have hi2 : i < B.length := by omega
  have hg : A[(i : Int).toNat]? = some A[i] := by simpa using y6 hi
  have hg2 : B[(i : Int).toNat]? = some B[i] := by simpa using y6 hi2
  refine Ev.succ (Ev.po (Ev.po (Ev.opt hg (Ev.opt hg2 ?_)))) (fun q => rfl)
  rw [y8 hi, y8 hi2]
  refine Ev.ite (fun h => ?_) fun h => Ev.ret' (by symm; rw [decide_eq_false_iff_not]; intro e; exact h (List.cons.inj e).1)
  rw [zbh4 (by omega) (by omega), show ((i : Int) + 1) = ((i + 1 : Nat) : Int) by omega]
  refine (zbj0 z z2 A B hl hL k (i + 1) (by omega)).cast ?_
  rw [decide_eq_decide, List.cons.injEq]; simp only [h, true_and]
theorem zbj1 (a b : Sl Int) (hL : a.l.length ≤ 1099511627776) : Ev (fun q => zke q a b) (decide (a.l = b.l)) := by
 refine Ev.succ (Ev.ite (fun h => ?_) fun h => Ev.ret' ?_) (fun q => rfl)
 ·have := zbj0 a.z b.z a.l b.l (by omega) hL a.l.length 0 (by omega)
  rw [y36, y36] at this; exact this
 ·symm; rw [decide_eq_false_iff_not]; intro e; rw [e] at h; exact h rfl
theorem zbj2 {least : Int} : ∀ {l : List Int} {last : Int}, prs least last l = true → l.length % 2 = 0 → -1 ≤ last → -1099511627776 ≤ least → ∀ x ∈ l, -1099511627776 ≤ x ∧ x ≤ 1099511627776
 | [], last, h, h2, h3, h4, x, hx => by cases hx
 | [a], last, h, h2, h3, h4, x, hx => by simp at h2
 | a :: b :: t, last, h, h2, h3, h4, x, hx => by
  simp only [prs, y5, decide_eq_true_eq] at h
  simp only [y20] at h2
  rcases List.mem_cons.1 hx with e | e
  ·omega
  ·rcases List.mem_cons.1 e with e | e
   ·omega
   ·exact zbj2 h.2.2.2.2 (by omega) (by omega) h4 x e
theorem zbj3 {l : List Int} (h : cutsB l) : ∀ x ∈ l, -1099511627776 ≤ x ∧ x ≤ 1099511627776 := fun x hx => zbil.1 (h x hx)
theorem zbj4 {k : Int} {l : List Int} (h : kindOk k l = true) : 0 ≤ k ∧ k ≤ 5 ∧ l.length ≤ 128 ∧ ∀ x ∈ l, -1099511627776 ≤ x ∧ x ≤ 1099511627776 := by
 unfold kindOk at h
 split at h
 ·simp only [decide_eq_true_eq] at h; exact ⟨by omega, by omega, by omega, zbj3 h.2⟩
 ·split at h
  ·simp only [decide_eq_true_eq] at h; exact ⟨by omega, by omega, by omega, zbj3 h.2⟩
  ·split at h
   ·simp only [pairsOk, y5, decide_eq_true_eq] at h; exact ⟨by omega, by omega, by omega, zbj2 h.1 h.2.1 (by omega) (by omega)⟩
   ·split at h
    ·simp only [pairsOk, y5, decide_eq_true_eq] at h; exact ⟨by omega, by omega, by omega, zbj2 h.1 h.2.1 (by omega) (by omega)⟩
    ·cases h
theorem zbj5 {s : zjl} (h : mayS s = true) : 0 ≤ s.To ∧ s.To ≤ 2 ∧ (s.Sealed = false → s.To = 0) ∧ kindOk s.Kind s.L.l = true := by
 unfold mayS at h
 split at h
 ·cases h
 ·split at h
  ·cases h
  ·split at h
   ·rename_i h1 h2 h3; exact ⟨by omega, by omega, fun e => (by rw [e] at h3; cases h3), h⟩
   ·split at h
    ·rename_i h1 h2 h3 h4; exact ⟨by omega, by omega, fun _ => h4, h⟩
    ·cases h
theorem zbj6 {e : zjm} (h : entOk e = true) : 0 ≤ e.Proc ∧ e.Proc ≤ 64 ∧ 0 ≤ e.Seq ∧ e.Seq < 4611686018427387904 ∧ -1125899906842624 ≤ e.Resp ∧ e.Resp ≤ 1125899906842624 := by
 simpa only [entOk, y5, decide_eq_true_eq] using h
theorem zbj7 : ∀ {t : List zjm} {last : Int}, tabB last t = true → ∀ e ∈ t, entOk e = true
 | [], last, h, e, he => by cases he
 | a :: t, last, h, e, he => by
  simp only [tabB, y5] at h
  rcases List.mem_cons.1 he with r | r
  ·rw [r]; exact h.1
  ·exact zbj7 h.2.2 e r
theorem zbj8 {s : zjn} (h : mayN s = true) : 0 ≤ s.Index ∧ s.Index < 4611686018427387904 ∧ mayS s.State = true ∧ tabB (-1) s.Table.l = true := by
 simpa only [mayN, y5, decide_eq_true_eq] using h
/-- A table has at most 65 entries. -/
theorem zbj9 : ∀ {t : List zjm} {last : Int}, tabB last t = true → -1 ≤ last → (t.length : Int) + last ≤ 64 ∨ t = []
 | [], last, h, h1 => .inr rfl
 | a :: t, last, h, h1 => by
  simp only [tabB, y5, decide_eq_true_eq] at h
  have ha := zbj6 h.1
  rcases zbj9 h.2.2 (by omega) with e | e
  ·left; rw [y20]; omega
  ·left; rw [e]; simp only [y20, y24]; omega
def sealN (s : zjl) : Int := if s.Sealed = true then s.To + 1 else 0
def numsB (l : List Int) : List Int := l.flatMap putS
theorem zbka (x : Int) (l : List Int) : numsB (x :: l) = putS x ++ numsB l := by simp [numsB]
def inT (l : List Int) : Prop := ∀ x ∈ l, -1099511627776 ≤ x ∧ x ≤ 1099511627776
theorem inT_R {l : List Int} (h : inT l) {x : Int} (hx : x ∈ l) : inR .i64 x := by have := h x hx; exact zbio (by omega) (by omega)
theorem zbkb {x : Int} {l : List Int} (h : inT (x :: l)) : inR .i64 x ∧ inT l := ⟨inT_R h y30, fun y hy => h y (y34 _ hy)⟩
theorem zbkc : ∀ {l : List Int}, inT l → (numsB l).length ≤ 10 * l.length
 | [], h => by simp [numsB]
 | x :: l, h => by
  have h2 := zbkc (zbkb h).2
  have h1 := zbin (zbkb h).1
  rw [zbka, y9, y20]; omega
theorem zbkd (n : Int) : isB (putS n) := zbjg _
theorem zbke : ∀ {l : List Int}, isB (numsB l)
 | [] => fun c hc => by simp [numsB] at hc
 | x :: l => by rw [zbka]; exact zbji.2 ⟨zbkd _, zbke⟩
def stateB (s : zjl) : List Int := ((put s.Kind ++ put (sealN s)) ++ put (s.L.l.length : Int)) ++ numsB s.L.l
theorem zbkf {s : zjl} (h : inT s.L.l) : (stateB s).length ≤ 30 + 10 * s.L.l.length := by
 have h1 := zbid s.Kind; have h2 := zbid (sealN s); have h3 := zbid (s.L.l.length : Int); have h4 := zbkc h
 simp only [stateB, y9]; omega
theorem zbkg {s : zjl} : isB (stateB s) := zbji.2 ⟨zbji.2 ⟨zbji.2 ⟨zbjh _, zbjh _⟩, zbjh _⟩, zbke⟩
theorem zbkh (z : Bool) (L : List Int) (hL : L.length ≤ 1000000) (hT : inT L) : ∀ (k i : Nat) (l : List Int), L.length = i + k → l.length ≤ 1000 + 10 * i →
  Ev (fun q => zlo q z L (L.length : Int) (i : Int) false l true) (⟨false, true, l ++ numsB (L.drop i)⟩, 0)
 | 0, i, l, hk, hl => by
  refine Ev.succ (Ev.ne (Ev.ret' ?_)) (fun q => rfl)
  rw [y11 (by omega)]; simp [numsB]
 | k + 1, i, l, hk, hl => by
  have hi : i < L.length := by omega
  have he : L[((i : Int)).toNat]? = some L[i] := by simp [hi]
  have hr := inT_R hT (List.getElem_mem hi)
  have hp := zbin hr
  have ih := zbkh z L hL hT k (i + 1) (l ++ putS L[i]) (by omega) (by rw [y9]; omega)
  rw [show ((i + 1 : Nat) : Int) = wrp .i64 ((i : Int) + 1) by rw [zbh4 (by omega) (by omega)]; omega] at ih
  refine Ev.succ (Ev.po (Ev.po (Ev.opt he (Ev.bind (zbii ⟨false, true, l⟩ hr (by simp only; omega)) (Ev.cast ih ?_))))) (fun q => rfl)
  rw [y8 hi, zbka, y31]
theorem zbki {s : zjl} (h : mayS s = true) : 0 ≤ sealN s ∧ sealN s ≤ 3 := by
 have := zbj5 h; unfold sealN; split <;> omega
theorem zbkj {s : zjl} (h : mayS s = true) : Ev (fun q => zln q s) (sealN s) := by
 have hm := zbj5 h
 unfold sealN
 refine Ev.succ (Ev.ite (fun c => Ev.ret' ?_) fun c => Ev.ret' ?_) (fun q => rfl)
 ·rw [if_pos c, zbh4 (by omega) (by omega)]
 ·rw [if_neg c]
theorem zbkk {s : zjl} (h : mayS s = true) : Ev (fun q => zlp q s) (⟨false, true, stateB s⟩, 0) := by
 have hm := zbj5 h
 have hk := zbj4 hm.2.2.2
 have hs := zbki h
 have hM := zbjs s (by omega)
 rw [h] at hM
 have p1 := zbid s.Kind; have p2 := zbid (sealN s); have p3 := zbid (s.L.l.length : Int)
 have hl := zbkh s.L.z s.L.l (by omega) hk.2.2.2 s.L.l.length 0 ((put s.Kind ++ put (sealN s)) ++ put (s.L.l.length : Int)) (by omega) (by simp only [y9]; omega)
 rw [y36] at hl
 exact Ev.succ (Ev.bind hM (Ev.pos rfl (Ev.bind (zbie ⟨true, true, []⟩ (by omega) (by omega) (by simp)) (Ev.bind (zbkj h) (Ev.bind (zbie _ (by omega) (by omega) (by simp only [y45]; omega)) (Ev.bind (zbie _ (by omega) (by omega) (by simp only [y45, y9]; omega)) hl)))))) (fun q => rfl)
def entB (e : zjm) : List Int := put e.Proc ++ (put e.Seq ++ putS e.Resp)
def tabE (l : List zjm) : List Int := l.flatMap entB
theorem zbkl (e : zjm) (l : List zjm) : tabE (e :: l) = entB e ++ tabE l := by simp [tabE]
def entsOk (l : List zjm) : Prop := ∀ e ∈ l, entOk e = true
theorem zbkm {e : zjm} (h : entOk e = true) : inR .i64 e.Resp := by have := zbj6 h; exact zbio (by omega) (by omega)
theorem zbkn {e : zjm} (h : entOk e = true) : (entB e).length ≤ 30 := by
 have h1 := zbid e.Proc; have h2 := zbid e.Seq; have h3 := zbin (zbkm h)
 simp only [entB, y9]; omega
theorem zbko {e : zjm} : isB (entB e) := zbji.2 ⟨zbjh _, zbji.2 ⟨zbjh _, zbkd _⟩⟩
theorem zbkp : ∀ {l : List zjm}, entsOk l → (tabE l).length ≤ 30 * l.length
 | [], h => by simp [tabE]
 | e :: l, h => by
  have h1 := zbkn (h e y30)
  have h2 := zbkp (l := l) fun x hx => h x (y34 _ hx)
  rw [zbkl, y9, y20]; omega
theorem zbkq : ∀ {l : List zjm}, isB (tabE l)
 | [] => fun c hc => by simp [tabE] at hc
 | e :: l => by rw [zbkl]; exact zbji.2 ⟨zbko, zbkq⟩
def wholeB (s : zjn) : List Int := ((put ((stateB s.State).length : Int) ++ stateB s.State) ++ put (s.Table.l.length : Int)) ++ tabE s.Table.l
theorem zbkr (z : Bool) (L : List zjm) (hL : L.length ≤ 1000000) (hT : entsOk L) : ∀ (k i : Nat) (l : List Int), L.length = i + k → l.length ≤ 10000 + 30 * i →
  Ev (fun q => zlq q z L (L.length : Int) (i : Int) false l true) ⟨false, true, l ++ tabE (L.drop i)⟩
 | 0, i, l, hk, hl => by
  refine Ev.succ (Ev.ne (Ev.ret' ?_)) (fun q => rfl)
  rw [y11 (by omega)]; simp [tabE]
 | k + 1, i, l, hk, hl => by
  have hi : i < L.length := by omega
  have he : L[((i : Int)).toNat]? = some L[i] := by simp [hi]
  have hr := hT L[i] (List.getElem_mem hi)
  have ho := zbj6 hr
  have p1 := zbid L[i].Proc; have p2 := zbid L[i].Seq; have p3 := zbin (zbkm hr)
  have ih := zbkr z L hL hT k (i + 1) (((l ++ put L[i].Proc) ++ put L[i].Seq) ++ putS L[i].Resp) (by omega) (by simp only [y9]; omega)
  rw [show ((i + 1 : Nat) : Int) = wrp .i64 ((i : Int) + 1) by rw [zbh4 (by omega) (by omega)]; omega] at ih
  refine Ev.succ (Ev.po (Ev.po (Ev.opt he (Ev.bind (zbie ⟨false, true, l⟩ (by omega) (by omega) (by simp only; omega)) (Ev.bind (zbie _ (by omega) (by omega) (by simp only [y9]; omega)) (Ev.bind (zbii _ (zbkm hr) (by simp only [y9]; omega)) (Ev.cast ih ?_))))))) (fun q => rfl)
  rw [y8 hi, zbkl, entB]; simp only [y31]
theorem zbks {s : zjn} (h : mayN s = true) : (wholeB s).length ≤ 5000 ∧ (stateB s.State).length ≤ 1310 ∧ s.Table.l.length ≤ 65 := by
 have hm := zbj8 h
 have hk := zbj4 (zbj5 hm.2.2.1).2.2.2
 have h1 := zbkf (s := s.State) hk.2.2.2
 have h2 := zbkp (zbj7 hm.2.2.2)
 have h3 := zbj9 hm.2.2.2 (by omega)
 have h4 : s.Table.l.length ≤ 65 := by
  rcases h3 with e | e
  ·omega
  ·rw [e]; simp
 have p1 := zbid ((stateB s.State).length : Int); have p2 := zbid (s.Table.l.length : Int)
 simp only [wholeB, y9]; omega
theorem zbkt {s : zjn} : isB (wholeB s) := zbji.2 ⟨zbji.2 ⟨zbji.2 ⟨zbjh _, zbkg⟩, zbjh _⟩, zbkq⟩
theorem zbku {s : zjn} (h : mayN s = true) : Ev (fun q => zlr q s) ⟨false, true, wholeB s⟩ := by
 have hm := zbj8 h
 have hl := zbks h
 have p1 := zbid ((stateB s.State).length : Int); have p2 := zbid (s.Table.l.length : Int)
 have hw := zbkr s.Table.z s.Table.l (by omega) (zbj7 hm.2.2.2) s.Table.l.length 0 ((put ((stateB s.State).length : Int) ++ stateB s.State) ++ put (s.Table.l.length : Int)) (by omega) (by simp only [y9]; omega)
 rw [y36] at hw
 exact Ev.succ (Ev.bind (zbkk hm.2.2.1) (Ev.bind (zbie ⟨true, true, []⟩ (by omega) (by simp only; omega) (by simp)) (Ev.pos (by simp only [y45]; omega) (Ev.bind (zbie _ (by omega) (by omega) (by simp only [y45, y9]; omega)) hw)))) (fun q => rfl)
/-- Pieces of 64 bytes. -/
def chks : Nat → List Int → List (List Int)
 | 0, _ => []
 | k + 1, l => if l.length = 0 then [] else l.take 64 :: chks k (l.drop 64)
def frsB (F : List (List Int)) : List Int := (F.map encF).flatten
theorem zbkv (f : List Int) (F : List (List Int)) : frsB (f :: F) = encF f ++ frsB F := by simp [frsB]
theorem zbkw (l : List Int) : (encF l).length = (put (l.length : Int)).length + l.length + 4 := by
 simp only [encF, fix4, y9, y20, y24]; omega
theorem zbkx (s : Sl Int) (hb : isB s.l) (hl : s.l.length ≤ 1048576) : ∃ z, Ev (fun q => zls q s) ⟨z, true, encF s.l⟩ := by
 obtain ⟨z, h⟩ := zbjj s hb hl
 exact ⟨z, Ev.succ (Ev.bind h (Ev.ret _)) (fun q => rfl)⟩
theorem min64 (n : Nat) : (if 64 < (n : Int) then 64 else (n : Int)) = ((min 64 n : Nat) : Int) := by
 split <;> omega
theorem zbky (z : Bool) (L : List Int) (hL : L.length ≤ 1000000) (hb : isB L) : ∀ (k i n : Nat) (hz : Bool) (l : List Int), L.length = i + n → n ≤ k → l.length ≤ 1000 + 20 * i →
  ∃ z', (hz = false → z' = false) ∧ Ev (fun q => zlt q i n z L hz l true) (⟨z', true, l ++ frsB (chks k (L.drop i))⟩, 0)
 | 0, i, n, hz, l, hk, hn, hl => by
  refine ⟨hz, id, Ev.succ (Ev.ne (Ev.ret' ?_)) (fun q => rfl)⟩
  simp [chks, frsB]
 | k + 1, i, n, hz, l, hk, hn, hl => by
  by_cases h0 : n = 0
  ·refine ⟨hz, id, Ev.succ (Ev.ne (Ev.ret' ?_)) (fun q => rfl)⟩
   rw [y11 (by omega)]; simp [chks, frsB]
  ·have ht : ((L.drop i).take (min 64 n)).length = min 64 n := by rw [y19, y12]; omega
   have p := zbid (((L.drop i).take (min 64 n)).length : Int)
   have he := zbkw ((L.drop i).take (min 64 n))
   obtain ⟨z1, hF⟩ := zbkx ⟨z, (L.drop i).take (min 64 n)⟩ (zbjk (zbjl hb _) _) (by simp only; omega)
   obtain ⟨z', hzz, ih⟩ := zbky z L hL hb k (i + min 64 n) (n - min 64 n) (hz && (decide ((encF ((L.drop i).take (min 64 n))).length = 0))) (l ++ encF ((L.drop i).take (min 64 n))) (by omega) (by omega) (by simp only [y9]; omega)
   refine ⟨z', fun h => hzz (by rw [h]; rfl), Ev.succ (Ev.pos (by omega) ?_) (fun q => rfl)⟩
   rw [min64 n, y26]
   refine Ev.po (Ev.po (Ev.po (Ev.bind hF (Ev.pos (by simp only; omega) (Ev.po (Ev.cast ih ?_))))))
   simp only [chks]
   rw [if_neg (by rw [y12]; omega), zbkv, y31, List.drop_drop]
   by_cases hn : n ≤ 64
   ·rw [Nat.min_eq_right hn, List.take_of_length_le (by rw [y12]; omega), List.take_of_length_le (by rw [y12]; omega), y11 (l := L) (i := i + n) (by omega), y11 (l := L) (i := i + 64) (by omega)]
   ·rw [Nat.min_eq_left (by omega)]
theorem zbkz (z x : Bool) (L : List Int) (hL : L.length ≤ 1000000) (hb : isB L) (hz : Bool) (l : List Int) (hl : l.length ≤ 900) :
  ∃ z', (L.length ≠ 0 → z' = false) ∧ Ev (fun q => zlu q z L x hz l true) (⟨z', true, l ++ frsB (chks L.length L)⟩, 0) := by
 by_cases h0 : L.length = 0
 ·refine ⟨hz, fun h => absurd h0 h, Ev.succ (Ev.ne (Ev.ret' ?_)) (fun q => rfl)⟩
  rw [h0]; simp [chks, frsB]
 ·have ht : (L.take (min 64 L.length)).length = min 64 L.length := by rw [y19]; omega
  have p := zbid ((L.take (min 64 L.length)).length : Int)
  have he := zbkw (L.take (min 64 L.length))
  obtain ⟨z1, hF⟩ := zbkx ⟨z, L.take (min 64 L.length)⟩ (zbjk hb _) (by simp only; omega)
  obtain ⟨z', hzz, ih⟩ := zbky z L hL hb (L.length - 1) (min 64 L.length) (L.length - min 64 L.length) (hz && (decide ((encF (L.take (min 64 L.length))).length = 0))) (l ++ encF (L.take (min 64 L.length))) (by omega) (by omega) (by simp only [y9]; omega)
  refine ⟨z', fun _ => hzz (by rw [decide_eq_false (by omega), Bool.and_false]), Ev.succ (Ev.pos (by omega) ?_) (fun q => rfl)⟩
  rw [min64 L.length, y26]
  refine Ev.po (Ev.po (Ev.po (Ev.bind hF (Ev.pos (by simp only; omega) (Ev.cast ih ?_)))))
  obtain ⟨m, hm⟩ : ∃ m, L.length = m + 1 := ⟨L.length - 1, by omega⟩
  have hc : chks L.length L = L.take 64 :: chks (L.length - 1) (L.drop 64) := by rw [hm]; simp only [chks]; rw [if_neg (by omega)]; rfl
  rw [hc, zbkv, y31]
  by_cases hn : L.length ≤ 64
  ·rw [Nat.min_eq_right hn, List.take_of_length_le (by omega), List.take_of_length_le hn, y11 (by omega), y11 (by omega)]
  ·rw [Nat.min_eq_left (by omega)]
/-- What the first frame tells. -/
def manB (i : Int) (w : List Int) : List Int := ((([115] ++ put 3) ++ put i) ++ put (w.length : Int)) ++ fix4 (bsum w).toNat
def snapB (s : zjn) : List Int := encF (manB s.Index (wholeB s)) ++ frsB (chks (wholeB s).length (wholeB s))
theorem zbk0 (i : Int) (w : List Int) : (manB i w).length ≤ 35 := by
 have h1 := zbid 3; have h2 := zbid i; have h3 := zbid (w.length : Int)
 simp only [manB, fix4, y9, y20, y24]; omega
theorem zbk1 (v : Nat) : isB (fix4 v) := by
 intro c hc; simp only [fix4, List.mem_cons, List.not_mem_nil, or_false] at hc; omega
theorem zbk2 (i : Int) (w : List Int) : isB (manB i w) := by
 refine zbji.2 ⟨zbji.2 ⟨zbji.2 ⟨zbji.2 ⟨?_, zbjh _⟩, zbjh _⟩, zbjh _⟩, zbk1 _⟩
 intro c hc; simp only [List.mem_cons, List.not_mem_nil, or_false] at hc; omega
theorem zbk3 (s : zjn) (h1 : s.State.L.l.length ≤ 1000000) (h2 : s.Table.l.length ≤ 1000000) : ∃ z, (mayN s = true → z = false) ∧ Ev (fun q => zlv q s) (if mayN s = true then (⟨z, true, snapB s⟩, 0) else (⟨true, true, []⟩, 1)) := by
 by_cases h : mayN s = true
 ·have hm := zbj8 h
  have hl := zbks h
  have q1 := zbid 3; have q2 := zbid s.Index; have q3 := zbid ((wholeB s).length : Int)
  have hml := zbk0 s.Index (wholeB s)
  obtain ⟨z1, hF⟩ := zbkx ⟨false && (decide ((fix4 (bsum (wholeB s)).toNat).length = 0)), manB s.Index (wholeB s)⟩ (zbk2 _ _) (by simp only; omega)
  have he := zbkw (manB s.Index (wholeB s)); have p := zbid ((manB s.Index (wholeB s)).length : Int)
  obtain ⟨z, hzf, hE⟩ := zbkz false true (wholeB s) (by omega) zbkt z1 (encF (manB s.Index (wholeB s))) (by omega)
  refine ⟨z, fun _ => hzf (by have : 1 ≤ (put ((stateB s.State).length : Int)).length := (by rw [put_ok (by omega) (by omega)]; exact zbia _); simp only [wholeB, y9]; omega), ?_⟩
  rw [if_pos h]
  refine Ev.succ (Ev.bind (zbjy s h1 h2) (Ev.pos h (Ev.bind (zbku h) (Ev.bind (zbie ⟨false, true, [115]⟩ (by omega) (by omega) (by simp)) (Ev.bind (zbie _ (by omega) (by omega) (by simp only [y9, y20, y24]; omega)) (Ev.bind (zbie _ (by omega) (by simp only; omega) (by simp only [y9, y20, y24]; omega)) (Ev.bind (zbi2 ⟨false, wholeB s⟩ zbkt (by simp only; omega)) (Ev.bind (zbi9 _) (Ev.pos ?_ (Ev.bind hF hE))))))))) ) (fun q => rfl)
  simp only [fix4, y9, y20, y24]; omega
 ·refine ⟨true, fun e => absurd e h, ?_⟩
  rw [if_neg h]
  exact Ev.succ (Ev.bind (zbjy s h1 h2) (Ev.neg h (Ev.ret _))) (fun q => rfl)
theorem zbk4 (s : zjn) (h1 : s.State.L.l.length ≤ 1000000) (h2 : s.Table.l.length ≤ 1000000) : ∃ z, Ev (fun q => zlv q s) (if mayN s = true then (⟨z, true, snapB s⟩, 0) else (⟨true, true, []⟩, 1)) := by
 obtain ⟨z, _, h⟩ := zbk3 s h1 h2
 exact ⟨z, h⟩
theorem zbk5 (z z2 : Bool) (A B : List zjm) (hl : A.length = B.length) (hL : A.length ≤ 1099511627776) : ∀ (k i : Nat), A.length = i + k → Ev (fun q => zkg q z A z2 B (A.length : Int) (i : Int)) (decide (A.drop i = B.drop i))
 | 0, i, hk => by
  refine Ev.succ (Ev.ne (Ev.ret' ?_)) (fun q => rfl)
  rw [y11 (by omega), y11 (by omega)]; simp
 | k + 1, i, hk => by
  have hi : i < A.length := by omega
  have hi2 : i < B.length := by omega
  have hg : A[(i : Int).toNat]? = some A[i] := by simpa using y6 hi
  have hg2 : B[(i : Int).toNat]? = some B[i] := by simpa using y6 hi2
  have no : ¬ A[i] = B[i] → false = decide (A[i] :: A.drop (i + 1) = B[i] :: B.drop (i + 1)) := fun h => by
   symm; rw [decide_eq_false_iff_not]; intro e; exact h (List.cons.inj e).1
  rw [y8 hi, y8 hi2]
  refine Ev.succ (Ev.po (Ev.po (Ev.opt hg (Ev.opt hg2 (Ev.ite (fun c1 => Ev.ite (fun c2 => Ev.ite (fun c3 => ?_) fun c3 => Ev.ret' (no fun e => c3 (by rw [e]))) fun c2 => Ev.ret' (no fun e => c2 (by rw [e]))) fun c1 => Ev.ret' (no fun e => c1 (by rw [e]))))))) (fun q => rfl)
  rw [zbh4 (by omega) (by omega), show ((i : Int) + 1) = ((i + 1 : Nat) : Int) by omega]
  refine (zbk5 z z2 A B hl hL k (i + 1) (by omega)).cast ?_
  rw [decide_eq_decide, List.cons.injEq]; simp only [zbjz c1 c2 c3, true_and]
theorem zbk6 (a b : Sl zjm) (hL : a.l.length ≤ 1099511627776) : Ev (fun q => zkh q a b) (decide (a.l = b.l)) := by
 refine Ev.succ (Ev.ite (fun h => ?_) fun h => Ev.ret' ?_) (fun q => rfl)
 ·have := zbk5 a.z b.z a.l b.l (by omega) hL a.l.length 0 (by omega)
  rw [y36, y36] at this; exact this
 ·symm; rw [decide_eq_false_iff_not]; intro e; rw [e] at h; exact h rfl
/-- The same states, the same snapshots. -/
def sameS (a b : zjl) : Bool := decide (a.Kind = b.Kind) && (decide (a.Sealed = b.Sealed) && (decide (a.To = b.To) && decide (a.L.l = b.L.l)))
def sameN (a b : zjn) : Bool := decide (a.Index = b.Index) && (sameS a.State b.State && decide (a.Table.l = b.Table.l))
theorem zbk7 (a b : zjl) (hL : a.L.l.length ≤ 1099511627776) : Ev (fun q => zkf q a b) (sameS a b) := by
 unfold sameS
 refine Ev.succ (Ev.ite (fun c1 => Ev.ite (fun c2 => Ev.ite (fun c3 => Ev.bind (zbj1 _ _ hL) (Ev.ret' ?_)) fun c3 => Ev.ret' ?_) fun c2 => Ev.ret' ?_) fun c1 => Ev.ret' ?_) (fun q => rfl)
 ·rw [beq_iff_eq] at c2; simp [c1, c2, c3]
 ·simp [c3]
 ·rw [beq_iff_eq] at c2; simp [c2]
 ·simp [c1]
theorem zbk8 (a b : zjn) (hL : a.State.L.l.length ≤ 1099511627776) (hT : a.Table.l.length ≤ 1099511627776) : Ev (fun q => zki q a b) (sameN a b) := by
 unfold sameN
 refine Ev.succ (Ev.ite (fun c1 => Ev.bind (zbk7 _ _ hL) (Ev.ite (fun c2 => Ev.bind (zbk6 _ _ hT) (Ev.ret' ?_)) fun c2 => Ev.ret' ?_)) fun c1 => Ev.ret' ?_) (fun q => rfl)
 ·simp [c1, c2]
 ·simp only [Bool.not_eq_true] at c2; simp [c2]
 ·simp [c1]
theorem mayC : mayS ⟨0, ⟨false, [0]⟩, false, 0⟩ = true := by
 simp [mayS, kindOk, cutsB, cutI]
theorem mayD (z z2 : Bool) : mayN ⟨1, ⟨0, ⟨z, [5]⟩, false, 0⟩, ⟨z2, [⟨2, 1, 0⟩]⟩⟩ = true := by
 simp [mayN, mayS, kindOk, cutsB, cutI, tabB, entOk]
theorem zbk9 (z : Bool) : ∃ z', Ev (fun q => zkc q ⟨true, []⟩ ⟨0, 2, 1, ⟨1, 5, 0⟩, 0⟩) ⟨z', true, [⟨2, 1, 0⟩]⟩ := by
 have h68 : Ev (fun q => zj4 q ⟨true, []⟩) ⟨true, true, []⟩ := Ev.succ (g := fun _ => some ⟨true, true, []⟩) (Ev.ret _) (fun q => rfl)
 have hs00 : Ev (fun q => zj6 q 0 0 0 2 1 1 5 0 0 true [] true) (-1) := Ev.succ (g := fun _ => some (-1)) (Ev.ret _) (fun q => rfl)
 have hs0 : Ev (fun q => zj7 q 0 2 1 1 5 0 0 true [] true) (-1) := Ev.succ hs00 (fun q => rfl)
 have h0 : Ev (fun q => zj9 q 0 2 1 1 5 0 0 true [] true) (0, [], true) := Ev.succ (Ev.bind hs0 (Ev.pos rfl (Ev.ret _))) (fun q => rfl)
 have hs10 : Ev (fun q => zka q 0 0 0 0 2 1 1 5 0 0 true [] true) (-1) := Ev.succ (g := fun _ => some (-1)) (Ev.ret _) (fun q => rfl)
 have h1 : Ev (fun q => zkb q 0 0 2 1 1 5 0 0 true [] true) (-1) := Ev.succ hs10 (fun q => rfl)
 have h72 : Ev (fun q => zj5 q ⟨true, true, []⟩ 0 ⟨false, true, [⟨2, 1, 0⟩]⟩) ⟨false, true, [⟨2, 1, 0⟩]⟩ := by
  refine Ev.succ (g := fun _ => if insOk (⟨true, true, []⟩ : Ow zjm) 0 ⟨false, true, [⟨2, 1, 0⟩]⟩ then some (insR (⟨true, true, []⟩ : Ow zjm) 0 ⟨false, true, [⟨2, 1, 0⟩]⟩) else none) (Ev.pos ⟨rfl, by omega, by simp, rfl, by simp, by simp⟩ (Ev.ret' (by simp [insR]))) (fun q => rfl)
 exact ⟨false, Ev.succ (Ev.bind h68 (Ev.bind h0 (Ev.bind h1 (Ev.po (Ev.pos rfl (Ev.bind h72 (Ev.ret _))))))) (fun q => rfl)⟩
theorem zbla {s : zjl} {o : zjp} {n : Int} (h : s.L.l[0]? = some n) (hk : s.Kind = 0) (hc : o.Code = 1) : Ev (fun q => zkn q s o) (⟨s.Kind, ⟨false, [cutI (wrp .i64 (n + cutI o.A))]⟩, s.Sealed, s.To⟩, n) := by
 refine Ev.succ (Ev.opt h (Ev.ne (Ev.pos hk (Ev.pos hc ?_)))) (fun q => rfl)
 exact Ev.bind (zbij _) (Ev.bind (zbij _) (Ev.ret _))
theorem zblb {s : zjl} {o : zjp} {n : Int} (hm : mayS s = true) (hL : s.L.l.length ≤ 1000000) (hs : s.Sealed = false) (h : s.L.l[0]? = some n) (hk : s.Kind = 0) (hc : o.Code = 1) : Ev (fun q => zky q s o) (⟨s.Kind, ⟨false, [cutI (wrp .i64 (n + cutI o.A))]⟩, s.Sealed, s.To⟩, n) := by
 have hM := zbjs s hL
 exact Ev.succ (Ev.bind hM (Ev.pos hm (Ev.neg (by rw [hs]; simp) (Ev.ne (Ev.pos hk (Ev.bind (zbla h hk hc) (Ev.ret _))))))) (fun q => rfl)
theorem zblc : Ev (fun q => zky q ⟨0, ⟨false, [0]⟩, false, 0⟩ ⟨1, 5, 0⟩) (⟨0, ⟨false, [5]⟩, false, 0⟩, 0) := by
 have := zblb (s := ⟨0, ⟨false, [0]⟩, false, 0⟩) (o := ⟨1, 5, 0⟩) (n := 0) mayC (by simp) rfl rfl rfl rfl
 have e : cutI (wrp .i64 (0 + cutI 5)) = 5 := by rw [show cutI 5 = 5 by simp [cutI], zbh4 (by omega) (by omega)]; simp [cutI]
 simp only [e] at this
 exact this
theorem zbld {s : zjn} {r : Sl zjq} {e : zjq} {t : zjl} {n : Int} {z : Bool} {T : List zjm} (h1 : r.l[0]? = some e) (h2 : r.l.length = 1) (hi : e.Index = s.Index) (hf : FitsR e)
  (hS : Ev (fun q => zky q s.State e.Op) (t, n)) (hN : Ev (fun q => zkc q s.Table ⟨e.Index, e.Proc, e.Seq, e.Op, n⟩) ⟨z, true, T⟩) : Ev (fun q => zk1 q s r) (⟨wrp .i64 (s.Index + 1), t, ⟨z, T⟩⟩, 0) := by
 have w1 : wrp .i64 1 = 1 := zbh4 (by omega) (by omega)
 have hl : ∀ a : Int, a = 1 → Ev (fun q => zkz q r.z r.l (r.l.length : Int) a (wrp .i64 (s.Index + 1)) t.Kind t.L.z t.L.l t.Sealed t.To z T true) (⟨wrp .i64 (s.Index + 1), t, ⟨z, T⟩⟩, 0) := fun a ha =>
  Ev.succ (Ev.ne (Ev.ret _)) (fun q => rfl)
 have h0 : Ev (fun q => zk0 q r.z r.l (r.l.length : Int) s.Index s.State.Kind s.State.L.z s.State.L.l s.State.Sealed s.State.To s.Table.z s.Table.l) (⟨wrp .i64 (s.Index + 1), t, ⟨z, T⟩⟩, 0) :=
  Ev.succ (Ev.po (Ev.opt h1 (Ev.pos hi (Ev.bind (zbim e) (Ev.pos (by simpa using hf) (Ev.bind hS (Ev.bind hN (hl _ w1)))))))) (fun q => rfl)
 exact Ev.succ h0 (fun q => rfl)
theorem zble : ∃ z z', Ev (fun q => zk1 q ⟨0, ⟨0, ⟨false, [0]⟩, false, 0⟩, ⟨true, []⟩⟩ ⟨false, [⟨0, 2, 1, ⟨1, 5, 0⟩, 0⟩]⟩) (⟨1, ⟨0, ⟨z, [5]⟩, false, 0⟩, ⟨z', [⟨2, 1, 0⟩]⟩⟩, 0) := by
 obtain ⟨z', hN⟩ := zbk9 true
 have w2 : wrp .i64 (0 + 1) = 1 := zbh4 (by omega) (by omega)
 have := zbld (s := ⟨0, ⟨0, ⟨false, [0]⟩, false, 0⟩, ⟨true, []⟩⟩) (r := ⟨false, [⟨0, 2, 1, ⟨1, 5, 0⟩, 0⟩]⟩) rfl rfl rfl (by simp [FitsR, fitsOp, cutI]) zblc hN
 simp only [w2] at this
 exact ⟨false, z', this⟩
theorem zblf (s : zjn) : 10 < (snapB s).length := by
 have h := zbkw (manB s.Index (wholeB s))
 have g : ∀ n : Int, (put n).length = 0 ∨ 1 ≤ (put n).length := fun n => by omega
 have p3 : 1 ≤ (put 3).length := by rw [put_ok (by omega) (by omega)]; exact zbia _
 have p4 : 1 ≤ (put ((manB s.Index (wholeB s)).length : Int)).length := by
  have := zbk0 s.Index (wholeB s)
  rw [put_ok (by omega) (by omega)]; exact zbia _
 have p5 : 1 + 1 + 4 ≤ (manB s.Index (wholeB s)).length := by simp only [manB, fix4, y9, y20, y24]; omega
 simp only [snapB, y9]; omega
theorem zblg : Ev (fun q => zlw q) true := by
 obtain ⟨z, z', hT⟩ := zble
 obtain ⟨z2, hE⟩ := zbk4 ⟨1, ⟨0, ⟨z, [5]⟩, false, 0⟩, ⟨z', [⟨2, 1, 0⟩]⟩⟩ (by simp) (by simp)
 rw [if_pos (mayD z z')] at hE
 have hl := zblf ⟨1, ⟨0, ⟨z, [5]⟩, false, 0⟩, ⟨z', [⟨2, 1, 0⟩]⟩⟩
 generalize snapB ⟨1, ⟨0, ⟨z, [5]⟩, false, 0⟩, ⟨z', [⟨2, 1, 0⟩]⟩⟩ = B at hE hl
 have e1 : (⟨1, ⟨0, ⟨z, [5]⟩, false, 0⟩, ⟨z', [⟨2, 1, 0⟩]⟩⟩ : zjn).Index = 1 := rfl
 have e2 : (⟨1, ⟨0, ⟨z, [5]⟩, false, 0⟩, ⟨z', [⟨2, 1, 0⟩]⟩⟩ : zjn).Table.l = [⟨2, 1, 0⟩] := rfl
 have e3 : (⟨1, ⟨0, ⟨z, [5]⟩, false, 0⟩, ⟨z', [⟨2, 1, 0⟩]⟩⟩ : zjn).State.L.l = [5] := rfl
 generalize (⟨1, ⟨0, ⟨z, [5]⟩, false, 0⟩, ⟨z', [⟨2, 1, 0⟩]⟩⟩ : zjn) = x at hT hE e1 e2 e3
 have e4 : x.Table.l[0]? = some ⟨2, 1, 0⟩ := by rw [e2]; rfl
 have e5 : x.State.L.l[0]? = some 5 := by rw [e3]; rfl
 refine Ev.succ (Ev.bind hT (Ev.bind hE ?_)) (fun q => rfl)
 refine Ev.pos rfl (Ev.pos rfl (Ev.pos (by simp only; omega) (Ev.pos e1 (Ev.pos (by simp only [e2]; rfl) (Ev.opt e4 (Ev.pos rfl (Ev.pos rfl (Ev.pos rfl (Ev.pos (by simp only [e3]; rfl) (Ev.opt e5 (Ev.ret' (by simp))))))))))))
def gN (r : List Int × Bool) : Int × List Int × Bool := ((getN r.1).1, r.1.drop (getN r.1).2.toNat, r.2 && decide (0 < (getN r.1).2))
section
variable {R : Type}
end
def n1 (b : List Int) : Int × List Int × Bool := gN (b, true)
def n2 (b : List Int) : Int × List Int × Bool := gN (n1 b).2
def n3 (b : List Int) : Int × List Int × Bool := gN (n2 b).2
def n4 (b : List Int) : Int × List Int × Bool := gN (n3 b).2
def filP (p : Int) (T : List zjm) : List zjm := T.filter fun e => !decide (e.Proc = p)
def insE (e : zjm) : List zjm → List zjm
 | [] => [e]
 | x :: l => if e.Proc < x.Proc then e :: x :: l else x :: insE e l
def noteL (T : List zjm) (p s x : Int) : List zjm := insE ⟨p, s, x⟩ (filP p T)
def atE (p : Int) : List zjm → Nat
 | [] => 0
 | x :: l => if p < x.Proc then 0 else atE p l + 1
theorem atE_le (p : Int) : ∀ T : List zjm, atE p T ≤ T.length
 | [] => y13 _
 | x :: l => by simp only [atE]; split <;> simp only [y20] <;> have := atE_le p l <;> omega
theorem zblh (e : zjm) : ∀ T : List zjm, insE e T = T.take (atE e.Proc T) ++ [e] ++ T.drop (atE e.Proc T)
 | [] => rfl
 | x :: l => by
  simp only [insE, atE]
  split
  ·simp
  ·rw [zblh e l]; simp
theorem zbli (e : zjm) : ∀ T : List zjm, (insE e T).length = T.length + 1
 | [] => rfl
 | x :: l => by simp only [insE]; split <;> simp only [y20, zbli e l]
theorem zblj (p : Int) (T : List zjm) : (filP p T).length ≤ T.length := List.length_filter_le _ _
theorem zblk (T : List zjm) (p s x : Int) : (noteL T p s x).length ≤ T.length + 1 := by
 unfold noteL; rw [zbli]; have := zblj p T; omega
theorem zbll (p : Int) (O : List zjm) (j : Nat) (hj : j < O.length) : filP p (O.take (j + 1)) = filP p (O.take j) ++ if O[j].Proc = p then [] else [O[j]] := by
 unfold filP
 rw [List.take_add_one, y6 hj, List.filter_append]
 congr 1
 simp only [Option.toList_some, List.filter_cons, List.filter_nil]
 by_cases c : O[j].Proc = p <;> simp [c]
theorem zblm {p : Int} {T : List zjm} (h : ∀ e ∈ T, e.Proc ≠ p) : filP p T = T := List.filter_eq_self.2 fun e he => by simp [h e he]
theorem zbln (p0 p p2 p3 p4 p5 p6 : Int) (z : Bool) (L : List zjm) (x : Bool) (hL : L.length ≤ 1000000) : ∀ (k i : Nat), L.length = i + k →
  ∃ r, Ev (fun q => zj6 q (L.length : Int) (i : Int) p0 p p2 p3 p4 p5 p6 z L x) r ∧ ((r = -1 ∧ ∀ e ∈ L.drop i, e.Proc ≠ p) ∨ ∃ j : Nat, i ≤ j ∧ ∃ h : j < L.length, r = (j : Int) ∧ L[j].Proc = p ∧ ∀ e ∈ (L.take j).drop i, e.Proc ≠ p)
 | 0, i, hk => ⟨-1, Ev.succ (Ev.ne (Ev.ret _)) (fun q => rfl), .inl ⟨rfl, by rw [y11 (by omega)]; simp⟩⟩
 | k + 1, i, hk => by
  have hi : i < L.length := by omega
  have he : L[((i : Int)).toNat]? = some L[i] := by simp [hi]
  by_cases c : L[i].Proc = p
  ·exact ⟨(i : Int), Ev.succ (Ev.po (Ev.po (Ev.po (Ev.opt he (Ev.pos c (Ev.ret _)))))) (fun q => rfl), .inr ⟨i, y13 _, hi, rfl, c, by rw [y11 (by rw [y19]; omega)]; simp⟩⟩
  ·obtain ⟨r, h, hr⟩ := zbln p0 p p2 p3 p4 p5 p6 z L x hL k (i + 1) (by omega)
   rw [show ((i + 1 : Nat) : Int) = wrp .i64 ((i : Int) + 1) by rw [zbh4 (by omega) (by omega)]; omega] at h
   refine ⟨r, Ev.succ (Ev.po (Ev.po (Ev.po (Ev.opt he (Ev.neg c h))))) (fun q => rfl), ?_⟩
   rcases hr with ⟨h1, h2⟩ | ⟨j, h1, h2, h3, h4, h5⟩
   ·refine .inl ⟨h1, fun e hm => ?_⟩
    rw [y8 hi] at hm
    rcases List.mem_cons.1 hm with rfl | hm
    ·exact c
    ·exact h2 e hm
   ·refine .inr ⟨j, by omega, h2, h3, h4, fun e hm => ?_⟩
    have hi2 : i < (L.take j).length := by rw [y19]; omega
    rw [y8 hi2] at hm
    rcases List.mem_cons.1 hm with rfl | hm
    ·rw [List.getElem_take]; exact c
    ·exact h5 e hm
theorem zblo (p0 p p2 p3 p4 p5 p6 : Int) (z : Bool) (O : List zjm) (hO : O.length ≤ 1000000) : ∀ (k j i : Nat) (H : List zjm), O.length = j + k → H.length = O.length → i ≤ j → H.take i = filP p (O.take j) → H.drop j = O.drop j →
  ∃ xs, Ev (fun q => zj8 q (i : Int) (j : Int) p0 p p2 p3 p4 p5 p6 z H true) ((filP p O).length, xs, true) ∧ xs.take (filP p O).length = filP p O ∧ (filP p O).length ≤ xs.length
 | 0, j, i, H, hk, hl, hij, ht, hd => by
  have hO2 : O.take j = O := List.take_of_length_le (by omega)
  rw [hO2] at ht
  have hi : (filP p O).length = i := by rw [← ht, y19]; omega
  refine ⟨((H.take i) ++ (List.replicate (H.length - i) (⟨0, 0, 0⟩ : zjm))) ++ (H.drop (i + (H.length - i))), ?_, ?_, ?_⟩
  ·rw [hi]
   refine Ev.succ (Ev.ne (Ev.po (Ev.po (Ev.pos rfl (Ev.po (Ev.ite (fun _ => Ev.ret' ?_) fun _ => Ev.ret' ?_)))))) (fun q => rfl) <;> simp only [y26]
  ·rw [hi, y31, List.take_append_of_le_length (by rw [y19]; omega), List.take_take, Nat.min_self, ht]
  ·rw [hi]; simp only [y9, y19, List.length_replicate]; omega
 | k + 1, j, i, H, hk, hl, hij, ht, hd => by
  have hj : j < H.length := by omega
  have hjO : j < O.length := by omega
  have he : H[((j : Int)).toNat]? = some O[j] := by
   have := congrArg (fun l => l[0]?) hd
   simp only [y38, Nat.add_zero] at this
   rw [y26, this]; exact y6 hjO
  have hs := zbll p O j hjO
  have wj : wrp .i64 ((j : Int) + 1) = ((j + 1 : Nat) : Int) := by rw [zbh4 (by omega) (by omega)]; omega
  have dr : ∀ {A B : List zjm}, A.drop j = B.drop j → A.drop (j + 1) = B.drop (j + 1) := fun {A B} h => by rw [← List.drop_drop, ← List.drop_drop, h]
  by_cases c : O[j].Proc = p
  ·rw [if_pos c, List.append_nil] at hs
   obtain ⟨xs, h1, h2⟩ := zblo p0 p p2 p3 p4 p5 p6 z O hO k (j + 1) i H (by omega) hl (by omega) (by rw [hs]; exact ht) (dr hd)
   rw [← wj] at h1
   exact ⟨xs, Ev.succ (Ev.po (Ev.po (Ev.po (Ev.opt he (Ev.pos c h1))))) (fun q => rfl), h2⟩
  ·rw [if_neg c] at hs
   have hi : i < H.length := by omega
   have hg : H[((i : Int)).toNat]? = some H[i] := by simp [hi]
   obtain ⟨xs, h1, h2⟩ := zblo p0 p p2 p3 p4 p5 p6 z O hO k (j + 1) (i + 1) (H.set i O[j]) (by omega) (by rw [List.length_set]; exact hl) (by omega) (by
    rw [hs, ← ht, List.take_add_one, List.take_set_of_le (y13 i), y22 hi]; rfl) (by
    rw [List.drop_set_of_lt (by omega)]; exact dr hd)
   have wi : wrp .i64 ((i : Int) + 1) = ((i + 1 : Nat) : Int) := by rw [zbh4 (by omega) (by omega)]; omega
   rw [← wj, ← wi] at h1
   exact ⟨xs, Ev.succ (Ev.po (Ev.po (Ev.po (Ev.opt he (Ev.neg c (Ev.po (Ev.po (Ev.opt hg (Ev.pos rfl h1))))))))) (fun q => rfl), h2⟩
theorem zblp (p0 p p2 p3 p4 p5 p6 : Int) (z : Bool) (O : List zjm) (hO : O.length ≤ 1000000) :
  ∃ xs, Ev (fun q => zj9 q p0 p p2 p3 p4 p5 p6 z O true) ((filP p O).length, xs, true) ∧ xs.take (filP p O).length = filP p O ∧ (filP p O).length ≤ xs.length := by
 obtain ⟨r, h, hr⟩ := zbln p0 p p2 p3 p4 p5 p6 z O true hO O.length 0 (by omega)
 have h' : Ev (fun q => zj7 q p0 p p2 p3 p4 p5 p6 z O true) r := Ev.succ h (fun q => rfl)
 rcases hr with ⟨rfl, h2⟩ | ⟨j, _, h2, rfl, h4, h5⟩
 ·rw [y36] at h2
  rw [zblm h2]
  exact ⟨O, Ev.succ (Ev.bind h' (Ev.pos rfl (Ev.ret _))) (fun q => rfl), List.take_length, y13 _⟩
 ·rw [y36] at h5
  have hs := zbll p O j h2
  rw [if_pos h4, List.append_nil, zblm h5] at hs
  obtain ⟨xs, h1, h6⟩ := zblo p0 p p2 p3 p4 p5 p6 z O hO (O.length - (j + 1)) (j + 1) j O (by omega) rfl (by omega) hs.symm rfl
  rw [show ((j + 1 : Nat) : Int) = wrp .i64 ((j : Int) + 1) by rw [zbh4 (by omega) (by omega)]; omega] at h1
  exact ⟨xs, Ev.succ (Ev.bind h' (Ev.neg (by omega) h1)) (fun q => rfl), h6⟩
def ixI (n k i : Nat) : Int := if n < k then ((i + n : Nat) : Int) else -1
theorem zblq (p0 p p2 p3 p4 p5 p6 : Int) (z : Bool) (xs : List zjm) (x : Bool) (M : List zjm) (hM : xs.take M.length = M) (hL : M.length ≤ 1000000) : ∀ (k i : Nat), M.length = i + k →
  Ev (fun q => zka q M.length (M.length : Int) (i : Int) p0 p p2 p3 p4 p5 p6 z xs x) (ixI (atE p (M.drop i)) k i)
 | 0, i, hk => by
  refine Ev.succ (Ev.ne (Ev.ret' ?_)) (fun q => rfl)
  unfold ixI; rw [if_neg (by omega)]
 | k + 1, i, hk => by
  have hi : i < M.length := by omega
  have he : xs[((i : Int)).toNat]? = some M[i] := by
   have : (xs.take M.length)[i]? = M[i]? := by rw [hM]
   rw [y46, if_pos hi] at this
   rw [y26, this]; exact y6 hi
  rw [y8 hi]
  have ha : atE p (M[i] :: M.drop (i + 1)) = if p < M[i].Proc then 0 else atE p (M.drop (i + 1)) + 1 := rfl
  by_cases c : p < M[i].Proc
  ·rw [if_pos c] at ha
   rw [ha]; unfold ixI; rw [if_pos (by omega)]
   exact Ev.succ (Ev.po (Ev.po (Ev.po (Ev.opt he (Ev.pos c (Ev.ret' (by omega))))))) (fun q => rfl)
  ·rw [if_neg c] at ha
   rw [ha]
   have ih := zblq p0 p p2 p3 p4 p5 p6 z xs x M hM hL k (i + 1) (by omega)
   rw [show ((i + 1 : Nat) : Int) = wrp .i64 ((i : Int) + 1) by rw [zbh4 (by omega) (by omega)]; omega] at ih
   refine Ev.succ (Ev.po (Ev.po (Ev.po (Ev.opt he (Ev.neg c (Ev.cast ih ?_)))))) (fun q => rfl)
   unfold ixI
   by_cases d : atE p (M.drop (i + 1)) < k
   ·rw [if_pos d, if_pos (by omega)]; omega
   ·rw [if_neg d, if_neg (by omega)]
theorem zblr (z : Bool) (M : List zjm) (at_ : Int) (e : zjm) (h0 : 0 ≤ at_) (h1 : at_ ≤ (M.length : Int)) (hL : M.length ≤ 1000000) : Ev (fun q => zj5 q ⟨z, true, M⟩ at_ ⟨false, true, [e]⟩) ⟨false, true, M.take at_.toNat ++ [e] ++ M.drop at_.toNat⟩ :=
 Ev.succ (g := fun _ => if insOk (⟨z, true, M⟩ : Ow zjm) at_ ⟨false, true, [e]⟩ then some (insR (⟨z, true, M⟩ : Ow zjm) at_ ⟨false, true, [e]⟩) else none) (Ev.pos ⟨rfl, h0, h1, rfl, by simp, by simp only [List.length_singleton]; omega⟩ (Ev.ret _)) (fun q => rfl)
theorem zbls (s : Sl zjm) (hz : s.z = true → s.l = []) (hL : s.l.length ≤ 1000000) (r : zjq) : Ev (fun q => zkc q s r) ⟨false, true, noteL s.l r.Proc r.Seq r.Resp⟩ := by
 obtain ⟨z, hC⟩ : ∃ z, Ev (fun q => zj4 q s) ⟨z, true, s.l⟩ := by
  by_cases c : s.z = true
  ·exact ⟨true, Ev.succ (Ev.pos c (Ev.ret' (by rw [hz c]))) (fun q => rfl)⟩
  ·exact ⟨false, Ev.succ (Ev.neg c (Ev.po (Ev.ret _))) (fun q => rfl)⟩
 obtain ⟨xs, h0, hx, hle⟩ := zblp r.Index r.Proc r.Seq r.Op.Code r.Op.A r.Op.B r.Resp z s.l hL
 have hM := zblj r.Proc s.l
 have h1 := zblq r.Index r.Proc r.Seq r.Op.Code r.Op.A r.Op.B r.Resp z xs true (filP r.Proc s.l) hx (by omega) (filP r.Proc s.l).length 0 (by omega)
 have h1' : Ev (fun q => zkb q (filP r.Proc s.l).length r.Index r.Proc r.Seq r.Op.Code r.Op.A r.Op.B r.Resp z xs true) _ := Ev.succ h1 (fun q => rfl)
 rw [y36] at h1'
 have hat := atE_le r.Proc (filP r.Proc s.l)
 unfold noteL
 rw [zblh]
 refine Ev.succ (Ev.bind hC (Ev.bind h0 (Ev.bind h1' ?_))) (fun q => rfl)
 simp only
 rw [hx]
 unfold ixI
 by_cases d : atE r.Proc (filP r.Proc s.l) < (filP r.Proc s.l).length
 ·rw [if_pos d]
  have hI := zblr z (filP r.Proc s.l) ((0 + atE r.Proc (filP r.Proc s.l) : Nat) : Int) ⟨r.Proc, r.Seq, r.Resp⟩ (by omega) (by omega) (by omega)
  refine Ev.ne (Ev.pos trivial (Ev.bind hI (Ev.ret' ?_)))
  rw [y26, y41]
 ·rw [if_neg d]
  have hI := zblr z (filP r.Proc s.l) ((filP r.Proc s.l).length : Int) ⟨r.Proc, r.Seq, r.Resp⟩ (by omega) (by omega) (by omega)
  refine Ev.po (Ev.pos trivial (Ev.bind hI (Ev.ret' ?_)))
  rw [y26, show atE r.Proc (filP r.Proc s.l) = (filP r.Proc s.l).length by omega]
def srt : Int → List zjm → Prop
 | _, [] => True
 | last, e :: t => last < e.Proc ∧ srt e.Proc t
def lk (p : Int) (l : List zjm) : Option zjm := l.find? fun e => decide (e.Proc = p)
theorem zblt (p : Int) (e : zjm) (l : List zjm) : lk p (e :: l) = if e.Proc = p then some e else lk p l := by
 unfold lk; rw [List.find?_cons]; by_cases c : e.Proc = p <;> simp [c]
theorem zblu : ∀ {l : List zjm} {a b : Int}, srt a l → b ≤ a → srt b l
 | [], _, _, _, _ => trivial
 | e :: l, a, b, h, hb => ⟨by have := h.1; omega, h.2⟩
theorem zblv : ∀ {l : List zjm} {a : Int}, tabB a l = true → srt a l
 | [], _, _ => trivial
 | e :: l, a, h => by
  simp only [tabB, y5, decide_eq_true_eq] at h
  exact ⟨h.2.1, zblv h.2.2⟩
theorem zblw : ∀ {l : List zjm} {a p : Int}, srt a l → p ≤ a → lk p l = none
 | [], _, _, _, _ => rfl
 | e :: l, a, p, h, hp => by
  rw [zblt, if_neg (by have := h.1; omega)]
  exact zblw h.2 (by have := h.1; omega)
theorem zblx : ∀ {A B : List zjm} {a : Int}, srt a A → srt a B → (∀ p, lk p A = lk p B) → A = B
 | [], [], _, _, _, _ => rfl
 | [], b :: B, _, _, _, h => by have := h b.Proc; rw [zblt, if_pos rfl] at this; cases this
 | a :: A, [], _, _, _, h => by have := h a.Proc; rw [zblt, if_pos rfl] at this; cases this
 | a :: A, b :: B, _, hA, hB, h => by
  have ha := h a.Proc
  have hb := h b.Proc
  rw [zblt, if_pos rfl, zblt] at ha
  rw [zblt, zblt, if_pos (rfl : b.Proc = b.Proc)] at hb
  have e : a.Proc = b.Proc := by
   rcases Int.lt_trichotomy a.Proc b.Proc with c | c | c
   ·rw [if_neg (by omega), zblw hB.2 (by omega)] at ha; cases ha
   ·exact c
   ·rw [if_neg (by omega), zblw hA.2 (by omega)] at hb; cases hb
  rw [if_pos e.symm] at ha
  obtain rfl := Option.some.inj ha
  rw [zblx hA.2 hB.2 fun p => by
   have := h p
   rw [zblt, zblt] at this
   by_cases c : a.Proc = p
   ·rw [zblw hA.2 (by omega), zblw hB.2 (by omega)]
   ·rw [if_neg c, if_neg c] at this; exact this]
theorem zbly (p : Int) (e : zjm) (l : List zjm) : filP p (e :: l) = if e.Proc = p then filP p l else e :: filP p l := by
 unfold filP; rw [List.filter_cons]; by_cases c : e.Proc = p <;> simp [c]
theorem zblz (p : Int) : ∀ {l : List zjm} {a : Int}, srt a l → srt a (filP p l)
 | [], _, _ => trivial
 | e :: l, a, h => by
  rw [zbly]
  split
  ·exact zblu (zblz p h.2) (by have := h.1; omega)
  ·exact ⟨h.1, zblz p h.2⟩
theorem zbl0 (p q : Int) : ∀ l : List zjm, lk q (filP p l) = if q = p then none else lk q l
 | [] => by simp [filP, lk]
 | e :: l => by
  rw [zbly, zblt]
  by_cases c : e.Proc = p
  ·rw [if_pos c, zbl0 p q l]
   by_cases d : q = p
   ·rw [if_pos d, if_pos d]
   ·rw [if_neg d, if_neg d, if_neg (by omega)]
  ·rw [if_neg c, zblt, zbl0 p q l]
   by_cases d : q = p
   ·rw [if_pos d, if_pos d, if_neg (by omega)]
   ·rw [if_neg d, if_neg d]
theorem zbl1 (e : zjm) : ∀ {l : List zjm} {a : Int}, srt a l → a < e.Proc → lk e.Proc l = none → srt a (insE e l)
 | [], _, _, ha, _ => ⟨ha, trivial⟩
 | x :: l, a, h, ha, hn => by
  rw [zblt] at hn
  split at hn
  ·cases hn
  ·rename_i c
   simp only [insE]
   split
   ·rename_i d; exact ⟨ha, d, h.2⟩
   ·exact ⟨h.1, zbl1 e h.2 (by omega) hn⟩
theorem zbl2 (e : zjm) (q : Int) : ∀ l : List zjm, lk e.Proc l = none → lk q (insE e l) = if q = e.Proc then some e else lk q l
 | [], _ => by
  simp only [insE, zblt]
  by_cases d : q = e.Proc
  ·rw [if_pos d, if_pos d.symm]
  ·rw [if_neg d, if_neg (fun h => d h.symm)]
 | x :: l, hn => by
  rw [zblt] at hn
  split at hn
  ·cases hn
  ·rename_i c
   simp only [insE]
   split
   ·rw [zblt, zblt]
    by_cases d : q = e.Proc
    ·rw [if_pos d, if_pos d.symm]
    ·rw [if_neg d, if_neg (fun h => d h.symm)]
   ·rw [zblt, zblt, zbl2 e q l hn]
    by_cases d : q = e.Proc
    ·rw [if_pos d, if_pos d, if_neg (by omega)]
    ·rw [if_neg d, if_neg d]
theorem zbl3 (t : List zjm) (p s x q : Int) : lk q (noteL t p s x) = if q = p then some ⟨p, s, x⟩ else lk q t := by
 unfold noteL
 rw [zbl2 _ _ _ (by rw [zbl0, if_pos rfl]), zbl0]
 by_cases d : q = p
 ·rw [if_pos d, if_pos d]
 ·rw [if_neg d, if_neg d, if_neg d]
theorem zbl4 {t : List zjm} {a : Int} (h : srt a t) {p : Int} (hp : a < p) (s x : Int) : srt a (noteL t p s x) :=
 zbl1 _ (zblz p h) hp (by rw [zbl0, if_pos rfl])
def loopE (p : Int) (e : zjm) : List zjm → Int × Bool → Int × Bool
 | [], r => r
 | x :: l, r => if x.Proc = p then loopE p e l (r.1 + 1, decide (x.Proc = p) && (decide (x.Seq = e.Seq) && decide (x.Resp = e.Resp))) else loopE p e l r
theorem zbl5 {p : Int} {e : zjm} : ∀ {l : List zjm} {r : Int × Bool}, lk p l = none → loopE p e l r = r
 | [], _, _ => rfl
 | x :: l, r, h => by
  rw [zblt] at h
  split at h
  ·cases h
  ·rename_i c; simp only [loopE]; rw [if_neg c]; exact zbl5 h
theorem zbl6 {p : Int} {e : zjm} : ∀ {l : List zjm} {a : Int} {r : Int × Bool}, srt a l → lk p l = some e → loopE p e l r = (r.1 + 1, true)
 | [], _, _, _, h => by cases h
 | x :: l, a, r, hs, h => by
  rw [zblt] at h
  simp only [loopE]
  split at h
  ·rename_i c
   obtain rfl := Option.some.inj h
   rw [if_pos c, zbl5 (zblw hs.2 (by omega))]
   simp [c]
  ·rename_i c; rw [if_neg c]; exact zbl6 hs.2 h
theorem zbl7 (t : Sl zjm) (r q : zjq) (az : Bool) (A : List zjm) (ax bz : Bool) (B : List zjm) (bx : Bool) (hA : A.length ≤ 1000) (ht : t.l.length ≤ 100) (hlen : A.length ≤ t.l.length + 2) (hs : A = B ∨ r.Proc = q.Proc) : ∀ (k i : Nat) (n : Int) (b : Bool), A.length = i + k → 0 ≤ n → n ≤ i → loopE q.Proc ⟨q.Proc, q.Seq, q.Resp⟩ (A.drop i) (n, b) = (1, true) →
  Ev (fun w => zlx w t.z t.l n b (i : Int) r.Index r.Proc r.Seq r.Op.Code r.Op.A r.Op.B r.Resp q.Index q.Proc q.Seq q.Op.Code q.Op.A q.Op.B q.Resp az A ax bz B bx) true
 | 0, i, n, b, hk, h0, h1, hl => by
  rw [y11 (by omega)] at hl
  obtain ⟨rfl, rfl⟩ := Prod.mk.inj hl
  have hS := zbk8 (⟨0, (⟨0, ⟨true, []⟩, false, 0⟩ : zjl), ⟨az, A⟩⟩ : zjn) (⟨0, (⟨0, ⟨true, []⟩, false, 0⟩ : zjl), ⟨bz, B⟩⟩ : zjn) (by simp) (by simp only; omega)
  have e : sameN (⟨0, (⟨0, ⟨true, []⟩, false, 0⟩ : zjl), ⟨az, A⟩⟩ : zjn) (⟨0, (⟨0, ⟨true, []⟩, false, 0⟩ : zjl), ⟨bz, B⟩⟩ : zjn) = decide (A = B) := by simp [sameN, sameS]
  rw [e] at hS
  have hd : decide ((A.length : Int) ≤ wrp .i64 ((t.l.length : Int) + 2)) = true := by rw [zbh4 (by omega) (by omega), decide_eq_true_eq]; omega
  refine Ev.succ (Ev.ne (Ev.bind hS (Ev.pos rfl (Ev.pos rfl (Ev.ite (fun c => Ev.ret' hd) fun c => Ev.pos ?_ (Ev.ret' hd)))))) (fun q => rfl)
  rcases hs with h | h
  ·exact absurd (by simpa using h) c
  ·exact h
 | k + 1, i, n, b, hk, h0, h1, hl => by
  have hi : i < A.length := by omega
  have he : A[((i : Int)).toNat]? = some A[i] := by simp [hi]
  rw [y8 hi] at hl
  simp only [loopE] at hl
  have w : wrp .i64 ((i : Int) + 1) = ((i + 1 : Nat) : Int) := by rw [zbh4 (by omega) (by omega)]; omega
  by_cases c : A[i].Proc = q.Proc
  ·rw [if_pos c] at hl
   have ih := zbl7 t r q az A ax bz B bx hA ht hlen hs k (i + 1) (n + 1) _ (by omega) (by omega) (by omega) hl
   rw [← w, show n + 1 = wrp .i64 (n + 1) by rw [zbh4 (by omega) (by omega)]] at ih
   exact Ev.succ (Ev.po (Ev.po (Ev.po (Ev.opt he (Ev.pos c ih))))) (fun q => rfl)
  ·rw [if_neg c] at hl
   have ih := zbl7 t r q az A ax bz B bx hA ht hlen hs k (i + 1) n b (by omega) (by omega) (by omega) hl
   rw [← w] at ih
   exact Ev.succ (Ev.po (Ev.po (Ev.po (Ev.opt he (Ev.neg c ih))))) (fun q => rfl)
/-- A long table is none: what is wrong stands among the first ones. -/
theorem zbl8 (z : Bool) (L : List zjm) (N : Nat) (hN : N ≤ L.length) (hN2 : N ≤ 1000000) : ∀ (k i : Nat) (last : Int), N = i + k → (∀ e, 0 < i → L[i - 1]? = some e → e.Proc = last) → (i = 0 → last = -1) → tabB last ((L.take N).drop i) = false →
  Ev (fun q => zkj q z L (i : Int)) false
 | 0, i, last, hk, h1, h0, hf => by
  rw [y11 (by rw [y19]; omega)] at hf; cases hf
 | k + 1, i, last, hk, h1, h0, hf => by
  have hi : i < L.length := by omega
  have hi2 : i < (L.take N).length := by rw [y19]; omega
  have he : L[((i : Int)).toNat]? = some L[i] := by simp [hi]
  rw [y8 hi2, List.getElem_take] at hf
  simp only [tabB] at hf
  have w1 : wrp .i64 ((i : Int) + 1) = ((i + 1 : Nat) : Int) := by rw [zbh4 (by omega) (by omega)]; omega
  have ih : tabB L[i].Proc ((L.take N).drop (i + 1)) = false → Ev (fun q => zkj q z L (wrp .i64 ((i : Int) + 1))) false := fun h => by
   have := zbl8 z L N hN hN2 k (i + 1) L[i].Proc (by omega) (fun e _ hx => by
    rw [Nat.add_sub_cancel, y6 hi] at hx
    simp only [y1] at hx; rw [hx]) (by omega) h
   rw [← w1] at this; exact this
  refine Ev.succ (Ev.po (Ev.po (Ev.opt he (Ev.ite (fun c1 => Ev.ret _) fun c1 => Ev.ite (fun c2 => Ev.ret _) fun c2 => Ev.ite (fun c3 => Ev.ret _) fun c3 => Ev.ite (fun c4 => Ev.ret _) fun c4 => Ev.ite (fun c5 => Ev.ret _) fun c5 => Ev.ite (fun c6 => Ev.ret _) fun c6 => Ev.ite (fun c7 => ?_) fun c7 => ?_)))) (fun q => rfl)
  ·have c : entOk L[i] = true := by unfold entOk; simp only [y5, decide_eq_true_eq]; omega
   have w3 : wrp .i64 ((i : Int) - 1) = ((i - 1 : Nat) : Int) := by rw [zbh4 (by omega) (by omega)]; omega
   have he3 : L[(wrp .i64 ((i : Int) - 1)).toNat]? = some L[i - 1] := by rw [w3, y26]; exact y6 (by omega)
   have hq := h1 L[i - 1] (by omega) (y6 (by omega))
   refine Ev.pos (by rw [w3]; omega) (Ev.opt he3 (Ev.ite (fun c4 => Ev.ret _) fun c4 => ?_))
   rw [c, decide_eq_true (show last < L[i].Proc by omega)] at hf
   exact ih (by simpa using hf)
  ·have c : entOk L[i] = true := by unfold entOk; simp only [y5, decide_eq_true_eq]; omega
   have := h0 (by omega)
   rw [c, decide_eq_true (show last < L[i].Proc by omega)] at hf
   exact ih (by simpa using hf)
theorem zbl9 : ∀ (a0 : (Sl zjm)) (a1 : zjq) (a2 : zjq), okSl (fun x => zjm.ok x) a0 → zjq.ok a1 → zjq.ok a2 → ∃ q, zly q a0 a1 a2 = some true := by
 intro t r q ht hr hq
 by_cases hlong : t.l.length ≤ 1000000
 ·refine Ev.get (Ev.succ (Ev.bind zblg (Ev.bind (zbjx t hlong) (Ev.pos rfl (Ev.ite (fun h1 => Ev.ite (fun h2 => Ev.ret _) fun h2 => ?_) fun h1 => Ev.ret _)))) (fun q => rfl))
  have n1 := zbls t ht.1 (by omega) r
  have l1 := zblk t.l r.Proc r.Seq r.Resp
  have l2 := zblk (noteL t.l r.Proc r.Seq r.Resp) q.Proc q.Seq q.Resp
  have n2 := zbls ⟨false, noteL t.l r.Proc r.Seq r.Resp⟩ (fun h => by cases h) (by simp only; omega) q
  have n3 := zbls t ht.1 (by omega) q
  have l3 := zblk t.l q.Proc q.Seq q.Resp
  have n4 := zbls ⟨false, noteL t.l q.Proc q.Seq q.Resp⟩ (fun h => by cases h) (by simp only; omega) r
  have hs := zblv h1
  have hlow : ∃ a : Int, a < r.Proc ∧ a < q.Proc ∧ a ≤ -1 := ⟨min (min (r.Proc - 1) (q.Proc - 1)) (-1), by omega, by omega, by omega⟩
  obtain ⟨a, ar, aq, a1⟩ := hlow
  have s0 := zblu hs a1
  have s2 := zbl4 (zbl4 s0 ar r.Seq r.Resp) aq q.Seq q.Resp
  have s4 := zbl4 (zbl4 s0 aq q.Seq q.Resp) ar r.Seq r.Resp
  refine Ev.bind n1 (Ev.bind n2 (Ev.bind n3 (Ev.bind n4 ?_)))
  refine zbl7 t r q false _ true false _ true (by simp only; omega) (by omega) (by simp only; omega) ?_ (noteL (noteL t.l r.Proc r.Seq r.Resp) q.Proc q.Seq q.Resp).length 0 0 true (by simp only; omega) (by omega) (by omega) ?_
  ·by_cases c : r.Proc = q.Proc
   ·exact .inr c
   ·refine .inl (zblx s2 s4 fun p => ?_)
    simp only [zbl3]
    by_cases d : p = q.Proc
    ·rw [if_pos d, if_pos d, if_neg (by omega)]
    ·rw [if_neg d, if_neg d]
  ·rw [y36]
   exact zbl6 s2 (by rw [zbl3, if_pos rfl])
 ·have hf : tabB (-1) (t.l.take 1000) = false := by
   by_cases c : tabB (-1) (t.l.take 1000) = true
   ·have hlen : (t.l.take 1000).length = 1000 := by rw [y19]; omega
    rcases zbj9 c (by omega) with h | h
    ·omega
    ·rw [h] at hlen; cases hlen
   ·simpa using c
  have h := zbl8 t.z t.l 1000 (by omega) (by omega) 1000 0 (-1) (by omega) (fun e h => by omega) (fun _ => rfl) (by rw [y36]; exact hf)
  have h' : Ev (fun q => zkk q t) false := Ev.succ h (fun q => rfl)
  exact Ev.get (Ev.succ (Ev.bind zblg (Ev.bind h' (Ev.pos rfl (Ev.neg (by simp) (Ev.ret _))))) (fun q => rfl))
end Go.Dvm.I
