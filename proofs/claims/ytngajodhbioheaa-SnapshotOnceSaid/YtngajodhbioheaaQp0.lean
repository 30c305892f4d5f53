/- Plain laws of the functions: part 1. -/
import Derived.Test.YtngajodhbioheaaQi
set_option linter.all false
set_option maxRecDepth 100000
namespace Go.Dvm.I
open Go Go.Dvm
/-- With enough rounds. -/
def Ev {R : Type} (g : Nat → Option R) (r : R) : Prop := ∃ N, ∀ q, N ≤ q → g q = some r
section
variable {R S : Type}
theorem Ev.ret (r : R) : Ev (fun _ => some r) r := ⟨0, fun _ _ => rfl⟩
theorem Ev.ret' {r r' : R} (h : r = r') : Ev (fun _ => some r) r' := ⟨0, fun _ _ => by rw [h]⟩
theorem Ev.succ {f g : Nat → Option R} {r : R} (h : Ev g r) (e : ∀ q, f (q + 1) = g q) : Ev f r := by
 obtain ⟨N, h⟩ := h
 refine ⟨N + 1, fun q hq => ?_⟩
 obtain ⟨q, rfl⟩ : ∃ p, q = p + 1 := ⟨q - 1, by omega⟩
 rw [e]; exact h q (by omega)
theorem Ev.bind {g : Nat → Option S} {k : Nat → S → Option R} {s : S} {r : R} (h : Ev g s) (h2 : Ev (fun q => k q s) r) : Ev (fun q => (g q).bind (k q)) r := by
 obtain ⟨N, h⟩ := h
 obtain ⟨M, h2⟩ := h2
 exact ⟨N + M, fun q hq => by show (g q).bind (k q) = some r; rw [h q (by omega), y4]; exact h2 q (by omega)⟩
theorem Ev.opt {o : Option S} {k : Nat → S → Option R} {s : S} {r : R} (h : o = some s) (h2 : Ev (fun q => k q s) r) : Ev (fun q => o.bind (k q)) r := by
 subst h; exact h2
theorem Ev.pos {c : Prop} [Decidable c] {a b : Nat → Option R} {r : R} (hc : c) (h : Ev a r) : Ev (fun q => if c then a q else b q) r := by
 obtain ⟨N, h⟩ := h
 exact ⟨N, fun q hq => by show (if c then a q else b q) = some r; rw [if_pos hc]; exact h q hq⟩
theorem Ev.neg {c : Prop} [Decidable c] {a b : Nat → Option R} {r : R} (hc : ¬ c) (h : Ev b r) : Ev (fun q => if c then a q else b q) r := by
 obtain ⟨N, h⟩ := h
 exact ⟨N, fun q hq => by show (if c then a q else b q) = some r; rw [if_neg hc]; exact h q hq⟩
theorem Ev.po {c : Prop} [Decidable c] {a b : Nat → Option R} {r : R} (h : Ev a r) (hc : c := by omega) : Ev (fun q => if c then a q else b q) r := Ev.pos hc h
theorem Ev.ne {c : Prop} [Decidable c] {a b : Nat → Option R} {r : R} (h : Ev b r) (hc : ¬ c := by omega) : Ev (fun q => if c then a q else b q) r := Ev.neg hc h
theorem Ev.ite {c : Prop} [Decidable c] {a b : Nat → Option R} {r : R} (h1 : c → Ev a r) (h2 : ¬ c → Ev b r) : Ev (fun q => if c then a q else b q) r := by
 by_cases hc : c
 ·exact .pos hc (h1 hc)
 ·exact .neg hc (h2 hc)
theorem Ev.get {f : Nat → Option R} {r : R} (h : Ev f r) : ∃ q, f q = some r := by
 obtain ⟨N, h⟩ := h; exact ⟨N, h N (y13 _)⟩
theorem Ev.cast {f : Nat → Option R} {r r' : R} (h : Ev f r) (e : r = r') : Ev f r' := e ▸ h
end
theorem zbu7 {x : Int} (h1 : -9223372036854775808 ≤ x) (h2 : x ≤ 9223372036854775807) : wrp .i64 x = x := by
 unfold wrp; simp [IntKind.wrap, IntKind.min, IntKind.max, IntKind.signed, IntKind.bits] <;> omega
theorem zbu8 {x : Int} (h1 : 0 ≤ x) (h2 : x ≤ 18446744073709551615) : wrp .u64 x = x := by
 unfold wrp; simp [IntKind.wrap, IntKind.min, IntKind.max, IntKind.signed, IntKind.bits] <;> omega
theorem zbu9 {x : Int} (h1 : 0 ≤ x) (h2 : x ≤ 4294967295) : wrp .u32 x = x := by
 unfold wrp; simp [IntKind.wrap, IntKind.min, IntKind.max, IntKind.signed, IntKind.bits] <;> omega
theorem wrp_u8 (x : Int) : wrp .u8 x = x % 256 := by
 unfold wrp; simp [IntKind.wrap, IntKind.min, IntKind.max, IntKind.signed, IntKind.bits] <;> omega
theorem zbva {x : Int} (h1 : 0 ≤ x) : ishr .u64 x 7 = x / 128 := by
 unfold ishr; simp [IntKind.bits]
 rw [y52]; omega
theorem or128 {x : Int} (h1 : 0 ≤ x) (h2 : x < 256) : ibits .or .u8 x 128 = x % 128 + 128 := by
 obtain ⟨n, rfl⟩ := Int.eq_ofNat_of_zero_le h1
 have hn : n < 256 := by omega
 have : ∀ m : Fin 256, ibits .or .u8 (m.val : Int) 128 = (m.val : Int) % 128 + 128 := by unfold ibits; decide +kernel
 exact this ⟨n, hn⟩
/-- A number's groups. -/
def grp (n : Nat) : List Int := if h : n < 128 then [(n : Int)] else ((n % 128 + 128 : Nat) : Int) :: grp (n / 128)
theorem grp_lt {n : Nat} (h : n < 128) : grp n = [(n : Int)] := by rw [grp, dif_pos h]
theorem grp_ge {n : Nat} (h : ¬ n < 128) : grp n = ((n % 128 + 128 : Nat) : Int) :: grp (n / 128) := by rw [grp, dif_neg h]
theorem zbvb : ∀ (k : Nat) {n : Nat}, n < 128 ^ (k + 1) → (grp n).length ≤ k + 1
 | 0, n, h => by rw [grp_lt (by simpa using h)]; simp
 | k + 1, n, h => by
  by_cases hn : n < 128
  ·rw [grp_lt hn]; simp
  ·rw [grp_ge hn]
   have := zbvb k (n := n / 128) (by rw [Nat.div_lt_iff_lt_mul (by omega)]; rw [Nat.pow_succ] at h; exact h)
   simp; omega
theorem zbvc {n : Nat} (h : n < 18446744073709551616) : (grp n).length ≤ 10 := zbvb 9 (by omega)
theorem zbvd (n : Nat) : 1 ≤ (grp n).length := by
 by_cases hn : n < 128
 ·rw [grp_lt hn]; simp
 ·rw [grp_ge hn]; simp
theorem zbve : ∀ (n : Nat) (z : Bool) (l : List Int) (x : Bool), l.length + (grp n).length ≤ 4294967296 → Ev (fun q => zk9 q (n : Int) z l x) ⟨false, x, l ++ grp n⟩ := by
 intro n
 induction n using Nat.strongRecOn with
 | ind n ih =>
  intro z l x hl
  refine Ev.succ ?_ (fun q => rfl)
  by_cases hn : n < 128
  ·rw [grp_lt hn] at hl ⊢
   refine Ev.ne (Ev.pos (by simpa using hl) (Ev.ret' ?_))
   rw [wrp_u8]; congr 3; omega
  ·rw [grp_ge hn] at hl ⊢
   simp only [y20] at hl
   refine Ev.po (Ev.pos (by omega) ?_)
   rw [zbva (by omega), wrp_u8, or128 (by omega) (by omega)]
   have := ih (n / 128) (by omega) false (l ++ [((n % 128 + 128 : Nat) : Int)]) x (by simp; omega)
   rw [show ((n : Int) % 256 % 128 + 128) = ((n % 128 + 128 : Nat) : Int) by omega, show ((n : Int) / 128) = ((n / 128 : Nat) : Int) by omega]
   simpa using this
theorem zbvf {u : Int} (h1 : 0 ≤ u) (b : Ow Int) (hl : b.xs.length + (grp u.toNat).length ≤ 4294967296) : Ev (fun q => zla q b u) ⟨false, b.x, b.xs ++ grp u.toNat⟩ := by
 have := zbve u.toNat b.n b.xs b.x hl
 rw [Int.toNat_of_nonneg h1] at this
 exact Ev.succ this (fun q => rfl)
/-- What a number puts behind bytes. -/
def put (n : Int) : List Int := if n < 0 then [] else if 4611686018427387904 ≤ n then [] else grp n.toNat
theorem put_ok {n : Int} (h1 : 0 ≤ n) (h2 : n < 4611686018427387904) : put n = grp n.toNat := by
 unfold put; rw [if_neg (by omega), if_neg (by omega)]
theorem zbvg (n : Int) : (put n).length ≤ 10 := by
 unfold put; split
 ·simp
 ·split
  ·simp
  ·exact zbvc (by omega)
theorem zbvh {n : Int} (b : Ow Int) (h1 : 0 ≤ n) (h2 : n < 4611686018427387904) (hl : b.xs.length + 10 ≤ 4294967296) : Ev (fun q => zlb q b n) ⟨false, b.x, b.xs ++ put n⟩ := by
 refine Ev.succ ?_ (fun q => rfl)
 rw [put_ok h1 h2]
 have hg := zbvc (n := n.toNat) (by omega)
 refine Ev.ne (Ev.neg (by omega) ?_)
 rw [zbu8 h1 (by omega)]
 exact Ev.bind (zbvf h1 b (by omega)) (Ev.ret _)
/-- Zigzag. -/
def zig (n : Int) : Nat := if 0 ≤ n then 2 * n.toNat else 2 * (-n).toNat - 1
theorem zig_lt {n : Int} (h : inR .i64 n) : zig n < 18446744073709551616 := by
 simp [inR, IntKind.min, IntKind.max, IntKind.signed, IntKind.bits] at h
 unfold zig; split <;> omega
def putS (n : Int) : List Int := grp (zig n)
theorem zbvi (k : IntKind) (n : Int) : k.wrap n = wrp k n := by unfold wrp; rfl
theorem xor0 {x : Int} (h1 : 0 ≤ x) (h2 : x < 18446744073709551616) : ibits .xor .u64 x 0 = x := by
 have e : ibits .xor .u64 x 0 = IntKind.wrap .u64 (((BitVec.ofInt 64 x ^^^ 0#64 : BitVec 64).toNat : Nat) : Int) := by unfold ibits; rfl
 rw [e, BitVec.xor_zero, y48, zbvi, zbu8] <;> omega
theorem xor1 {x : Int} (h1 : 0 ≤ x) (h2 : x < 18446744073709551616) : ibits .xor .u64 x 18446744073709551615 = 18446744073709551615 - x := by
 have e : ibits .xor .u64 x 18446744073709551615 = IntKind.wrap .u64 (((BitVec.ofInt 64 x ^^^ BitVec.allOnes 64 : BitVec 64).toNat : Nat) : Int) := by unfold ibits; rfl
 rw [e, BitVec.xor_allOnes, BitVec.toNat_not, y48, zbvi, zbu8] <;> omega
theorem ishl1 {x : Int} (h1 : 0 ≤ x) : ishl .u64 x 1 = (2 * x) % 18446744073709551616 := by
 unfold ishl
 simp [IntKind.wrap, IntKind.signed, IntKind.bits]
 omega
theorem zbvj (x : Int) : wrp .u64 x = x % 18446744073709551616 := by
 unfold wrp; simp [IntKind.wrap, IntKind.signed, IntKind.bits]
theorem ishr63 {x : Int} (h : inR .i64 x) : ishr .i64 x 63 = if 0 ≤ x then 0 else -1 := by
 simp [inR, IntKind.min, IntKind.max, IntKind.signed, IntKind.bits] at h
 unfold ishr; simp [IntKind.bits]
 rw [y52 _ (by omega)]
 split <;> omega
theorem zbvk {n : Int} (h : inR .i64 n) : Ev (fun q => zlc q n) ((zig n : Nat) : Int) := by
 refine Ev.succ (Ev.ret' ?_) (fun q => rfl)
 have hr := h
 simp [inR, IntKind.min, IntKind.max, IntKind.signed, IntKind.bits] at hr
 rw [ishr63 h]
 by_cases h0 : 0 ≤ n
 ·rw [if_pos h0, zbu8 h0 (by omega), ishl1 h0, zbu8 (by omega) (by omega), xor0 (by omega) (by omega)]
  unfold zig; rw [if_pos h0]; omega
 ·rw [if_neg h0, zbvj n, ishl1 (by omega), show wrp .u64 (-1) = 18446744073709551615 by rw [zbvj]; rfl, xor1 (by omega) (by omega)]
  unfold zig; rw [if_neg h0]; omega
theorem zbvl {n : Int} (b : Ow Int) (h : inR .i64 n) (hl : b.xs.length + 10 ≤ 4294967296) : Ev (fun q => zld q b n) ⟨false, b.x, b.xs ++ putS n⟩ := by
 refine Ev.succ ?_ (fun q => rfl)
 have hg := zbvc (zig_lt h)
 have := zbvf (u := (zig n : Nat)) (by omega) b (by simpa using (by omega : b.xs.length + (grp (zig n)).length ≤ 4294967296))
 rw [y27] at this
 exact Ev.bind (zbvk h) (Ev.bind this (Ev.ret _))
def cutI (n : Int) : Int := if n < -1099511627776 then -1099511627776 else if 1099511627776 < n then 1099511627776 else n
theorem zbvm (n : Int) : Ev (fun q => zjm q n) (cutI n) := by
 refine Ev.succ (Ev.ret' ?_) (fun q => rfl)
 unfold cutI; split <;> split <;> split <;> (try split) <;> omega
def fitsOp (o : zjj) : Bool := decide (0 ≤ o.Code) && (decide (o.Code ≤ 10) && (decide (o.A = cutI o.A) && decide (o.B = cutI o.B)))
theorem zbvn (o : zjj) : Ev (fun q => zj7 q o) (fitsOp o) := by
 refine Ev.succ ?_ (fun q => rfl)
 unfold fitsOp
 refine Ev.ite (fun h => Ev.ite (fun h1 => Ev.bind (zbvm _) (Ev.ite (fun h2 => Ev.bind (zbvm _) (Ev.ret' ?_)) fun h2 => Ev.ret' ?_)) fun h1 => Ev.ret' ?_) fun h => Ev.ret' ?_
 ·rw [decide_eq_true h, decide_eq_true h1, decide_eq_true h2]; rfl
 ·rw [decide_eq_true h, decide_eq_true h1, decide_eq_false h2]; rfl
 ·rw [decide_eq_true h, decide_eq_false h1]; rfl
 ·rw [decide_eq_false h]; rfl
theorem zbvo {n : Int} : n = cutI n ↔ -1099511627776 ≤ n ∧ n ≤ 1099511627776 := by
 unfold cutI
 by_cases h1 : n < -1099511627776
 ·rw [if_pos h1]; omega
 ·rw [if_neg h1]
  by_cases h2 : 1099511627776 < n
  ·rw [if_pos h2]; omega
  ·rw [if_neg h2]; omega
def FitsR (r : zjk) : Prop := 0 ≤ r.Index ∧ r.Index < 4611686018427387904 ∧ 0 ≤ r.Proc ∧ r.Proc ≤ 64 ∧ 0 ≤ r.Seq ∧ r.Seq < 4611686018427387904 ∧ fitsOp r.Op = true ∧ -1125899906842624 ≤ r.Resp ∧ r.Resp ≤ 1125899906842624
instance (r : zjk) : Decidable (FitsR r) := by unfold FitsR; infer_instance
theorem zbvp (r : zjk) : Ev (fun q => zj8 q r) (decide (FitsR r)) := by
 refine Ev.succ ?_ (fun q => rfl)
 refine Ev.ite (fun h1 => Ev.ite (fun h2 => Ev.ite (fun h3 => Ev.ite (fun h4 => Ev.ite (fun h5 => Ev.ite (fun h6 => Ev.bind (zbvn _) (Ev.ite (fun h7 => Ev.ite (fun h8 => Ev.ret' ?_) fun h8 => Ev.ret' ?_) fun h7 => Ev.ret' ?_)) fun h6 => Ev.ret' ?_) fun h5 => Ev.ret' ?_) fun h4 => Ev.ret' ?_) fun h3 => Ev.ret' ?_) fun h2 => Ev.ret' ?_) fun h1 => Ev.ret' ?_ <;> simp only [FitsR, *] <;> simp
theorem zbvq {n : Int} (h : inR .i64 n) : (putS n).length ≤ 10 := zbvc (zig_lt h)
theorem zbvr {n : Int} (h1 : -9223372036854775808 ≤ n) (h2 : n ≤ 9223372036854775807) : inR .i64 n := by
 simp [inR, IntKind.min, IntKind.max, IntKind.signed, IntKind.bits]; omega
abbrev B32 := BitVec 32
def u (a : B32) : Int := (a.toNat : Int)
theorem u_nn (a : B32) : 0 ≤ u a := Int.natCast_nonneg _
theorem u_lt (a : B32) : u a < 4294967296 := by unfold u; have := a.isLt; omega
theorem zbvs (a : B32) : BitVec.ofInt 32 (u a) = a := by
 apply BitVec.eq_of_toNat_eq; rw [y48]; unfold u; have := a.isLt; omega
theorem wrp_u (a : B32) : IntKind.wrap .u32 ((a.toNat : Nat) : Int) = u a := by
 have := a.isLt
 rw [zbvi, zbu9 (by omega) (by omega)]; rfl
theorem xor_u (a b : B32) : ibits .xor .u32 (u a) (u b) = u (a ^^^ b) := by
 have e : ibits .xor .u32 (u a) (u b) = IntKind.wrap .u32 (((BitVec.ofInt 32 (u a) ^^^ BitVec.ofInt 32 (u b) : B32).toNat : Nat) : Int) := by unfold ibits; rfl
 rw [e, zbvs, zbvs, wrp_u]
theorem and_u (a b : B32) : ibits .and .u32 (u a) (u b) = u (a &&& b) := by
 have e : ibits .and .u32 (u a) (u b) = IntKind.wrap .u32 (((BitVec.ofInt 32 (u a) &&& BitVec.ofInt 32 (u b) : B32).toNat : Nat) : Int) := by unfold ibits; rfl
 rw [e, zbvs, zbvs, wrp_u]
theorem u_lit (n : Nat) (h : n < 4294967296) : u (BitVec.ofNat 32 n) = (n : Int) := by
 unfold u; rw [BitVec.toNat_ofNat]; omega
theorem zbvt (x : Int) : wrp .u32 x = x % 4294967296 := by
 unfold wrp; simp [IntKind.wrap, IntKind.signed, IntKind.bits]
theorem ishr_u (a : B32) (k : Nat) (hk : k ≤ 32) : ishr .u32 (u a) (k : Int) = u (a >>> k) := by
 unfold ishr u
 simp only [IntKind.bits, y27, Nat.min_eq_left hk]
 rw [y52 _ (by exact_mod_cast Nat.zero_le _), BitVec.toNat_ushiftRight, Nat.shiftRight_eq_div_pow]
 simp
theorem zbvu (a : B32) : ishr .u32 (u a) 1 = u (a >>> 1) := ishr_u a 1 (by omega)
theorem zbvv (a : B32) : ishr .u32 (u a) 8 = u (a >>> 8) := ishr_u a 8 (by omega)
def poly : B32 := 2197175160#32
def bstep (a : B32) : B32 := if a &&& 1#32 = 1#32 then (a >>> 1) ^^^ poly else a >>> 1
theorem and1 (a : B32) : a &&& 1#32 = 0#32 ∨ a &&& 1#32 = 1#32 := by
 have : (a &&& 1#32).toNat = a.toNat % 2 := by rw [BitVec.toNat_and]; exact Nat.and_one_is_mod _
 rcases Nat.mod_two_eq_zero_or_one a.toNat with h | h
 ·left; exact BitVec.eq_of_toNat_eq (by rw [this, h]; rfl)
 ·right; exact BitVec.eq_of_toNat_eq (by rw [this, h]; rfl)
/-- The program's step. -/
theorem zbvw (a : B32) : ibits .xor .u32 (ishr .u32 (u a) 1) (ibits .and .u32 2197175160 (wrp .u32 (0 - (ibits .and .u32 (u a) 1)))) = u (bstep a) := by
 have e1 : (1 : Int) = u 1#32 := rfl
 have e2 : (2197175160 : Int) = u poly := by unfold poly; rw [u_lit _ (by omega)]; rfl
 rw [zbvu]
 conv => lhs; arg 4; rw [e2]; arg 4; rw [e1, and_u]
 unfold bstep
 rcases and1 a with h | h
 ·rw [h, if_neg (by decide)]
  have : wrp .u32 (0 - u 0#32) = u 0#32 := by rw [zbvt]; rfl
  rw [this, and_u, BitVec.and_zero, xor_u, BitVec.xor_zero]
 ·rw [h, if_pos rfl]
  have : wrp .u32 (0 - u 1#32) = u (BitVec.allOnes 32) := by rw [zbvt]; rfl
  rw [this, and_u, BitVec.and_allOnes, xor_u]
def biter : Nat → B32 → B32
 | 0, a => a
 | n + 1, a => biter n (bstep a)
def bentry (a : B32) : B32 := biter 8 a
theorem zbvx (v2 v5 : Int) (t0 t1 : List Int) (r : List Int) : ∀ (k : Nat) (a : B32) (v10 : Int), v10 = 8 - k → k ≤ 8 → 0 ≤ v2 → v2.toNat < 256 → v2.toNat + 1 ≤ t1.length →
  Ev (fun q => zkt q (wrp .i64 (v5 + 1)) t0 (List.set t1 v2.toNat (u (biter k a)))) r → Ev (fun q => zku q v2 (u a) v5 v10 t0 t1) r
 | 0, a, v10, h1, h2, h3, h4, h5, h => Ev.succ (Ev.ne (Ev.pos h3 (Ev.pos h4 (Ev.pos h5 h)))) (fun q => rfl)
 | k + 1, a, v10, h1, h2, h3, h4, h5, h => by
  refine Ev.succ (Ev.pos (by omega) ?_) (fun q => rfl)
  rw [zbvw, zbu7 (by omega) (by omega)]
  exact zbvx v2 v5 t0 t1 r k (bstep a) (v10 + 1) (by omega) (by omega) h3 h4 h5 h
/-- The table. -/
def tabN (n : Nat) : List Int := (List.range n).map fun i => u (bentry (BitVec.ofNat 32 i))
theorem zbvy {n i : Nat} (h : i < n) : (tabN n)[i]? = some (u (bentry (BitVec.ofNat 32 i))) := by
 unfold tabN; rw [y41, List.getElem?_range h]; rfl
theorem zbvz (n : Nat) : (tabN n).length = n := by simp [tabN]
theorem zbv0 : ∀ (k i : Nat) (t1 : List Int), i + k = 256 → t1.length = 256 → (∀ j, j < i → t1[j]? = (tabN 256)[j]?) → Ev (fun q => zkt q (i : Int) (List.replicate 256 0) t1) (tabN 256)
 | 0, i, t1, hk, hl, ht => by
  refine Ev.succ (Ev.ne (Ev.po (Ev.po (Ev.pos (by simp) (Ev.pos (by simp) (Ev.ret' ?_)))))) (fun q => rfl)
  have e : t1 = tabN 256 := by
   apply List.ext_getElem?
   intro j
   by_cases hj : j < 256
   ·exact ht j (by omega)
   ·rw [y49 (by omega), y49 (by rw [zbvz]; omega)]
  have h2 := zbvz 256
  rw [e, List.take_of_length_le (i := 256) (by omega : (tabN 256).length ≤ 256), y11 (by simp), List.append_nil, List.take_of_length_le (by omega)]
 | k + 1, i, t1, hk, hl, ht => by
  refine Ev.succ (Ev.pos (by omega) ?_) (fun q => rfl)
  have e : wrp .u32 (i : Int) = u (BitVec.ofNat 32 i) := by rw [u_lit _ (by omega), zbu9] <;> omega
  rw [e]
  refine zbvx _ _ _ _ _ 8 _ 0 (by omega) (by omega) (by omega) (by omega) (by omega) ?_
  rw [zbu7 (by omega) (by omega), show ((i : Int) + 1) = ((i + 1 : Nat) : Int) by omega, y27]
  refine zbv0 k (i + 1) _ (by omega) (by simpa using hl) fun j hj => ?_
  by_cases e : i = j
  ·subst e; rw [y22 (by omega), zbvy (by omega)]; rfl
  ·rw [y28 e]; exact ht j (by omega)
theorem zbv1 : Ev (fun q => zkv q) (tabN 256) :=
 Ev.succ (zbv0 256 0 (List.replicate 256 0) (by omega) (by simp) (fun j hj => by omega)) (fun q => rfl)
/-- What a byte makes of a sum. -/
def bbyte (x : B32) (c : Int) : B32 := bentry ((x ^^^ BitVec.ofInt 32 c) &&& 255#32) ^^^ (x >>> 8)
def bmore (x : B32) (l : List Int) : B32 := l.foldl bbyte x
def isB (l : List Int) : Prop := ∀ c ∈ l, 0 ≤ c ∧ c < 256
theorem xor8 {x : B32} {c : Int} (h1 : 0 ≤ c) (h2 : c < 256) : ibits .xor .u8 (wrp .u8 (u x)) c = u ((x ^^^ BitVec.ofInt 32 c) &&& 255#32) := by
 have e : ibits .xor .u8 (wrp .u8 (u x)) c = IntKind.wrap .u8 (((BitVec.ofInt 8 (wrp .u8 (u x)) ^^^ BitVec.ofInt 8 c : BitVec 8).toNat : Nat) : Int) := by unfold ibits; rfl
 rw [e, zbvi, wrp_u8, wrp_u8]
 unfold u
 rw [BitVec.toNat_and, BitVec.toNat_xor, BitVec.toNat_xor, y48, y48, y48]
 obtain ⟨n, rfl⟩ := Int.eq_ofNat_of_zero_le h1
 have hn : n < 256 := by omega
 have e1 : (((x.toNat : Int) % 256 % ((2 ^ 8 : Nat) : Int)).toNat) = x.toNat % 256 := by omega
 have e2 : (((n : Int) % ((2 ^ 8 : Nat) : Int)).toNat) = n := by omega
 have e3 : (((n : Int) % ((2 ^ 32 : Nat) : Int)).toNat) = n := by omega
 rw [e1, e2, e3, show (255#32).toNat = 2 ^ 8 - 1 from rfl, Nat.and_two_pow_sub_one_eq_mod]
 have h3 : (x.toNat ^^^ n) % 2 ^ 8 = (x.toNat % 2 ^ 8) ^^^ (n % 2 ^ 8) := Nat.xor_mod_two_pow
 rw [h3, Nat.mod_eq_of_lt (show n < 2 ^ 8 by omega)]
 have h4 : (x.toNat % 2 ^ 8) ^^^ n < 2 ^ 8 := Nat.xor_lt_two_pow (Nat.mod_lt _ (by omega)) (by omega)
 simp only [Nat.reducePow] at h4 ⊢
 omega
theorem and255 (x : B32) : u (x &&& 255#32) < 256 := by
 unfold u
 rw [BitVec.toNat_and, show (255#32).toNat = 2 ^ 8 - 1 from rfl, Nat.and_two_pow_sub_one_eq_mod]; omega
theorem zbv2 (a : B32) : (u a).toNat = a.toNat := by unfold u; omega
theorem ones : (4294967295 : Int) = u (BitVec.allOnes 32) := rfl
theorem zbv3 (z : Bool) (l : List Int) (hb : isB l) (hl : l.length ≤ 1099511627776) : ∀ (k i : Nat) (x : B32), l.length = i + k → Ev (fun q => zkw q (u x) z l (l.length : Int) (i : Int) (tabN 256)) (u (~~~ bmore x (l.drop i)))
 | 0, i, x, hk => by
  refine Ev.succ (Ev.ne (Ev.ret' ?_)) (fun q => rfl)
  rw [y11 (by omega), ones, xor_u]
  simp only [bmore, List.foldl_nil, BitVec.allOnes_xor]
 | k + 1, i, x, hk => by
  have hi : i < l.length := by omega
  have hg : l[(i : Int).toNat]? = some l[i] := by simpa using y6 hi
  obtain ⟨b1, b2⟩ := hb l[i] (y25 hi)
  refine Ev.succ (Ev.po (Ev.po (Ev.opt hg ?_))) (fun q => rfl)
  rw [xor8 b1 b2]
  have h255 := and255 (x ^^^ BitVec.ofInt 32 l[i])
  have hnn := u_nn ((x ^^^ BitVec.ofInt 32 l[i]) &&& 255#32)
  refine Ev.pos hnn (Ev.po (Ev.opt (zbvy (by omega)) ?_))
  rw [zbvv, xor_u, zbu7 (by omega) (by omega), show ((i : Int) + 1) = ((i + 1 : Nat) : Int) by omega, zbv2]
  have := zbv3 z l hb hl k (i + 1) (bentry ((x ^^^ BitVec.ofInt 32 l[i]) &&& 255#32) ^^^ (x >>> 8)) (by omega)
  rw [y8 hi]
  simp only [bmore, List.foldl_cons, bbyte, BitVec.ofNat_toNat, BitVec.setWidth_eq] at this ⊢
  exact this
theorem zbv4 (x : B32) (s : Sl Int) (hb : isB s.l) (hl : s.l.length ≤ 1099511627776) : Ev (fun q => zkx q (u x) s) (u (~~~ bmore (~~~ x) s.l)) := by
 refine Ev.succ (Ev.bind zbv1 (Ev.pos (zbvz 256) ?_)) (fun q => rfl)
 rw [ones, xor_u, BitVec.allOnes_xor]
 have := zbv3 s.z s.l hb hl s.l.length 0 (~~~ x) (by omega)
 rw [y37] at this
 exact this
/-- The sum of bytes. -/
def bsum (l : List Int) : B32 := ~~~ bmore (BitVec.allOnes 32) l
theorem zbv5 (s : Sl Int) (hb : isB s.l) (hl : s.l.length ≤ 1099511627776) : Ev (fun q => zky q s) (u (bsum s.l)) := by
 have := zbv4 0#32 s hb hl
 exact Ev.succ (Ev.bind this (Ev.ret' (by simp [bsum]))) (fun q => rfl)
theorem zbv6 (x : B32) (a b : List Int) : bmore (bmore x a) b = bmore x (a ++ b) := by simp [bmore]
theorem zbv7 {x : Int} (h : 0 ≤ x) (k : Nat) (hk : k ≤ 64) : ishr .u64 x (k : Int) = x / ((2 ^ k : Nat) : Int) := by
 unfold ishr
 simp only [IntKind.bits, y27, Nat.min_eq_left hk]
 rw [y52 _ (by exact_mod_cast Nat.zero_le _)]
 simp
/-- A number in four bytes. -/
def fix4 (v : Nat) : List Int := [((v % 256 : Nat) : Int), ((v / 256 % 256 : Nat) : Int), ((v / 65536 % 256 : Nat) : Int), ((v / 16777216 % 256 : Nat) : Int)]
theorem zbv8 (v k : Nat) (hk : k ≤ 8) : wrp .u8 (ishr .u64 (v : Int) (wrp .i64 (8 * (k : Int)))) = ((v / 2 ^ (8 * k) % 256 : Nat) : Int) := by
 rw [zbu7 (by omega) (by omega), show (8 * (k : Int)) = ((8 * k : Nat) : Int) by omega, zbv7 (by omega) _ (by omega), wrp_u8]
 exact_mod_cast rfl
def bytesFrom (v : Nat) : Nat → Nat → List Int
 | _, 0 => []
 | i, k + 1 => ((v / 2 ^ (8 * i) % 256 : Nat) : Int) :: bytesFrom v (i + 1) k
theorem zbv9 {v m : Nat} (hm : m ≤ 8) : ∀ (k i : Nat) (l : List Int), m = i + k → l.length + k ≤ 4294967296 → Ev (fun q => zkz q (v : Int) (m : Int) (i : Int) false l) ⟨false, true, l ++ bytesFrom v i k⟩
 | 0, i, l, hk, hl => Ev.succ (Ev.ne (Ev.ret' (by simp [bytesFrom]))) (fun q => rfl)
 | k + 1, i, l, hk, hl => by
  have w : wrp .i64 (8 * (i : Int)) = 8 * (i : Int) := zbu7 (by omega) (by omega)
  refine Ev.succ (Ev.po (Ev.neg (by rw [w]; omega) (Ev.pos (by omega) ?_))) (fun q => rfl)
  rw [zbv8 v i (by omega), zbu7 (x := (i : Int) + 1) (by omega) (by omega), show ((i : Int) + 1) = ((i + 1 : Nat) : Int) by omega]
  refine (zbv9 hm k (i + 1) _ (by omega) (by simp; omega)).cast ?_
  simp [bytesFrom]
theorem zbwa {v m : Nat} (h0 : 0 < m) (hm : m ≤ 8) : Ev (fun q => zk0 q (v : Int) (m : Int)) ⟨false, true, bytesFrom v 0 m⟩ := by
 obtain ⟨k, rfl⟩ : ∃ k, m = k + 1 := ⟨m - 1, by omega⟩
 have w : wrp .i64 (8 * ((0 : Nat) : Int)) = 0 := zbu7 (by omega) (by omega)
 have key : ∀ i : Int, i = ((0 : Nat) : Int) → Ev (fun q => zkz q (v : Int) ((k + 1 : Nat) : Int) i true []) ⟨false, true, bytesFrom v 0 (k + 1)⟩ := by
  intro i hi
  refine Ev.succ (Ev.po (Ev.neg (by rw [hi, w]; omega) (Ev.pos (by simp) ?_))) (fun q => rfl)
  rw [hi, zbv8 v 0 (by omega), zbu7 (x := ((0 : Nat) : Int) + 1) (by omega) (by omega), show (((0 : Nat) : Int) + 1) = ((0 + 1 : Nat) : Int) by omega]
  refine (zbv9 hm k 1 _ (by omega) (by simp; omega)).cast ?_
  simp [bytesFrom]
 exact Ev.succ (key 0 rfl) (fun q => rfl)
theorem bytes4 (v : Nat) : bytesFrom v 0 4 = fix4 v := by simp [bytesFrom, fix4]
theorem zbwb {v : Nat} (h : v < 18446744073709551616) : Ev (fun q => zk0 q (v : Int) 4) ⟨false, true, fix4 v⟩ := by
 have := zbwa (v := v) (m := 4) (by omega) (by omega)
 rw [bytes4] at this; exact this
theorem zbwc (a : B32) : Ev (fun q => zk1 q (u a)) ⟨false, true, fix4 a.toNat⟩ := by
 have h1 := u_nn a; have h2 := u_lt a
 have e : wrp .u64 (u a) = ((a.toNat : Nat) : Int) := by rw [zbu8 h1 (by omega)]; rfl
 exact Ev.succ (Ev.bind (by rw [e]; exact zbwb (by have := a.isLt; omega)) (Ev.ret _)) (fun q => rfl)
theorem zbwd (a b : Sl Int) (ha : isB a.l) (hb : isB b.l) (la : a.l.length ≤ 1099511627776) (lb : b.l.length ≤ 1099511627776) : Ev (fun q => zk2 q a b) ⟨false, true, fix4 (bsum (a.l ++ b.l)).toNat⟩ := by
 have h2 := zbv4 (bsum a.l) b hb lb
 have e : ~~~ bmore (~~~ bsum a.l) b.l = bsum (a.l ++ b.l) := by
  unfold bsum; rw [BitVec.not_not, zbv6]
 rw [e] at h2
 exact Ev.succ (Ev.bind (zbv5 a ha la) (Ev.bind h2 (Ev.bind (zbwc _) (Ev.ret _)))) (fun q => rfl)
def flat (l : List (Sl Int)) : List Int := l.flatMap (·.l)
theorem zbwe (a : Sl Int) (b : List (Sl Int)) : flat (a :: b) = a.l ++ flat b := by simp [flat]
theorem zbwf (z0 : Bool) (L : List (Sl Int)) (z : Bool) (hL : L.length ≤ 1099511627776) : ∀ (k i : Nat) (m : Nat) (l : List Int), L.length = i + k → m + (flat (L.drop i)).length ≤ l.length →
  Ev (fun q => zle q m z0 L (L.length : Int) (i : Int) z l) ⟨z, true, l.take m ++ flat (L.drop i)⟩
 | 0, i, m, l, hk, hl => by
  refine Ev.succ (Ev.ne (Ev.ret' ?_)) (fun q => rfl)
  rw [y11 (by omega)]; simp [flat]
 | k + 1, i, m, l, hk, hl => by
  have hi : i < L.length := by omega
  have hg : L[(i : Int).toNat]? = some L[i] := by simpa using y6 hi
  rw [y8 hi, zbwe, y9] at hl
  refine Ev.succ (Ev.po (Ev.po (Ev.opt hg (Ev.pos (by omega) ?_)))) (fun q => rfl)
  rw [zbu7 (by omega) (by omega), show ((i : Int) + 1) = ((i + 1 : Nat) : Int) by omega]
  refine (zbwf z0 L z hL k (i + 1) (m + L[i].l.length) _ (by omega) ?_).cast ?_
  ·simp only [y9, y19, y12]; omega
  ·congr 1
   rw [y8 hi, zbwe, ← y32]
   congr 1
   rw [List.take_append_of_le_length (by simp only [y9, y19]; omega), List.take_of_length_le (by simp only [y9, y19]; omega)]
theorem zbwg (z0 : Bool) (L : List (Sl Int)) (hL : L.length ≤ 1099511627776) : ∀ (k i : Nat) (z : Bool) (l : List Int), L.length = i + k → l.length + (flat (L.drop i)).length ≤ 4294967296 →
  ∃ z', Ev (fun q => zlf q z0 L (L.length : Int) (i : Int) z l) ⟨z', true, l ++ flat (L.drop i)⟩
 | 0, i, z, l, hk, hl => ⟨z, by
  refine Ev.succ (Ev.ne (Ev.ret' ?_)) (fun q => rfl)
  rw [y11 (by omega)]; simp [flat]⟩
 | k + 1, i, z, l, hk, hl => by
  have hi : i < L.length := by omega
  have hg : L[(i : Int).toNat]? = some L[i] := by simpa using y6 hi
  rw [y8 hi, zbwe, y9] at hl
  obtain ⟨z', h⟩ := zbwg z0 L hL k (i + 1) (z && (decide (L[i].l.length = 0))) (l ++ L[i].l) (by omega) (by simp only [y9]; omega)
  refine ⟨z', Ev.succ (Ev.po (Ev.po (Ev.opt hg (Ev.pos (by omega) ?_)))) (fun q => rfl)⟩
  rw [zbu7 (by omega) (by omega), show ((i : Int) + 1) = ((i + 1 : Nat) : Int) by omega]
  refine h.cast ?_
  rw [y8 hi, zbwe]; simp
theorem zbwh (z0 z9 : Bool) (L : List (Sl Int)) (hL : L.length ≤ 1099511627776) (hf : (flat L).length ≤ 4294967296) : ∀ (k i : Nat) (m : Nat), L.length = i + k → m + (flat (L.drop i)).length = (flat L).length →
  ∃ z', Ev (fun q => zlh q z0 L (m : Int) z9 L (L.length : Int) (i : Int)) ⟨z', true, flat L⟩
 | 0, i, m, hk, hm => by
  rw [y11 (by omega)] at hm
  have hm2 : m = (flat L).length := by simpa [flat] using hm
  have w : wrp .i64 ((m : Int) - wrp .i64 0) = (m : Int) := by rw [zbu7 (x := 0) (by omega) (by omega), zbu7 (by omega) (by omega)]; omega
  by_cases h0 : 0 < m
  ·refine ⟨decide (wrp .i64 ((m : Int) - wrp .i64 0) = 0), Ev.succ (Ev.ne (Ev.ne (Ev.pos (by rw [w]; omega) (Ev.pos (by rw [w]; omega) (Ev.pos (by rw [w]; omega) (Ev.neg (by rw [w]; omega) ?_)))))) (fun q => rfl)⟩
   rw [w]
   have := zbwf z0 L (decide ((m : Int) = 0)) hL L.length 0 0 (List.replicate (m : Int).toNat 0) (by omega) (by simp; omega)
   rw [y37] at this
   exact this
  ·have hnil : flat L = [] := y34 (by omega)
   match L, hk with
   | [], _ =>
    refine ⟨true, Ev.succ (Ev.neg (by simp) (Ev.neg (by omega) ?_)) (fun q => rfl)⟩
    rw [w]
    refine Ev.neg (by omega) ?_
    exact Ev.succ (g := fun _ => some ⟨true, true, []⟩) (Ev.ret' (by simp [flat])) (fun q => rfl)
   | a :: L', hk =>
    rw [zbwe] at hnil
    obtain ⟨z', h⟩ := zbwg z0 (a :: L') hL L'.length 1 (decide (a.l.length = 0)) a.l (by simp; omega) (by
     have : flat (List.drop 1 (a :: L')) = flat L' := rfl
     rw [this, ← y9, hnil]; simp)
    refine ⟨z', Ev.succ (Ev.ne (Ev.neg (by omega) ?_)) (fun q => rfl)⟩
    rw [w]
    refine Ev.ne (Ev.succ (Ev.pos (by simp) (Ev.opt (s := a) rfl (Ev.pos ?_ ?_))) (fun q => rfl))
    ·have : a.l.length ≤ (a.l ++ flat L').length := by simp
     rw [hnil] at this; simp at this; simp [this]
    ·rw [zbu7 (by omega) (by omega)]
     refine h.cast ?_
     rw [zbwe]; rfl
 | k + 1, i, m, hk, hm => by
  have hi : i < L.length := by omega
  have hg : L[(i : Int).toNat]? = some L[i] := by simpa using y6 hi
  rw [y8 hi, zbwe, y9] at hm
  obtain ⟨z', h⟩ := zbwh z0 z9 L hL hf k (i + 1) (m + L[i].l.length) (by omega) (by omega)
  refine ⟨z', Ev.succ (Ev.po (Ev.po (Ev.opt hg ?_))) (fun q => rfl)⟩
  have w : wrp .i64 ((m : Int) + (L[i].l.length : Int)) = ((m + L[i].l.length : Nat) : Int) := by rw [zbu7 (by omega) (by omega)]; omega
  rw [w, zbu7 (by omega) (by omega), show ((i : Int) + 1) = ((i + 1 : Nat) : Int) by omega]
  exact Ev.neg (by omega) h
theorem zbwi (s : Sl (Sl Int)) (hL : s.l.length ≤ 1099511627776) (hf : (flat s.l).length ≤ 4294967296) : ∃ z', Ev (fun q => zli q s) ⟨z', true, flat s.l⟩ := by
 obtain ⟨z', h⟩ := zbwh s.z s.z s.l hL hf s.l.length 0 0 (by omega) (by simp)
 exact ⟨z', Ev.succ h (fun q => rfl)⟩
theorem zbwj : ∀ n, isB (grp n) := by
 intro n
 induction n using Nat.strongRecOn with
 | ind n ih =>
  by_cases h : n < 128
  ·rw [grp_lt h]; intro c hc; simp at hc; omega
  ·rw [grp_ge h]; intro c hc
   rcases List.mem_cons.1 hc with rfl | hc
   ·omega
   ·exact ih (n / 128) (by omega) c hc
theorem zbwk (n : Int) : isB (put n) := by
 unfold put; split
 ·intro c hc; simp at hc
 ·split
  ·intro c hc; simp at hc
  ·exact zbwj _
theorem zbwl {a b : List Int} : isB (a ++ b) ↔ isB a ∧ isB b := by
 constructor
 ·intro h; exact ⟨fun c hc => h c (List.mem_append.2 (.inl hc)), fun c hc => h c (List.mem_append.2 (.inr hc))⟩
 ·rintro ⟨h1, h2⟩ c hc
  rcases List.mem_append.1 hc with h | h
  ·exact h1 c h
  ·exact h2 c h
/-- A frame. -/
def encF (l : List Int) : List Int := put (l.length : Int) ++ (l ++ fix4 (bsum (put (l.length : Int) ++ l)).toNat)
theorem zbwm (s : Sl Int) (hb : isB s.l) (hl : s.l.length ≤ 1048576) : ∃ z, Ev (fun q => zlj q s) (⟨z, true, encF s.l⟩, 0) := by
 have hp := zbvg (s.l.length : Int)
 obtain ⟨z, h⟩ := zbwi ⟨false, [⟨false, put (s.l.length : Int)⟩, s, ⟨false, fix4 (bsum (put (s.l.length : Int) ++ s.l)).toNat⟩]⟩ (by simp) (by simp [flat, fix4]; omega)
 refine ⟨z, Ev.succ (Ev.neg (by omega) ?_) (fun q => rfl)⟩
 refine Ev.bind (zbvh ⟨true, true, []⟩ (by omega) (by omega) (by simp)) ?_
 refine Ev.bind (zbwd ⟨false, put (s.l.length : Int)⟩ s (zbwk (s.l.length : Int)) hb (by simp only; omega) (by omega)) ?_
 refine Ev.bind h ?_
 exact Ev.ret' (by simp [encF, flat])
/-- The number that bytes begin with, from the i-th group on. -/
def rd : Nat → List Int → Option (Nat × Nat)
 | _, [] => none
 | i, c :: l => if 10 ≤ i then none else if i = 9 ∧ 1 < c then none else if c = 0 ∧ 0 < i then none else if c < 128 then some (c.toNat, 1) else (rd (i + 1) l).map fun p => ((c % 128).toNat + 128 * p.1, p.2 + 1)
def resN : Option (Nat × Nat) → Int × Int
 | none => (0, 0)
 | some p => (p.1, p.2)
theorem and127 {x : Int} (h1 : 0 ≤ x) (h2 : x < 256) : ibits .and .u8 x 127 = x % 128 := by
 obtain ⟨n, rfl⟩ := Int.eq_ofNat_of_zero_le h1
 have hn : n < 256 := by omega
 have : ∀ m : Fin 256, ibits .and .u8 (m.val : Int) 127 = (m.val : Int) % 128 := by unfold ibits; decide +kernel
 exact this ⟨n, hn⟩
theorem or64 {a b : Nat} (ha : a < 18446744073709551616) (hb : b < 18446744073709551616) : ibits .or .u64 (a : Int) (b : Int) = ((a ||| b : Nat) : Int) := by
 have e : ibits .or .u64 (a : Int) (b : Int) = IntKind.wrap .u64 (((BitVec.ofInt 64 (a : Int) ||| BitVec.ofInt 64 (b : Int) : BitVec 64).toNat : Nat) : Int) := by unfold ibits; rfl
 have e1 : (BitVec.ofInt 64 (a : Int)).toNat = a := by rw [y48]; omega
 have e2 : (BitVec.ofInt 64 (b : Int)).toNat = b := by rw [y48]; omega
 have e3 : a ||| b < 2 ^ 64 := Nat.or_lt_two_pow (by omega) (by omega)
 rw [e, BitVec.toNat_or, e1, e2, zbvi, zbu8 (by omega) (by omega)]
theorem ishl64 {x k : Nat} (hk : k ≤ 64) : ishl .u64 (x : Int) (k : Int) = ((x * 2 ^ k % 18446744073709551616 : Nat) : Int) := by
 unfold ishl
 simp only [IntKind.bits, y27, Nat.min_eq_left hk]
 rw [zbvi, zbvj]
 have : ((x : Int) * 2 ^ k) = ((x * 2 ^ k : Nat) : Int) := by rw [Int.natCast_mul, Int.natCast_pow]; rfl
 rw [this]
 exact (Int.natCast_emod _ _).symm
theorem zbwn {acc i : Nat} {c : Int} (hi : i ≤ 9) (h1 : 0 ≤ c) (h2 : c < 256) (ha : acc < 2 ^ (7 * i)) (h9 : i = 9 → c ≤ 1) :
  ibits .or .u64 (acc : Int) (ishl .u64 (wrp .u64 (ibits .and .u8 c 127)) (wrp .i64 (7 * (i : Int)))) = ((acc + (c % 128).toNat * 2 ^ (7 * i) : Nat) : Int) ∧ acc + (c % 128).toNat * 2 ^ (7 * i) < 18446744073709551616 ∧ acc + (c % 128).toNat * 2 ^ (7 * i) < 2 ^ (7 * (i + 1)) := by
 have hm : (c % 128).toNat < 128 := by omega
 have hp : 2 ^ (7 * i) ≤ 2 ^ 63 := Nat.pow_le_pow_right (by omega) (by omega)
 have hp1 : 2 ^ (7 * (i + 1)) = 128 * 2 ^ (7 * i) := by rw [show 7 * (i + 1) = 7 + 7 * i by omega, Nat.pow_add]
 have h4 : acc + (c % 128).toNat * 2 ^ (7 * i) < 2 ^ (7 * (i + 1)) := by
  rw [hp1]
  have : ((c % 128).toNat + 1) * 2 ^ (7 * i) ≤ 128 * 2 ^ (7 * i) := y16 _ (by omega)
  rw [y30] at this; omega
 have h5 : acc + (c % 128).toNat * 2 ^ (7 * i) < 18446744073709551616 := by
  by_cases e : i = 9
  ·have hc := h9 e
   have : (c % 128).toNat ≤ 1 := by omega
   subst e
   have h6 : (c % 128).toNat * 2 ^ (7 * 9) ≤ 1 * 2 ^ (7 * 9) := y16 _ this
   simp only [Nat.reduceMul, Nat.reducePow] at ha h6 ⊢
   omega
  ·have : 2 ^ (7 * (i + 1)) ≤ 2 ^ 63 := Nat.pow_le_pow_right (by omega) (by omega)
   simp only [Nat.reducePow] at this
   omega
 refine ⟨?_, h5, h4⟩
 rw [and127 h1 h2, zbu8 (by omega) (by omega), zbu7 (by omega) (by omega), show (7 * (i : Int)) = ((7 * i : Nat) : Int) by omega, show (c % 128) = (((c % 128).toNat : Nat) : Int) by omega, ishl64 (by omega)]
 have h6 : (c % 128).toNat * 2 ^ (7 * i) < 18446744073709551616 := by omega
 simp only [y27]
 rw [Nat.mod_eq_of_lt h6, or64 (by omega) h6]
 congr 1
 have := Nat.two_pow_add_eq_or_of_lt ha (c % 128).toNat
 rw [Nat.or_comm, Nat.mul_comm, ← this]; omega
theorem zbwo (z : Bool) (L : List Int) (hb : isB L) (m : Nat) (hm : m = min 10 L.length) : ∀ (k i acc : Nat), m = i + k → acc < 2 ^ (7 * i) →
  Ev (fun q => zkq q z L (acc : Int) (m : Int) (i : Int)) (match rd i (L.drop i) with | none => (0, 0) | some p => (((acc + p.1 * 2 ^ (7 * i) : Nat) : Int), ((i + p.2 : Nat) : Int)))
 | 0, i, acc, hk, ha => by
  refine Ev.succ (Ev.ne (Ev.ret' ?_)) (fun q => rfl)
  have : rd i (L.drop i) = none := by
   cases h : L.drop i with
   | nil => rfl
   | cons c l =>
    have : (L.drop i).length = l.length + 1 := by rw [h]; rfl
    rw [y12] at this
    simp only [rd]; rw [if_pos (by omega)]
  rw [this]
 | k + 1, i, acc, hk, ha => by
  have hi : i < L.length := by omega
  have hi9 : i ≤ 9 := by omega
  have hg : L[(i : Int).toNat]? = some L[i] := by simpa using y6 hi
  obtain ⟨b1, b2⟩ := hb L[i] (y25 hi)
  have w7 : wrp .i64 (7 * (i : Int)) = 7 * (i : Int) := zbu7 (by omega) (by omega)
  have wi : wrp .i64 ((i : Int) + 1) = ((i + 1 : Nat) : Int) := by rw [zbu7 (by omega) (by omega)]; omega
  rw [y8 hi]
  simp only [rd]
  rw [if_neg (by omega)]
  generalize hc : L[i] = c at hg b1 b2
  -- the ends
  have done : (i = 9 → c ≤ 1) → c < 128 → (((ibits .or .u64 (acc : Int) (ishl .u64 (wrp .u64 (ibits .and .u8 c 127)) (wrp .i64 (7 * (i : Int))))), (wrp .i64 ((i : Int) + 1))) : Int × Int) = (((acc + c.toNat * 2 ^ (7 * i) : Nat) : Int), ((i + 1 : Nat) : Int)) := by
   intro h9 h128
   rw [(zbwn hi9 b1 b2 ha h9).1, wi, show (c % 128).toNat = c.toNat by omega]
  have rest : i ≠ 9 → ¬ c < 128 → Ev (fun q => zkq q z L (ibits .or .u64 (acc : Int) (ishl .u64 (wrp .u64 (ibits .and .u8 c 127)) (wrp .i64 (7 * (i : Int))))) (m : Int) (wrp .i64 ((i : Int) + 1))) (match (rd (i + 1) (L.drop (i + 1))).map (fun p => ((c % 128).toNat + 128 * p.1, p.2 + 1)) with | none => (0, 0) | some p => (((acc + p.1 * 2 ^ (7 * i) : Nat) : Int), ((i + p.2 : Nat) : Int))) := by
   intro h9 h128
   obtain ⟨g1, g2, g3⟩ := zbwn hi9 b1 b2 ha (fun e => absurd e h9)
   rw [g1, wi]
   refine (zbwo z L hb m hm k (i + 1) _ (by omega) g3).cast ?_
   cases rd (i + 1) (L.drop (i + 1)) with
   | none => rfl
   | some p =>
    simp only [y38]
    have : 2 ^ (7 * (i + 1)) = 128 * 2 ^ (7 * i) := by rw [show 7 * (i + 1) = 7 + 7 * i by omega, Nat.pow_add]
    rw [this]
    congr 2
    ·rw [y30, Nat.mul_assoc 128, Nat.mul_left_comm p.1 128]; omega
    ·omega
  refine Ev.succ (Ev.po (Ev.po (Ev.opt hg (Ev.neg (by rw [w7]; omega) ?_)))) (fun q => rfl)
  refine Ev.ite (fun h9 => Ev.ite (fun h1 => ?_) fun h1 => Ev.ite (fun h0 => Ev.pos (by omega) ?_) fun h0 => Ev.pos (by omega) ?_) fun h9 => Ev.ite (fun h0 => Ev.ite (fun hp => ?_) fun hp => Ev.pos (by omega) ?_) fun h0 => Ev.ite (fun h128 => ?_) fun h128 => ?_
  ·rw [if_pos ⟨by omega, h1⟩]; exact Ev.ret _
  ·rw [if_neg (by omega), if_pos ⟨h0, by omega⟩]; exact Ev.ret _
  ·rw [if_neg (by omega), if_neg (by omega), if_pos (by omega)]; exact Ev.ret' (done (by omega) (by omega))
  ·rw [if_neg (by omega), if_pos ⟨h0, by omega⟩]; exact Ev.ret _
  ·rw [if_neg (by omega), if_neg (by omega), if_pos (by omega)]; exact Ev.ret' (done (by omega) (by omega))
  ·rw [if_neg (by omega), if_neg (by omega), if_pos h128]; exact Ev.ret' (done (by omega) h128)
  ·rw [if_neg (by omega), if_neg (by omega), if_neg h128]; exact rest (by omega) h128
theorem zbwp (s : Sl Int) (hb : isB s.l) : Ev (fun q => zkr q s) (resN (rd 0 s.l)) := by
 have h := zbwo s.z s.l hb (min 10 s.l.length) rfl (min 10 s.l.length) 0 0 (by omega) (by simp)
 have e : (if 10 < (s.l.length : Int) then 10 else (s.l.length : Int)) = ((min 10 s.l.length : Nat) : Int) := by split <;> omega
 refine Ev.succ (g := fun q => zkq q s.z s.l 0 (if 10 < (s.l.length : Int) then 10 else (s.l.length : Int)) 0) ?_ (fun q => rfl)
 rw [e]
 refine h.cast ?_
 rw [y37]
 cases rd 0 s.l with
 | none => rfl
 | some p => simp [resN]
def getN (l : List Int) : Int × Int := match rd 0 l with
 | none => (0, 0)
 | some p => if 4611686018427387904 ≤ p.1 then (0, 0) else ((p.1 : Int), (p.2 : Int))
theorem zbwq (s : Sl Int) (hb : isB s.l) : Ev (fun q => zks q s) (getN s.l) := by
 refine Ev.succ (Ev.bind (zbwp s hb) ?_) (fun q => rfl)
 unfold getN
 cases rd 0 s.l with
 | none => exact Ev.neg (by simp [resN]) (Ev.ret' (by rw [zbu7] <;> simp [resN]))
 | some p =>
  simp only [resN]
  refine Ev.ite (fun h => ?_) fun h => ?_
  ·rw [if_pos (by omega)]; exact Ev.ret _
  ·rw [if_neg (by omega), zbu7 (by omega) (by omega)]; exact Ev.ret _
theorem rd_len : ∀ {l : List Int} {i : Nat} {p : Nat × Nat}, rd i l = some p → 1 ≤ p.2 ∧ p.2 ≤ l.length ∧ i + p.2 ≤ 10
 | [], i, p, h => by simp [rd] at h
 | c :: l, i, p, h => by
  simp only [rd] at h
  split at h
  ·cases h
  ·split at h
   ·cases h
   ·split at h
    ·cases h
    ·split at h
     ·simp at h; subst h; simp; omega
     ·cases hr : rd (i + 1) l with
      | none => simp [hr] at h
      | some r =>
       simp [hr] at h; subst h
       have := rd_len hr
       simp; omega
theorem zbwr {l : List Int} : 0 ≤ (getN l).2 ∧ (getN l).2 ≤ l.length ∧ (getN l).2 ≤ 10 ∧ 0 ≤ (getN l).1 ∧ (getN l).1 < 4611686018427387904 := by
 unfold getN
 cases h : rd 0 l with
 | none => simp
 | some p =>
  have := rd_len h
  simp only
  split <;> simp <;> omega
/-- Where the first byte below 128 stands. -/
def idxLow : List Int → Nat → Int
 | [], _ => -1
 | a :: l, i => if a < 128 then (i : Int) else idxLow l (i + 1)
def allHi (l : List Int) : Prop := ∀ c ∈ l, 128 ≤ c
instance (l : List Int) : Decidable (allHi l) := by unfold allHi; infer_instance
theorem zbws : ∀ {l : List Int} {i : Nat}, ¬ 0 ≤ idxLow l i ↔ allHi l
 | [], i => by simp [idxLow, allHi]
 | a :: l, i => by
  have ih := zbws (l := l) (i := i + 1)
  simp only [idxLow, allHi, List.mem_cons, forall_eq_or_imp] at ih ⊢
  by_cases h : a < 128
  ·rw [if_pos h]; constructor
   ·intro h'; omega
   ·rintro ⟨h1, _⟩; omega
  ·rw [if_neg h, ih]
   constructor
   ·intro h'; exact ⟨by omega, h'⟩
   ·exact fun h' => h'.2
theorem zbwt (z : Bool) (L : List Int) (hL : L.length ≤ 1099511627776) : ∀ (k i : Nat), L.length = i + k → Ev (fun q => zkn q z L (L.length : Int) (i : Int)) (idxLow (L.drop i) i)
 | 0, i, hk => by
  refine Ev.succ (Ev.ne (Ev.ret' ?_)) (fun q => rfl)
  rw [y11 (by omega)]; rfl
 | k + 1, i, hk => by
  have hi : i < L.length := by omega
  have hg : L[(i : Int).toNat]? = some L[i] := by simpa using y6 hi
  have h1 : Ev (fun q => zkm q L[i]) (decide (L[i] < 128)) := Ev.succ (Ev.ret _) (fun q => rfl)
  refine Ev.succ (Ev.po (Ev.po (Ev.opt hg (Ev.bind h1 ?_)))) (fun q => rfl)
  rw [y8 hi]
  simp only [idxLow]
  refine Ev.ite (fun h => ?_) fun h => ?_
  ·rw [if_pos (by simpa using h)]; exact Ev.ret _
  ·rw [if_neg (by simpa using h), zbu7 (by omega) (by omega), show ((i : Int) + 1) = ((i + 1 : Nat) : Int) by omega]
   exact zbwt z L hL k (i + 1) (by omega)
def openB (l : List Int) : Bool := decide (l.length < 10 ∧ allHi l)
theorem zbwu (s : Sl Int) : Ev (fun q => zkp q s) (openB s.l) := by
 refine Ev.succ (Ev.ite (fun h => ?_) fun h => Ev.ret' ?_) (fun q => rfl)
 ·have := zbwt s.z s.l (by omega) s.l.length 0 (by omega)
  rw [y37] at this
  refine Ev.bind (Ev.succ this (fun q => rfl)) (Ev.ret' ?_)
  unfold openB
  rw [← decide_not, decide_eq_decide, zbws]
  exact ⟨fun h1 => ⟨by omega, h1⟩, fun h1 => h1.2⟩
 ·unfold openB
  symm; rw [decide_eq_false_iff_not]; omega
theorem zbwv (z z2 : Bool) (A B : List Int) (hl : A.length = B.length) (hL : A.length ≤ 1099511627776) : ∀ (k i : Nat), A.length = i + k → Ev (fun q => zk3 q z A z2 B (A.length : Int) (i : Int)) (decide (A.drop i = B.drop i))
 | 0, i, hk => by
  refine Ev.succ (Ev.ne (Ev.ret' ?_)) (fun q => rfl)
  rw [y11 (by omega), y11 (by omega)]; simp
 | k + 1, i, hk => by
  have hi : i < A.length := by omega
  have hi2 : i < B.length := by omega
  have hg : A[(i : Int).toNat]? = some A[i] := by simpa using y6 hi
  have hg2 : B[(i : Int).toNat]? = some B[i] := by simpa using y6 hi2
  refine Ev.succ (Ev.po (Ev.po (Ev.opt hg (Ev.opt hg2 ?_)))) (fun q => rfl)
  rw [y8 hi, y8 hi2]
  refine Ev.ite (fun h => ?_) fun h => Ev.ret' (by symm; rw [decide_eq_false_iff_not]; intro e; exact h (List.cons.inj e).1)
  rw [zbu7 (by omega) (by omega), show ((i : Int) + 1) = ((i + 1 : Nat) : Int) by omega]
  refine (zbwv z z2 A B hl hL k (i + 1) (by omega)).cast ?_
  rw [decide_eq_decide, List.cons.injEq]; simp only [h, true_and]
theorem zbww (a b : Sl Int) (hL : a.l.length ≤ 1099511627776) : Ev (fun q => zk4 q a b) (decide (a.l = b.l)) := by
 refine Ev.succ (Ev.ite (fun h => ?_) fun h => Ev.ret' ?_) (fun q => rfl)
 ·have := zbwv a.z b.z a.l b.l (by omega) hL a.l.length 0 (by omega)
  rw [y37, y37] at this; exact this
 ·symm; rw [decide_eq_false_iff_not]; intro e; rw [e] at h; exact h rfl
/-- The data of the frame that bytes begin with, how many bytes it has, and the error. -/
def decF (l : List Int) : List Int × Int × Int :=
 if openB l = true then ([], 0, 2) else if (getN l).2 = 0 then ([], 0, 3) else if 1048576 < (getN l).1 then ([], 0, 5) else if (l.length : Int) < (getN l).2 + 4 + (getN l).1 then ([], 0, 2)
 else if (l.drop ((getN l).2 + (getN l).1).toNat).take 4 = fix4 (bsum (l.take ((getN l).2 + (getN l).1).toNat)).toNat then ((l.take ((getN l).2 + (getN l).1).toNat).drop (getN l).2.toNat, (getN l).2 + (getN l).1 + 4, 0) else ([], 0, 4)
theorem zbwx {l : List Int} (h : isB l) (n : Nat) : isB (l.take n) := fun c hc => h c (y43 hc)
theorem zbwy {l : List Int} (h : isB l) (n : Nat) : isB (l.drop n) := fun c hc => h c (y51 hc)
theorem zbwz (s : Sl Int) (hz : s.z = true → s.l = []) (hb : isB s.l) (hl : s.l.length ≤ 4294967296) : ∃ z, Ev (fun q => zk6 q s) (⟨z, true, (decF s.l).1⟩, (decF s.l).2.1, (decF s.l).2.2) := by
 unfold decF
 by_cases h1 : openB s.l = true
 ·rw [if_pos h1]
  exact ⟨true, Ev.succ (Ev.bind (zbwu s) (Ev.pos h1 (Ev.ret _))) (fun q => rfl)⟩
 rw [if_neg h1]
 by_cases h2 : (getN s.l).2 = 0
 ·rw [if_pos h2]
  exact ⟨true, Ev.succ (Ev.bind (zbwu s) (Ev.neg h1 (Ev.bind (zbwq s hb) (Ev.pos h2 (Ev.ret _))))) (fun q => rfl)⟩
 rw [if_neg h2]
 by_cases h3 : 1048576 < (getN s.l).1
 ·rw [if_pos h3]
  exact ⟨true, Ev.succ (Ev.bind (zbwu s) (Ev.neg h1 (Ev.bind (zbwq s hb) (Ev.neg h2 (Ev.pos h3 (Ev.ret _)))))) (fun q => rfl)⟩
 rw [if_neg h3]
 obtain ⟨g1, g2, g3, g4, g5⟩ := zbwr (l := s.l)
 generalize hk : (getN s.l).2 = k at *
 generalize hn : (getN s.l).1 = n at *
 have hg : getN s.l = (n, k) := by rw [← hk, ← hn]
 have hget := zbwq s hb
 rw [hg] at hget
 have w1 : wrp .i64 (k + 4) = k + 4 := zbu7 (by omega) (by omega)
 have w2 : wrp .i64 (k + 4 + n) = k + 4 + n := zbu7 (by omega) (by omega)
 have w3 : wrp .i64 (k + n) = k + n := zbu7 (by omega) (by omega)
 have w4 : wrp .i64 (k + n + 4) = k + n + 4 := zbu7 (by omega) (by omega)
 by_cases h4 : (s.l.length : Int) < k + 4 + n
 ·rw [if_pos h4]
  exact ⟨true, Ev.succ (Ev.bind (zbwu s) (Ev.neg h1 (Ev.bind hget (Ev.neg h2 (Ev.neg h3 (Ev.pos (by simp only; rw [w1, w2]; exact h4) (Ev.ret _))))))) (fun q => rfl)⟩
 rw [if_neg h4]
 have hzf : s.z = false := by
  cases hz' : s.z
  ·rfl
  ·have := hz hz'; rw [this] at h4; simp at h4; omega
 have hsum := zbwd ⟨s.z, List.take k.toNat s.l⟩ ⟨s.z, List.drop k.toNat (List.take (k + n).toNat s.l)⟩ (zbwx hb _) (zbwy (zbwx hb _) _) (by simp; omega) (by simp; omega)
 have heq := zbww ⟨s.z, List.drop (k + n).toNat (List.take (k + n + 4).toNat s.l)⟩ ⟨false, fix4 (bsum (List.take k.toNat s.l ++ List.drop k.toNat (List.take (k + n).toNat s.l))).toNat⟩ (by simp; omega)
 have hcl : Ev (fun q => zk5 q ⟨s.z, List.drop k.toNat (List.take (k + n).toNat s.l)⟩) ⟨false, true, List.drop k.toNat (List.take (k + n).toNat s.l)⟩ :=
  Ev.succ (Ev.neg (by simp [hzf]) (Ev.pos (by simp; omega) (Ev.ret _))) (fun q => rfl)
 have ht : List.take k.toNat s.l ++ List.drop k.toNat (List.take (k + n).toNat s.l) = List.take (k + n).toNat s.l := by
  have := List.take_append_drop k.toNat (List.take (k + n).toNat s.l)
  rw [List.take_take, Nat.min_eq_left (by omega)] at this; exact this
 rw [ht] at heq hsum
 have hd : List.drop (k + n).toNat (List.take (k + n + 4).toNat s.l) = List.take 4 (List.drop (k + n).toNat s.l) := by
  rw [List.drop_take]; congr 1; omega
 rw [hd] at heq
 have pre : ∀ {r : Ow Int × Int × Int}, Ev (fun q => (zk4 q ⟨s.z, List.take 4 (List.drop (k + n).toNat s.l)⟩ ⟨false, fix4 (bsum (List.take (k + n).toNat s.l)).toNat⟩).bind fun r4 => (if r4 = true then ((zk5 q ⟨s.z, (List.drop k.toNat (List.take (k + n).toNat s.l))⟩).bind fun r5 => (some (r5, k + n + 4, 0))) else (some (⟨true, true, []⟩, 0, 4)))) r → Ev (fun q => zk6 q s) r := by
  intro r h
  refine Ev.succ (Ev.bind (zbwu s) (Ev.neg h1 (Ev.bind hget (Ev.neg h2 (Ev.neg h3 ?_))))) (fun q => rfl)
  simp only [w1, w2, w3, w4]
  refine Ev.neg h4 (Ev.po (Ev.po (Ev.po (Ev.po (Ev.po (Ev.po (Ev.po (Ev.po (Ev.po (Ev.bind hsum ?_))))))))))
  rw [hd]
  exact h
 by_cases h5 : List.take 4 (List.drop (k + n).toNat s.l) = fix4 (bsum (List.take (k + n).toNat s.l)).toNat
 ·rw [if_pos h5]
  exact ⟨false, pre (Ev.bind heq (Ev.pos (by simpa using h5) (Ev.bind hcl (Ev.ret _))))⟩
 ·rw [if_neg h5]
  exact ⟨true, pre (Ev.bind heq (Ev.neg (by simpa using h5) (Ev.ret _)))⟩
theorem isB_of {s : Sl Int} (h : okSl (fun x => inR .u8 x) s) : isB s.l := fun c hc => by
 have := h.2.2 c hc
 simp [inR, IntKind.min, IntKind.max, IntKind.signed, IntKind.bits] at this; omega
theorem rd_inv : ∀ {l : List Int} {i v k : Nat}, isB l → rd i l = some (v, k) → l.take k = grp v ∧ (0 < i → v ≠ 0)
 | [], i, v, k, hb, h => by simp [rd] at h
 | c :: l, i, v, k, hb, h => by
  obtain ⟨b1, b2⟩ := hb c y31
  simp only [rd] at h
  split at h
  ·cases h
  ·split at h
   ·cases h
   ·split at h
    ·cases h
    ·rename_i h1 h2 h3
     split at h
     ·simp at h; obtain ⟨rfl, rfl⟩ := h
      refine ⟨?_, fun hi e => h3 ⟨by omega, hi⟩⟩
      rw [grp_lt (by omega)]; simp; omega
     ·cases hr : rd (i + 1) l with
      | none => simp [hr] at h
      | some r =>
       obtain ⟨v', k'⟩ := r
       simp [hr] at h
       obtain ⟨rfl, rfl⟩ := h
       obtain ⟨e1, e2⟩ := rd_inv (fun c hc => hb c (y35 _ hc)) hr
       have hv := e2 (by omega)
       refine ⟨?_, fun _ => by omega⟩
       rw [grp_ge (by omega), List.take_succ_cons, e1]
       congr 1
       ·omega
       ·congr 1; omega
theorem zbw0 {l x : List Int} {n : Int} (hb : isB l) (h : decF l = (x, n, 0)) : x.length ≤ 1048576 ∧ 0 ≤ n ∧ n.toNat ≤ l.length ∧ 5 ≤ n ∧ encF x = l.take n.toNat := by
 unfold decF at h
 split at h
 ·simp at h
 split at h
 ·simp at h
 split at h
 ·simp at h
 split at h
 ·simp at h
 split at h
 ·rename_i h1 h2 h3 h4 h5
  obtain ⟨g1, g2, g3, g4, g5⟩ := zbwr (l := l)
  have hrd : rd 0 l = some ((getN l).1.toNat, (getN l).2.toNat) := by
   unfold getN at h2 ⊢
   cases hr : rd 0 l with
   | none => rw [hr] at h2; simp at h2
   | some p =>
    rw [hr] at h2; simp only at h2 ⊢
    split at h2
    ·simp at h2
    ·rename_i hlt; rw [if_neg hlt]; simp
  obtain ⟨e1, _⟩ := rd_inv hb hrd
  generalize (getN l).2 = k at *
  generalize (getN l).1 = m at *
  simp only [y7, and_true] at h
  obtain ⟨hx, hn⟩ := h
  have hlx : x.length = m.toNat := by rw [← hx]; simp; omega
  refine ⟨by omega, by omega, by omega, by omega, ?_⟩
  have hput : put (x.length : Int) = l.take k.toNat := by
   rw [put_ok (by omega) (by omega), e1]; congr 1
  have hcat : l.take k.toNat ++ x = l.take (k + m).toNat := by
   rw [← hx]
   have := List.take_append_drop k.toNat (List.take (k + m).toNat l)
   rw [List.take_take, Nat.min_eq_left (by omega)] at this; exact this
  unfold encF
  rw [hput, hcat, ← h5, ← y32, hcat, ← hn, show (k + m + 4).toNat = (k + m).toNat + 4 by omega, List.take_add]
 ·simp at h
theorem zbw1 {l : List Int} (hb : isB l) : isB (decF l).1 := by
 have nil : isB [] := fun c hc => by simp at hc
 unfold decF
 split; exact nil
 split; exact nil
 split; exact nil
 split; exact nil
 split
 ·exact zbwy (zbwx hb _) _
 ·exact nil
/-- The number of bytes, the lowest first. -/
def numB : List Int → Nat
 | [] => 0
 | c :: l => c.toNat + 256 * numB l
theorem zbw2 : ∀ {l : List Int}, isB l → numB l < 256 ^ l.length
 | [], _ => by simp [numB]
 | c :: l, h => by
  have h1 := h c y31
  have h2 := zbw2 (l := l) fun c hc => h c (y35 _ hc)
  simp only [numB, y20, Nat.pow_succ]
  generalize 256 ^ l.length = X at h2
  omega
theorem zbw3 {l : List Int} {v : Nat} (hb : isB l) (hl : l.length = 4) (hv : v < 4294967296) : numB l = v ↔ l = fix4 v := by
 match l, hl with
 | [a, b, c, d], _ =>
  have h1 := hb a (by simp); have h2 := hb b (by simp); have h3 := hb c (by simp); have h4 := hb d (by simp)
  simp only [numB, fix4, List.cons.injEq, and_true]
  constructor
  ·intro h; refine ⟨?_, ?_, ?_, ?_⟩ <;> omega
  ·rintro ⟨e1, e2, e3, e4⟩; omega
/-- The frames that bytes begin with, how many bytes these have, and what ends them. -/
def walkF : Nat → List Int → List (List Int) × Nat × Int
 | 0, _ => ([], 0, 0)
 | f + 1, l => if l = [] then ([], 0, 0) else if (decF l).2.2 = 0 then let w := walkF f (l.drop (decF l).2.1.toNat); ((decF l).1 :: w.1, (decF l).2.1.toNat + w.2.1, w.2.2) else ([], 0, (decF l).2.2)
theorem zbw4 {l : List Int} (hb : isB l) (h : (decF l).2.2 = 0) : 5 ≤ (decF l).2.1 ∧ (decF l).2.1.toNat ≤ l.length := by
 generalize hr : decF l = r at h
 obtain ⟨x, n, e⟩ := r
 simp only at h; subst h
 obtain ⟨k1, k2, k3, k4, k5⟩ := zbw0 hb hr
 exact ⟨k4, k3⟩
/-- A loop over frames, whoever decodes. -/
theorem zbw5 {D : Nat → Sl Int → Option (Ow Int × Int × Int)} {W : Nat → Bool → List Int → Int → Bool → List (Sl Int) → Option (Ow (Sl Int) × Int × Int)}
  (hW : ∀ q z L i z2 h, W (q + 1) z L i z2 h = if i < (L.length : Int) then (if 0 ≤ i then (if i ≤ (L.length : Int) then ((D q ⟨z, (List.drop i.toNat L)⟩).bind fun r1 => (if r1.2.2 = 0 then (if (h.length + 1) ≤ 4294967296 then (W q z L (wrp .i64 (i + r1.2.1)) false (h ++ [⟨r1.1.n, r1.1.xs⟩])) else none) else (some (⟨z2, true, h⟩, i, r1.2.2)))) else none) else none) else (some (⟨z2, true, h⟩, i, 0)))
  (z : Bool) (L : List Int) (hb : isB L) (hL : L.length ≤ 4294967296)
  (hD : ∀ i : Nat, i < L.length → ∃ z', Ev (fun q => D q ⟨z, L.drop i⟩) (⟨z', true, (decF (L.drop i)).1⟩, (decF (L.drop i)).2.1, (decF (L.drop i)).2.2)) :
  ∀ (f i : Nat) (z2 : Bool) (h : List (Sl Int)), i ≤ L.length → L.length - i < f → h.length ≤ i → ∃ z3 X, Ev (fun q => W q z L (i : Int) z2 h) (⟨z3, true, h ++ X⟩, ((i + (walkF f (L.drop i)).2.1 : Nat) : Int), (walkF f (L.drop i)).2.2) ∧ X.map (·.l) = (walkF f (L.drop i)).1
 | 0, i, z2, h, hi, hf, hh => by omega
 | f + 1, i, z2, h, hi, hf, hh => by
  by_cases hlt : i < L.length
  ·have hne : L.drop i ≠ [] := by intro e; have := congrArg List.length e; simp at this; omega
   obtain ⟨z', hd⟩ := hD i hlt
   simp only [walkF]
   rw [if_neg hne]
   by_cases he : (decF (L.drop i)).2.2 = 0
   ·rw [if_pos he]
    obtain ⟨k1, k2⟩ := zbw4 (zbwy hb i) he
    rw [y12] at k2
    obtain ⟨z3, X, hx, hm⟩ := zbw5 hW z L hb hL hD f (i + (decF (L.drop i)).2.1.toNat) false (h ++ [⟨z', (decF (L.drop i)).1⟩]) (by omega) (by omega) (by simp; omega)
    rw [← List.drop_drop] at hx hm
    refine ⟨z3, ⟨z', (decF (L.drop i)).1⟩ :: X, ?_, ?_⟩
    ·refine Ev.succ (Ev.po (Ev.po (Ev.po (Ev.bind hd (Ev.pos he (Ev.pos (by omega) ?_)))))) (fun q => hW q _ _ _ _ _)
     have wi : wrp .i64 ((i : Int) + (decF (L.drop i)).2.1) = ((i + (decF (L.drop i)).2.1.toNat : Nat) : Int) := by
      rw [zbu7 (by omega) (by omega)]; omega
     simp only [wi]
     refine hx.cast ?_
     simp only [y32, List.cons_append, y46, y55]
    ·simp [hm]
   ·rw [if_neg he]
    refine ⟨z2, [], Ev.succ (Ev.po (Ev.po (Ev.po (Ev.bind hd (Ev.neg he (Ev.ret' (by simp))))))) (fun q => hW q _ _ _ _ _), rfl⟩
  ·rw [y11 (by omega)]
   simp only [walkF, if_true]
   exact ⟨z2, [], Ev.succ (Ev.ne (Ev.ret' (by simp))) (fun q => hW q _ _ _ _ _), rfl⟩
def allF (l : List Int) : List (List Int) × Nat × Int := walkF (l.length + 1) l
theorem zbw6 (s : Sl Int) (hz : s.z = true → s.l = []) (hb : isB s.l) (hl : s.l.length ≤ 4294967296) : ∃ z X, Ev (fun q => zlv q s) (⟨z, true, X⟩, (((allF s.l).2.1 : Nat) : Int), (allF s.l).2.2) ∧ X.map (·.l) = (allF s.l).1 := by
 obtain ⟨z, X, h, hm⟩ := zbw5 (D := fun q s => zk6 q s) (W := zlu) (fun q z L i z2 h => rfl) s.z s.l hb hl (fun i hi => zbwz ⟨s.z, s.l.drop i⟩ (fun h => by rw [hz h]; simp) (zbwy hb i) (by simp; omega)) (s.l.length + 1) 0 true [] (by omega) (by omega) (by simp)
 rw [y37] at h hm
 refine ⟨z, X, Ev.succ h (fun q => rfl) |>.cast ?_, hm⟩
 simp [allF]
def allE (l : List Int) : List (List Int) × Int := if (allF l).2.2 = 0 then ((allF l).1, 0) else ([], (allF l).2.2)
theorem zbw7 (s : Sl Int) (hz : s.z = true → s.l = []) (hb : isB s.l) (hl : s.l.length ≤ 4294967296) : ∃ z X, Ev (fun q => zlw q s) (⟨z, true, X⟩, (allE s.l).2) ∧ X.map (·.l) = (allE s.l).1 := by
 obtain ⟨z, X, h, hm⟩ := zbw6 s hz hb hl
 unfold allE
 by_cases he : (allF s.l).2.2 = 0
 ·rw [if_pos he]; exact ⟨z, X, Ev.succ (Ev.bind h (Ev.pos he (Ev.ret _))) (fun q => rfl), hm⟩
 ·rw [if_neg he]; exact ⟨true, [], Ev.succ (Ev.bind h (Ev.neg he (Ev.ret _))) (fun q => rfl), rfl⟩
def BB (D : List (List Int)) : List Int := D.flatMap encF
theorem zbw8 (d : List Int) (D : List (List Int)) : BB (d :: D) = encF d ++ BB D := by simp [BB]
def zag (u : Nat) : Int := if u % 2 = 0 then ((u / 2 : Nat) : Int) else -((u / 2 : Nat) : Int) - 1
theorem zbw9 (u : Nat) : zig (zag u) = u := by unfold zag zig; split <;> split <;> omega
theorem ixor0 {x : Int} (h1 : 0 ≤ x) (h2 : x < 9223372036854775808) : ibits .xor .i64 x 0 = x := by
 have e : ibits .xor .i64 x 0 = IntKind.wrap .i64 (((BitVec.ofInt 64 x ^^^ 0#64 : BitVec 64).toNat : Nat) : Int) := by unfold ibits; rfl
 rw [e, BitVec.xor_zero, y48, zbvi, zbu7] <;> omega
theorem zbxa {x : Int} (h1 : 9223372036854775808 ≤ x) (h2 : x < 18446744073709551616) : wrp .i64 x = x - 18446744073709551616 := by
 unfold wrp; simp [IntKind.wrap, IntKind.min, IntKind.max, IntKind.signed, IntKind.bits] <;> omega
theorem ixor1 {x : Int} (h1 : 0 ≤ x) (h2 : x < 9223372036854775808) : ibits .xor .i64 x (-1) = -x - 1 := by
 have e : ibits .xor .i64 x (-1) = IntKind.wrap .i64 (((BitVec.ofInt 64 x ^^^ BitVec.allOnes 64 : BitVec 64).toNat : Nat) : Int) := by unfold ibits; rfl
 rw [e, BitVec.xor_allOnes, BitVec.toNat_not, y48, zbvi, zbxa] <;> omega
theorem and1u {u : Nat} (h : u < 18446744073709551616) : ibits .and .u64 (u : Int) 1 = ((u % 2 : Nat) : Int) := by
 have e : ibits .and .u64 (u : Int) 1 = IntKind.wrap .u64 (((BitVec.ofInt 64 (u : Int) &&& 1#64 : BitVec 64).toNat : Nat) : Int) := by unfold ibits; rfl
 have e1 : (BitVec.ofInt 64 (u : Int)).toNat = u := by rw [y48]; omega
 rw [e, BitVec.toNat_and, e1, show (1#64 : BitVec 64).toNat = 1 from rfl, Nat.and_one_is_mod, zbvi, zbu8 (by omega) (by omega)]
theorem ishr1 {x : Int} (h1 : 0 ≤ x) : ishr .u64 x 1 = x / 2 := by
 unfold ishr; simp [IntKind.bits]
 rw [y52]; omega
theorem zbxb {u : Nat} (h : u < 18446744073709551616) : Ev (fun q => zk7 q (u : Int)) (zag u) := by
 refine Ev.succ (Ev.ret' ?_) (fun q => rfl)
 rw [ishr1 (by omega), and1u h, zbu7 (by omega) (by omega)]
 unfold zag
 split
 ·rename_i e
  rw [e, show wrp .i64 ((0 : Nat) : Int) = 0 from zbu7 (by omega) (by omega), show wrp .i64 (0 - 0) = 0 from zbu7 (by omega) (by omega), ixor0 (by omega) (by omega)]; omega
 ·rename_i e
  rw [show u % 2 = 1 by omega, show wrp .i64 ((1 : Nat) : Int) = 1 from zbu7 (by omega) (by omega), show wrp .i64 (0 - 1) = -1 from zbu7 (by omega) (by omega), ixor1 (by omega) (by omega)]; omega
theorem rd_lt : ∀ {l : List Int} {i : Nat} {p : Nat × Nat}, isB l → i ≤ 9 → rd i l = some p → p.1 < 2 ^ (64 - 7 * i)
 | [], i, p, hb, hi, h => by simp [rd] at h
 | c :: l, i, p, hb, hi, h => by
  obtain ⟨b1, b2⟩ := hb c y31
  simp only [rd] at h
  split at h
  ·cases h
  ·split at h
   ·cases h
   ·rename_i h9
    split at h
    ·cases h
    ·split at h
     ·simp at h; subst h
      simp only
      by_cases e : i = 9
      ·subst e; simp; omega
      ·have : 2 ^ 7 ≤ 2 ^ (64 - 7 * i) := Nat.pow_le_pow_right (by omega) (by omega)
       omega
     ·cases hr : rd (i + 1) l with
      | none => simp [hr] at h
      | some r =>
       simp [hr] at h; subst h
       by_cases e : i = 9
       ·exfalso; subst e; exact h9 ⟨rfl, by omega⟩
       ·have := rd_lt (fun c hc => hb c (y35 _ hc)) (by omega) hr
        have e2 : 2 ^ (64 - 7 * i) = 128 * 2 ^ (64 - 7 * (i + 1)) := by rw [show 64 - 7 * i = 7 + (64 - 7 * (i + 1)) by omega, Nat.pow_add]
        simp only
        rw [e2]; omega
def getS (l : List Int) : Int × Int := match rd 0 l with
 | none => (0, 0)
 | some p => (zag p.1, (p.2 : Int))
theorem zbxc (s : Sl Int) (hb : isB s.l) : Ev (fun q => zk8 q s) (getS s.l) := by
 refine Ev.succ (Ev.bind (zbwp s hb) ?_) (fun q => rfl)
 unfold getS
 cases h : rd 0 s.l with
 | none => exact Ev.pos (by simp [resN]) (Ev.ret _)
 | some p =>
  have h1 := rd_len h
  have h2 := rd_lt hb (by omega) h
  simp only [resN]
  exact Ev.neg (by simp; omega) (Ev.bind (zbxb (by simpa using h2)) (Ev.ret _))
theorem zbxd {l : List Int} : 0 ≤ (getS l).2 ∧ (getS l).2 ≤ l.length ∧ (getS l).2 ≤ 10 := by
 unfold getS
 cases h : rd 0 l with
 | none => simp
 | some p =>
  have := rd_len h
  simp only; omega
def cutsB (l : List Int) : Prop := ∀ n ∈ l, n = cutI n
instance (l : List Int) : Decidable (cutsB l) := by unfold cutsB; infer_instance
theorem zbxe (n : Int) : Ev (fun q => zjn q n) (!(decide (n = cutI n))) := Ev.succ (Ev.bind (zbvm n) (Ev.ret _)) (fun q => rfl)
theorem zbxf (z : Bool) (L : List Int) (h0 : Int) (h1z : Bool) (h1l : List Int) (h2 : Bool) (h3 : Int) (hL : L.length ≤ 1000000) : ∀ (k i : Nat), L.length = i + k →
  ∃ r, Ev (fun q => zjq q z L (L.length : Int) (i : Int) h0 h1z h1l h2 h3) r ∧ (0 ≤ r ↔ ¬ cutsB (L.drop i))
 | 0, i, hk => by
  refine ⟨-1, Ev.succ (Ev.ne (Ev.ret _)) (fun q => rfl), ?_⟩
  rw [y11 (by omega)]; simp [cutsB]
 | k + 1, i, hk => by
  have hi : i < L.length := by omega
  have he : L[((i : Int)).toNat]? = some L[i] := by simp [hi]
  have hd := y8 hi
  by_cases h : L[i] = cutI L[i]
  ·obtain ⟨r, hr, hi2⟩ := zbxf z L h0 h1z h1l h2 h3 hL k (i + 1) (by omega)
   rw [show ((i + 1 : Nat) : Int) = wrp .i64 ((i : Int) + 1) by rw [zbu7 (by omega) (by omega)]; omega] at hr
   refine ⟨r, Ev.succ (Ev.po (Ev.po (Ev.opt he (Ev.bind (zbxe _) (Ev.neg (by simpa using h) hr))))) (fun q => rfl), ?_⟩
   rw [hi2, hd]; unfold cutsB; simp only [List.mem_cons, forall_eq_or_imp]
   exact ⟨fun a b => a b.2, fun a b => a ⟨h, b⟩⟩
  ·refine ⟨i, Ev.succ (Ev.po (Ev.po (Ev.opt he (Ev.bind (zbxe _) (Ev.pos (by simpa using h) (Ev.ret _)))))) (fun q => rfl), ?_⟩
   rw [hd]; unfold cutsB; simp only [List.mem_cons, forall_eq_or_imp]
   exact ⟨fun _ b => h b.1, fun _ => by omega⟩
theorem zbxg (z : Bool) (L : List Int) (h0 : Int) (h1z : Bool) (h1l : List Int) (h2 : Bool) (h3 : Int) (hL : L.length ≤ 1000000) : ∃ r, Ev (fun q => zjr q z L h0 h1z h1l h2 h3) r ∧ (0 ≤ r ↔ ¬ cutsB L) := by
 obtain ⟨r, h, h4⟩ := zbxf z L h0 h1z h1l h2 h3 hL L.length 0 (by omega)
 exact ⟨r, Ev.succ h (fun q => rfl), by simpa using h4⟩
def prs (least : Int) : Int → List Int → Bool
 | last, a :: b :: t => decide (last < a) && (decide (a ≤ 255) && (decide (least ≤ b) && (decide (b ≤ 1099511627776) && prs least a t)))
 | _, _ => true
def pairsOk (least : Int) (l : List Int) : Bool := prs least (-1) l && (decide (l.length % 2 = 0) && decide (l.length ≤ 128))
theorem zbxh (z : Bool) (L : List Int) (least : Int) (hL : L.length ≤ 1000000) : ∀ (k i : Nat) (last : Int), L.length ≤ i + 2 * k → i ≤ 2000000 →
  Ev (fun q => zjo q z L least last (i : Int)) (prs least last (L.drop i) && (decide (L.length % 2 = 0) && decide (L.length ≤ 128)))
 | k, i, last, hk, hi9 => by
  have w1 : wrp .i64 ((i : Int) + 1) = ((i + 1 : Nat) : Int) := by rw [zbu7 (by omega) (by omega)]; omega
  have w2 : wrp .i64 ((i : Int) + 2) = ((i + 2 : Nat) : Int) := by rw [zbu7 (by omega) (by omega)]; omega
  by_cases h : i + 1 < L.length
  ·cases k with
   | zero => omega
   | succ k =>
    have he : L[((i : Int)).toNat]? = some L[i] := by rw [y27]; exact y6 (by omega)
    have he2 : L[(wrp .i64 ((i : Int) + 1)).toNat]? = some L[i + 1] := by rw [w1, y27]; exact y6 h
    have hd : L.drop i = L[i] :: L[i + 1] :: L.drop (i + 2) := by rw [y8 (by omega), y8 h]
    rw [hd]
    simp only [prs]
    refine Ev.succ (Ev.pos (by rw [w1]; omega) (Ev.po (Ev.opt he (Ev.ite (fun c => Ev.ret' ?_) fun c => Ev.ite (fun c2 => Ev.ret' ?_) fun c2 => Ev.pos (by rw [w1]; omega) (Ev.opt he2 (Ev.ite (fun c3 => Ev.ret' ?_) fun c3 => Ev.ite (fun c4 => Ev.ret' ?_) fun c4 => ?_)))))) (fun q => rfl)
    ·rw [decide_eq_false (show ¬ last < L[i] by omega)]; rfl
    ·rw [decide_eq_false (show ¬ L[i] ≤ 255 by omega)]; simp
    ·rw [decide_eq_false (show ¬ least ≤ L[i + 1] by omega)]; simp
    ·rw [decide_eq_false (show ¬ L[i + 1] ≤ 1099511627776 by omega)]; simp
    ·rw [decide_eq_true (show last < L[i] by omega), decide_eq_true (show L[i] ≤ 255 by omega), decide_eq_true (show least ≤ L[i + 1] by omega), decide_eq_true (show L[i + 1] ≤ 1099511627776 by omega), w2]
     simp only [y59]
     exact zbxh z L least hL k (i + 2) L[i] (by omega) (by omega)
  ·have hp : prs least last (L.drop i) = true := by
    have hl : (L.drop i).length ≤ 1 := by rw [y12]; omega
    generalize L.drop i = X at hl
    match X, hl with
    | [], _ => rfl
    | [a], _ => rfl
   rw [hp, y59]
   have ht : Int.tmod (L.length : Int) 2 = ((L.length % 2 : Nat) : Int) := by rw [Int.tmod_eq_emod_of_nonneg (by omega)]; omega
   refine Ev.succ (Ev.neg (by rw [w1]; omega) (Ev.ite (fun c => Ev.ret' ?_) fun c => Ev.ret' ?_)) (fun q => rfl)
   ·rw [ht] at c
    rw [decide_eq_true (show L.length % 2 = 0 by omega), y59]
    by_cases h4 : L.length ≤ 128
    ·rw [decide_eq_true h4, decide_eq_true (by omega)]
    ·rw [decide_eq_false h4, decide_eq_false (by omega)]
   ·rw [ht] at c
    rw [decide_eq_false (show ¬ L.length % 2 = 0 by omega)]; rfl
theorem zbxi (s : Sl Int) (least : Int) (hL : s.l.length ≤ 1000000) : Ev (fun q => zjp q s least) (pairsOk least s.l) := by
 have := zbxh s.z s.l least hL s.l.length 0 (-1) (by omega) (by omega)
 exact Ev.succ this (fun q => rfl)
def kindOk (k : Int) (l : List Int) : Bool :=
 if k = 0 ∨ k = 1 then decide (l.length = 1 ∧ cutsB l) else if k = 2 ∨ k = 3 then decide (l.length ≤ 64 ∧ cutsB l) else if k = 4 then pairsOk (-1099511627776) l else if k = 5 then pairsOk 0 l else false
def mayS (s : zjf) : Bool := if s.To < 0 then false else if 3 ≤ s.To then false else if s.Sealed = true then kindOk s.Kind s.L.l else if s.To = 0 then kindOk s.Kind s.L.l else false
theorem zbxj (s : zjf) (hL : s.L.l.length ≤ 1000000) : Ev (fun q => ((zjr q s.L.z s.L.l s.Kind s.L.z s.L.l s.Sealed s.To).bind fun r1 => (if s.Kind = 0 then (if (s.L.l.length : Int) = 1 then (some (!(decide (0 ≤ r1)))) else (some false)) else (if s.Kind = 1 then (if (s.L.l.length : Int) = 1 then (some (!(decide (0 ≤ r1)))) else (some false)) else (if s.Kind = 2 then (if (s.L.l.length : Int) ≤ 64 then (some (!(decide (0 ≤ r1)))) else (some false)) else (if s.Kind = 3 then (if (s.L.l.length : Int) ≤ 64 then (some (!(decide (0 ≤ r1)))) else (some false)) else (if s.Kind = 4 then ((zjp q s.L (-1099511627776)).bind fun r2 => (some r2)) else (if s.Kind = 5 then ((zjp q s.L 0).bind fun r3 => (some r3)) else (some false))))))))) (kindOk s.Kind s.L.l) := by
 obtain ⟨r, h, hr⟩ := zbxg s.L.z s.L.l s.Kind s.L.z s.L.l s.Sealed s.To hL
 have one : ∀ {P : Prop} [Decidable P], P → Ev (fun _ : Nat => (some (!(decide (0 ≤ r))) : Option Bool)) (decide (P ∧ cutsB s.L.l)) := fun {P} _ hp => Ev.ret' (by
  by_cases hc : cutsB s.L.l
  ·rw [decide_eq_false (fun e => hr.1 e hc)]; symm; simp only [Bool.not_false, decide_eq_true_eq]; exact ⟨hp, hc⟩
  ·rw [decide_eq_true (hr.2 hc)]; symm; simp only [Bool.not_true, decide_eq_false_iff_not]; exact fun e => hc e.2)
 have no : ∀ {P : Prop} [Decidable P], ¬ P → Ev (fun _ : Nat => (some false : Option Bool)) (decide (P ∧ cutsB s.L.l)) := fun {P} _ hp => Ev.ret' (by
  symm; simp only [decide_eq_false_iff_not]; exact fun e => hp e.1)
 refine Ev.bind h ?_
 unfold kindOk
 by_cases k0 : s.Kind = 0
 ·rw [if_pos (show s.Kind = 0 ∨ s.Kind = 1 from .inl k0)]
  by_cases hl : s.L.l.length = 1
  ·exact Ev.pos k0 (Ev.po (one hl))
  ·exact Ev.pos k0 (Ev.ne (no hl))
 by_cases k1 : s.Kind = 1
 ·rw [if_pos (show s.Kind = 0 ∨ s.Kind = 1 from .inr k1)]
  by_cases hl : s.L.l.length = 1
  ·exact Ev.neg k0 (Ev.pos k1 (Ev.po (one hl)))
  ·exact Ev.neg k0 (Ev.pos k1 (Ev.ne (no hl)))
 rw [if_neg (show ¬ (s.Kind = 0 ∨ s.Kind = 1) by omega)]
 by_cases k2 : s.Kind = 2
 ·rw [if_pos (show s.Kind = 2 ∨ s.Kind = 3 from .inl k2)]
  by_cases hl : s.L.l.length ≤ 64
  ·exact Ev.neg k0 (Ev.neg k1 (Ev.pos k2 (Ev.po (one hl))))
  ·exact Ev.neg k0 (Ev.neg k1 (Ev.pos k2 (Ev.ne (no hl))))
 by_cases k3 : s.Kind = 3
 ·rw [if_pos (show s.Kind = 2 ∨ s.Kind = 3 from .inr k3)]
  by_cases hl : s.L.l.length ≤ 64
  ·exact Ev.neg k0 (Ev.neg k1 (Ev.neg k2 (Ev.pos k3 (Ev.po (one hl)))))
  ·exact Ev.neg k0 (Ev.neg k1 (Ev.neg k2 (Ev.pos k3 (Ev.ne (no hl)))))
 rw [if_neg (show ¬ (s.Kind = 2 ∨ s.Kind = 3) by omega)]
 refine Ev.neg k0 (Ev.neg k1 (Ev.neg k2 (Ev.neg k3 (Ev.ite (fun k4 => ?_) fun k4 => Ev.ite (fun k5 => ?_) fun k5 => ?_))))
 ·rw [if_pos k4]; exact Ev.bind (zbxi _ _ hL) (Ev.ret _)
 ·rw [if_neg k4, if_pos k5]; exact Ev.bind (zbxi _ _ hL) (Ev.ret _)
 ·rw [if_neg k4, if_neg k5]; exact Ev.ret _
theorem zbxk (s : zjf) (hL : s.L.l.length ≤ 1000000) : Ev (fun q => zjs q s) (mayS s) := by
 have hb := zbxj s hL
 unfold mayS
 refine Ev.succ (Ev.ite (fun h => ?_) fun h => Ev.ite (fun h2 => ?_) fun h2 => Ev.ite (fun h3 => ?_) fun h3 => Ev.ite (fun h4 => ?_) fun h4 => ?_) (fun q => rfl)
 ·rw [if_pos h]; exact Ev.ret _
 ·rw [if_neg h, if_pos h2]; exact Ev.ret _
 ·rw [if_neg h, if_neg h2, if_pos h3]; exact hb
 ·rw [if_neg h, if_neg h2, if_neg h3, if_pos h4]; exact hb
 ·rw [if_neg h, if_neg h2, if_neg h3, if_neg h4]; exact Ev.ret _
def entOk (e : zjg) : Bool := decide (0 ≤ e.Proc) && (decide (e.Proc ≤ 64) && (decide (0 ≤ e.Seq) && (decide (e.Seq < 4611686018427387904) && (decide (-1125899906842624 ≤ e.Resp) && decide (e.Resp ≤ 1125899906842624)))))
theorem zbxl (e : zjg) : Ev (fun q => zjt q e) (entOk e) := by
 unfold entOk
 exact Ev.succ (Ev.ite (fun h1 => Ev.ite (fun h2 => Ev.ite (fun h3 => Ev.ite (fun h4 => Ev.ite (fun h5 => Ev.ret' (by simp [*])) fun h5 => Ev.ret' (by simp [*])) fun h4 => Ev.ret' (by simp [*])) fun h3 => Ev.ret' (by simp [*])) fun h2 => Ev.ret' (by simp [*])) fun h1 => Ev.ret' (by simp [*])) (fun q => rfl)
def tabB : Int → List zjg → Bool
 | _, [] => true
 | last, e :: t => entOk e && (decide (last < e.Proc) && tabB e.Proc t)
theorem zbxm (z z2 : Bool) (L : List zjg) (hL : L.length ≤ 1000000) : ∀ (k i : Nat) (last : Int), L.length = i + k → (∀ e, 0 < i → L[i - 1]? = some e → e.Proc = last) → (i = 0 → last = -1) →
  Ev (fun q => zju q z L z2 L (L.length : Int) (i : Int)) (tabB last (L.drop i))
 | 0, i, last, hk, h1, h0 => by
  refine Ev.succ (Ev.ne (Ev.ret' ?_)) (fun q => rfl)
  rw [y11 (by omega)]; rfl
 | k + 1, i, last, hk, h1, h0 => by
  have hi : i < L.length := by omega
  have he : L[((i : Int)).toNat]? = some L[i] := by simp [hi]
  rw [y8 hi]
  simp only [tabB]
  have w1 : wrp .i64 ((i : Int) + 1) = ((i + 1 : Nat) : Int) := by rw [zbu7 (by omega) (by omega)]; omega
  have ih := zbxm z z2 L hL k (i + 1) L[i].Proc (by omega) (fun e _ hx => by
   rw [Nat.add_sub_cancel, y6 hi] at hx
   simp only [y1] at hx; rw [hx]) (by omega)
  refine Ev.succ (Ev.po (Ev.po (Ev.opt he (Ev.bind (zbxl _) (Ev.ite (fun c => Ev.ite (fun c2 => ?_) fun c2 => ?_) fun c => Ev.ret' ?_))))) (fun q => rfl)
  ·have w3 : wrp .i64 ((i : Int) - 1) = ((i - 1 : Nat) : Int) := by rw [zbu7 (by omega) (by omega)]; omega
   have he3 : L[(wrp .i64 ((i : Int) - 1)).toNat]? = some L[i - 1] := by rw [w3, y27]; exact y6 (by omega)
   have hq := h1 L[i - 1] (by omega) (y6 (by omega))
   refine Ev.pos (by rw [w3]; omega) (Ev.opt he3 (Ev.ite (fun c4 => Ev.ret' ?_) fun c4 => ?_))
   ·rw [c, decide_eq_false (show ¬ last < L[i].Proc by omega)]; rfl
   ·rw [c, decide_eq_true (show last < L[i].Proc by omega), w1]; simpa using ih
  ·have := h0 (by omega)
   have hp : 0 ≤ L[i].Proc := by unfold entOk at c; simp only [y5, decide_eq_true_eq] at c; exact c.1
   rw [c, decide_eq_true (show last < L[i].Proc by omega), w1]; simpa using ih
  ·simp only [Bool.not_eq_true] at c; rw [c]; rfl
theorem zbxn (s : Sl zjg) (hL : s.l.length ≤ 1000000) : Ev (fun q => zjv q s) (tabB (-1) s.l) :=
 Ev.succ (zbxm s.z s.z s.l hL s.l.length 0 (-1) (by omega) (fun e h => by omega) (fun _ => rfl)) (fun q => rfl)
def mayN (s : zjh) : Bool := decide (0 ≤ s.Index) && (decide (s.Index < 4611686018427387904) && (mayS s.State && tabB (-1) s.Table.l))
theorem zbxo (s : zjh) (h1 : s.State.L.l.length ≤ 1000000) (h2 : s.Table.l.length ≤ 1000000) : Ev (fun q => zjw q s) (mayN s) := by
 unfold mayN
 refine Ev.succ (Ev.ite (fun c1 => Ev.ite (fun c2 => Ev.bind (zbxk _ h1) (Ev.ite (fun c3 => Ev.bind (zbxn _ h2) (Ev.ret' ?_)) fun c3 => Ev.ret' ?_)) fun c2 => Ev.ret' ?_) fun c1 => Ev.ret' ?_) (fun q => rfl)
 ·simp [c1, c2, c3]
 ·simp [c3]
 ·simp [c2]
 ·simp [c1]
instance : DecidableEq zjg := fun a b => if h : a.Proc = b.Proc ∧ a.Seq = b.Seq ∧ a.Resp = b.Resp then isTrue (by cases a; cases b; simp_all) else isFalse (fun e => h (by rw [e]; exact ⟨rfl, rfl, rfl⟩))
theorem zbxp {least : Int} : ∀ {l : List Int} {last : Int}, prs least last l = true → l.length % 2 = 0 → -1 ≤ last → -1099511627776 ≤ least → ∀ x ∈ l, -1099511627776 ≤ x ∧ x ≤ 1099511627776
 | [], last, h, h2, h3, h4, x, hx => by cases hx
 | [a], last, h, h2, h3, h4, x, hx => by simp at h2
 | a :: b :: t, last, h, h2, h3, h4, x, hx => by
  simp only [prs, y5, decide_eq_true_eq] at h
  simp only [y20] at h2
  rcases List.mem_cons.1 hx with e | e
  ·omega
  ·rcases List.mem_cons.1 e with e | e
   ·omega
   ·exact zbxp h.2.2.2.2 (by omega) (by omega) h4 x e
theorem zbxq {l : List Int} (h : cutsB l) : ∀ x ∈ l, -1099511627776 ≤ x ∧ x ≤ 1099511627776 := fun x hx => zbvo.1 (h x hx)
theorem zbxr {k : Int} {l : List Int} (h : kindOk k l = true) : 0 ≤ k ∧ k ≤ 5 ∧ l.length ≤ 128 ∧ ∀ x ∈ l, -1099511627776 ≤ x ∧ x ≤ 1099511627776 := by
 unfold kindOk at h
 split at h
 ·simp only [decide_eq_true_eq] at h; exact ⟨by omega, by omega, by omega, zbxq h.2⟩
 ·split at h
  ·simp only [decide_eq_true_eq] at h; exact ⟨by omega, by omega, by omega, zbxq h.2⟩
  ·split at h
   ·simp only [pairsOk, y5, decide_eq_true_eq] at h; exact ⟨by omega, by omega, by omega, zbxp h.1 h.2.1 (by omega) (by omega)⟩
   ·split at h
    ·simp only [pairsOk, y5, decide_eq_true_eq] at h; exact ⟨by omega, by omega, by omega, zbxp h.1 h.2.1 (by omega) (by omega)⟩
    ·cases h
theorem zbxs {s : zjf} (h : mayS s = true) : 0 ≤ s.To ∧ s.To ≤ 2 ∧ (s.Sealed = false → s.To = 0) ∧ kindOk s.Kind s.L.l = true := by
 unfold mayS at h
 split at h
 ·cases h
 ·split at h
  ·cases h
  ·split at h
   ·rename_i h1 h2 h3; exact ⟨by omega, by omega, fun e => (by rw [e] at h3; cases h3), h⟩
   ·split at h
    ·rename_i h1 h2 h3 h4; exact ⟨by omega, by omega, fun _ => h4, h⟩
    ·cases h
theorem zbxt {e : zjg} (h : entOk e = true) : 0 ≤ e.Proc ∧ e.Proc ≤ 64 ∧ 0 ≤ e.Seq ∧ e.Seq < 4611686018427387904 ∧ -1125899906842624 ≤ e.Resp ∧ e.Resp ≤ 1125899906842624 := by
 simpa only [entOk, y5, decide_eq_true_eq] using h
theorem zbxu : ∀ {t : List zjg} {last : Int}, tabB last t = true → ∀ e ∈ t, entOk e = true
 | [], last, h, e, he => by cases he
 | a :: t, last, h, e, he => by
  simp only [tabB, y5] at h
  rcases List.mem_cons.1 he with r | r
  ·rw [r]; exact h.1
  ·exact zbxu h.2.2 e r
theorem zbxv {s : zjh} (h : mayN s = true) : 0 ≤ s.Index ∧ s.Index < 4611686018427387904 ∧ mayS s.State = true ∧ tabB (-1) s.Table.l = true := by
 simpa only [mayN, y5, decide_eq_true_eq] using h
/-- A table has at most 65 entries. -/
theorem zbxw : ∀ {t : List zjg} {last : Int}, tabB last t = true → -1 ≤ last → (t.length : Int) + last ≤ 64 ∨ t = []
 | [], last, h, h1 => .inr rfl
 | a :: t, last, h, h1 => by
  simp only [tabB, y5, decide_eq_true_eq] at h
  have ha := zbxt h.1
  rcases zbxw h.2.2 (by omega) with e | e
  ·left; rw [y20]; omega
  ·left; rw [e]; simp only [y20, y24]; omega
def sealN (s : zjf) : Int := if s.Sealed = true then s.To + 1 else 0
def numsB (l : List Int) : List Int := l.flatMap putS
theorem zbxx (x : Int) (l : List Int) : numsB (x :: l) = putS x ++ numsB l := by simp [numsB]
def inT (l : List Int) : Prop := ∀ x ∈ l, -1099511627776 ≤ x ∧ x ≤ 1099511627776
theorem inT_R {l : List Int} (h : inT l) {x : Int} (hx : x ∈ l) : inR .i64 x := by have := h x hx; exact zbvr (by omega) (by omega)
theorem zbxy {x : Int} {l : List Int} (h : inT (x :: l)) : inR .i64 x ∧ inT l := ⟨inT_R h y31, fun y hy => h y (y35 _ hy)⟩
theorem zbxz : ∀ {l : List Int}, inT l → (numsB l).length ≤ 10 * l.length
 | [], h => by simp [numsB]
 | x :: l, h => by
  have h2 := zbxz (zbxy h).2
  have h1 := zbvq (zbxy h).1
  rw [zbxx, y9, y20]; omega
theorem zbx0 (n : Int) : isB (putS n) := zbwj _
theorem zbx1 : ∀ {l : List Int}, isB (numsB l)
 | [] => fun c hc => by simp [numsB] at hc
 | x :: l => by rw [zbxx]; exact zbwl.2 ⟨zbx0 _, zbx1⟩
def stateB (s : zjf) : List Int := ((put s.Kind ++ put (sealN s)) ++ put (s.L.l.length : Int)) ++ numsB s.L.l
theorem zbx2 {s : zjf} (h : inT s.L.l) : (stateB s).length ≤ 30 + 10 * s.L.l.length := by
 have h1 := zbvg s.Kind; have h2 := zbvg (sealN s); have h3 := zbvg (s.L.l.length : Int); have h4 := zbxz h
 simp only [stateB, y9]; omega
theorem zbx3 {s : zjf} : isB (stateB s) := zbwl.2 ⟨zbwl.2 ⟨zbwl.2 ⟨zbwk _, zbwk _⟩, zbwk _⟩, zbx1⟩
theorem zbx4 (z : Bool) (L : List Int) (hL : L.length ≤ 1000000) (hT : inT L) : ∀ (k i : Nat) (l : List Int), L.length = i + k → l.length ≤ 1000 + 10 * i →
  Ev (fun q => zll q z L (L.length : Int) (i : Int) false l true) (⟨false, true, l ++ numsB (L.drop i)⟩, 0)
 | 0, i, l, hk, hl => by
  refine Ev.succ (Ev.ne (Ev.ret' ?_)) (fun q => rfl)
  rw [y11 (by omega)]; simp [numsB]
 | k + 1, i, l, hk, hl => by
  have hi : i < L.length := by omega
  have he : L[((i : Int)).toNat]? = some L[i] := by simp [hi]
  have hr := inT_R hT (y25 hi)
  have hp := zbvq hr
  have ih := zbx4 z L hL hT k (i + 1) (l ++ putS L[i]) (by omega) (by rw [y9]; omega)
  rw [show ((i + 1 : Nat) : Int) = wrp .i64 ((i : Int) + 1) by rw [zbu7 (by omega) (by omega)]; omega] at ih
  refine Ev.succ (Ev.po (Ev.po (Ev.opt he (Ev.bind (zbvl ⟨false, true, l⟩ hr (by simp only; omega)) (Ev.cast ih ?_))))) (fun q => rfl)
  rw [y8 hi, zbxx, y32]
theorem zbx5 {s : zjf} (h : mayS s = true) : 0 ≤ sealN s ∧ sealN s ≤ 3 := by
 have := zbxs h; unfold sealN; split <;> omega
theorem zbx6 {s : zjf} (h : mayS s = true) : Ev (fun q => zlk q s) (sealN s) := by
 have hm := zbxs h
 unfold sealN
 refine Ev.succ (Ev.ite (fun c => Ev.ret' ?_) fun c => Ev.ret' ?_) (fun q => rfl)
 ·rw [if_pos c, zbu7 (by omega) (by omega)]
 ·rw [if_neg c]
theorem zbx7 {s : zjf} (h : mayS s = true) : Ev (fun q => zlm q s) (⟨false, true, stateB s⟩, 0) := by
 have hm := zbxs h
 have hk := zbxr hm.2.2.2
 have hs := zbx5 h
 have hM := zbxk s (by omega)
 rw [h] at hM
 have p1 := zbvg s.Kind; have p2 := zbvg (sealN s); have p3 := zbvg (s.L.l.length : Int)
 have hl := zbx4 s.L.z s.L.l (by omega) hk.2.2.2 s.L.l.length 0 ((put s.Kind ++ put (sealN s)) ++ put (s.L.l.length : Int)) (by omega) (by simp only [y9]; omega)
 rw [y37] at hl
 exact Ev.succ (Ev.bind hM (Ev.pos rfl (Ev.bind (zbvh ⟨true, true, []⟩ (by omega) (by omega) (by simp)) (Ev.bind (zbx6 h) (Ev.bind (zbvh _ (by omega) (by omega) (by simp only [y46]; omega)) (Ev.bind (zbvh _ (by omega) (by omega) (by simp only [y46, y9]; omega)) hl)))))) (fun q => rfl)
def entB (e : zjg) : List Int := put e.Proc ++ (put e.Seq ++ putS e.Resp)
def tabE (l : List zjg) : List Int := l.flatMap entB
theorem zbx8 (e : zjg) (l : List zjg) : tabE (e :: l) = entB e ++ tabE l := by simp [tabE]
def entsOk (l : List zjg) : Prop := ∀ e ∈ l, entOk e = true
theorem zbx9 {e : zjg} (h : entOk e = true) : inR .i64 e.Resp := by have := zbxt h; exact zbvr (by omega) (by omega)
theorem zbya {e : zjg} (h : entOk e = true) : (entB e).length ≤ 30 := by
 have h1 := zbvg e.Proc; have h2 := zbvg e.Seq; have h3 := zbvq (zbx9 h)
 simp only [entB, y9]; omega
theorem zbyb {e : zjg} : isB (entB e) := zbwl.2 ⟨zbwk _, zbwl.2 ⟨zbwk _, zbx0 _⟩⟩
theorem zbyc : ∀ {l : List zjg}, entsOk l → (tabE l).length ≤ 30 * l.length
 | [], h => by simp [tabE]
 | e :: l, h => by
  have h1 := zbya (h e y31)
  have h2 := zbyc (l := l) fun x hx => h x (y35 _ hx)
  rw [zbx8, y9, y20]; omega
theorem zbyd : ∀ {l : List zjg}, isB (tabE l)
 | [] => fun c hc => by simp [tabE] at hc
 | e :: l => by rw [zbx8]; exact zbwl.2 ⟨zbyb, zbyd⟩
def wholeB (s : zjh) : List Int := ((put ((stateB s.State).length : Int) ++ stateB s.State) ++ put (s.Table.l.length : Int)) ++ tabE s.Table.l
theorem zbye (z : Bool) (L : List zjg) (hL : L.length ≤ 1000000) (hT : entsOk L) : ∀ (k i : Nat) (l : List Int), L.length = i + k → l.length ≤ 10000 + 30 * i →
  Ev (fun q => zln q z L (L.length : Int) (i : Int) false l true) ⟨false, true, l ++ tabE (L.drop i)⟩
 | 0, i, l, hk, hl => by
  refine Ev.succ (Ev.ne (Ev.ret' ?_)) (fun q => rfl)
  rw [y11 (by omega)]; simp [tabE]
 | k + 1, i, l, hk, hl => by
  have hi : i < L.length := by omega
  have he : L[((i : Int)).toNat]? = some L[i] := by simp [hi]
  have hr := hT L[i] (y25 hi)
  have ho := zbxt hr
  have p1 := zbvg L[i].Proc; have p2 := zbvg L[i].Seq; have p3 := zbvq (zbx9 hr)
  have ih := zbye z L hL hT k (i + 1) (((l ++ put L[i].Proc) ++ put L[i].Seq) ++ putS L[i].Resp) (by omega) (by simp only [y9]; omega)
  rw [show ((i + 1 : Nat) : Int) = wrp .i64 ((i : Int) + 1) by rw [zbu7 (by omega) (by omega)]; omega] at ih
  refine Ev.succ (Ev.po (Ev.po (Ev.opt he (Ev.bind (zbvh ⟨false, true, l⟩ (by omega) (by omega) (by simp only; omega)) (Ev.bind (zbvh _ (by omega) (by omega) (by simp only [y9]; omega)) (Ev.bind (zbvl _ (zbx9 hr) (by simp only [y9]; omega)) (Ev.cast ih ?_))))))) (fun q => rfl)
  rw [y8 hi, zbx8, entB]; simp only [y32]
theorem zbyf {s : zjh} (h : mayN s = true) : (wholeB s).length ≤ 5000 ∧ (stateB s.State).length ≤ 1310 ∧ s.Table.l.length ≤ 65 := by
 have hm := zbxv h
 have hk := zbxr (zbxs hm.2.2.1).2.2.2
 have h1 := zbx2 (s := s.State) hk.2.2.2
 have h2 := zbyc (zbxu hm.2.2.2)
 have h3 := zbxw hm.2.2.2 (by omega)
 have h4 : s.Table.l.length ≤ 65 := by
  rcases h3 with e | e
  ·omega
  ·rw [e]; simp
 have p1 := zbvg ((stateB s.State).length : Int); have p2 := zbvg (s.Table.l.length : Int)
 simp only [wholeB, y9]; omega
theorem zbyg {s : zjh} : isB (wholeB s) := zbwl.2 ⟨zbwl.2 ⟨zbwl.2 ⟨zbwk _, zbx3⟩, zbwk _⟩, zbyd⟩
theorem zbyh {s : zjh} (h : mayN s = true) : Ev (fun q => zlo q s) ⟨false, true, wholeB s⟩ := by
 have hm := zbxv h
 have hl := zbyf h
 have p1 := zbvg ((stateB s.State).length : Int); have p2 := zbvg (s.Table.l.length : Int)
 have hw := zbye s.Table.z s.Table.l (by omega) (zbxu hm.2.2.2) s.Table.l.length 0 ((put ((stateB s.State).length : Int) ++ stateB s.State) ++ put (s.Table.l.length : Int)) (by omega) (by simp only [y9]; omega)
 rw [y37] at hw
 exact Ev.succ (Ev.bind (zbx7 hm.2.2.1) (Ev.bind (zbvh ⟨true, true, []⟩ (by omega) (by simp only; omega) (by simp)) (Ev.pos (by simp only [y46]; omega) (Ev.bind (zbvh _ (by omega) (by omega) (by simp only [y46, y9]; omega)) hw)))) (fun q => rfl)
/-- Pieces of 64 bytes. -/
def chks : Nat → List Int → List (List Int)
 | 0, _ => []
 | k + 1, l => if l.length = 0 then [] else l.take 64 :: chks k (l.drop 64)
def frsB (F : List (List Int)) : List Int := (F.map encF).flatten
theorem zbyi (f : List Int) (F : List (List Int)) : frsB (f :: F) = encF f ++ frsB F := by simp [frsB]
theorem zbyj (l : List Int) : (encF l).length = (put (l.length : Int)).length + l.length + 4 := by
 simp only [encF, fix4, y9, y20, y24]; omega
theorem zbyk (s : Sl Int) (hb : isB s.l) (hl : s.l.length ≤ 1048576) : ∃ z, Ev (fun q => zlp q s) ⟨z, true, encF s.l⟩ := by
 obtain ⟨z, h⟩ := zbwm s hb hl
 exact ⟨z, Ev.succ (Ev.bind h (Ev.ret _)) (fun q => rfl)⟩
theorem min64 (n : Nat) : (if 64 < (n : Int) then 64 else (n : Int)) = ((min 64 n : Nat) : Int) := by
 split <;> omega
theorem zbyl (z : Bool) (L : List Int) (hL : L.length ≤ 1000000) (hb : isB L) : ∀ (k i n : Nat) (hz : Bool) (l : List Int), L.length = i + n → n ≤ k → l.length ≤ 1000 + 20 * i →
  ∃ z', (hz = false → z' = false) ∧ Ev (fun q => zlq q i n z L hz l true) (⟨z', true, l ++ frsB (chks k (L.drop i))⟩, 0)
 | 0, i, n, hz, l, hk, hn, hl => by
  refine ⟨hz, id, Ev.succ (Ev.ne (Ev.ret' ?_)) (fun q => rfl)⟩
  simp [chks, frsB]
 | k + 1, i, n, hz, l, hk, hn, hl => by
  by_cases h0 : n = 0
  ·refine ⟨hz, id, Ev.succ (Ev.ne (Ev.ret' ?_)) (fun q => rfl)⟩
   rw [y11 (by omega)]; simp [chks, frsB]
  ·have ht : ((L.drop i).take (min 64 n)).length = min 64 n := by rw [y19, y12]; omega
   have p := zbvg (((L.drop i).take (min 64 n)).length : Int)
   have he := zbyj ((L.drop i).take (min 64 n))
   obtain ⟨z1, hF⟩ := zbyk ⟨z, (L.drop i).take (min 64 n)⟩ (zbwx (zbwy hb _) _) (by simp only; omega)
   obtain ⟨z', hzz, ih⟩ := zbyl z L hL hb k (i + min 64 n) (n - min 64 n) (hz && (decide ((encF ((L.drop i).take (min 64 n))).length = 0))) (l ++ encF ((L.drop i).take (min 64 n))) (by omega) (by omega) (by simp only [y9]; omega)
   refine ⟨z', fun h => hzz (by rw [h]; rfl), Ev.succ (Ev.pos (by omega) ?_) (fun q => rfl)⟩
   rw [min64 n, y27]
   refine Ev.po (Ev.po (Ev.po (Ev.bind hF (Ev.pos (by simp only; omega) (Ev.po (Ev.cast ih ?_))))))
   simp only [chks]
   rw [if_neg (by rw [y12]; omega), zbyi, y32, List.drop_drop]
   by_cases hn : n ≤ 64
   ·rw [Nat.min_eq_right hn, List.take_of_length_le (by rw [y12]; omega), List.take_of_length_le (by rw [y12]; omega), y11 (l := L) (i := i + n) (by omega), y11 (l := L) (i := i + 64) (by omega)]
   ·rw [Nat.min_eq_left (by omega)]
theorem zbym (z x : Bool) (L : List Int) (hL : L.length ≤ 1000000) (hb : isB L) (hz : Bool) (l : List Int) (hl : l.length ≤ 900) :
  ∃ z', (L.length ≠ 0 → z' = false) ∧ Ev (fun q => zlr q z L x hz l true) (⟨z', true, l ++ frsB (chks L.length L)⟩, 0) := by
 by_cases h0 : L.length = 0
 ·refine ⟨hz, fun h => absurd h0 h, Ev.succ (Ev.ne (Ev.ret' ?_)) (fun q => rfl)⟩
  rw [h0]; simp [chks, frsB]
 ·have ht : (L.take (min 64 L.length)).length = min 64 L.length := by rw [y19]; omega
  have p := zbvg ((L.take (min 64 L.length)).length : Int)
  have he := zbyj (L.take (min 64 L.length))
  obtain ⟨z1, hF⟩ := zbyk ⟨z, L.take (min 64 L.length)⟩ (zbwx hb _) (by simp only; omega)
  obtain ⟨z', hzz, ih⟩ := zbyl z L hL hb (L.length - 1) (min 64 L.length) (L.length - min 64 L.length) (hz && (decide ((encF (L.take (min 64 L.length))).length = 0))) (l ++ encF (L.take (min 64 L.length))) (by omega) (by omega) (by simp only [y9]; omega)
  refine ⟨z', fun _ => hzz (by rw [decide_eq_false (by omega), Bool.and_false]), Ev.succ (Ev.pos (by omega) ?_) (fun q => rfl)⟩
  rw [min64 L.length, y27]
  refine Ev.po (Ev.po (Ev.po (Ev.bind hF (Ev.pos (by simp only; omega) (Ev.cast ih ?_)))))
  obtain ⟨m, hm⟩ : ∃ m, L.length = m + 1 := ⟨L.length - 1, by omega⟩
  have hc : chks L.length L = L.take 64 :: chks (L.length - 1) (L.drop 64) := by rw [hm]; simp only [chks]; rw [if_neg (by omega)]; rfl
  rw [hc, zbyi, y32]
  by_cases hn : L.length ≤ 64
  ·rw [Nat.min_eq_right hn, List.take_of_length_le (by omega), List.take_of_length_le hn, y11 (by omega), y11 (by omega)]
  ·rw [Nat.min_eq_left (by omega)]
/-- What the first frame tells. -/
def manB (i : Int) (w : List Int) : List Int := ((([115] ++ put 3) ++ put i) ++ put (w.length : Int)) ++ fix4 (bsum w).toNat
def snapB (s : zjh) : List Int := encF (manB s.Index (wholeB s)) ++ frsB (chks (wholeB s).length (wholeB s))
theorem zbyn (i : Int) (w : List Int) : (manB i w).length ≤ 35 := by
 have h1 := zbvg 3; have h2 := zbvg i; have h3 := zbvg (w.length : Int)
 simp only [manB, fix4, y9, y20, y24]; omega
theorem zbyo (v : Nat) : isB (fix4 v) := by
 intro c hc; simp only [fix4, List.mem_cons, List.not_mem_nil, or_false] at hc; omega
theorem zbyp (i : Int) (w : List Int) : isB (manB i w) := by
 refine zbwl.2 ⟨zbwl.2 ⟨zbwl.2 ⟨zbwl.2 ⟨?_, zbwk _⟩, zbwk _⟩, zbwk _⟩, zbyo _⟩
 intro c hc; simp only [List.mem_cons, List.not_mem_nil, or_false] at hc; omega
theorem zbyq (s : zjh) (h1 : s.State.L.l.length ≤ 1000000) (h2 : s.Table.l.length ≤ 1000000) : ∃ z, (mayN s = true → z = false) ∧ Ev (fun q => zls q s) (if mayN s = true then (⟨z, true, snapB s⟩, 0) else (⟨true, true, []⟩, 1)) := by
 by_cases h : mayN s = true
 ·have hm := zbxv h
  have hl := zbyf h
  have q1 := zbvg 3; have q2 := zbvg s.Index; have q3 := zbvg ((wholeB s).length : Int)
  have hml := zbyn s.Index (wholeB s)
  obtain ⟨z1, hF⟩ := zbyk ⟨false && (decide ((fix4 (bsum (wholeB s)).toNat).length = 0)), manB s.Index (wholeB s)⟩ (zbyp _ _) (by simp only; omega)
  have he := zbyj (manB s.Index (wholeB s)); have p := zbvg ((manB s.Index (wholeB s)).length : Int)
  obtain ⟨z, hzf, hE⟩ := zbym false true (wholeB s) (by omega) zbyg z1 (encF (manB s.Index (wholeB s))) (by omega)
  refine ⟨z, fun _ => hzf (by have : 1 ≤ (put ((stateB s.State).length : Int)).length := (by rw [put_ok (by omega) (by omega)]; exact zbvd _); simp only [wholeB, y9]; omega), ?_⟩
  rw [if_pos h]
  refine Ev.succ (Ev.bind (zbxo s h1 h2) (Ev.pos h (Ev.bind (zbyh h) (Ev.bind (zbvh ⟨false, true, [115]⟩ (by omega) (by omega) (by simp)) (Ev.bind (zbvh _ (by omega) (by omega) (by simp only [y9, y20, y24]; omega)) (Ev.bind (zbvh _ (by omega) (by simp only; omega) (by simp only [y9, y20, y24]; omega)) (Ev.bind (zbv5 ⟨false, wholeB s⟩ zbyg (by simp only; omega)) (Ev.bind (zbwc _) (Ev.pos ?_ (Ev.bind hF hE))))))))) ) (fun q => rfl)
  simp only [fix4, y9, y20, y24]; omega
 ·refine ⟨true, fun e => absurd e h, ?_⟩
  rw [if_neg h]
  exact Ev.succ (Ev.bind (zbxo s h1 h2) (Ev.neg h (Ev.ret _))) (fun q => rfl)
theorem zbyr (s : zjh) (h1 : s.State.L.l.length ≤ 1000000) (h2 : s.Table.l.length ≤ 1000000) : ∃ z, Ev (fun q => zls q s) (if mayN s = true then (⟨z, true, snapB s⟩, 0) else (⟨true, true, []⟩, 1)) := by
 obtain ⟨z, _, h⟩ := zbyq s h1 h2
 exact ⟨z, h⟩
theorem mayC : mayS ⟨0, ⟨false, [0]⟩, false, 0⟩ = true := by
 simp [mayS, kindOk, cutsB, cutI]
theorem mayD (z z2 : Bool) : mayN ⟨1, ⟨0, ⟨z, [5]⟩, false, 0⟩, ⟨z2, [⟨2, 1, 0⟩]⟩⟩ = true := by
 simp [mayN, mayS, kindOk, cutsB, cutI, tabB, entOk]
theorem zbys (z : Bool) : ∃ z', Ev (fun q => zj6 q ⟨true, []⟩ ⟨0, 2, 1, ⟨1, 5, 0⟩, 0⟩) ⟨z', true, [⟨2, 1, 0⟩]⟩ := by
 have h68 : Ev (fun q => zjy q ⟨true, []⟩) ⟨true, true, []⟩ := Ev.succ (g := fun _ => some ⟨true, true, []⟩) (Ev.ret _) (fun q => rfl)
 have hs00 : Ev (fun q => zj0 q 0 0 0 2 1 1 5 0 0 true [] true) (-1) := Ev.succ (g := fun _ => some (-1)) (Ev.ret _) (fun q => rfl)
 have hs0 : Ev (fun q => zj1 q 0 2 1 1 5 0 0 true [] true) (-1) := Ev.succ hs00 (fun q => rfl)
 have h0 : Ev (fun q => zj3 q 0 2 1 1 5 0 0 true [] true) (0, [], true) := Ev.succ (Ev.bind hs0 (Ev.pos rfl (Ev.ret _))) (fun q => rfl)
 have hs10 : Ev (fun q => zj4 q 0 0 0 0 2 1 1 5 0 0 true [] true) (-1) := Ev.succ (g := fun _ => some (-1)) (Ev.ret _) (fun q => rfl)
 have h1 : Ev (fun q => zj5 q 0 0 2 1 1 5 0 0 true [] true) (-1) := Ev.succ hs10 (fun q => rfl)
 have h72 : Ev (fun q => zjz q ⟨true, true, []⟩ 0 ⟨false, [⟨2, 1, 0⟩]⟩) ⟨false, true, [⟨2, 1, 0⟩]⟩ := by
  refine Ev.succ (g := fun _ => some ⟨false, true, [⟨2, 1, 0⟩]⟩) (Ev.ret _) (fun q => rfl)
 exact ⟨false, Ev.succ (Ev.bind h68 (Ev.bind h0 (Ev.bind h1 (Ev.po (Ev.pos rfl (Ev.bind h72 (Ev.ret _))))))) (fun q => rfl)⟩
theorem zbyt {s : zjf} {o : zjj} {n : Int} (h : s.L.l[0]? = some n) (hk : s.Kind = 0) (hc : o.Code = 1) : Ev (fun q => zj9 q s o) (⟨s.Kind, ⟨false, [cutI (wrp .i64 (n + cutI o.A))]⟩, s.Sealed, s.To⟩, n) := by
 refine Ev.succ (Ev.opt h (Ev.ne (Ev.pos hk (Ev.pos hc ?_)))) (fun q => rfl)
 exact Ev.bind (zbvm _) (Ev.bind (zbvm _) (Ev.ret _))
theorem zbyu {s : zjf} {o : zjj} {n : Int} (hm : mayS s = true) (hL : s.L.l.length ≤ 1000000) (hs : s.Sealed = false) (h : s.L.l[0]? = some n) (hk : s.Kind = 0) (hc : o.Code = 1) : Ev (fun q => zki q s o) (⟨s.Kind, ⟨false, [cutI (wrp .i64 (n + cutI o.A))]⟩, s.Sealed, s.To⟩, n) := by
 have hM := zbxk s hL
 exact Ev.succ (Ev.bind hM (Ev.pos hm (Ev.neg (by rw [hs]; simp) (Ev.ne (Ev.pos hk (Ev.bind (zbyt h hk hc) (Ev.ret _))))))) (fun q => rfl)
theorem zbyv : Ev (fun q => zki q ⟨0, ⟨false, [0]⟩, false, 0⟩ ⟨1, 5, 0⟩) (⟨0, ⟨false, [5]⟩, false, 0⟩, 0) := by
 have := zbyu (s := ⟨0, ⟨false, [0]⟩, false, 0⟩) (o := ⟨1, 5, 0⟩) (n := 0) mayC (by simp) rfl rfl rfl rfl
 have e : cutI (wrp .i64 (0 + cutI 5)) = 5 := by rw [show cutI 5 = 5 by simp [cutI], zbu7 (by omega) (by omega)]; simp [cutI]
 simp only [e] at this
 exact this
theorem zbyw {s : zjh} {r : Sl zjk} {e : zjk} {t : zjf} {n : Int} {z : Bool} {T : List zjg} (h1 : r.l[0]? = some e) (h2 : r.l.length = 1) (hi : e.Index = s.Index) (hf : FitsR e)
  (hS : Ev (fun q => zki q s.State e.Op) (t, n)) (hN : Ev (fun q => zj6 q s.Table ⟨e.Index, e.Proc, e.Seq, e.Op, n⟩) ⟨z, true, T⟩) : Ev (fun q => zkl q s r) (⟨wrp .i64 (s.Index + 1), t, ⟨z, T⟩⟩, 0) := by
 have w1 : wrp .i64 1 = 1 := zbu7 (by omega) (by omega)
 have hl : ∀ a : Int, a = 1 → Ev (fun q => zkj q r.z r.l (r.l.length : Int) a (wrp .i64 (s.Index + 1)) t.Kind t.L.z t.L.l t.Sealed t.To z T true) (⟨wrp .i64 (s.Index + 1), t, ⟨z, T⟩⟩, 0) := fun a ha =>
  Ev.succ (Ev.ne (Ev.ret _)) (fun q => rfl)
 have h0 : Ev (fun q => zkk q r.z r.l (r.l.length : Int) s.Index s.State.Kind s.State.L.z s.State.L.l s.State.Sealed s.State.To s.Table.z s.Table.l) (⟨wrp .i64 (s.Index + 1), t, ⟨z, T⟩⟩, 0) :=
  Ev.succ (Ev.po (Ev.opt h1 (Ev.pos hi (Ev.bind (zbvp e) (Ev.pos (by simpa using hf) (Ev.bind hS (Ev.bind hN (hl _ w1)))))))) (fun q => rfl)
 exact Ev.succ h0 (fun q => rfl)
theorem zbyx : ∃ z z', Ev (fun q => zkl q ⟨0, ⟨0, ⟨false, [0]⟩, false, 0⟩, ⟨true, []⟩⟩ ⟨false, [⟨0, 2, 1, ⟨1, 5, 0⟩, 0⟩]⟩) (⟨1, ⟨0, ⟨z, [5]⟩, false, 0⟩, ⟨z', [⟨2, 1, 0⟩]⟩⟩, 0) := by
 obtain ⟨z', hN⟩ := zbys true
 have w2 : wrp .i64 (0 + 1) = 1 := zbu7 (by omega) (by omega)
 have := zbyw (s := ⟨0, ⟨0, ⟨false, [0]⟩, false, 0⟩, ⟨true, []⟩⟩) (r := ⟨false, [⟨0, 2, 1, ⟨1, 5, 0⟩, 0⟩]⟩) rfl rfl rfl (by simp [FitsR, fitsOp, cutI]) zbyv hN
 simp only [w2] at this
 exact ⟨false, z', this⟩
theorem zbyy (s : zjh) : 10 < (snapB s).length := by
 have h := zbyj (manB s.Index (wholeB s))
 have g : ∀ n : Int, (put n).length = 0 ∨ 1 ≤ (put n).length := fun n => by omega
 have p3 : 1 ≤ (put 3).length := by rw [put_ok (by omega) (by omega)]; exact zbvd _
 have p4 : 1 ≤ (put ((manB s.Index (wholeB s)).length : Int)).length := by
  have := zbyn s.Index (wholeB s)
  rw [put_ok (by omega) (by omega)]; exact zbvd _
 have p5 : 1 + 1 + 4 ≤ (manB s.Index (wholeB s)).length := by simp only [manB, fix4, y9, y20, y24]; omega
 simp only [snapB, y9]; omega
theorem zbyz : Ev (fun q => zlt q) true := by
 obtain ⟨z, z', hT⟩ := zbyx
 obtain ⟨z2, hE⟩ := zbyr ⟨1, ⟨0, ⟨z, [5]⟩, false, 0⟩, ⟨z', [⟨2, 1, 0⟩]⟩⟩ (by simp) (by simp)
 rw [if_pos (mayD z z')] at hE
 have hl := zbyy ⟨1, ⟨0, ⟨z, [5]⟩, false, 0⟩, ⟨z', [⟨2, 1, 0⟩]⟩⟩
 generalize snapB ⟨1, ⟨0, ⟨z, [5]⟩, false, 0⟩, ⟨z', [⟨2, 1, 0⟩]⟩⟩ = B at hE hl
 have e1 : (⟨1, ⟨0, ⟨z, [5]⟩, false, 0⟩, ⟨z', [⟨2, 1, 0⟩]⟩⟩ : zjh).Index = 1 := rfl
 have e2 : (⟨1, ⟨0, ⟨z, [5]⟩, false, 0⟩, ⟨z', [⟨2, 1, 0⟩]⟩⟩ : zjh).Table.l = [⟨2, 1, 0⟩] := rfl
 have e3 : (⟨1, ⟨0, ⟨z, [5]⟩, false, 0⟩, ⟨z', [⟨2, 1, 0⟩]⟩⟩ : zjh).State.L.l = [5] := rfl
 generalize (⟨1, ⟨0, ⟨z, [5]⟩, false, 0⟩, ⟨z', [⟨2, 1, 0⟩]⟩⟩ : zjh) = x at hT hE e1 e2 e3
 have e4 : x.Table.l[0]? = some ⟨2, 1, 0⟩ := by rw [e2]; rfl
 have e5 : x.State.L.l[0]? = some 5 := by rw [e3]; rfl
 refine Ev.succ (Ev.bind hT (Ev.bind hE ?_)) (fun q => rfl)
 refine Ev.pos rfl (Ev.pos rfl (Ev.pos (by simp only; omega) (Ev.pos e1 (Ev.pos (by simp only [e2]; rfl) (Ev.opt e4 (Ev.pos rfl (Ev.pos rfl (Ev.pos rfl (Ev.pos (by simp only [e3]; rfl) (Ev.opt e5 (Ev.ret' (by simp))))))))))))
theorem zby0 (n : Int) : 1 ≤ (putS n).length := zbvd _
theorem zby1 {l : List Int} (hb : isB l) (h : (getN l).2 ≠ 0) : l.take (getN l).2.toNat = put (getN l).1 := by
 unfold getN at h ⊢
 cases e : rd 0 l with
 | none => simp [e] at h
 | some p =>
  simp only [e] at h ⊢
  split
  ·rename_i h2; rw [if_pos h2] at h; simp at h
  ·rename_i h2
   have := (rd_inv hb (show rd 0 l = some (p.1, p.2) from e)).1
   simp only [y27]
   rw [this, put_ok (by omega) (by omega), y27]
theorem zby2 {l : List Int} (hb : isB l) (h : (getS l).2 ≠ 0) : l.take (getS l).2.toNat = putS (getS l).1 := by
 unfold getS at h ⊢
 cases e : rd 0 l with
 | none => simp [e] at h
 | some p =>
  have := (rd_inv hb (show rd 0 l = some (p.1, p.2) from e)).1
  simp only [y27]
  rw [this, putS, zbw9]
theorem zby3 {l : List Int} (hb : isB l) (h : 0 < (getN l).2) : l = put (getN l).1 ++ l.drop (getN l).2.toNat := by
 rw [← zby1 hb (by omega), List.take_append_drop]
theorem zby4 {l : List Int} (hb : isB l) (h : 0 < (getS l).2) : l = putS (getS l).1 ++ l.drop (getS l).2.toNat := by
 rw [← zby2 hb (by omega), List.take_append_drop]
theorem zby5 : ∀ {f : Nat} {l : List Int}, isB l → ∀ d ∈ (walkF f l).1, isB d ∧ d.length ≤ 1048576
 | 0, l, hb, d, h => by simp [walkF] at h
 | f + 1, l, hb, d, h => by
  simp only [walkF] at h
  split at h
  ·simp at h
  ·split at h
   ·rename_i h1 h2
    rcases List.mem_cons.1 h with e | e
    ·rw [e]
     exact ⟨zbw1 hb, (zbw0 (l := l) (x := (decF l).1) (n := (decF l).2.1) hb (by rw [← h2])).1⟩
    ·exact zby5 (zbwy hb _) d e
   ·simp at h
theorem zby6 {l : List Int} (hb : isB l) : ∀ d ∈ (allE l).1, isB d ∧ d.length ≤ 1048576 := by
 unfold allE
 split
 ·exact zby5 hb
 ·simp
theorem zby7 : ∀ {f : Nat} {l : List Int}, isB l → l.length < f → (walkF f l).2.2 = 0 → BB (walkF f l).1 = l
 | 0, l, hb, hf, h => by omega
 | f + 1, l, hb, hf, h => by
  simp only [walkF] at h ⊢
  split at h
  ·rename_i e; rw [if_pos e]; simp [BB, e]
  ·rename_i e
   rw [if_neg e]
   split at h
   ·rename_i e2
    rw [if_pos e2]
    obtain ⟨k1, k2, k3, k4, k5⟩ := zbw0 (l := l) (x := (decF l).1) (n := (decF l).2.1) hb (by rw [← e2])
    have := zby7 (f := f) (l := l.drop (decF l).2.1.toNat) (zbwy hb _) (by rw [y12]; omega) h
    simp only [zbw8, this, k5, List.take_append_drop]
   ·rename_i e2; exact absurd h e2
theorem zby8 {l : List Int} (hb : isB l) (h : (allE l).2 = 0) : BB (allE l).1 = l := by
 unfold allE at h ⊢
 split at h
 ·rename_i e; rw [if_pos e]; exact zby7 hb (by omega) e
 ·rename_i e; exact absurd h e
theorem zby9 (F : List (List Int)) : frsB F = BB F := by simp [frsB, BB, List.flatMap]
def noS : zjf := ⟨0, ⟨true, []⟩, false, 0⟩
def nums : Nat → List Int → List Int × Bool × List Int
 | 0, b => ([], true, b)
 | k + 1, b => ((getS b).1 :: (nums k (b.drop (getS b).2.toNat)).1, decide (0 < (getS b).2) && (nums k (b.drop (getS b).2.toNat)).2.1, (nums k (b.drop (getS b).2.toNat)).2.2)
theorem zbza : ∀ {k : Nat} {b : List Int}, isB b → (nums k b).2.1 = true → b = numsB (nums k b).1 ++ (nums k b).2.2
 | 0, b, hb, h => by simp [nums, numsB]
 | k + 1, b, hb, h => by
  simp only [nums, y5, decide_eq_true_eq] at h ⊢
  rw [zbxx, y32, ← zbza (zbwy hb _) h.2]
  exact zby4 hb h.1
theorem zbzb : ∀ {k : Nat} {b : List Int}, (nums k b).1.length = k
 | 0, b => rfl
 | k + 1, b => by simp only [nums, y20, zbzb]
/-- The state that was read. -/
def stR (x y : Int) (l : List Int) : zjf := ⟨x, ⟨l.isEmpty, l⟩, decide (0 < y), if y - 1 < 0 then 0 else y - 1⟩
def stD (b : List Int) : zjf × Int :=
 let x := getN b
 let b1 := b.drop x.2.toNat
 let y := getN b1
 let b2 := b1.drop y.2.toNat
 let z := getN b2
 let b3 := b2.drop z.2.toNat
 if 0 < x.2 ∧ 0 < y.2 ∧ 0 < z.2 ∧ y.1 ≤ 3 ∧ z.1 ≤ 128 then
  if (nums z.1.toNat b3).2.1 = true ∧ (nums z.1.toNat b3).2.2 = [] then
   if mayS (stR x.1 y.1 (nums z.1.toNat b3).1) = true then (stR x.1 y.1 (nums z.1.toNat b3).1, 0) else (noS, 1)
  else (noS, 3)
 else (noS, 3)
theorem zbzc {x y : Int} {l : List Int} (hy : 0 ≤ y) : sealN (stR x y l) = y := by
 unfold sealN stR
 by_cases h : 0 < y
 ·simp only [h, decide_true, if_true]; rw [if_neg (by omega)]; omega
 ·simp only [h, decide_false, y17, if_false]; omega
theorem zbzd {b : List Int} (hb : isB b) (h : (stD b).2 = 0) : mayS (stD b).1 = true ∧ stateB (stD b).1 = b := by
 simp only [stD] at h ⊢
 split at h
 ·rename_i c
  rw [if_pos c]
  split at h
  ·rename_i c2
   rw [if_pos c2]
   split at h
   ·rename_i c3
    rw [if_pos c3]
    refine ⟨c3, ?_⟩
    have y0 := (zbwr (l := b.drop (getN b).2.toNat)).2.2.2.1
    have z0 := zbwr (l := (b.drop (getN b).2.toNat).drop (getN (b.drop (getN b).2.toNat)).2.toNat)
    have hb1 := zbwy hb (getN b).2.toNat
    have hb2 := zbwy hb1 (getN (b.drop (getN b).2.toNat)).2.toNat
    have hb3 := zbwy hb2 (getN ((b.drop (getN b).2.toNat).drop (getN (b.drop (getN b).2.toNat)).2.toNat)).2.toNat
    have e0 := zby3 hb c.1
    have e1 := zby3 hb1 c.2.1
    have e2 := zby3 hb2 c.2.2.1
    have e3 := zbza hb3 c2.1
    have hl := zbzb (k := (getN ((b.drop (getN b).2.toNat).drop (getN (b.drop (getN b).2.toNat)).2.toNat)).1.toNat) (b := ((b.drop (getN b).2.toNat).drop (getN (b.drop (getN b).2.toNat)).2.toNat).drop (getN ((b.drop (getN b).2.toNat).drop (getN (b.drop (getN b).2.toNat)).2.toNat)).2.toNat)
    rw [c2.2, List.append_nil] at e3
    simp only [stateB, zbzc y0]
    show ((put (getN b).1 ++ put _) ++ put (((nums _ _).1.length : Nat) : Int)) ++ numsB (nums _ _).1 = b
    rw [hl, Int.toNat_of_nonneg z0.2.2.2.1, ← e3, y32, y32, ← e2, ← e1, ← e0]
   ·cases h
  ·cases h
 ·cases h
def entD (b : List Int) : zjg × Int :=
 let x := getN b
 let b1 := b.drop x.2.toNat
 let y := getN b1
 let b2 := b1.drop y.2.toNat
 let z := getS b2
 (⟨x.1, y.1, z.1⟩, if x.2 = 0 then 0 else if y.2 = 0 then 0 else if z.2 = 0 then 0 else x.2 + y.2 + z.2)
theorem zbze {b : List Int} : 0 ≤ (entD b).2 ∧ (entD b).2 ≤ b.length := by
 have x := zbwr (l := b)
 have y := zbwr (l := b.drop (getN b).2.toNat)
 have z := zbxd (l := (b.drop (getN b).2.toNat).drop (getN (b.drop (getN b).2.toNat)).2.toNat)
 simp only [y12] at y z
 simp only [entD]
 split
 ·omega
 ·split
  ·omega
  ·split <;> omega
theorem drop3 (b : List Int) {i j k : Int} (h1 : 0 ≤ i) (h2 : 0 ≤ j) (h3 : 0 ≤ k) : b.drop (i + j + k).toNat = ((b.drop i.toNat).drop j.toNat).drop k.toNat := by
 rw [List.drop_drop, List.drop_drop]; congr 1; omega
theorem zbzf {b : List Int} (hb : isB b) (h : (entD b).2 ≠ 0) : b = entB (entD b).1 ++ b.drop (entD b).2.toNat := by
 have x := zbwr (l := b)
 have y := zbwr (l := b.drop (getN b).2.toNat)
 have z := zbxd (l := (b.drop (getN b).2.toNat).drop (getN (b.drop (getN b).2.toNat)).2.toNat)
 have hb1 := zbwy hb (getN b).2.toNat
 have hb2 := zbwy hb1 (getN (b.drop (getN b).2.toNat)).2.toNat
 simp only [entD] at h ⊢
 split at h
 ·exact absurd rfl h
 ·rename_i c1
  split at h
  ·exact absurd rfl h
  ·rename_i c2
   split at h
   ·exact absurd rfl h
   ·rename_i c3
    rw [if_neg c1, if_neg c2, if_neg c3]
    have e0 := zby3 hb (by omega)
    have e1 := zby3 hb1 (by omega)
    have e2 := zby4 hb2 (by omega)
    rw [drop3 b x.1 y.1 z.1]
    simp only [entB, y32]
    rw [← e2, ← e1, ← e0]
def ents : Nat → List Int → Option (List zjg × List Int)
 | 0, b => some ([], b)
 | k + 1, b => if (entD b).2 = 0 then none else match ents k (b.drop (entD b).2.toNat) with
  | none => none
  | some t => some ((entD b).1 :: t.1, t.2)
theorem zbzg : ∀ {k : Nat} {b : List Int} {t : List zjg × List Int}, isB b → ents k b = some t → b = tabE t.1 ++ t.2 ∧ t.1.length = k
 | 0, b, t, hb, h => by simp only [ents, y1] at h; subst h; simp [tabE]
 | k + 1, b, t, hb, h => by
  simp only [ents] at h
  split at h
  ·cases h
  ·rename_i c
   cases e : ents k (b.drop (entD b).2.toNat) with
   | none => simp [e] at h
   | some u =>
    simp only [e, y1] at h
    subst h
    obtain ⟨h1, h2⟩ := zbzg (zbwy hb _) e
    refine ⟨?_, by simp [h2]⟩
    simp only [zbx8, y32]
    rw [← h1]; exact zbzf hb c
def noT : zjf × List zjg := (noS, [])
def whD (w : List Int) : (zjf × List zjg) × Int :=
 if (getN w).2 = 0 then (noT, 3) else if (w.length : Int) - (getN w).2 < (getN w).1 then (noT, 3) else
 if (stD ((w.take ((getN w).2 + (getN w).1).toNat).drop (getN w).2.toNat)).2 = 3 then (noT, 3) else
 if (getN (w.drop ((getN w).2 + (getN w).1).toNat)).2 = 0 then (noT, 3) else
 if ((w.drop ((getN w).2 + (getN w).1).toNat).length : Int) < (getN (w.drop ((getN w).2 + (getN w).1).toNat)).1 then (noT, 3) else
 match ents (getN (w.drop ((getN w).2 + (getN w).1).toNat)).1.toNat ((w.drop ((getN w).2 + (getN w).1).toNat).drop (getN (w.drop ((getN w).2 + (getN w).1).toNat)).2.toNat) with
 | none => (noT, 3)
 | some t => if t.2 = [] then (((stD ((w.take ((getN w).2 + (getN w).1).toNat).drop (getN w).2.toNat)).1, t.1), (stD ((w.take ((getN w).2 + (getN w).1).toNat).drop (getN w).2.toNat)).2) else (noT, 3)
/-- A snapshot of its parts. -/
def mkN (i : Int) (p : zjf × List zjg) : zjh := ⟨i, p.1, ⟨p.2.isEmpty, p.2⟩⟩
theorem zbzh {w : List Int} (hb : isB w) (h : (whD w).2 = 0) (i : Int) : wholeB (mkN i (whD w).1) = w := by
 have hn := zbwr (l := w)
 unfold whD at h ⊢
 split at h
 ·cases h
 ·rename_i c1
  rw [if_neg c1]
  split at h
  ·cases h
  ·rename_i c2
   rw [if_neg c2]
   split at h
   ·cases h
   ·rename_i c3
    rw [if_neg c3]
    split at h
    ·cases h
    ·rename_i c4
     rw [if_neg c4]
     split at h
     ·cases h
     ·rename_i c5
      rw [if_neg c5]
      generalize hS : (w.take ((getN w).2 + (getN w).1).toNat).drop (getN w).2.toNat = X at h ⊢
      have hbX : isB X := by rw [← hS]; exact zbwy (zbwx hb _) _
      have hm := zbwr (l := w.drop ((getN w).2 + (getN w).1).toNat)
      have hbW := zbwy hb ((getN w).2 + (getN w).1).toNat
      have hXl : (X.length : Int) = (getN w).1 := by rw [← hS, y12, y19]; omega
      have hw1 : w = (put (getN w).1 ++ X) ++ w.drop ((getN w).2 + (getN w).1).toNat := by
       rw [← zby1 hb c1, ← hS]
       have e : w.take (getN w).2.toNat = (w.take ((getN w).2 + (getN w).1).toNat).take (getN w).2.toNat := by rw [List.take_take]; congr 1; omega
       rw [e, List.take_append_drop, List.take_append_drop]
      cases he : ents (getN (w.drop ((getN w).2 + (getN w).1).toNat)).1.toNat ((w.drop ((getN w).2 + (getN w).1).toNat).drop (getN (w.drop ((getN w).2 + (getN w).1).toNat)).2.toNat) with
      | none => rw [he] at h; cases h
      | some t =>
       rw [he] at h
       simp only at h ⊢
       split at h
       ·rename_i c6
        rw [if_pos c6]
        obtain ⟨h1, h2⟩ := zbzg (zbwy hbW _) he
        rw [c6, List.append_nil] at h1
        obtain ⟨_, s2⟩ := zbzd hbX h
        have e2 := zby3 hbW (by omega)
        show ((put ((stateB (stD X).1).length : Int) ++ stateB (stD X).1) ++ put ((t.1.length : Nat) : Int)) ++ tabE t.1 = w
        rw [s2, hXl, h2, Int.toNat_of_nonneg hm.2.2.2.1, ← h1, y32, ← e2]
        exact hw1.symm
       ·cases h
def manD (d : List Int) : (Int × Int × Nat) × Int :=
 let x := getN (d.drop 1)
 let d1 := (d.drop 1).drop x.2.toNat
 let y := getN d1
 let d2 := d1.drop y.2.toNat
 let z := getN d2
 let d3 := d2.drop z.2.toNat
 if d[0]? = some 115 then
  if x.2 = 0 then ((0, 0, 0), 3) else if y.2 = 0 then ((0, 0, 0), 3) else if z.2 = 0 then ((0, 0, 0), 3) else if x.1 = 3 then if d3.length = 4 then ((y.1, z.1, numB d3), 0) else ((0, 0, 0), 3) else ((0, 0, 0), 6)
 else ((0, 0, 0), 3)
theorem take4 {l : List Int} (h : l.length = 4) (hb : isB l) {v : Nat} (hv : v < 4294967296) (e : numB l = v) : l = fix4 v := (zbw3 hb h hv).1 e
theorem zbzi {d w : List Int} (hb : isB d) (h : (manD d).2 = 0) (h1 : (w.length : Int) = (manD d).1.2.1) (h2 : (bsum w).toNat = (manD d).1.2.2) : d = manB (manD d).1.1 w ∧ 0 ≤ (manD d).1.1 ∧ (manD d).1.1 < 4611686018427387904 := by
 have hb0 := zbwy hb 1
 have hb1 := zbwy hb0 (getN (d.drop 1)).2.toNat
 have hb2 := zbwy hb1 (getN ((d.drop 1).drop (getN (d.drop 1)).2.toNat)).2.toNat
 have hb3 := zbwy hb2 (getN (((d.drop 1).drop (getN (d.drop 1)).2.toNat).drop (getN ((d.drop 1).drop (getN (d.drop 1)).2.toNat)).2.toNat)).2.toNat
 have hy := zbwr (l := (d.drop 1).drop (getN (d.drop 1)).2.toNat)
 have hx := zbwr (l := d.drop 1)
 have hz := zbwr (l := ((d.drop 1).drop (getN (d.drop 1)).2.toNat).drop (getN ((d.drop 1).drop (getN (d.drop 1)).2.toNat)).2.toNat)
 simp only [manD] at h h1 h2 ⊢
 split at h
 ·rename_i c0
  rw [if_pos c0] at h1 h2 ⊢
  split at h
  ·cases h
  ·rename_i c1
   rw [if_neg c1] at h1 h2 ⊢
   split at h
   ·cases h
   ·rename_i c2
    rw [if_neg c2] at h1 h2 ⊢
    split at h
    ·cases h
    ·rename_i c3
     rw [if_neg c3] at h1 h2 ⊢
     split at h
     ·rename_i c4
      rw [if_pos c4] at h1 h2 ⊢
      split at h
      ·rename_i c5
       rw [if_pos c5] at h1 h2 ⊢
       simp only at h1 h2 ⊢
       refine ⟨?_, hy.2.2.2.1, hy.2.2.2.2⟩
       have e1 := zby3 hb0 (by omega)
       have e2 := zby3 hb1 (by omega)
       have e3 := zby3 hb2 (by omega)
       have e4 := take4 c5 hb3 (v := (bsum w).toNat) (by have := (bsum w).isLt; omega) h2.symm
       unfold manB
       rw [h1, ← c4, ← e4]
       simp only [y32]
       rw [← e3, ← e2, ← e1]
       cases d with
       | nil => simp at c0
       | cons a d => simp only [y36, y1] at c0; rw [c0]; rfl
      ·cases h
     ·cases h
 ·cases h
def cutB : List (List Int) → Bool
 | [] => true
 | [d] => decide (1 ≤ d.length) && decide (d.length ≤ 64)
 | d :: t => decide (d.length = 64) && cutB t
theorem zbzj {k : Nat} {l : List Int} (h : l.length = 0) : chks k l = [] := by
 cases k with
 | zero => rfl
 | succ k => simp only [chks]; rw [if_pos h]
theorem zbzk {k : Nat} {l : List Int} (h : l.length ≠ 0) : chks (k + 1) l = l.take 64 :: chks k (l.drop 64) := by simp only [chks]; rw [if_neg h]
theorem zbzl : ∀ {t : List (List Int)} {k : Nat}, cutB t = true → t.flatten.length ≤ k → chks k t.flatten = t
 | [], k, h, hk => zbzj rfl
 | [d], k, h, hk => by
  simp only [cutB, y5, decide_eq_true_eq] at h
  simp only [List.flatten_cons, List.flatten_nil, List.append_nil] at hk ⊢
  cases k with
  | zero => omega
  | succ k => rw [zbzk (by omega), List.take_of_length_le h.2, zbzj (by rw [y12]; omega)]
 | d :: e :: t, k, h, hk => by
  simp only [cutB, y5, decide_eq_true_eq] at h
  rw [List.flatten_cons, y9] at hk
  cases k with
  | zero => omega
  | succ k =>
   rw [List.flatten_cons, zbzk (by rw [y9]; omega), List.take_left' h.1, List.drop_left' h.1, zbzl h.2 (by omega)]
def noN : zjh := ⟨0, noS, ⟨true, []⟩⟩
def snD (b : List Int) : zjh × Int :=
 if (allE b).2 = 0 then match (allE b).1 with
  | [] => (noN, 16)
  | h :: t =>
   if (manD h).2 = 0 then
    if (t.flatten.length : Int) = (manD h).1.2.1 then
     if cutB t = true then
      if (bsum t.flatten).toNat = (manD h).1.2.2 then
       if (whD t.flatten).2 = 0 then
        if mayN (mkN (manD h).1.1 (whD t.flatten).1) = true then (mkN (manD h).1.1 (whD t.flatten).1, 0) else (noN, 1)
       else (noN, (whD t.flatten).2)
      else (noN, 4)
     else (noN, 3)
    else (noN, 16)
   else (noN, (manD h).2)
 else (noN, (allE b).2)
theorem zbzm : ∀ {t : List (List Int)}, (∀ d ∈ t, isB d) → isB t.flatten := fun h c hc => by
 obtain ⟨d, hd, hcd⟩ := List.mem_flatten.1 hc; exact h d hd c hcd
theorem zbzn {b : List Int} (hb : isB b) (h : (snD b).2 = 0) : mayN (snD b).1 = true ∧ snapB (snD b).1 = b := by
 unfold snD at h ⊢
 split at h
 ·rename_i c0
  rw [if_pos c0]
  have hf := zby8 hb c0
  have hme := zby6 hb
  cases he : (allE b).1 with
  | nil => rw [he] at h; cases h
  | cons d t =>
   rw [he] at h hf hme
   simp only at h ⊢
   split at h
   ·rename_i c1
    rw [if_pos c1]
    split at h
    ·rename_i c2
     rw [if_pos c2]
     split at h
     ·rename_i c3
      rw [if_pos c3]
      split at h
      ·rename_i c4
       rw [if_pos c4]
       split at h
       ·rename_i c5
        rw [if_pos c5]
        split at h
        ·rename_i c6
         rw [if_pos c6]
         have hbt : isB t.flatten := zbzm fun x hx => (hme x (y35 _ hx)).1
         obtain ⟨m1, m2, m3⟩ := zbzi (hme d y31).1 c1 c2 c4
         refine ⟨c6, ?_⟩
         unfold snapB
         rw [zbzh hbt c5, zby9, zbzl c3 (y13 _)]
         show encF (manB (manD d).1.1 t.flatten) ++ BB t = b
         rw [← m1, ← zbw8]; exact hf
        ·cases h
       ·rename_i c5; exact absurd h c5
      ·cases h
     ·cases h
    ·cases h
   ·rename_i c1; exact absurd h c1
 ·rename_i c0; exact absurd h c0
theorem zbzo : ∀ (a : List Int) (c : Int), numB (a ++ [c]) = numB a + c.toNat * 256 ^ a.length
 | [], c => by simp [numB]
 | x :: a, c => by
  simp only [List.cons_append, numB, zbzo a c, y20, Nat.pow_succ]
  rw [Nat.mul_add, Nat.mul_comm (256 ^ a.length) 256, ← Nat.mul_assoc, ← Nat.mul_assoc, Nat.mul_comm c.toNat 256]; omega
theorem zbzp (z : Bool) (L : List Int) (hb : isB L) (hL : L.length ≤ 8) : ∀ (k i : Nat), L.length = i + k → Ev (fun q => zlx q z L ((numB (L.take i) : Nat) : Int) (L.length : Int) (i : Int)) ((numB L : Nat) : Int)
 | 0, i, hk => Ev.succ (Ev.ne (Ev.ret' (by rw [List.take_of_length_le (by omega)]))) (fun q => rfl)
 | k + 1, i, hk => by
  have hi : i < L.length := by omega
  have hg : L[(i : Int).toNat]? = some L[i] := by simpa using y6 hi
  obtain ⟨b1, b2⟩ := hb L[i] (y25 hi)
  have ih := zbzp z L hb hL k (i + 1) (by omega)
  have hw : wrp .i64 (8 * (i : Int)) = ((8 * i : Nat) : Int) := by rw [zbu7 (by omega) (by omega)]; omega
  have hlt := zbw2 (l := L.take i) (zbwx hb _)
  rw [y19, Nat.min_eq_left (by omega)] at hlt
  have hs : numB (L.take (i + 1)) = numB (L.take i) + L[i].toNat * 256 ^ i := by
   rw [← List.take_append_getElem hi, zbzo, y19, Nat.min_eq_left (by omega)]
  have hp : 2 ^ (8 * i) = 256 ^ i := by rw [Nat.pow_mul]
  have hpb : 256 ^ i ≤ 256 ^ 7 := Nat.pow_le_pow_right (by omega) (by omega)
  have h6 : L[i].toNat * 2 ^ (8 * i) < 18446744073709551616 := by
   rw [hp]
   have h : L[i].toNat * 256 ^ i ≤ 255 * 256 ^ 7 := Nat.mul_le_mul (by omega) hpb
   simp only [Nat.reducePow] at h; omega
  have hn : numB (L.take i) < 18446744073709551616 := by
   simp only [Nat.reducePow] at hpb; omega
  have key : ibits .or .u64 ((numB (L.take i) : Nat) : Int) (ishl .u64 (wrp .u64 L[i]) (wrp .i64 (8 * (i : Int)))) = ((numB (L.take (i + 1)) : Nat) : Int) := by
   rw [hw, zbu8 b1 (by omega), show L[i] = ((L[i].toNat : Nat) : Int) by omega, ishl64 (by omega), Nat.mod_eq_of_lt (by simpa using h6), or64 hn (by simpa using h6), hs]
   congr 1
   rw [← hp] at hlt
   have := Nat.two_pow_add_eq_or_of_lt hlt L[i].toNat
   rw [Nat.or_comm, Nat.mul_comm, ← this, hp, Nat.mul_comm]; omega
  refine Ev.succ (Ev.po (Ev.po (Ev.opt hg (Ev.neg (by rw [hw]; omega) ?_)))) (fun q => rfl)
  rw [key, zbu7 (by omega) (by omega), show ((i : Int) + 1) = ((i + 1 : Nat) : Int) by omega]
  exact ih
theorem zbzq (s : Sl Int) (hb : isB s.l) (hL : s.l.length ≤ 8) : Ev (fun q => zly q s) ((numB s.l : Nat) : Int) := by
 have h := zbzp s.z s.l hb hL s.l.length 0 (by omega)
 refine Ev.succ (g := fun q => zlx q s.z s.l 0 (if 8 < (s.l.length : Int) then 8 else (s.l.length : Int)) 0) ?_ (fun q => rfl)
 rw [if_neg (show ¬ 8 < (s.l.length : Int) by omega)]; exact h
theorem zbzr (s : Sl Int) (hb : isB s.l) (hl : s.l.length ≤ 4294967296) : ∃ m, Ev (fun q => zlz q s) (m, (manD s.l).2) ∧ ((manD s.l).2 = 0 → m = ⟨(manD s.l).1.1, (manD s.l).1.2.1, (((manD s.l).1.2.2 : Nat) : Int)⟩) := by
 by_cases h0 : (s.l.length : Int) = 0
 ·have e : s.l[0]? = none := by rw [y49]; omega
  have hm : (manD s.l).2 = 3 := by simp only [manD, e]; rw [if_neg (by simp)]
  rw [hm]
  exact ⟨_, Ev.succ (Ev.pos h0 (Ev.ret _)) (fun q => rfl), fun h => by cases h⟩
 ·obtain ⟨a, he⟩ : ∃ a, s.l[0]? = some a := ⟨s.l[0]'(by omega), y6 (by omega)⟩
  obtain ⟨d, hd⟩ : ∃ d, d = s.l.drop 1 := ⟨_, rfl⟩
  have hlc : s.l.length = d.length + 1 := by rw [hd, y12]; omega
  have hb0 : isB d := by rw [hd]; exact zbwy hb 1
  have hb1 := zbwy hb0 (getN d).2.toNat
  have hb2 := zbwy hb1 (getN (d.drop (getN d).2.toNat)).2.toNat
  have hb3 := zbwy hb2 (getN ((d.drop (getN d).2.toNat).drop (getN (d.drop (getN d).2.toNat)).2.toNat)).2.toNat
  have hx := zbwr (l := d)
  have hy := zbwr (l := d.drop (getN d).2.toNat)
  have hz := zbwr (l := (d.drop (getN d).2.toNat).drop (getN (d.drop (getN d).2.toNat)).2.toNat)
  simp only [y12] at hy hz
  have hF := zbzq ⟨s.z, ((d.drop (getN d).2.toNat).drop (getN (d.drop (getN d).2.toNat)).2.toNat).drop (getN ((d.drop (getN d).2.toNat).drop (getN (d.drop (getN d).2.toNat)).2.toNat)).2.toNat⟩ hb3
  simp only [y12] at hF
  have pre : ∀ {m}, (a = 115 → Ev (fun q => (if (getN d).2 = 0 then (some ((⟨(getN (d.drop (getN d).2.toNat)).1, (getN ((d.drop (getN d).2.toNat).drop (getN (d.drop (getN d).2.toNat)).2.toNat)).1, 0⟩ : zjl), (3 : Int))) else (if (getN (d.drop (getN d).2.toNat)).2 = 0 then (some ((⟨(getN (d.drop (getN d).2.toNat)).1, (getN ((d.drop (getN d).2.toNat).drop (getN (d.drop (getN d).2.toNat)).2.toNat)).1, 0⟩ : zjl), 3)) else (if (getN ((d.drop (getN d).2.toNat).drop (getN (d.drop (getN d).2.toNat)).2.toNat)).2 = 0 then (some ((⟨(getN (d.drop (getN d).2.toNat)).1, (getN ((d.drop (getN d).2.toNat).drop (getN (d.drop (getN d).2.toNat)).2.toNat)).1, 0⟩ : zjl), 3)) else (if (getN d).1 = 3 then (if (((((s.l.length - 1) - (getN d).2.toNat) - (getN (d.drop (getN d).2.toNat)).2.toNat) - (getN ((d.drop (getN d).2.toNat).drop (getN (d.drop (getN d).2.toNat)).2.toNat)).2.toNat : Nat) : Int) = 4 then ((zly q ⟨s.z, ((d.drop (getN d).2.toNat).drop (getN (d.drop (getN d).2.toNat)).2.toNat).drop (getN ((d.drop (getN d).2.toNat).drop (getN (d.drop (getN d).2.toNat)).2.toNat)).2.toNat⟩).bind fun r5 => (some ((⟨(getN (d.drop (getN d).2.toNat)).1, (getN ((d.drop (getN d).2.toNat).drop (getN (d.drop (getN d).2.toNat)).2.toNat)).1, r5⟩ : zjl), 0))) else (some ((⟨(getN (d.drop (getN d).2.toNat)).1, (getN ((d.drop (getN d).2.toNat).drop (getN (d.drop (getN d).2.toNat)).2.toNat)).1, 0⟩ : zjl), 3))) else (some ((⟨(getN (d.drop (getN d).2.toNat)).1, (getN ((d.drop (getN d).2.toNat).drop (getN (d.drop (getN d).2.toNat)).2.toNat)).1, 0⟩ : zjl), 6))))))) m) → a = 115 → Ev (fun q => zlz q s) m := fun {m} h ha => by
   refine Ev.succ (Ev.neg h0 (Ev.opt he (Ev.pos ha (Ev.pos (by omega) ?_)))) (fun q => rfl)
   rw [← hd]
   exact Ev.bind (zbwq ⟨s.z, d⟩ hb0) (Ev.pos hx.1 (Ev.pos (by simp only; omega) (Ev.bind (zbwq ⟨s.z, d.drop (getN d).2.toNat⟩ hb1) (Ev.pos hy.1 (Ev.pos (by simp only; omega) (Ev.bind (zbwq ⟨s.z, (d.drop (getN d).2.toNat).drop (getN (d.drop (getN d).2.toNat)).2.toNat⟩ hb2) (Ev.pos hz.1 (Ev.pos (by simp only; omega) (h ha)))))))))
  by_cases ha : a = 115
  ·have hm : manD s.l = (if (getN d).2 = 0 then ((0, 0, 0), 3) else if (getN (d.drop (getN d).2.toNat)).2 = 0 then ((0, 0, 0), 3) else if (getN ((d.drop (getN d).2.toNat).drop (getN (d.drop (getN d).2.toNat)).2.toNat)).2 = 0 then ((0, 0, 0), 3) else if (getN d).1 = 3 then if (((d.drop (getN d).2.toNat).drop (getN (d.drop (getN d).2.toNat)).2.toNat).drop (getN ((d.drop (getN d).2.toNat).drop (getN (d.drop (getN d).2.toNat)).2.toNat)).2.toNat).length = 4 then (((getN (d.drop (getN d).2.toNat)).1, (getN ((d.drop (getN d).2.toNat).drop (getN (d.drop (getN d).2.toNat)).2.toNat)).1, numB (((d.drop (getN d).2.toNat).drop (getN (d.drop (getN d).2.toNat)).2.toNat).drop (getN ((d.drop (getN d).2.toNat).drop (getN (d.drop (getN d).2.toNat)).2.toNat)).2.toNat)), 0) else ((0, 0, 0), 3) else ((0, 0, 0), 6)) := by
    simp only [manD, ← hd]; rw [if_pos (by rw [he, ha])]
   rw [hm]
   by_cases c1 : (getN d).2 = 0
   ·rw [if_pos c1]; exact ⟨_, pre (fun _ => Ev.pos c1 (Ev.ret _)) ha, fun h => by cases h⟩
   ·rw [if_neg c1]
    by_cases c2 : (getN (d.drop (getN d).2.toNat)).2 = 0
    ·rw [if_pos c2]; exact ⟨_, pre (fun _ => Ev.neg c1 (Ev.pos c2 (Ev.ret _))) ha, fun h => by cases h⟩
    ·rw [if_neg c2]
     by_cases c3 : (getN ((d.drop (getN d).2.toNat).drop (getN (d.drop (getN d).2.toNat)).2.toNat)).2 = 0
     ·rw [if_pos c3]; exact ⟨_, pre (fun _ => Ev.neg c1 (Ev.neg c2 (Ev.pos c3 (Ev.ret _)))) ha, fun h => by cases h⟩
     ·rw [if_neg c3]
      by_cases c4 : (getN d).1 = 3
      ·rw [if_pos c4]
       simp only [y12]
       by_cases c5 : d.length - (getN d).2.toNat - (getN (d.drop (getN d).2.toNat)).2.toNat - (getN ((d.drop (getN d).2.toNat).drop (getN (d.drop (getN d).2.toNat)).2.toNat)).2.toNat = 4
       ·rw [if_pos c5]
        exact ⟨_, pre (fun _ => Ev.neg c1 (Ev.neg c2 (Ev.neg c3 (Ev.pos c4 (Ev.pos (by rw [hlc]; omega) (Ev.bind (hF (by omega)) (Ev.ret _))))))) ha, fun _ => rfl⟩
       ·rw [if_neg c5]
        exact ⟨_, pre (fun _ => Ev.neg c1 (Ev.neg c2 (Ev.neg c3 (Ev.pos c4 (Ev.neg (by rw [hlc]; omega) (Ev.ret _)))))) ha, fun h => by cases h⟩
      ·rw [if_neg c4]
       exact ⟨_, pre (fun _ => Ev.neg c1 (Ev.neg c2 (Ev.neg c3 (Ev.neg c4 (Ev.ret _))))) ha, fun h => by cases h⟩
  ·have hm : manD s.l = ((0, 0, 0), 3) := by
    simp only [manD]; rw [if_neg (by rw [he]; simpa using ha)]
   rw [hm]
   exact ⟨_, Ev.succ (Ev.neg h0 (Ev.opt he (Ev.neg ha (Ev.ret _)))) (fun q => rfl), fun h => by cases h⟩
theorem zbzs {L : List (Sl Int)} {i : Nat} (hi : i < L.length) : cutB ((L.map (·.l)).drop i) = (decide (1 ≤ L[i].l.length) && (decide (L[i].l.length ≤ 64) && ((decide (L[i].l.length = 64) || decide (L.length = i + 1)) && cutB ((L.map (·.l)).drop (i + 1))))) := by
 rw [← List.map_drop, ← List.map_drop, y8 hi, y33]
 by_cases h : L.length = i + 1
 ·rw [y11 (show L.length ≤ i + 1 by omega)]; simp [cutB, h]
 ·have : ∃ e u, L.drop (i + 1) = e :: u := by
   cases hd : L.drop (i + 1) with
   | nil => have := congrArg List.length hd; rw [y12, y24] at this; omega
   | cons e u => exact ⟨e, u, rfl⟩
  obtain ⟨e, u, hu⟩ := this
  rw [hu, y33]
  simp only [cutB]
  rw [decide_eq_false h, Bool.or_false]
  by_cases h4 : L[i].l.length = 64
  ·simp [h4]
  ·simp [h4]
theorem zbzt (z : Bool) (L : List (Sl Int)) (z2 : Bool) (hL : L.length ≤ 1000000000) : ∀ (k i : Nat), L.length = i + k → Ev (fun q => zl0 q z L z2 L (L.length : Int) (i : Int)) (cutB ((L.map (·.l)).drop i))
 | 0, i, hk => by
  refine Ev.succ (Ev.ne (Ev.ret' ?_)) (fun q => rfl)
  rw [y11 (by rw [y23]; omega)]; rfl
 | k + 1, i, hk => by
  have hi : i < L.length := by omega
  have he : L[((i : Int)).toNat]? = some L[i] := by simp [hi]
  have ih := zbzt z L z2 hL k (i + 1) (by omega)
  rw [show ((i + 1 : Nat) : Int) = wrp .i64 ((i : Int) + 1) by rw [zbu7 (by omega) (by omega)]; omega] at ih
  have w : wrp .i64 ((L.length : Int) - 1) = (L.length : Int) - 1 := zbu7 (by omega) (by omega)
  rw [zbzs hi]
  refine Ev.succ (Ev.po (Ev.po (Ev.opt he (Ev.ite (fun c1 => Ev.ret' ?_) fun c1 => Ev.ite (fun c2 => Ev.ret' ?_) fun c2 => Ev.ite (fun c3 => Ev.ite (fun c4 => Ev.ret' ?_) fun c4 => Ev.cast ih ?_) fun c3 => Ev.cast ih ?_)))) (fun q => rfl)
  ·rw [decide_eq_false (show ¬ 1 ≤ L[i].l.length by omega)]; rfl
  ·rw [decide_eq_false (show ¬ L[i].l.length ≤ 64 by omega)]; simp
  ·rw [w] at c4
   rw [decide_eq_false (show ¬ L[i].l.length = 64 by omega), decide_eq_false (show ¬ L.length = i + 1 by omega)]; simp
  ·rw [w] at c4
   rw [decide_eq_true (show 1 ≤ L[i].l.length by omega), decide_eq_true (show L[i].l.length ≤ 64 by omega), decide_eq_true (show L.length = i + 1 by omega)]; simp
  ·rw [decide_eq_true (show 1 ≤ L[i].l.length by omega), decide_eq_true (show L[i].l.length ≤ 64 by omega), decide_eq_true (show L[i].l.length = 64 by omega)]; simp
theorem zbzu (s : Sl (Sl Int)) (hL : s.l.length ≤ 1000000000) : Ev (fun q => zl1 q s) (cutB (s.l.map (·.l))) :=
 Ev.succ (zbzt s.z s.l s.z hL s.l.length 0 (by omega)) (fun q => rfl)
theorem zbzv (z : Bool) {l : List Int} (hb : isB l) : Ev (fun q => zks q ⟨z, l⟩) (getN l) := zbwq ⟨z, l⟩ hb
theorem zbzw (z : Bool) {l : List Int} (hb : isB l) : Ev (fun q => zk8 q ⟨z, l⟩) (getS l) := zbxc ⟨z, l⟩ hb
def stE (fine : Bool) (k : Nat) (b acc : List Int) (x : Int) (sl : Bool) (to : Int) : zjf × Int :=
 if fine = true ∧ (nums k b).2.1 = true ∧ (nums k b).2.2 = [] then
  if mayS ⟨x, ⟨false, acc ++ (nums k b).1⟩, sl, to⟩ = true then (⟨x, ⟨false, acc ++ (nums k b).1⟩, sl, to⟩, 0) else (noS, 1)
 else (noS, 3)
theorem zbzx (fine : Bool) (k : Nat) (b acc : List Int) (x : Int) (sl : Bool) (to : Int) : stE fine (k + 1) b acc x sl to = stE (fine && decide (0 < (getS b).2)) k (b.drop (getS b).2.toNat) (acc ++ [(getS b).1]) x sl to := by
 by_cases h : 0 < (getS b).2
 ·rw [decide_eq_true h, Bool.and_true]
  unfold stE
  simp only [nums, decide_eq_true h, y59, y32, List.singleton_append]
 ·rw [decide_eq_false h, Bool.and_false]
  unfold stE
  rw [if_neg (by simp [nums, h]), if_neg (by simp)]
theorem zbzy (z : Bool) (x : Int) (sl : Bool) (to : Int) (m : Nat) (hm : m ≤ 128) : ∀ (k i : Nat) (b : List Int) (fine : Bool) (acc : List Int), m = i + k → acc.length = i → isB b →
  Ev (fun q => zl2 q (m : Int) (i : Int) z b fine x sl to acc) (stE fine k b acc x sl to)
 | 0, i, b, fine, acc, hk, ha, hb => by
  unfold stE
  simp only [nums, List.append_nil]
  refine Ev.succ (Ev.ne (Ev.ite (fun c1 => Ev.ite (fun c2 => Ev.ret' ?_) fun c2 => Ev.bind (zbxk _ (by simp only; omega)) (Ev.ite (fun c3 => Ev.ret' ?_) fun c3 => Ev.ret' ?_)) fun c1 => Ev.ret' ?_)) (fun q => rfl)
  ·rw [if_neg (by rintro ⟨_, _, e⟩; rw [e] at c2; simp at c2)]; rfl
  ·rw [if_pos ⟨c1, trivial, y34 (by omega)⟩, if_pos c3]
  ·rw [if_pos ⟨c1, trivial, y34 (by omega)⟩, if_neg c3]; rfl
  ·rw [if_neg (fun e => c1 e.1)]; rfl
 | k + 1, i, b, fine, acc, hk, ha, hb => by
  have hs := zbxd (l := b)
  have ih := fun f => zbzy z x sl to m hm k (i + 1) (b.drop (getS b).2.toNat) f (acc ++ [(getS b).1]) (by omega) (by rw [y9, List.length_singleton]; omega) (zbwy hb _)
  rw [show ((i + 1 : Nat) : Int) = wrp .i64 ((i : Int) + 1) by rw [zbu7 (by omega) (by omega)]; omega] at ih
  rw [zbzx]
  refine Ev.succ (Ev.po (Ev.bind (zbzw z hb) (Ev.ite (fun c => ?_) fun c => ?_))) (fun q => rfl)
  ·rw [c, y59]
   exact Ev.pos hs.1 (Ev.pos hs.2.1 (Ev.po (ih _)))
  ·have c' : fine = false := by simpa using c
   rw [c', Bool.false_and]
   exact Ev.pos hs.1 (Ev.pos hs.2.1 (Ev.po (ih _)))
theorem zbzz (z : Bool) (x : Int) (sl : Bool) (to : Int) (m : Nat) (hm : m ≤ 128) (b : List Int) (hb : isB b) :
  Ev (fun q => zl3 q (m : Int) z b true x sl to) (if (nums m b).2.1 = true ∧ (nums m b).2.2 = [] then if mayS ⟨x, ⟨(nums m b).1.isEmpty, (nums m b).1⟩, sl, to⟩ = true then (⟨x, ⟨(nums m b).1.isEmpty, (nums m b).1⟩, sl, to⟩, 0) else (noS, 1) else (noS, 3)) := by
 by_cases h0 : m = 0
 ·have hn : nums m b = ([], true, b) := by rw [h0]; rfl
  simp only [hn, List.isEmpty_nil]
  refine Ev.succ (Ev.ne (Ev.pos rfl (Ev.ite (fun c2 => Ev.ret' ?_) fun c2 => Ev.bind (zbxk _ (by simp)) (Ev.ite (fun c3 => Ev.ret' ?_) fun c3 => Ev.ret' ?_)))) (fun q => rfl)
  ·rw [if_neg (by rintro ⟨_, e⟩; rw [e] at c2; simp at c2)]; rfl
  ·rw [if_pos ⟨trivial, y34 (by omega)⟩, if_pos c3]
  ·rw [if_pos ⟨trivial, y34 (by omega)⟩, if_neg c3]; rfl
 ·obtain ⟨k, hk⟩ : ∃ k, m = k + 1 := ⟨m - 1, by omega⟩
  have hs := zbxd (l := b)
  have ih := zbzy z x sl to m hm k 1 (b.drop (getS b).2.toNat) (decide (0 < (getS b).2)) [(getS b).1] (by omega) rfl (zbwy hb _)
  rw [show ((1 : Nat) : Int) = wrp .i64 1 by rw [zbu7 (by omega) (by omega)]; rfl] at ih
  refine Ev.succ (Ev.po (Ev.bind (zbzw z hb) (Ev.pos rfl (Ev.pos hs.1 (Ev.pos hs.2.1 (Ev.cast ih ?_)))))) (fun q => rfl)
  have e := zbzx true k b [] x sl to
  rw [y59, y46] at e
  rw [← e, hk]
  unfold stE
  by_cases c : (nums (k + 1) b).2.1 = true ∧ (nums (k + 1) b).2.2 = []
  ·rw [if_pos ⟨rfl, c⟩, if_pos c]; rfl
  ·rw [if_neg (fun e => c e.2), if_neg c]
theorem zbz0 (s : Sl Int) (hb : isB s.l) (hl : s.l.length ≤ 1000000) : Ev (fun q => zl4 q s) (stD s.l) := by
 have hx := zbwr (l := s.l)
 have hy := zbwr (l := s.l.drop (getN s.l).2.toNat)
 have hz := zbwr (l := (s.l.drop (getN s.l).2.toNat).drop (getN (s.l.drop (getN s.l).2.toNat)).2.toNat)
 simp only [y12] at hy hz
 have hb1 := zbwy hb (getN s.l).2.toNat
 have hb2 := zbwy hb1 (getN (s.l.drop (getN s.l).2.toNat)).2.toNat
 have hb3 := zbwy hb2 (getN ((s.l.drop (getN s.l).2.toNat).drop (getN (s.l.drop (getN s.l).2.toNat)).2.toNat)).2.toNat
 have g1 := zbwq s hb
 have g2 := zbzv s.z hb1
 have g3 := zbzv s.z hb2
 simp only [stD]
 have hl0 := zbzz s.z (getN s.l).1 (decide (0 < (getN (s.l.drop (getN s.l).2.toNat)).1)) (if (getN (s.l.drop (getN s.l).2.toNat)).1 - 1 < 0 then 0 else (getN (s.l.drop (getN s.l).2.toNat)).1 - 1) (getN ((s.l.drop (getN s.l).2.toNat).drop (getN (s.l.drop (getN s.l).2.toNat)).2.toNat)).1.toNat
 rw [show ((((getN ((s.l.drop (getN s.l).2.toNat).drop (getN (s.l.drop (getN s.l).2.toNat)).2.toNat)).1.toNat : Nat)) : Int) = (getN ((s.l.drop (getN s.l).2.toNat).drop (getN (s.l.drop (getN s.l).2.toNat)).2.toNat)).1 by omega] at hl0
 have w : wrp .i64 ((getN (s.l.drop (getN s.l).2.toNat)).1 - 1) = (getN (s.l.drop (getN s.l).2.toNat)).1 - 1 := zbu7 (by omega) (by omega)
 refine Ev.succ (Ev.bind g1 (Ev.pos hx.1 (Ev.pos hx.2.1 (Ev.bind g2 (Ev.ite (fun c1 => Ev.pos hy.1 (Ev.po (Ev.bind g3 (Ev.ite (fun c2 => Ev.pos hz.1 (Ev.po (Ev.ite (fun c3 => Ev.ite (fun c4 => Ev.ret' ?_) fun c4 => Ev.ite (fun c5 => Ev.ret' ?_) fun c5 => ?_) fun c3 => Ev.ret' ?_))) fun c2 => Ev.pos hz.1 (Ev.po (Ev.ret' ?_)))))) fun c1 => Ev.pos hy.1 (Ev.po (Ev.bind g3 (Ev.pos hz.1 (Ev.po (Ev.ret' ?_)))))))))) (fun q => rfl)
 ·rw [if_neg (by omega)]; rfl
 ·rw [if_neg (by omega)]; rfl
 ·rw [w, if_pos (And.intro c1 (And.intro c2 (And.intro c3 (And.intro (Int.not_lt.1 c4) (Int.not_lt.1 c5))))), decide_eq_true c3]
  exact hl0 (by omega) _ hb3
 ·rw [if_neg (by omega)]; rfl
 ·rw [if_neg (by omega)]; rfl
 ·rw [if_neg (by omega)]; rfl
theorem zbz1 (s : Sl Int) (hb : isB s.l) : Ev (fun q => zl5 q s) (entD s.l) := by
 have hx := zbwr (l := s.l)
 have hy := zbwr (l := s.l.drop (getN s.l).2.toNat)
 have hz := zbxd (l := (s.l.drop (getN s.l).2.toNat).drop (getN (s.l.drop (getN s.l).2.toNat)).2.toNat)
 simp only [y12] at hy
 have hb1 := zbwy hb (getN s.l).2.toNat
 have hb2 := zbwy hb1 (getN (s.l.drop (getN s.l).2.toNat)).2.toNat
 have g1 := zbwq s hb
 have g2 := zbzv s.z hb1
 have g3 := zbzw s.z hb2
 simp only [entD]
 refine Ev.succ (Ev.bind g1 (Ev.pos hx.1 (Ev.pos hx.2.1 (Ev.bind g2 (Ev.pos hy.1 (Ev.po (Ev.bind g3 (Ev.ite (fun c1 => Ev.ret' ?_) fun c1 => Ev.ite (fun c2 => Ev.ret' ?_) fun c2 => Ev.ite (fun c3 => Ev.ret' ?_) fun c3 => Ev.ret' ?_)))))))) (fun q => rfl)
 ·rw [if_pos c1]
 ·rw [if_neg c1, if_pos c2]
 ·rw [if_neg c1, if_neg c2, if_pos c3]
 ·rw [if_neg c1, if_neg c2, if_neg c3]
  rw [zbu7 (x := (getN s.l).2 + _) (by omega) (by omega), zbu7 (by omega) (by omega)]
/-- What becomes of a table's bytes. -/
def enE (k : Nat) (b : List Int) (e : Int) : Int := match ents k b with
 | none => 3
 | some t => if t.2 = [] then e else 3
theorem zbz2 (z : Bool) (e : Int) (x : Int) (lz : Bool) (ll : List Int) (sl : Bool) (to : Int) (m : Nat) (hm : m ≤ 1000000) : ∀ (k i : Nat) (b : List Int) (acc : List zjg), m = i + k → acc.length = i → isB b → b.length ≤ 1000000 →
  ∃ r, Ev (fun q => zl6 q z b e (m : Int) (i : Int) x lz ll sl to acc) (r, enE k b e) ∧ (∀ t, ents k b = some t → t.2 = [] → r = ⟨0, ⟨x, ⟨lz, ll⟩, sl, to⟩, ⟨false, acc ++ t.1⟩⟩)
 | 0, i, b, acc, hk, ha, hb, hl => by
  unfold enE
  simp only [ents, y1]
  by_cases c : b = []
  ·rw [if_pos c]
   refine ⟨_, Ev.succ (Ev.ne (Ev.neg (by rw [c]; simp) (Ev.ret _))) (fun q => rfl), fun t ht _ => ?_⟩
   subst ht; simp
  ·rw [if_neg c]
   have : 0 < b.length := List.length_pos_iff.2 c
   refine ⟨_, Ev.succ (Ev.ne (Ev.po (Ev.ret _))) (fun q => rfl), fun t ht h2 => ?_⟩
   subst ht; exact absurd h2 c
 | k + 1, i, b, acc, hk, ha, hb, hl => by
  have he := zbze (b := b)
  obtain ⟨r, h1, h2⟩ := zbz2 z e x lz ll sl to m hm k (i + 1) (b.drop (entD b).2.toNat) (acc ++ [(entD b).1]) (by omega) (by rw [y9, List.length_singleton]; omega) (zbwy hb _) (by rw [y12]; omega)
  rw [show ((i + 1 : Nat) : Int) = wrp .i64 ((i : Int) + 1) by rw [zbu7 (by omega) (by omega)]; omega] at h1
  unfold enE at h1 ⊢
  simp only [ents]
  by_cases c : (entD b).2 = 0
  ·rw [if_pos c]
   exact ⟨_, Ev.succ (Ev.po (Ev.bind (zbz1 ⟨z, b⟩ hb) (Ev.pos c (Ev.ret _)))) (fun q => rfl), fun t ht => by cases ht⟩
  ·rw [if_neg c]
   refine ⟨r, Ev.succ (Ev.po (Ev.bind (zbz1 ⟨z, b⟩ hb) (Ev.neg c (Ev.po (Ev.pos he.1 (Ev.pos he.2 (Ev.cast h1 ?_))))))) (fun q => rfl), ?_⟩
   ·cases ents k (b.drop (entD b).2.toNat) <;> rfl
   ·intro t ht h3
    cases hq : ents k (b.drop (entD b).2.toNat) with
    | none => rw [hq] at ht; cases ht
    | some u =>
     rw [hq] at ht
     simp only [y1] at ht
     subst ht
     rw [h2 u hq h3]; simp
theorem zbz3 (z : Bool) (e : Int) (st : zjf) (m : Nat) (hm : m ≤ 1000000) (b : List Int) (hb : isB b) (hl : b.length ≤ 1000000) :
  ∃ r, Ev (fun q => zl7 q z b e (m : Int) st.Kind st.L.z st.L.l st.Sealed st.To) (r, enE m b e) ∧ (∀ t, ents m b = some t → t.2 = [] → r = mkN 0 (st, t.1)) := by
 by_cases h0 : m = 0
 ·have hn : ents m b = some ([], b) := by rw [h0]; rfl
  unfold enE
  simp only [hn, y1]
  by_cases c : b = []
  ·rw [if_pos c]
   refine ⟨_, Ev.succ (Ev.ne (Ev.neg (by rw [c]; simp) (Ev.ret _))) (fun q => rfl), fun t ht _ => ?_⟩
   subst ht; rfl
  ·rw [if_neg c]
   have : 0 < b.length := List.length_pos_iff.2 c
   refine ⟨_, Ev.succ (Ev.ne (Ev.po (Ev.ret _))) (fun q => rfl), fun t ht h2 => ?_⟩
   subst ht; exact absurd h2 c
 ·obtain ⟨k, hk⟩ : ∃ k, m = k + 1 := ⟨m - 1, by omega⟩
  have he := zbze (b := b)
  obtain ⟨r, h1, h2⟩ := zbz2 z e st.Kind st.L.z st.L.l st.Sealed st.To m hm k 1 (b.drop (entD b).2.toNat) [(entD b).1] (by omega) rfl (zbwy hb _) (by rw [y12]; omega)
  rw [show ((1 : Nat) : Int) = wrp .i64 1 by rw [zbu7 (by omega) (by omega)]; rfl] at h1
  unfold enE at h1 ⊢
  have hE : ents m b = if (entD b).2 = 0 then none else match ents k (b.drop (entD b).2.toNat) with | none => none | some t => some ((entD b).1 :: t.1, t.2) := by rw [hk]; rfl
  rw [hE]
  by_cases c : (entD b).2 = 0
  ·rw [if_pos c]
   exact ⟨_, Ev.succ (Ev.po (Ev.bind (zbz1 ⟨z, b⟩ hb) (Ev.pos c (Ev.ret _)))) (fun q => rfl), fun t ht => by cases ht⟩
  ·rw [if_neg c]
   refine ⟨r, Ev.succ (Ev.po (Ev.bind (zbz1 ⟨z, b⟩ hb) (Ev.neg c (Ev.pos he.1 (Ev.pos he.2 (Ev.cast h1 ?_)))))) (fun q => rfl), ?_⟩
   ·cases ents k (b.drop (entD b).2.toNat) <;> rfl
   ·intro t ht h3
    cases hq : ents k (b.drop (entD b).2.toNat) with
    | none => rw [hq] at ht; cases ht
    | some u =>
     rw [hq] at ht
     simp only [y1] at ht
     subst ht
     rw [h2 u hq h3]; rfl
theorem zbz4 (s : Sl Int) (hb : isB s.l) (hl : s.l.length ≤ 1000000) : ∃ r, Ev (fun q => zl8 q s) (r, (whD s.l).2) ∧ ((whD s.l).2 = 0 → r = mkN 0 (whD s.l).1) := by
 have hn := zbwr (l := s.l)
 have g1 := zbwq s hb
 unfold whD
 by_cases c1 : (getN s.l).2 = 0
 ·rw [if_pos c1]; exact ⟨_, Ev.succ (Ev.bind g1 (Ev.pos c1 (Ev.ret _))) (fun q => rfl), fun h => by cases h⟩
 ·rw [if_neg c1]
  have w1 : wrp .i64 ((s.l.length : Int) - (getN s.l).2) = (s.l.length : Int) - (getN s.l).2 := zbu7 (by omega) (by omega)
  by_cases c2 : (s.l.length : Int) - (getN s.l).2 < (getN s.l).1
  ·rw [if_pos c2]; exact ⟨_, Ev.succ (Ev.bind g1 (Ev.neg c1 (Ev.pos (by rw [w1]; exact c2) (Ev.ret _)))) (fun q => rfl), fun h => by cases h⟩
  ·rw [if_neg c2]
   have w2 : wrp .i64 ((getN s.l).2 + (getN s.l).1) = (getN s.l).2 + (getN s.l).1 := zbu7 (by omega) (by omega)
   generalize hX : (s.l.take ((getN s.l).2 + (getN s.l).1).toNat).drop (getN s.l).2.toNat = X
   generalize hW : s.l.drop ((getN s.l).2 + (getN s.l).1).toNat = W
   have hbX : isB X := by rw [← hX]; exact zbwy (zbwx hb _) _
   have hlX : X.length ≤ 1000000 := by rw [← hX, y12, y19]; omega
   have hbW : isB W := by rw [← hW]; exact zbwy hb _
   have hlW : W.length = s.l.length - ((getN s.l).2 + (getN s.l).1).toNat := by rw [← hW, y12]
   have hm := zbwr (l := W)
   have hS := zbz0 ⟨s.z, X⟩ hbX hlX
   have hG := zbzv s.z hbW
   have pre : ∀ {r : zjh × Int}, Ev (fun q => (zl4 q ⟨s.z, X⟩).bind fun r2 => (if r2.2 = 3 then (some ((⟨0, (⟨0, ⟨true, []⟩, false, 0⟩ : zjf), ⟨true, []⟩⟩ : zjh), r2.2)) else (if 0 ≤ (getN s.l).2 + (getN s.l).1 then (if (getN s.l).2 + (getN s.l).1 ≤ (s.l.length : Int) then ((zks q ⟨s.z, W⟩).bind fun r3 => (if r3.2 = 0 then (some ((⟨0, (⟨0, ⟨true, []⟩, false, 0⟩ : zjf), ⟨true, []⟩⟩ : zjh), 3)) else (if (((s.l.length - ((getN s.l).2 + (getN s.l).1).toNat) : Nat) : Int) < r3.1 then (some ((⟨0, (⟨0, ⟨true, []⟩, false, 0⟩ : zjf), ⟨true, []⟩⟩ : zjh), 3)) else (if 0 ≤ r3.2 then (if r3.2 ≤ (((s.l.length - ((getN s.l).2 + (getN s.l).1).toNat) : Nat) : Int) then (zl7 q s.z (List.drop r3.2.toNat W) r2.2 r3.1 r2.1.Kind r2.1.L.z r2.1.L.l r2.1.Sealed r2.1.To) else none) else none)))) else none) else none))) r → Ev (fun q => zl8 q s) r := fun {r} h => by
    refine Ev.succ (Ev.bind g1 (Ev.neg c1 (Ev.neg (by rw [w1]; exact c2) (Ev.pos hn.1 (Ev.pos (by rw [w2]; omega) (Ev.pos (by rw [w2]; omega) ?_)))))) (fun q => rfl)
    rw [w2, hX, hW]; exact h
   by_cases c3 : (stD X).2 = 3
   ·rw [if_pos c3]; exact ⟨_, pre (Ev.bind hS (Ev.pos c3 (Ev.ret' (by rw [c3])))), fun h => by cases h⟩
   ·rw [if_neg c3]
    by_cases c4 : (getN W).2 = 0
    ·rw [if_pos c4]; exact ⟨_, pre (Ev.bind hS (Ev.neg c3 (Ev.po (Ev.po (Ev.bind hG (Ev.pos c4 (Ev.ret _))))))), fun h => by cases h⟩
    ·rw [if_neg c4]
     by_cases c5 : (W.length : Int) < (getN W).1
     ·rw [if_pos c5]; exact ⟨_, pre (Ev.bind hS (Ev.neg c3 (Ev.po (Ev.po (Ev.bind hG (Ev.neg c4 (Ev.po (Ev.ret _)))))))), fun h => by cases h⟩
     ·rw [if_neg c5]
      obtain ⟨r, h1, h2⟩ := zbz3 s.z (stD X).2 (stD X).1 (getN W).1.toNat (by omega) (W.drop (getN W).2.toNat) (zbwy hbW _) (by rw [y12]; omega)
      rw [show ((((getN W).1.toNat : Nat)) : Int) = (getN W).1 by omega] at h1
      refine ⟨r, pre (Ev.bind hS (Ev.neg c3 (Ev.po (Ev.po (Ev.bind hG (Ev.neg c4 (Ev.ne (Ev.pos hm.1 (Ev.po (Ev.cast h1 ?_)))))))))), ?_⟩
      ·unfold enE
       cases ents (getN W).1.toNat (W.drop (getN W).2.toNat) with
       | none => rfl
       | some t => simp only; split <;> rfl
      ·intro h
       cases he : ents (getN W).1.toNat (W.drop (getN W).2.toNat) with
       | none => rw [he] at h; cases h
       | some t =>
        rw [he] at h
        simp only at h ⊢
        split at h
        ·rename_i c6
         rw [if_pos c6]; exact h2 t he c6
        ·cases h
theorem zbz5 (l : List (Sl Int)) : flat l = (l.map (·.l)).flatten := by simp [flat, List.flatMap]
theorem zbz6 : ∀ D : List (List Int), D.flatten.length ≤ (BB D).length ∧ D.length ≤ (BB D).length
 | [] => by simp
 | d :: D => by
  have h := zbz6 D
  have e := zbyj d
  rw [zbw8, List.flatten_cons, y9, y9, y20]; omega
theorem zbz7 {b : List Int} (hb : isB b) : (allE b).1.flatten.length ≤ b.length ∧ (allE b).1.length ≤ b.length := by
 by_cases h : (allE b).2 = 0
 ·have := zbz6 (allE b).1; rw [zby8 hb h] at this; exact this
 ·unfold allE at h ⊢
  split
  ·rename_i e; rw [if_pos e] at h; exact absurd rfl h
  ·simp
theorem zbz8 (s : Sl Int) (hz : s.z = true → s.l = []) (hb : isB s.l) (hl : s.l.length ≤ 1000000) : Ev (fun q => zl9 q s) (snD s.l) := by
 obtain ⟨z, X, hA, hX⟩ := zbw7 s hz hb (by omega)
 have hme := zby6 hb
 have hlo := zbz7 hb
 unfold snD
 by_cases c0 : (allE s.l).2 = 0
 ·rw [if_pos c0]
  rw [← hX] at hme hlo ⊢
  rw [c0] at hA
  by_cases hx : X.length = 0
  ·have hX0 : X = [] := y34 hx
   refine Ev.succ (Ev.bind hA (Ev.pos rfl (Ev.pos (by simp only; omega) (Ev.ret' ?_)))) (fun q => rfl)
   rw [hX0]; rfl
  ·obtain ⟨e, he⟩ : ∃ e, X[0]? = some e := ⟨X[0]'(by omega), y6 (by omega)⟩
   obtain ⟨T, hT⟩ : ∃ T, T = X.drop 1 := ⟨_, rfl⟩
   have hXe : X = e :: T := by
    cases X with
    | nil => simp at hx
    | cons a X => simp only [y36, y1] at he; rw [hT, he]; rfl
   have hml : X.map (·.l) = e.l :: T.map (·.l) := by rw [hXe, y33]
   rw [hml] at hme hlo ⊢
   dsimp only
   have hbe := hme e.l y31
   have hbt : isB (T.map (·.l)).flatten := zbzm fun d hd => (hme d (y35 _ hd)).1
   have hTl : T.length ≤ 1000000 := by have := hlo.2; rw [y20, y23] at this; omega
   have hTf : (T.map (·.l)).flatten.length ≤ 1000000 := by have := hlo.1; rw [List.flatten_cons, y9] at this; omega
   obtain ⟨m, hM, hm⟩ := zbzr e hbe.1 (by omega)
   obtain ⟨z', hC⟩ := zbwi ⟨z, T⟩ (by simp only; omega) (by simp only [zbz5]; omega)
   simp only [zbz5] at hC
   have hK := zbzu ⟨z, T⟩ (by simp only; omega)
   generalize (T.map (·.l)).flatten = w at hbt hTf hC ⊢
   have hS := zbv5 ⟨z', w⟩ hbt (by simp only; omega)
   obtain ⟨r, hR, hr⟩ := zbz4 ⟨z', w⟩ hbt hTf
   simp only at hS hR hr hK
   have pre : ∀ {x : zjh × Int}, Ev (fun q => (zlz q e).bind fun r3 => (if r3.2 = 0 then (if 1 ≤ X.length then ((zli q ⟨z, T⟩).bind fun r4 => (if (r4.xs.length : Int) = r3.1.size then ((zl1 q ⟨z, T⟩).bind fun r5 => (if r5 = true then ((zky q ⟨r4.n, r4.xs⟩).bind fun r6 => (if (wrp .u64 r6) = r3.1.sum then ((zl8 q ⟨r4.n, r4.xs⟩).bind fun r7 => (if r7.2 = 0 then ((zjw q (⟨r3.1.index, r7.1.State, r7.1.Table⟩ : zjh)).bind fun r8 => (if r8 = true then (some ((⟨r3.1.index, r7.1.State, r7.1.Table⟩ : zjh), 0)) else (some ((⟨0, (⟨0, ⟨true, []⟩, false, 0⟩ : zjf), ⟨true, []⟩⟩ : zjh), 1)))) else (some ((⟨0, (⟨0, ⟨true, []⟩, false, 0⟩ : zjf), ⟨true, []⟩⟩ : zjh), r7.2)))) else (some ((⟨0, (⟨0, ⟨true, []⟩, false, 0⟩ : zjf), ⟨true, []⟩⟩ : zjh), 4)))) else (some ((⟨0, (⟨0, ⟨true, []⟩, false, 0⟩ : zjf), ⟨true, []⟩⟩ : zjh), 3)))) else (some ((⟨0, (⟨0, ⟨true, []⟩, false, 0⟩ : zjf), ⟨true, []⟩⟩ : zjh), 16)))) else none) else (some ((⟨0, (⟨0, ⟨true, []⟩, false, 0⟩ : zjf), ⟨true, []⟩⟩ : zjh), r3.2)))) x → Ev (fun q => zl9 q s) x := fun {x} h => by
    refine Ev.succ (Ev.bind hA ?_) (fun q => rfl)
    refine Ev.pos rfl (Ev.neg (by simp only; omega) (Ev.pos (by simp only; omega) (Ev.opt he ?_)))
    rw [hT] at h; exact h
   have hn : noN = (⟨0, (⟨0, ⟨true, []⟩, false, 0⟩ : zjf), ⟨true, []⟩⟩ : zjh) := rfl
   simp only [hn]
   refine pre (Ev.bind hM ?_)
   refine Ev.ite (fun c1 => ?_) fun c1 => Ev.ret' (by simp only at c1; rw [if_neg c1])
   simp only at c1
   have hm := hm c1
   subst hm
   rw [if_pos c1]
   refine Ev.po (Ev.bind hC (Ev.ite (fun c2 => ?_) fun c2 => Ev.ret' (by simp only at c2; rw [if_neg c2])))
   simp only at c2
   rw [if_pos c2]
   refine Ev.bind hK (Ev.ite (fun c3 => ?_) fun c3 => Ev.ret' (by rw [if_neg c3]))
   rw [if_pos c3]
   have hw : wrp .u64 (u (bsum w)) = (((bsum w).toNat : Nat) : Int) := by rw [zbu8 (u_nn _) (by have := u_lt (bsum w); omega)]; rfl
   refine Ev.bind hS (Ev.ite (fun c4 => ?_) fun c4 => Ev.ret' (by rw [hw] at c4; simp only at c4; rw [if_neg (fun e => c4 (by rw [e]))]))
   rw [hw] at c4
   simp only at c4
   rw [if_pos (by omega)]
   refine Ev.bind hR (Ev.ite (fun c5 => ?_) fun c5 => Ev.ret' (by simp only at c5; rw [if_neg c5]))
   simp only at c5
   have hr := hr c5
   subst hr
   rw [if_pos c5]
   have hiv := zbzh hbt c5 0
   have hbnd : (whD w).1.1.L.l.length ≤ 1000000 ∧ (whD w).1.2.length ≤ 1000000 := by
    have hst : (stateB (whD w).1.1).length ≤ w.length := by
     have : (stateB (whD w).1.1).length ≤ (wholeB (mkN 0 (whD w).1)).length := by simp only [wholeB, mkN, y9]; omega
     rw [hiv] at this; exact this
    have htb : (tabE (whD w).1.2).length ≤ w.length := by
     have : (tabE (whD w).1.2).length ≤ (wholeB (mkN 0 (whD w).1)).length := by simp only [wholeB, mkN, y9]; omega
     rw [hiv] at this; exact this
    have g1 : ∀ l : List Int, l.length ≤ (numsB l).length := fun l => by
     induction l with
     | nil => simp
     | cons a l ih => have := zby0 a; rw [zbxx, y9, y20]; omega
    have g2 : ∀ l : List zjg, l.length ≤ (tabE l).length := fun l => by
     induction l with
     | nil => simp
     | cons e l ih => have := zby0 e.Resp; rw [zbx8, y9, y20]; simp only [entB, y9]; omega
    have h1 := g1 (whD w).1.1.L.l
    have h2 := g2 (whD w).1.2
    simp only [stateB, y9] at hst
    omega
   refine Ev.bind (zbxo (mkN (manD e.l).1.1 (whD w).1) hbnd.1 hbnd.2) (Ev.ite (fun c6 => Ev.ret' ?_) fun c6 => Ev.ret' ?_)
   ·rw [if_pos c6]; rfl
   ·rw [if_neg c6]
 ·rw [if_neg c0]
  exact Ev.succ (Ev.bind hA (Ev.neg c0 (Ev.ret _))) (fun q => rfl)
theorem zbz9 {s : zjh} (h : mayN s = true) : s.State.L.l.length ≤ 1000000 ∧ s.Table.l.length ≤ 1000000 := by
 have hm := zbxv h
 have hk := zbxr (zbxs hm.2.2.1).2.2.2
 have := zbyf h
 omega
theorem zb0a : ∀ (a0 : (Sl Int)), okSl (fun x => inR .u8 x) a0 → ∃ q, zma q a0 = some true := by
 intro s hs
 have hb := isB_of hs
 refine Ev.get (Ev.succ (Ev.bind zbyz (Ev.ite (fun h => Ev.ret _) fun h => Ev.bind (zbz8 s hs.1 hb (by omega)) (Ev.ite (fun c => ?_) fun c => Ev.ret _))) (fun q => rfl))
 obtain ⟨h1, h2⟩ := zbzn hb c
 have hbd := zbz9 h1
 obtain ⟨z, hE⟩ := zbyr (snD s.l).1 hbd.1 hbd.2
 rw [if_pos h1] at hE
 refine Ev.bind hE (Ev.pos rfl (Ev.pos rfl (Ev.pos h2 (Ev.bind (zbxo _ hbd.1 hbd.2) (Ev.ret' h1)))))
end Go.Dvm.I
