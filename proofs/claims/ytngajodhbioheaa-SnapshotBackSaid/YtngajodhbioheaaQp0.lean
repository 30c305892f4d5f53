/- Plain laws of the functions: part 1. -/
import Derived.Test.YtngajodhbioheaaQi
set_option linter.all false
set_option maxRecDepth 100000
namespace Go.Dvm.I
open Go Go.Dvm
/-- With enough rounds. -/
def Ev {R : Type} (g : Nat → Option R) (r : R) : Prop := ∃ N, ∀ q, N ≤ q → g q = some r
section
variable {R S : Type}
theorem Ev.ret (r : R) : Ev (fun _ => some r) r := ⟨0, fun _ _ => rfl⟩
theorem Ev.ret' {r r' : R} (h : r = r') : Ev (fun _ => some r) r' := ⟨0, fun _ _ => by rw [h]⟩
theorem Ev.succ {f g : Nat → Option R} {r : R} (h : Ev g r) (e : ∀ q, f (q + 1) = g q) : Ev f r := by
 obtain ⟨N, h⟩ := h
 refine ⟨N + 1, fun q hq => ?_⟩
 obtain ⟨q, rfl⟩ : ∃ p, q = p + 1 := ⟨q - 1, by omega⟩
 rw [e]; exact h q (by omega)
theorem Ev.bind {g : Nat → Option S} {k : Nat → S → Option R} {s : S} {r : R} (h : Ev g s) (h2 : Ev (fun q => k q s) r) : Ev (fun q => (g q).bind (k q)) r := by
 obtain ⟨N, h⟩ := h
 obtain ⟨M, h2⟩ := h2
 exact ⟨N + M, fun q hq => by show (g q).bind (k q) = some r; rw [h q (by omega), y4]; exact h2 q (by omega)⟩
theorem Ev.opt {o : Option S} {k : Nat → S → Option R} {s : S} {r : R} (h : o = some s) (h2 : Ev (fun q => k q s) r) : Ev (fun q => o.bind (k q)) r := by
 subst h; exact h2
theorem Ev.pos {c : Prop} [Decidable c] {a b : Nat → Option R} {r : R} (hc : c) (h : Ev a r) : Ev (fun q => if c then a q else b q) r := by
 obtain ⟨N, h⟩ := h
 exact ⟨N, fun q hq => by show (if c then a q else b q) = some r; rw [if_pos hc]; exact h q hq⟩
theorem Ev.neg {c : Prop} [Decidable c] {a b : Nat → Option R} {r : R} (hc : ¬ c) (h : Ev b r) : Ev (fun q => if c then a q else b q) r := by
 obtain ⟨N, h⟩ := h
 exact ⟨N, fun q hq => by show (if c then a q else b q) = some r; rw [if_neg hc]; exact h q hq⟩
theorem Ev.po {c : Prop} [Decidable c] {a b : Nat → Option R} {r : R} (h : Ev a r) (hc : c := by omega) : Ev (fun q => if c then a q else b q) r := Ev.pos hc h
theorem Ev.ne {c : Prop} [Decidable c] {a b : Nat → Option R} {r : R} (h : Ev b r) (hc : ¬ c := by omega) : Ev (fun q => if c then a q else b q) r := Ev.neg hc h
theorem Ev.ite {c : Prop} [Decidable c] {a b : Nat → Option R} {r : R} (h1 : c → Ev a r) (h2 : ¬ c → Ev b r) : Ev (fun q => if c then a q else b q) r := by
 by_cases hc : c
 ·exact .pos hc (h1 hc)
 ·exact .neg hc (h2 hc)
theorem Ev.get {f : Nat → Option R} {r : R} (h : Ev f r) : ∃ q, f q = some r := by
 obtain ⟨N, h⟩ := h; exact ⟨N, h N (y13 _)⟩
theorem Ev.cast {f : Nat → Option R} {r r' : R} (h : Ev f r) (e : r = r') : Ev f r' := e ▸ h
end
theorem zbxy {x : Int} (h1 : -9223372036854775808 ≤ x) (h2 : x ≤ 9223372036854775807) : wrp .i64 x = x := by
 unfold wrp; simp [IntKind.wrap, IntKind.min, IntKind.max, IntKind.signed, IntKind.bits] <;> omega
theorem zbxz {x : Int} (h1 : 0 ≤ x) (h2 : x ≤ 18446744073709551615) : wrp .u64 x = x := by
 unfold wrp; simp [IntKind.wrap, IntKind.min, IntKind.max, IntKind.signed, IntKind.bits] <;> omega
theorem zbx0 {x : Int} (h1 : 0 ≤ x) (h2 : x ≤ 4294967295) : wrp .u32 x = x := by
 unfold wrp; simp [IntKind.wrap, IntKind.min, IntKind.max, IntKind.signed, IntKind.bits] <;> omega
theorem wrp_u8 (x : Int) : wrp .u8 x = x % 256 := by
 unfold wrp; simp [IntKind.wrap, IntKind.min, IntKind.max, IntKind.signed, IntKind.bits] <;> omega
theorem zbx1 {x : Int} (h1 : 0 ≤ x) : ishr .u64 x 7 = x / 128 := by
 unfold ishr; simp [IntKind.bits]
 rw [y52]; omega
theorem or128 {x : Int} (h1 : 0 ≤ x) (h2 : x < 256) : ibits .or .u8 x 128 = x % 128 + 128 := by
 obtain ⟨n, rfl⟩ := Int.eq_ofNat_of_zero_le h1
 have hn : n < 256 := by omega
 have : ∀ m : Fin 256, ibits .or .u8 (m.val : Int) 128 = (m.val : Int) % 128 + 128 := by unfold ibits; decide +kernel
 exact this ⟨n, hn⟩
/-- A number's groups. -/
def grp (n : Nat) : List Int := if h : n < 128 then [(n : Int)] else ((n % 128 + 128 : Nat) : Int) :: grp (n / 128)
theorem grp_lt {n : Nat} (h : n < 128) : grp n = [(n : Int)] := by rw [grp, dif_pos h]
theorem grp_ge {n : Nat} (h : ¬ n < 128) : grp n = ((n % 128 + 128 : Nat) : Int) :: grp (n / 128) := by rw [grp, dif_neg h]
theorem zbx2 : ∀ (k : Nat) {n : Nat}, n < 128 ^ (k + 1) → (grp n).length ≤ k + 1
 | 0, n, h => by rw [grp_lt (by simpa using h)]; simp
 | k + 1, n, h => by
  by_cases hn : n < 128
  ·rw [grp_lt hn]; simp
  ·rw [grp_ge hn]
   have := zbx2 k (n := n / 128) (by rw [Nat.div_lt_iff_lt_mul (by omega)]; rw [Nat.pow_succ] at h; exact h)
   simp; omega
theorem zbx3 {n : Nat} (h : n < 18446744073709551616) : (grp n).length ≤ 10 := zbx2 9 (by omega)
theorem zbx4 (n : Nat) : 1 ≤ (grp n).length := by
 by_cases hn : n < 128
 ·rw [grp_lt hn]; simp
 ·rw [grp_ge hn]; simp
theorem zbx5 : ∀ (n : Nat) (z : Bool) (l : List Int) (x : Bool), l.length + (grp n).length ≤ 4294967296 → Ev (fun q => zlk q (n : Int) z l x) ⟨false, x, l ++ grp n⟩ := by
 intro n
 induction n using Nat.strongRecOn with
 | ind n ih =>
  intro z l x hl
  refine Ev.succ ?_ (fun q => rfl)
  by_cases hn : n < 128
  ·rw [grp_lt hn] at hl ⊢
   refine Ev.ne (Ev.pos (by simpa using hl) (Ev.ret' ?_))
   rw [wrp_u8]; congr 3; omega
  ·rw [grp_ge hn] at hl ⊢
   simp only [y20] at hl
   refine Ev.po (Ev.pos (by omega) ?_)
   rw [zbx1 (by omega), wrp_u8, or128 (by omega) (by omega)]
   have := ih (n / 128) (by omega) false (l ++ [((n % 128 + 128 : Nat) : Int)]) x (by simp; omega)
   rw [show ((n : Int) % 256 % 128 + 128) = ((n % 128 + 128 : Nat) : Int) by omega, show ((n : Int) / 128) = ((n / 128 : Nat) : Int) by omega]
   simpa using this
theorem zbx6 {u : Int} (h1 : 0 ≤ u) (b : Ow Int) (hl : b.xs.length + (grp u.toNat).length ≤ 4294967296) : Ev (fun q => zll q b u) ⟨false, b.x, b.xs ++ grp u.toNat⟩ := by
 have := zbx5 u.toNat b.n b.xs b.x hl
 rw [Int.toNat_of_nonneg h1] at this
 exact Ev.succ this (fun q => rfl)
/-- What a number puts behind bytes. -/
def put (n : Int) : List Int := if n < 0 then [] else if 4611686018427387904 ≤ n then [] else grp n.toNat
theorem put_ok {n : Int} (h1 : 0 ≤ n) (h2 : n < 4611686018427387904) : put n = grp n.toNat := by
 unfold put; rw [if_neg (by omega), if_neg (by omega)]
theorem zbx7 (n : Int) : (put n).length ≤ 10 := by
 unfold put; split
 ·simp
 ·split
  ·simp
  ·exact zbx3 (by omega)
theorem zbx8 {n : Int} (b : Ow Int) (h1 : 0 ≤ n) (h2 : n < 4611686018427387904) (hl : b.xs.length + 10 ≤ 4294967296) : Ev (fun q => zlm q b n) ⟨false, b.x, b.xs ++ put n⟩ := by
 refine Ev.succ ?_ (fun q => rfl)
 rw [put_ok h1 h2]
 have hg := zbx3 (n := n.toNat) (by omega)
 refine Ev.ne (Ev.neg (by omega) ?_)
 rw [zbxz h1 (by omega)]
 exact Ev.bind (zbx6 h1 b (by omega)) (Ev.ret _)
/-- Zigzag. -/
def zig (n : Int) : Nat := if 0 ≤ n then 2 * n.toNat else 2 * (-n).toNat - 1
theorem zig_lt {n : Int} (h : inR .i64 n) : zig n < 18446744073709551616 := by
 simp [inR, IntKind.min, IntKind.max, IntKind.signed, IntKind.bits] at h
 unfold zig; split <;> omega
def putS (n : Int) : List Int := grp (zig n)
theorem zbx9 (k : IntKind) (n : Int) : k.wrap n = wrp k n := by unfold wrp; rfl
theorem xor0 {x : Int} (h1 : 0 ≤ x) (h2 : x < 18446744073709551616) : ibits .xor .u64 x 0 = x := by
 have e : ibits .xor .u64 x 0 = IntKind.wrap .u64 (((BitVec.ofInt 64 x ^^^ 0#64 : BitVec 64).toNat : Nat) : Int) := by unfold ibits; rfl
 rw [e, BitVec.xor_zero, y48, zbx9, zbxz] <;> omega
theorem xor1 {x : Int} (h1 : 0 ≤ x) (h2 : x < 18446744073709551616) : ibits .xor .u64 x 18446744073709551615 = 18446744073709551615 - x := by
 have e : ibits .xor .u64 x 18446744073709551615 = IntKind.wrap .u64 (((BitVec.ofInt 64 x ^^^ BitVec.allOnes 64 : BitVec 64).toNat : Nat) : Int) := by unfold ibits; rfl
 rw [e, BitVec.xor_allOnes, BitVec.toNat_not, y48, zbx9, zbxz] <;> omega
theorem ishl1 {x : Int} (h1 : 0 ≤ x) : ishl .u64 x 1 = (2 * x) % 18446744073709551616 := by
 unfold ishl
 simp [IntKind.wrap, IntKind.signed, IntKind.bits]
 omega
theorem zbya (x : Int) : wrp .u64 x = x % 18446744073709551616 := by
 unfold wrp; simp [IntKind.wrap, IntKind.signed, IntKind.bits]
theorem ishr63 {x : Int} (h : inR .i64 x) : ishr .i64 x 63 = if 0 ≤ x then 0 else -1 := by
 simp [inR, IntKind.min, IntKind.max, IntKind.signed, IntKind.bits] at h
 unfold ishr; simp [IntKind.bits]
 rw [y52 _ (by omega)]
 split <;> omega
theorem zbyb {n : Int} (h : inR .i64 n) : Ev (fun q => zln q n) ((zig n : Nat) : Int) := by
 refine Ev.succ (Ev.ret' ?_) (fun q => rfl)
 have hr := h
 simp [inR, IntKind.min, IntKind.max, IntKind.signed, IntKind.bits] at hr
 rw [ishr63 h]
 by_cases h0 : 0 ≤ n
 ·rw [if_pos h0, zbxz h0 (by omega), ishl1 h0, zbxz (by omega) (by omega), xor0 (by omega) (by omega)]
  unfold zig; rw [if_pos h0]; omega
 ·rw [if_neg h0, zbya n, ishl1 (by omega), show wrp .u64 (-1) = 18446744073709551615 by rw [zbya]; rfl, xor1 (by omega) (by omega)]
  unfold zig; rw [if_neg h0]; omega
theorem zbyc {n : Int} (b : Ow Int) (h : inR .i64 n) (hl : b.xs.length + 10 ≤ 4294967296) : Ev (fun q => zlo q b n) ⟨false, b.x, b.xs ++ putS n⟩ := by
 refine Ev.succ ?_ (fun q => rfl)
 have hg := zbx3 (zig_lt h)
 have := zbx6 (u := (zig n : Nat)) (by omega) b (by simpa using (by omega : b.xs.length + (grp (zig n)).length ≤ 4294967296))
 rw [y27] at this
 exact Ev.bind (zbyb h) (Ev.bind this (Ev.ret _))
def cutI (n : Int) : Int := if n < -1099511627776 then -1099511627776 else if 1099511627776 < n then 1099511627776 else n
theorem zbyd (n : Int) : Ev (fun q => zjp q n) (cutI n) := by
 refine Ev.succ (Ev.ret' ?_) (fun q => rfl)
 unfold cutI; split <;> split <;> split <;> (try split) <;> omega
def fitsOp (o : zjm) : Bool := decide (0 ≤ o.Code) && (decide (o.Code ≤ 10) && (decide (o.A = cutI o.A) && decide (o.B = cutI o.B)))
theorem zbye (o : zjm) : Ev (fun q => zki q o) (fitsOp o) := by
 refine Ev.succ ?_ (fun q => rfl)
 unfold fitsOp
 refine Ev.ite (fun h => Ev.ite (fun h1 => Ev.bind (zbyd _) (Ev.ite (fun h2 => Ev.bind (zbyd _) (Ev.ret' ?_)) fun h2 => Ev.ret' ?_)) fun h1 => Ev.ret' ?_) fun h => Ev.ret' ?_
 ·rw [decide_eq_true h, decide_eq_true h1, decide_eq_true h2]; rfl
 ·rw [decide_eq_true h, decide_eq_true h1, decide_eq_false h2]; rfl
 ·rw [decide_eq_true h, decide_eq_false h1]; rfl
 ·rw [decide_eq_false h]; rfl
theorem zbyf {n : Int} : n = cutI n ↔ -1099511627776 ≤ n ∧ n ≤ 1099511627776 := by
 unfold cutI
 by_cases h1 : n < -1099511627776
 ·rw [if_pos h1]; omega
 ·rw [if_neg h1]
  by_cases h2 : 1099511627776 < n
  ·rw [if_pos h2]; omega
  ·rw [if_neg h2]; omega
def FitsR (r : zjn) : Prop := 0 ≤ r.Index ∧ r.Index < 4611686018427387904 ∧ 0 ≤ r.Proc ∧ r.Proc ≤ 64 ∧ 0 ≤ r.Seq ∧ r.Seq < 4611686018427387904 ∧ fitsOp r.Op = true ∧ -1125899906842624 ≤ r.Resp ∧ r.Resp ≤ 1125899906842624
instance (r : zjn) : Decidable (FitsR r) := by unfold FitsR; infer_instance
theorem zbyg (r : zjn) : Ev (fun q => zkj q r) (decide (FitsR r)) := by
 refine Ev.succ ?_ (fun q => rfl)
 refine Ev.ite (fun h1 => Ev.ite (fun h2 => Ev.ite (fun h3 => Ev.ite (fun h4 => Ev.ite (fun h5 => Ev.ite (fun h6 => Ev.bind (zbye _) (Ev.ite (fun h7 => Ev.ite (fun h8 => Ev.ret' ?_) fun h8 => Ev.ret' ?_) fun h7 => Ev.ret' ?_)) fun h6 => Ev.ret' ?_) fun h5 => Ev.ret' ?_) fun h4 => Ev.ret' ?_) fun h3 => Ev.ret' ?_) fun h2 => Ev.ret' ?_) fun h1 => Ev.ret' ?_ <;> simp only [FitsR, *] <;> simp
theorem zbyh {n : Int} (h : inR .i64 n) : (putS n).length ≤ 10 := zbx3 (zig_lt h)
theorem zbyi {n : Int} (h1 : -9223372036854775808 ≤ n) (h2 : n ≤ 9223372036854775807) : inR .i64 n := by
 simp [inR, IntKind.min, IntKind.max, IntKind.signed, IntKind.bits]; omega
abbrev B32 := BitVec 32
def u (a : B32) : Int := (a.toNat : Int)
theorem u_nn (a : B32) : 0 ≤ u a := Int.natCast_nonneg _
theorem u_lt (a : B32) : u a < 4294967296 := by unfold u; have := a.isLt; omega
theorem zbyj (a : B32) : BitVec.ofInt 32 (u a) = a := by
 apply BitVec.eq_of_toNat_eq; rw [y48]; unfold u; have := a.isLt; omega
theorem wrp_u (a : B32) : IntKind.wrap .u32 ((a.toNat : Nat) : Int) = u a := by
 have := a.isLt
 rw [zbx9, zbx0 (by omega) (by omega)]; rfl
theorem xor_u (a b : B32) : ibits .xor .u32 (u a) (u b) = u (a ^^^ b) := by
 have e : ibits .xor .u32 (u a) (u b) = IntKind.wrap .u32 (((BitVec.ofInt 32 (u a) ^^^ BitVec.ofInt 32 (u b) : B32).toNat : Nat) : Int) := by unfold ibits; rfl
 rw [e, zbyj, zbyj, wrp_u]
theorem and_u (a b : B32) : ibits .and .u32 (u a) (u b) = u (a &&& b) := by
 have e : ibits .and .u32 (u a) (u b) = IntKind.wrap .u32 (((BitVec.ofInt 32 (u a) &&& BitVec.ofInt 32 (u b) : B32).toNat : Nat) : Int) := by unfold ibits; rfl
 rw [e, zbyj, zbyj, wrp_u]
theorem u_lit (n : Nat) (h : n < 4294967296) : u (BitVec.ofNat 32 n) = (n : Int) := by
 unfold u; rw [BitVec.toNat_ofNat]; omega
theorem zbyk (x : Int) : wrp .u32 x = x % 4294967296 := by
 unfold wrp; simp [IntKind.wrap, IntKind.signed, IntKind.bits]
theorem ishr_u (a : B32) (k : Nat) (hk : k ≤ 32) : ishr .u32 (u a) (k : Int) = u (a >>> k) := by
 unfold ishr u
 simp only [IntKind.bits, y27, Nat.min_eq_left hk]
 rw [y52 _ (by exact_mod_cast Nat.zero_le _), BitVec.toNat_ushiftRight, Nat.shiftRight_eq_div_pow]
 simp
theorem zbyl (a : B32) : ishr .u32 (u a) 1 = u (a >>> 1) := ishr_u a 1 (by omega)
theorem zbym (a : B32) : ishr .u32 (u a) 8 = u (a >>> 8) := ishr_u a 8 (by omega)
def poly : B32 := 2197175160#32
def bstep (a : B32) : B32 := if a &&& 1#32 = 1#32 then (a >>> 1) ^^^ poly else a >>> 1
theorem and1 (a : B32) : a &&& 1#32 = 0#32 ∨ a &&& 1#32 = 1#32 := by
 have : (a &&& 1#32).toNat = a.toNat % 2 := by rw [BitVec.toNat_and]; exact Nat.and_one_is_mod _
 rcases Nat.mod_two_eq_zero_or_one a.toNat with h | h
 ·left; exact BitVec.eq_of_toNat_eq (by rw [this, h]; rfl)
 ·right; exact BitVec.eq_of_toNat_eq (by rw [this, h]; rfl)
/-- The program's step. -/
theorem zbyn (a : B32) : ibits .xor .u32 (ishr .u32 (u a) 1) (ibits .and .u32 2197175160 (wrp .u32 (0 - (ibits .and .u32 (u a) 1)))) = u (bstep a) := by
 have e1 : (1 : Int) = u 1#32 := rfl
 have e2 : (2197175160 : Int) = u poly := by unfold poly; rw [u_lit _ (by omega)]; rfl
 rw [zbyl]
 conv => lhs; arg 4; rw [e2]; arg 4; rw [e1, and_u]
 unfold bstep
 rcases and1 a with h | h
 ·rw [h, if_neg (by decide)]
  have : wrp .u32 (0 - u 0#32) = u 0#32 := by rw [zbyk]; rfl
  rw [this, and_u, BitVec.and_zero, xor_u, BitVec.xor_zero]
 ·rw [h, if_pos rfl]
  have : wrp .u32 (0 - u 1#32) = u (BitVec.allOnes 32) := by rw [zbyk]; rfl
  rw [this, and_u, BitVec.and_allOnes, xor_u]
def biter : Nat → B32 → B32
 | 0, a => a
 | n + 1, a => biter n (bstep a)
def bentry (a : B32) : B32 := biter 8 a
theorem zbyo (v2 v5 : Int) (t0 t1 : List Int) (r : List Int) : ∀ (k : Nat) (a : B32) (v10 : Int), v10 = 8 - k → k ≤ 8 → 0 ≤ v2 → v2.toNat < 256 → v2.toNat + 1 ≤ t1.length →
  Ev (fun q => zk4 q (wrp .i64 (v5 + 1)) t0 (List.set t1 v2.toNat (u (biter k a)))) r → Ev (fun q => zk5 q v2 (u a) v5 v10 t0 t1) r
 | 0, a, v10, h1, h2, h3, h4, h5, h => Ev.succ (Ev.ne (Ev.pos h3 (Ev.pos h4 (Ev.pos h5 h)))) (fun q => rfl)
 | k + 1, a, v10, h1, h2, h3, h4, h5, h => by
  refine Ev.succ (Ev.pos (by omega) ?_) (fun q => rfl)
  rw [zbyn, zbxy (by omega) (by omega)]
  exact zbyo v2 v5 t0 t1 r k (bstep a) (v10 + 1) (by omega) (by omega) h3 h4 h5 h
/-- The table. -/
def tabN (n : Nat) : List Int := (List.range n).map fun i => u (bentry (BitVec.ofNat 32 i))
theorem zbyp {n i : Nat} (h : i < n) : (tabN n)[i]? = some (u (bentry (BitVec.ofNat 32 i))) := by
 unfold tabN; rw [y41, List.getElem?_range h]; rfl
theorem zbyq (n : Nat) : (tabN n).length = n := by simp [tabN]
theorem zbyr : ∀ (k i : Nat) (t1 : List Int), i + k = 256 → t1.length = 256 → (∀ j, j < i → t1[j]? = (tabN 256)[j]?) → Ev (fun q => zk4 q (i : Int) (List.replicate 256 0) t1) (tabN 256)
 | 0, i, t1, hk, hl, ht => by
  refine Ev.succ (Ev.ne (Ev.po (Ev.po (Ev.pos (by simp) (Ev.pos (by simp) (Ev.ret' ?_)))))) (fun q => rfl)
  have e : t1 = tabN 256 := by
   apply List.ext_getElem?
   intro j
   by_cases hj : j < 256
   ·exact ht j (by omega)
   ·rw [y49 (by omega), y49 (by rw [zbyq]; omega)]
  have h2 := zbyq 256
  rw [e, List.take_of_length_le (i := 256) (by omega : (tabN 256).length ≤ 256), y11 (by simp), List.append_nil, List.take_of_length_le (by omega)]
 | k + 1, i, t1, hk, hl, ht => by
  refine Ev.succ (Ev.pos (by omega) ?_) (fun q => rfl)
  have e : wrp .u32 (i : Int) = u (BitVec.ofNat 32 i) := by rw [u_lit _ (by omega), zbx0] <;> omega
  rw [e]
  refine zbyo _ _ _ _ _ 8 _ 0 (by omega) (by omega) (by omega) (by omega) (by omega) ?_
  rw [zbxy (by omega) (by omega), show ((i : Int) + 1) = ((i + 1 : Nat) : Int) by omega, y27]
  refine zbyr k (i + 1) _ (by omega) (by simpa using hl) fun j hj => ?_
  by_cases e : i = j
  ·subst e; rw [y22 (by omega), zbyp (by omega)]; rfl
  ·rw [y28 e]; exact ht j (by omega)
theorem zbys : Ev (fun q => zk6 q) (tabN 256) :=
 Ev.succ (zbyr 256 0 (List.replicate 256 0) (by omega) (by simp) (fun j hj => by omega)) (fun q => rfl)
/-- What a byte makes of a sum. -/
def bbyte (x : B32) (c : Int) : B32 := bentry ((x ^^^ BitVec.ofInt 32 c) &&& 255#32) ^^^ (x >>> 8)
def bmore (x : B32) (l : List Int) : B32 := l.foldl bbyte x
def isB (l : List Int) : Prop := ∀ c ∈ l, 0 ≤ c ∧ c < 256
theorem xor8 {x : B32} {c : Int} (h1 : 0 ≤ c) (h2 : c < 256) : ibits .xor .u8 (wrp .u8 (u x)) c = u ((x ^^^ BitVec.ofInt 32 c) &&& 255#32) := by
 have e : ibits .xor .u8 (wrp .u8 (u x)) c = IntKind.wrap .u8 (((BitVec.ofInt 8 (wrp .u8 (u x)) ^^^ BitVec.ofInt 8 c : BitVec 8).toNat : Nat) : Int) := by unfold ibits; rfl
 rw [e, zbx9, wrp_u8, wrp_u8]
 unfold u
 rw [BitVec.toNat_and, BitVec.toNat_xor, BitVec.toNat_xor, y48, y48, y48]
 obtain ⟨n, rfl⟩ := Int.eq_ofNat_of_zero_le h1
 have hn : n < 256 := by omega
 have e1 : (((x.toNat : Int) % 256 % ((2 ^ 8 : Nat) : Int)).toNat) = x.toNat % 256 := by omega
 have e2 : (((n : Int) % ((2 ^ 8 : Nat) : Int)).toNat) = n := by omega
 have e3 : (((n : Int) % ((2 ^ 32 : Nat) : Int)).toNat) = n := by omega
 rw [e1, e2, e3, show (255#32).toNat = 2 ^ 8 - 1 from rfl, Nat.and_two_pow_sub_one_eq_mod]
 have h3 : (x.toNat ^^^ n) % 2 ^ 8 = (x.toNat % 2 ^ 8) ^^^ (n % 2 ^ 8) := Nat.xor_mod_two_pow
 rw [h3, Nat.mod_eq_of_lt (show n < 2 ^ 8 by omega)]
 have h4 : (x.toNat % 2 ^ 8) ^^^ n < 2 ^ 8 := Nat.xor_lt_two_pow (Nat.mod_lt _ (by omega)) (by omega)
 simp only [Nat.reducePow] at h4 ⊢
 omega
theorem and255 (x : B32) : u (x &&& 255#32) < 256 := by
 unfold u
 rw [BitVec.toNat_and, show (255#32).toNat = 2 ^ 8 - 1 from rfl, Nat.and_two_pow_sub_one_eq_mod]; omega
theorem zbyt (a : B32) : (u a).toNat = a.toNat := by unfold u; omega
theorem ones : (4294967295 : Int) = u (BitVec.allOnes 32) := rfl
theorem zbyu (z : Bool) (l : List Int) (hb : isB l) (hl : l.length ≤ 1099511627776) : ∀ (k i : Nat) (x : B32), l.length = i + k → Ev (fun q => zk7 q (u x) z l (l.length : Int) (i : Int) (tabN 256)) (u (~~~ bmore x (l.drop i)))
 | 0, i, x, hk => by
  refine Ev.succ (Ev.ne (Ev.ret' ?_)) (fun q => rfl)
  rw [y11 (by omega), ones, xor_u]
  simp only [bmore, List.foldl_nil, BitVec.allOnes_xor]
 | k + 1, i, x, hk => by
  have hi : i < l.length := by omega
  have hg : l[(i : Int).toNat]? = some l[i] := by simpa using y6 hi
  obtain ⟨b1, b2⟩ := hb l[i] (y25 hi)
  refine Ev.succ (Ev.po (Ev.po (Ev.opt hg ?_))) (fun q => rfl)
  rw [xor8 b1 b2]
  have h255 := and255 (x ^^^ BitVec.ofInt 32 l[i])
  have hnn := u_nn ((x ^^^ BitVec.ofInt 32 l[i]) &&& 255#32)
  refine Ev.pos hnn (Ev.po (Ev.opt (zbyp (by omega)) ?_))
  rw [zbym, xor_u, zbxy (by omega) (by omega), show ((i : Int) + 1) = ((i + 1 : Nat) : Int) by omega, zbyt]
  have := zbyu z l hb hl k (i + 1) (bentry ((x ^^^ BitVec.ofInt 32 l[i]) &&& 255#32) ^^^ (x >>> 8)) (by omega)
  rw [y8 hi]
  simp only [bmore, List.foldl_cons, bbyte, BitVec.ofNat_toNat, BitVec.setWidth_eq] at this ⊢
  exact this
theorem zbyv (x : B32) (s : Sl Int) (hb : isB s.l) (hl : s.l.length ≤ 1099511627776) : Ev (fun q => zk8 q (u x) s) (u (~~~ bmore (~~~ x) s.l)) := by
 refine Ev.succ (Ev.bind zbys (Ev.pos (zbyq 256) ?_)) (fun q => rfl)
 rw [ones, xor_u, BitVec.allOnes_xor]
 have := zbyu s.z s.l hb hl s.l.length 0 (~~~ x) (by omega)
 rw [y37] at this
 exact this
/-- The sum of bytes. -/
def bsum (l : List Int) : B32 := ~~~ bmore (BitVec.allOnes 32) l
theorem zbyw (s : Sl Int) (hb : isB s.l) (hl : s.l.length ≤ 1099511627776) : Ev (fun q => zk9 q s) (u (bsum s.l)) := by
 have := zbyv 0#32 s hb hl
 exact Ev.succ (Ev.bind this (Ev.ret' (by simp [bsum]))) (fun q => rfl)
theorem zbyx (x : B32) (a b : List Int) : bmore (bmore x a) b = bmore x (a ++ b) := by simp [bmore]
theorem zbyy {x : Int} (h : 0 ≤ x) (k : Nat) (hk : k ≤ 64) : ishr .u64 x (k : Int) = x / ((2 ^ k : Nat) : Int) := by
 unfold ishr
 simp only [IntKind.bits, y27, Nat.min_eq_left hk]
 rw [y52 _ (by exact_mod_cast Nat.zero_le _)]
 simp
/-- A number in four bytes. -/
def fix4 (v : Nat) : List Int := [((v % 256 : Nat) : Int), ((v / 256 % 256 : Nat) : Int), ((v / 65536 % 256 : Nat) : Int), ((v / 16777216 % 256 : Nat) : Int)]
theorem zbyz (v k : Nat) (hk : k ≤ 8) : wrp .u8 (ishr .u64 (v : Int) (wrp .i64 (8 * (k : Int)))) = ((v / 2 ^ (8 * k) % 256 : Nat) : Int) := by
 rw [zbxy (by omega) (by omega), show (8 * (k : Int)) = ((8 * k : Nat) : Int) by omega, zbyy (by omega) _ (by omega), wrp_u8]
 exact_mod_cast rfl
def bytesFrom (v : Nat) : Nat → Nat → List Int
 | _, 0 => []
 | i, k + 1 => ((v / 2 ^ (8 * i) % 256 : Nat) : Int) :: bytesFrom v (i + 1) k
theorem zby0 {v m : Nat} (hm : m ≤ 8) : ∀ (k i : Nat) (l : List Int), m = i + k → l.length + k ≤ 4294967296 → Ev (fun q => zla q (v : Int) (m : Int) (i : Int) false l) ⟨false, true, l ++ bytesFrom v i k⟩
 | 0, i, l, hk, hl => Ev.succ (Ev.ne (Ev.ret' (by simp [bytesFrom]))) (fun q => rfl)
 | k + 1, i, l, hk, hl => by
  have w : wrp .i64 (8 * (i : Int)) = 8 * (i : Int) := zbxy (by omega) (by omega)
  refine Ev.succ (Ev.po (Ev.neg (by rw [w]; omega) (Ev.pos (by omega) ?_))) (fun q => rfl)
  rw [zbyz v i (by omega), zbxy (x := (i : Int) + 1) (by omega) (by omega), show ((i : Int) + 1) = ((i + 1 : Nat) : Int) by omega]
  refine (zby0 hm k (i + 1) _ (by omega) (by simp; omega)).cast ?_
  simp [bytesFrom]
theorem zby1 {v m : Nat} (h0 : 0 < m) (hm : m ≤ 8) : Ev (fun q => zlb q (v : Int) (m : Int)) ⟨false, true, bytesFrom v 0 m⟩ := by
 obtain ⟨k, rfl⟩ : ∃ k, m = k + 1 := ⟨m - 1, by omega⟩
 have w : wrp .i64 (8 * ((0 : Nat) : Int)) = 0 := zbxy (by omega) (by omega)
 have key : ∀ i : Int, i = ((0 : Nat) : Int) → Ev (fun q => zla q (v : Int) ((k + 1 : Nat) : Int) i true []) ⟨false, true, bytesFrom v 0 (k + 1)⟩ := by
  intro i hi
  refine Ev.succ (Ev.po (Ev.neg (by rw [hi, w]; omega) (Ev.pos (by simp) ?_))) (fun q => rfl)
  rw [hi, zbyz v 0 (by omega), zbxy (x := ((0 : Nat) : Int) + 1) (by omega) (by omega), show (((0 : Nat) : Int) + 1) = ((0 + 1 : Nat) : Int) by omega]
  refine (zby0 hm k 1 _ (by omega) (by simp; omega)).cast ?_
  simp [bytesFrom]
 exact Ev.succ (key 0 rfl) (fun q => rfl)
theorem bytes4 (v : Nat) : bytesFrom v 0 4 = fix4 v := by simp [bytesFrom, fix4]
theorem zby2 {v : Nat} (h : v < 18446744073709551616) : Ev (fun q => zlb q (v : Int) 4) ⟨false, true, fix4 v⟩ := by
 have := zby1 (v := v) (m := 4) (by omega) (by omega)
 rw [bytes4] at this; exact this
theorem zby3 (a : B32) : Ev (fun q => zlc q (u a)) ⟨false, true, fix4 a.toNat⟩ := by
 have h1 := u_nn a; have h2 := u_lt a
 have e : wrp .u64 (u a) = ((a.toNat : Nat) : Int) := by rw [zbxz h1 (by omega)]; rfl
 exact Ev.succ (Ev.bind (by rw [e]; exact zby2 (by have := a.isLt; omega)) (Ev.ret _)) (fun q => rfl)
theorem zby4 (a b : Sl Int) (ha : isB a.l) (hb : isB b.l) (la : a.l.length ≤ 1099511627776) (lb : b.l.length ≤ 1099511627776) : Ev (fun q => zld q a b) ⟨false, true, fix4 (bsum (a.l ++ b.l)).toNat⟩ := by
 have h2 := zbyv (bsum a.l) b hb lb
 have e : ~~~ bmore (~~~ bsum a.l) b.l = bsum (a.l ++ b.l) := by
  unfold bsum; rw [BitVec.not_not, zbyx]
 rw [e] at h2
 exact Ev.succ (Ev.bind (zbyw a ha la) (Ev.bind h2 (Ev.bind (zby3 _) (Ev.ret _)))) (fun q => rfl)
def flat (l : List (Sl Int)) : List Int := l.flatMap (·.l)
theorem zby5 (a : Sl Int) (b : List (Sl Int)) : flat (a :: b) = a.l ++ flat b := by simp [flat]
theorem zby6 (z0 : Bool) (L : List (Sl Int)) (z : Bool) (hL : L.length ≤ 1099511627776) : ∀ (k i : Nat) (m : Nat) (l : List Int), L.length = i + k → m + (flat (L.drop i)).length ≤ l.length →
  Ev (fun q => zlp q m z0 L (L.length : Int) (i : Int) z l) ⟨z, true, l.take m ++ flat (L.drop i)⟩
 | 0, i, m, l, hk, hl => by
  refine Ev.succ (Ev.ne (Ev.ret' ?_)) (fun q => rfl)
  rw [y11 (by omega)]; simp [flat]
 | k + 1, i, m, l, hk, hl => by
  have hi : i < L.length := by omega
  have hg : L[(i : Int).toNat]? = some L[i] := by simpa using y6 hi
  rw [y8 hi, zby5, y9] at hl
  refine Ev.succ (Ev.po (Ev.po (Ev.opt hg (Ev.pos (by omega) ?_)))) (fun q => rfl)
  rw [zbxy (by omega) (by omega), show ((i : Int) + 1) = ((i + 1 : Nat) : Int) by omega]
  refine (zby6 z0 L z hL k (i + 1) (m + L[i].l.length) _ (by omega) ?_).cast ?_
  ·simp only [y9, y19, y12]; omega
  ·congr 1
   rw [y8 hi, zby5, ← y32]
   congr 1
   rw [List.take_append_of_le_length (by simp only [y9, y19]; omega), List.take_of_length_le (by simp only [y9, y19]; omega)]
theorem zby7 (z0 : Bool) (L : List (Sl Int)) (hL : L.length ≤ 1099511627776) : ∀ (k i : Nat) (z : Bool) (l : List Int), L.length = i + k → l.length + (flat (L.drop i)).length ≤ 4294967296 →
  ∃ z', Ev (fun q => zlq q z0 L (L.length : Int) (i : Int) z l) ⟨z', true, l ++ flat (L.drop i)⟩
 | 0, i, z, l, hk, hl => ⟨z, by
  refine Ev.succ (Ev.ne (Ev.ret' ?_)) (fun q => rfl)
  rw [y11 (by omega)]; simp [flat]⟩
 | k + 1, i, z, l, hk, hl => by
  have hi : i < L.length := by omega
  have hg : L[(i : Int).toNat]? = some L[i] := by simpa using y6 hi
  rw [y8 hi, zby5, y9] at hl
  obtain ⟨z', h⟩ := zby7 z0 L hL k (i + 1) (z && (decide (L[i].l.length = 0))) (l ++ L[i].l) (by omega) (by simp only [y9]; omega)
  refine ⟨z', Ev.succ (Ev.po (Ev.po (Ev.opt hg (Ev.pos (by omega) ?_)))) (fun q => rfl)⟩
  rw [zbxy (by omega) (by omega), show ((i : Int) + 1) = ((i + 1 : Nat) : Int) by omega]
  refine h.cast ?_
  rw [y8 hi, zby5]; simp
theorem zby8 (z0 z9 : Bool) (L : List (Sl Int)) (hL : L.length ≤ 1099511627776) (hf : (flat L).length ≤ 4294967296) : ∀ (k i : Nat) (m : Nat), L.length = i + k → m + (flat (L.drop i)).length = (flat L).length →
  ∃ z', Ev (fun q => zls q z0 L (m : Int) z9 L (L.length : Int) (i : Int)) ⟨z', true, flat L⟩
 | 0, i, m, hk, hm => by
  rw [y11 (by omega)] at hm
  have hm2 : m = (flat L).length := by simpa [flat] using hm
  have w : wrp .i64 ((m : Int) - wrp .i64 0) = (m : Int) := by rw [zbxy (x := 0) (by omega) (by omega), zbxy (by omega) (by omega)]; omega
  by_cases h0 : 0 < m
  ·refine ⟨decide (wrp .i64 ((m : Int) - wrp .i64 0) = 0), Ev.succ (Ev.ne (Ev.ne (Ev.pos (by rw [w]; omega) (Ev.pos (by rw [w]; omega) (Ev.pos (by rw [w]; omega) (Ev.neg (by rw [w]; omega) ?_)))))) (fun q => rfl)⟩
   rw [w]
   have := zby6 z0 L (decide ((m : Int) = 0)) hL L.length 0 0 (List.replicate (m : Int).toNat 0) (by omega) (by simp; omega)
   rw [y37] at this
   exact this
  ·have hnil : flat L = [] := y34 (by omega)
   match L, hk with
   | [], _ =>
    refine ⟨true, Ev.succ (Ev.neg (by simp) (Ev.neg (by omega) ?_)) (fun q => rfl)⟩
    rw [w]
    refine Ev.neg (by omega) ?_
    exact Ev.succ (g := fun _ => some ⟨true, true, []⟩) (Ev.ret' (by simp [flat])) (fun q => rfl)
   | a :: L', hk =>
    rw [zby5] at hnil
    obtain ⟨z', h⟩ := zby7 z0 (a :: L') hL L'.length 1 (decide (a.l.length = 0)) a.l (by simp; omega) (by
     have : flat (List.drop 1 (a :: L')) = flat L' := rfl
     rw [this, ← y9, hnil]; simp)
    refine ⟨z', Ev.succ (Ev.ne (Ev.neg (by omega) ?_)) (fun q => rfl)⟩
    rw [w]
    refine Ev.ne (Ev.succ (Ev.pos (by simp) (Ev.opt (s := a) rfl (Ev.pos ?_ ?_))) (fun q => rfl))
    ·have : a.l.length ≤ (a.l ++ flat L').length := by simp
     rw [hnil] at this; simp at this; simp [this]
    ·rw [zbxy (by omega) (by omega)]
     refine h.cast ?_
     rw [zby5]; rfl
 | k + 1, i, m, hk, hm => by
  have hi : i < L.length := by omega
  have hg : L[(i : Int).toNat]? = some L[i] := by simpa using y6 hi
  rw [y8 hi, zby5, y9] at hm
  obtain ⟨z', h⟩ := zby8 z0 z9 L hL hf k (i + 1) (m + L[i].l.length) (by omega) (by omega)
  refine ⟨z', Ev.succ (Ev.po (Ev.po (Ev.opt hg ?_))) (fun q => rfl)⟩
  have w : wrp .i64 ((m : Int) + (L[i].l.length : Int)) = ((m + L[i].l.length : Nat) : Int) := by rw [zbxy (by omega) (by omega)]; omega
  rw [w, zbxy (by omega) (by omega), show ((i : Int) + 1) = ((i + 1 : Nat) : Int) by omega]
  exact Ev.neg (by omega) h
theorem zby9 (s : Sl (Sl Int)) (hL : s.l.length ≤ 1099511627776) (hf : (flat s.l).length ≤ 4294967296) : ∃ z', Ev (fun q => zlt q s) ⟨z', true, flat s.l⟩ := by
 obtain ⟨z', h⟩ := zby8 s.z s.z s.l hL hf s.l.length 0 0 (by omega) (by simp)
 exact ⟨z', Ev.succ h (fun q => rfl)⟩
theorem zbza : ∀ n, isB (grp n) := by
 intro n
 induction n using Nat.strongRecOn with
 | ind n ih =>
  by_cases h : n < 128
  ·rw [grp_lt h]; intro c hc; simp at hc; omega
  ·rw [grp_ge h]; intro c hc
   rcases List.mem_cons.1 hc with rfl | hc
   ·omega
   ·exact ih (n / 128) (by omega) c hc
theorem zbzb (n : Int) : isB (put n) := by
 unfold put; split
 ·intro c hc; simp at hc
 ·split
  ·intro c hc; simp at hc
  ·exact zbza _
theorem zbzc {a b : List Int} : isB (a ++ b) ↔ isB a ∧ isB b := by
 constructor
 ·intro h; exact ⟨fun c hc => h c (List.mem_append.2 (.inl hc)), fun c hc => h c (List.mem_append.2 (.inr hc))⟩
 ·rintro ⟨h1, h2⟩ c hc
  rcases List.mem_append.1 hc with h | h
  ·exact h1 c h
  ·exact h2 c h
/-- A frame. -/
def encF (l : List Int) : List Int := put (l.length : Int) ++ (l ++ fix4 (bsum (put (l.length : Int) ++ l)).toNat)
theorem zbzd (s : Sl Int) (hb : isB s.l) (hl : s.l.length ≤ 1048576) : ∃ z, Ev (fun q => zlu q s) (⟨z, true, encF s.l⟩, 0) := by
 have hp := zbx7 (s.l.length : Int)
 obtain ⟨z, h⟩ := zby9 ⟨false, [⟨false, put (s.l.length : Int)⟩, s, ⟨false, fix4 (bsum (put (s.l.length : Int) ++ s.l)).toNat⟩]⟩ (by simp) (by simp [flat, fix4]; omega)
 refine ⟨z, Ev.succ (Ev.neg (by omega) ?_) (fun q => rfl)⟩
 refine Ev.bind (zbx8 ⟨true, true, []⟩ (by omega) (by omega) (by simp)) ?_
 refine Ev.bind (zby4 ⟨false, put (s.l.length : Int)⟩ s (zbzb (s.l.length : Int)) hb (by simp only; omega) (by omega)) ?_
 refine Ev.bind h ?_
 exact Ev.ret' (by simp [encF, flat])
/-- The number that bytes begin with, from the i-th group on. -/
def rd : Nat → List Int → Option (Nat × Nat)
 | _, [] => none
 | i, c :: l => if 10 ≤ i then none else if i = 9 ∧ 1 < c then none else if c = 0 ∧ 0 < i then none else if c < 128 then some (c.toNat, 1) else (rd (i + 1) l).map fun p => ((c % 128).toNat + 128 * p.1, p.2 + 1)
def resN : Option (Nat × Nat) → Int × Int
 | none => (0, 0)
 | some p => (p.1, p.2)
theorem and127 {x : Int} (h1 : 0 ≤ x) (h2 : x < 256) : ibits .and .u8 x 127 = x % 128 := by
 obtain ⟨n, rfl⟩ := Int.eq_ofNat_of_zero_le h1
 have hn : n < 256 := by omega
 have : ∀ m : Fin 256, ibits .and .u8 (m.val : Int) 127 = (m.val : Int) % 128 := by unfold ibits; decide +kernel
 exact this ⟨n, hn⟩
theorem or64 {a b : Nat} (ha : a < 18446744073709551616) (hb : b < 18446744073709551616) : ibits .or .u64 (a : Int) (b : Int) = ((a ||| b : Nat) : Int) := by
 have e : ibits .or .u64 (a : Int) (b : Int) = IntKind.wrap .u64 (((BitVec.ofInt 64 (a : Int) ||| BitVec.ofInt 64 (b : Int) : BitVec 64).toNat : Nat) : Int) := by unfold ibits; rfl
 have e1 : (BitVec.ofInt 64 (a : Int)).toNat = a := by rw [y48]; omega
 have e2 : (BitVec.ofInt 64 (b : Int)).toNat = b := by rw [y48]; omega
 have e3 : a ||| b < 2 ^ 64 := Nat.or_lt_two_pow (by omega) (by omega)
 rw [e, BitVec.toNat_or, e1, e2, zbx9, zbxz (by omega) (by omega)]
theorem ishl64 {x k : Nat} (hk : k ≤ 64) : ishl .u64 (x : Int) (k : Int) = ((x * 2 ^ k % 18446744073709551616 : Nat) : Int) := by
 unfold ishl
 simp only [IntKind.bits, y27, Nat.min_eq_left hk]
 rw [zbx9, zbya]
 have : ((x : Int) * 2 ^ k) = ((x * 2 ^ k : Nat) : Int) := by rw [Int.natCast_mul, Int.natCast_pow]; rfl
 rw [this]
 exact (Int.natCast_emod _ _).symm
theorem zbze {acc i : Nat} {c : Int} (hi : i ≤ 9) (h1 : 0 ≤ c) (h2 : c < 256) (ha : acc < 2 ^ (7 * i)) (h9 : i = 9 → c ≤ 1) :
  ibits .or .u64 (acc : Int) (ishl .u64 (wrp .u64 (ibits .and .u8 c 127)) (wrp .i64 (7 * (i : Int)))) = ((acc + (c % 128).toNat * 2 ^ (7 * i) : Nat) : Int) ∧ acc + (c % 128).toNat * 2 ^ (7 * i) < 18446744073709551616 ∧ acc + (c % 128).toNat * 2 ^ (7 * i) < 2 ^ (7 * (i + 1)) := by
 have hm : (c % 128).toNat < 128 := by omega
 have hp : 2 ^ (7 * i) ≤ 2 ^ 63 := Nat.pow_le_pow_right (by omega) (by omega)
 have hp1 : 2 ^ (7 * (i + 1)) = 128 * 2 ^ (7 * i) := by rw [show 7 * (i + 1) = 7 + 7 * i by omega, Nat.pow_add]
 have h4 : acc + (c % 128).toNat * 2 ^ (7 * i) < 2 ^ (7 * (i + 1)) := by
  rw [hp1]
  have : ((c % 128).toNat + 1) * 2 ^ (7 * i) ≤ 128 * 2 ^ (7 * i) := y16 _ (by omega)
  rw [y30] at this; omega
 have h5 : acc + (c % 128).toNat * 2 ^ (7 * i) < 18446744073709551616 := by
  by_cases e : i = 9
  ·have hc := h9 e
   have : (c % 128).toNat ≤ 1 := by omega
   subst e
   have h6 : (c % 128).toNat * 2 ^ (7 * 9) ≤ 1 * 2 ^ (7 * 9) := y16 _ this
   simp only [Nat.reduceMul, Nat.reducePow] at ha h6 ⊢
   omega
  ·have : 2 ^ (7 * (i + 1)) ≤ 2 ^ 63 := Nat.pow_le_pow_right (by omega) (by omega)
   simp only [Nat.reducePow] at this
   omega
 refine ⟨?_, h5, h4⟩
 rw [and127 h1 h2, zbxz (by omega) (by omega), zbxy (by omega) (by omega), show (7 * (i : Int)) = ((7 * i : Nat) : Int) by omega, show (c % 128) = (((c % 128).toNat : Nat) : Int) by omega, ishl64 (by omega)]
 have h6 : (c % 128).toNat * 2 ^ (7 * i) < 18446744073709551616 := by omega
 simp only [y27]
 rw [Nat.mod_eq_of_lt h6, or64 (by omega) h6]
 congr 1
 have := Nat.two_pow_add_eq_or_of_lt ha (c % 128).toNat
 rw [Nat.or_comm, Nat.mul_comm, ← this]; omega
theorem zbzf (z : Bool) (L : List Int) (hb : isB L) (m : Nat) (hm : m = min 10 L.length) : ∀ (k i acc : Nat), m = i + k → acc < 2 ^ (7 * i) →
  Ev (fun q => zk1 q z L (acc : Int) (m : Int) (i : Int)) (match rd i (L.drop i) with | none => (0, 0) | some p => (((acc + p.1 * 2 ^ (7 * i) : Nat) : Int), ((i + p.2 : Nat) : Int)))
 | 0, i, acc, hk, ha => by
  refine Ev.succ (Ev.ne (Ev.ret' ?_)) (fun q => rfl)
  have : rd i (L.drop i) = none := by
   cases h : L.drop i with
   | nil => rfl
   | cons c l =>
    have : (L.drop i).length = l.length + 1 := by rw [h]; rfl
    rw [y12] at this
    simp only [rd]; rw [if_pos (by omega)]
  rw [this]
 | k + 1, i, acc, hk, ha => by
  have hi : i < L.length := by omega
  have hi9 : i ≤ 9 := by omega
  have hg : L[(i : Int).toNat]? = some L[i] := by simpa using y6 hi
  obtain ⟨b1, b2⟩ := hb L[i] (y25 hi)
  have w7 : wrp .i64 (7 * (i : Int)) = 7 * (i : Int) := zbxy (by omega) (by omega)
  have wi : wrp .i64 ((i : Int) + 1) = ((i + 1 : Nat) : Int) := by rw [zbxy (by omega) (by omega)]; omega
  rw [y8 hi]
  simp only [rd]
  rw [if_neg (by omega)]
  generalize hc : L[i] = c at hg b1 b2
  -- the ends
  have done : (i = 9 → c ≤ 1) → c < 128 → (((ibits .or .u64 (acc : Int) (ishl .u64 (wrp .u64 (ibits .and .u8 c 127)) (wrp .i64 (7 * (i : Int))))), (wrp .i64 ((i : Int) + 1))) : Int × Int) = (((acc + c.toNat * 2 ^ (7 * i) : Nat) : Int), ((i + 1 : Nat) : Int)) := by
   intro h9 h128
   rw [(zbze hi9 b1 b2 ha h9).1, wi, show (c % 128).toNat = c.toNat by omega]
  have rest : i ≠ 9 → ¬ c < 128 → Ev (fun q => zk1 q z L (ibits .or .u64 (acc : Int) (ishl .u64 (wrp .u64 (ibits .and .u8 c 127)) (wrp .i64 (7 * (i : Int))))) (m : Int) (wrp .i64 ((i : Int) + 1))) (match (rd (i + 1) (L.drop (i + 1))).map (fun p => ((c % 128).toNat + 128 * p.1, p.2 + 1)) with | none => (0, 0) | some p => (((acc + p.1 * 2 ^ (7 * i) : Nat) : Int), ((i + p.2 : Nat) : Int))) := by
   intro h9 h128
   obtain ⟨g1, g2, g3⟩ := zbze hi9 b1 b2 ha (fun e => absurd e h9)
   rw [g1, wi]
   refine (zbzf z L hb m hm k (i + 1) _ (by omega) g3).cast ?_
   cases rd (i + 1) (L.drop (i + 1)) with
   | none => rfl
   | some p =>
    simp only [y38]
    have : 2 ^ (7 * (i + 1)) = 128 * 2 ^ (7 * i) := by rw [show 7 * (i + 1) = 7 + 7 * i by omega, Nat.pow_add]
    rw [this]
    congr 2
    ·rw [y30, Nat.mul_assoc 128, Nat.mul_left_comm p.1 128]; omega
    ·omega
  refine Ev.succ (Ev.po (Ev.po (Ev.opt hg (Ev.neg (by rw [w7]; omega) ?_)))) (fun q => rfl)
  refine Ev.ite (fun h9 => Ev.ite (fun h1 => ?_) fun h1 => Ev.ite (fun h0 => Ev.pos (by omega) ?_) fun h0 => Ev.pos (by omega) ?_) fun h9 => Ev.ite (fun h0 => Ev.ite (fun hp => ?_) fun hp => Ev.pos (by omega) ?_) fun h0 => Ev.ite (fun h128 => ?_) fun h128 => ?_
  ·rw [if_pos ⟨by omega, h1⟩]; exact Ev.ret _
  ·rw [if_neg (by omega), if_pos ⟨h0, by omega⟩]; exact Ev.ret _
  ·rw [if_neg (by omega), if_neg (by omega), if_pos (by omega)]; exact Ev.ret' (done (by omega) (by omega))
  ·rw [if_neg (by omega), if_pos ⟨h0, by omega⟩]; exact Ev.ret _
  ·rw [if_neg (by omega), if_neg (by omega), if_pos (by omega)]; exact Ev.ret' (done (by omega) (by omega))
  ·rw [if_neg (by omega), if_neg (by omega), if_pos h128]; exact Ev.ret' (done (by omega) h128)
  ·rw [if_neg (by omega), if_neg (by omega), if_neg h128]; exact rest (by omega) h128
theorem zbzg (s : Sl Int) (hb : isB s.l) : Ev (fun q => zk2 q s) (resN (rd 0 s.l)) := by
 have h := zbzf s.z s.l hb (min 10 s.l.length) rfl (min 10 s.l.length) 0 0 (by omega) (by simp)
 have e : (if 10 < (s.l.length : Int) then 10 else (s.l.length : Int)) = ((min 10 s.l.length : Nat) : Int) := by split <;> omega
 refine Ev.succ (g := fun q => zk1 q s.z s.l 0 (if 10 < (s.l.length : Int) then 10 else (s.l.length : Int)) 0) ?_ (fun q => rfl)
 rw [e]
 refine h.cast ?_
 rw [y37]
 cases rd 0 s.l with
 | none => rfl
 | some p => simp [resN]
def getN (l : List Int) : Int × Int := match rd 0 l with
 | none => (0, 0)
 | some p => if 4611686018427387904 ≤ p.1 then (0, 0) else ((p.1 : Int), (p.2 : Int))
theorem zbzh (s : Sl Int) (hb : isB s.l) : Ev (fun q => zk3 q s) (getN s.l) := by
 refine Ev.succ (Ev.bind (zbzg s hb) ?_) (fun q => rfl)
 unfold getN
 cases rd 0 s.l with
 | none => exact Ev.neg (by simp [resN]) (Ev.ret' (by rw [zbxy] <;> simp [resN]))
 | some p =>
  simp only [resN]
  refine Ev.ite (fun h => ?_) fun h => ?_
  ·rw [if_pos (by omega)]; exact Ev.ret _
  ·rw [if_neg (by omega), zbxy (by omega) (by omega)]; exact Ev.ret _
theorem rd_len : ∀ {l : List Int} {i : Nat} {p : Nat × Nat}, rd i l = some p → 1 ≤ p.2 ∧ p.2 ≤ l.length ∧ i + p.2 ≤ 10
 | [], i, p, h => by simp [rd] at h
 | c :: l, i, p, h => by
  simp only [rd] at h
  split at h
  ·cases h
  ·split at h
   ·cases h
   ·split at h
    ·cases h
    ·split at h
     ·simp at h; subst h; simp; omega
     ·cases hr : rd (i + 1) l with
      | none => simp [hr] at h
      | some r =>
       simp [hr] at h; subst h
       have := rd_len hr
       simp; omega
theorem zbzi {l : List Int} : 0 ≤ (getN l).2 ∧ (getN l).2 ≤ l.length ∧ (getN l).2 ≤ 10 ∧ 0 ≤ (getN l).1 ∧ (getN l).1 < 4611686018427387904 := by
 unfold getN
 cases h : rd 0 l with
 | none => simp
 | some p =>
  have := rd_len h
  simp only
  split <;> simp <;> omega
/-- What was put is read. -/
theorem rd_grp : ∀ {n : Nat} {i : Nat} {x : List Int}, n < 2 ^ (64 - 7 * i) → i ≤ 9 → (0 < i → n ≠ 0) → rd i (grp n ++ x) = some (n, (grp n).length) := by
 intro n
 induction n using Nat.strongRecOn with
 | ind n ih =>
  intro i x h hi h0
  by_cases hn : n < 128
  ·rw [grp_lt hn]
   simp only [List.cons_append, y46, rd, y20, y24]
   rw [if_neg (by omega), if_neg ?_, if_neg (by omega), if_pos (by omega)]
   ·simp
   ·rintro ⟨rfl, h1⟩
    simp at h; omega
  ·rw [grp_ge hn]
   simp only [List.cons_append, rd, y20]
   have hi8 : i ≠ 9 := by rintro rfl; simp at h; omega
   rw [if_neg (by omega), if_neg (by omega), if_neg (by omega), if_neg (by omega)]
   have hd : n / 128 < 2 ^ (64 - 7 * (i + 1)) := by
    rw [Nat.div_lt_iff_lt_mul (by omega), show (128 : Nat) = 2 ^ 7 from rfl, ← Nat.pow_add]
    by_cases e : i ≤ 8
    ·rw [show 64 - 7 * (i + 1) + 7 = 64 - 7 * i by omega]; exact h
    ·omega
   rw [ih (n / 128) (by omega) hd (by omega) (by omega)]
   simp only [y38, y1, y7, and_true]
   omega
/-- Where the first byte below 128 stands. -/
def idxLow : List Int → Nat → Int
 | [], _ => -1
 | a :: l, i => if a < 128 then (i : Int) else idxLow l (i + 1)
def allHi (l : List Int) : Prop := ∀ c ∈ l, 128 ≤ c
instance (l : List Int) : Decidable (allHi l) := by unfold allHi; infer_instance
theorem zbzj : ∀ {l : List Int} {i : Nat}, ¬ 0 ≤ idxLow l i ↔ allHi l
 | [], i => by simp [idxLow, allHi]
 | a :: l, i => by
  have ih := zbzj (l := l) (i := i + 1)
  simp only [idxLow, allHi, List.mem_cons, forall_eq_or_imp] at ih ⊢
  by_cases h : a < 128
  ·rw [if_pos h]; constructor
   ·intro h'; omega
   ·rintro ⟨h1, _⟩; omega
  ·rw [if_neg h, ih]
   constructor
   ·intro h'; exact ⟨by omega, h'⟩
   ·exact fun h' => h'.2
theorem zbzk (z : Bool) (L : List Int) (hL : L.length ≤ 1099511627776) : ∀ (k i : Nat), L.length = i + k → Ev (fun q => zky q z L (L.length : Int) (i : Int)) (idxLow (L.drop i) i)
 | 0, i, hk => by
  refine Ev.succ (Ev.ne (Ev.ret' ?_)) (fun q => rfl)
  rw [y11 (by omega)]; rfl
 | k + 1, i, hk => by
  have hi : i < L.length := by omega
  have hg : L[(i : Int).toNat]? = some L[i] := by simpa using y6 hi
  have h1 : Ev (fun q => zkx q L[i]) (decide (L[i] < 128)) := Ev.succ (Ev.ret _) (fun q => rfl)
  refine Ev.succ (Ev.po (Ev.po (Ev.opt hg (Ev.bind h1 ?_)))) (fun q => rfl)
  rw [y8 hi]
  simp only [idxLow]
  refine Ev.ite (fun h => ?_) fun h => ?_
  ·rw [if_pos (by simpa using h)]; exact Ev.ret _
  ·rw [if_neg (by simpa using h), zbxy (by omega) (by omega), show ((i : Int) + 1) = ((i + 1 : Nat) : Int) by omega]
   exact zbzk z L hL k (i + 1) (by omega)
def openB (l : List Int) : Bool := decide (l.length < 10 ∧ allHi l)
theorem zbzl (s : Sl Int) : Ev (fun q => zk0 q s) (openB s.l) := by
 refine Ev.succ (Ev.ite (fun h => ?_) fun h => Ev.ret' ?_) (fun q => rfl)
 ·have := zbzk s.z s.l (by omega) s.l.length 0 (by omega)
  rw [y37] at this
  refine Ev.bind (Ev.succ this (fun q => rfl)) (Ev.ret' ?_)
  unfold openB
  rw [← decide_not, decide_eq_decide, zbzj]
  exact ⟨fun h1 => ⟨by omega, h1⟩, fun h1 => h1.2⟩
 ·unfold openB
  symm; rw [decide_eq_false_iff_not]; omega
theorem zbzm (z z2 : Bool) (A B : List Int) (hl : A.length = B.length) (hL : A.length ≤ 1099511627776) : ∀ (k i : Nat), A.length = i + k → Ev (fun q => zle q z A z2 B (A.length : Int) (i : Int)) (decide (A.drop i = B.drop i))
 | 0, i, hk => by
  refine Ev.succ (Ev.ne (Ev.ret' ?_)) (fun q => rfl)
  rw [y11 (by omega), y11 (by omega)]; simp
 | k + 1, i, hk => by
  have hi : i < A.length := by omega
  have hi2 : i < B.length := by omega
  have hg : A[(i : Int).toNat]? = some A[i] := by simpa using y6 hi
  have hg2 : B[(i : Int).toNat]? = some B[i] := by simpa using y6 hi2
  refine Ev.succ (Ev.po (Ev.po (Ev.opt hg (Ev.opt hg2 ?_)))) (fun q => rfl)
  rw [y8 hi, y8 hi2]
  refine Ev.ite (fun h => ?_) fun h => Ev.ret' (by symm; rw [decide_eq_false_iff_not]; intro e; exact h (List.cons.inj e).1)
  rw [zbxy (by omega) (by omega), show ((i : Int) + 1) = ((i + 1 : Nat) : Int) by omega]
  refine (zbzm z z2 A B hl hL k (i + 1) (by omega)).cast ?_
  rw [decide_eq_decide, List.cons.injEq]; simp only [h, true_and]
theorem zbzn (a b : Sl Int) (hL : a.l.length ≤ 1099511627776) : Ev (fun q => zlf q a b) (decide (a.l = b.l)) := by
 refine Ev.succ (Ev.ite (fun h => ?_) fun h => Ev.ret' ?_) (fun q => rfl)
 ·have := zbzm a.z b.z a.l b.l (by omega) hL a.l.length 0 (by omega)
  rw [y37, y37] at this; exact this
 ·symm; rw [decide_eq_false_iff_not]; intro e; rw [e] at h; exact h rfl
/-- The data of the frame that bytes begin with, how many bytes it has, and the error. -/
def decF (l : List Int) : List Int × Int × Int :=
 if openB l = true then ([], 0, 2) else if (getN l).2 = 0 then ([], 0, 3) else if 1048576 < (getN l).1 then ([], 0, 5) else if (l.length : Int) < (getN l).2 + 4 + (getN l).1 then ([], 0, 2)
 else if (l.drop ((getN l).2 + (getN l).1).toNat).take 4 = fix4 (bsum (l.take ((getN l).2 + (getN l).1).toNat)).toNat then ((l.take ((getN l).2 + (getN l).1).toNat).drop (getN l).2.toNat, (getN l).2 + (getN l).1 + 4, 0) else ([], 0, 4)
theorem zbzo {l : List Int} (h : isB l) (n : Nat) : isB (l.take n) := fun c hc => h c (y43 hc)
theorem zbzp {l : List Int} (h : isB l) (n : Nat) : isB (l.drop n) := fun c hc => h c (y51 hc)
theorem zbzq (s : Sl Int) (hz : s.z = true → s.l = []) (hb : isB s.l) (hl : s.l.length ≤ 4294967296) : ∃ z, Ev (fun q => zlh q s) (⟨z, true, (decF s.l).1⟩, (decF s.l).2.1, (decF s.l).2.2) := by
 unfold decF
 by_cases h1 : openB s.l = true
 ·rw [if_pos h1]
  exact ⟨true, Ev.succ (Ev.bind (zbzl s) (Ev.pos h1 (Ev.ret _))) (fun q => rfl)⟩
 rw [if_neg h1]
 by_cases h2 : (getN s.l).2 = 0
 ·rw [if_pos h2]
  exact ⟨true, Ev.succ (Ev.bind (zbzl s) (Ev.neg h1 (Ev.bind (zbzh s hb) (Ev.pos h2 (Ev.ret _))))) (fun q => rfl)⟩
 rw [if_neg h2]
 by_cases h3 : 1048576 < (getN s.l).1
 ·rw [if_pos h3]
  exact ⟨true, Ev.succ (Ev.bind (zbzl s) (Ev.neg h1 (Ev.bind (zbzh s hb) (Ev.neg h2 (Ev.pos h3 (Ev.ret _)))))) (fun q => rfl)⟩
 rw [if_neg h3]
 obtain ⟨g1, g2, g3, g4, g5⟩ := zbzi (l := s.l)
 generalize hk : (getN s.l).2 = k at *
 generalize hn : (getN s.l).1 = n at *
 have hg : getN s.l = (n, k) := by rw [← hk, ← hn]
 have hget := zbzh s hb
 rw [hg] at hget
 have w1 : wrp .i64 (k + 4) = k + 4 := zbxy (by omega) (by omega)
 have w2 : wrp .i64 (k + 4 + n) = k + 4 + n := zbxy (by omega) (by omega)
 have w3 : wrp .i64 (k + n) = k + n := zbxy (by omega) (by omega)
 have w4 : wrp .i64 (k + n + 4) = k + n + 4 := zbxy (by omega) (by omega)
 by_cases h4 : (s.l.length : Int) < k + 4 + n
 ·rw [if_pos h4]
  exact ⟨true, Ev.succ (Ev.bind (zbzl s) (Ev.neg h1 (Ev.bind hget (Ev.neg h2 (Ev.neg h3 (Ev.pos (by simp only; rw [w1, w2]; exact h4) (Ev.ret _))))))) (fun q => rfl)⟩
 rw [if_neg h4]
 have hzf : s.z = false := by
  cases hz' : s.z
  ·rfl
  ·have := hz hz'; rw [this] at h4; simp at h4; omega
 have hsum := zby4 ⟨s.z, List.take k.toNat s.l⟩ ⟨s.z, List.drop k.toNat (List.take (k + n).toNat s.l)⟩ (zbzo hb _) (zbzp (zbzo hb _) _) (by simp; omega) (by simp; omega)
 have heq := zbzn ⟨s.z, List.drop (k + n).toNat (List.take (k + n + 4).toNat s.l)⟩ ⟨false, fix4 (bsum (List.take k.toNat s.l ++ List.drop k.toNat (List.take (k + n).toNat s.l))).toNat⟩ (by simp; omega)
 have hcl : Ev (fun q => zlg q ⟨s.z, List.drop k.toNat (List.take (k + n).toNat s.l)⟩) ⟨false, true, List.drop k.toNat (List.take (k + n).toNat s.l)⟩ :=
  Ev.succ (Ev.neg (by simp [hzf]) (Ev.pos (by simp; omega) (Ev.ret _))) (fun q => rfl)
 have ht : List.take k.toNat s.l ++ List.drop k.toNat (List.take (k + n).toNat s.l) = List.take (k + n).toNat s.l := by
  have := List.take_append_drop k.toNat (List.take (k + n).toNat s.l)
  rw [List.take_take, Nat.min_eq_left (by omega)] at this; exact this
 rw [ht] at heq hsum
 have hd : List.drop (k + n).toNat (List.take (k + n + 4).toNat s.l) = List.take 4 (List.drop (k + n).toNat s.l) := by
  rw [List.drop_take]; congr 1; omega
 rw [hd] at heq
 have pre : ∀ {r : Ow Int × Int × Int}, Ev (fun q => (zlf q ⟨s.z, List.take 4 (List.drop (k + n).toNat s.l)⟩ ⟨false, fix4 (bsum (List.take (k + n).toNat s.l)).toNat⟩).bind fun r4 => (if r4 = true then ((zlg q ⟨s.z, (List.drop k.toNat (List.take (k + n).toNat s.l))⟩).bind fun r5 => (some (r5, k + n + 4, 0))) else (some (⟨true, true, []⟩, 0, 4)))) r → Ev (fun q => zlh q s) r := by
  intro r h
  refine Ev.succ (Ev.bind (zbzl s) (Ev.neg h1 (Ev.bind hget (Ev.neg h2 (Ev.neg h3 ?_))))) (fun q => rfl)
  simp only [w1, w2, w3, w4]
  refine Ev.neg h4 (Ev.po (Ev.po (Ev.po (Ev.po (Ev.po (Ev.po (Ev.po (Ev.po (Ev.po (Ev.bind hsum ?_))))))))))
  rw [hd]
  exact h
 by_cases h5 : List.take 4 (List.drop (k + n).toNat s.l) = fix4 (bsum (List.take (k + n).toNat s.l)).toNat
 ·rw [if_pos h5]
  exact ⟨false, pre (Ev.bind heq (Ev.pos (by simpa using h5) (Ev.bind hcl (Ev.ret _))))⟩
 ·rw [if_neg h5]
  exact ⟨true, pre (Ev.bind heq (Ev.neg (by simpa using h5) (Ev.ret _)))⟩
theorem rd_put {n : Int} {x : List Int} (h1 : 0 ≤ n) (h2 : n < 4611686018427387904) : rd 0 (put n ++ x) = some (n.toNat, (put n).length) := by
 rw [put_ok h1 h2]; exact rd_grp (by simp; omega) (by omega) (by omega)
theorem zbzr {n : Int} {x : List Int} (h1 : 0 ≤ n) (h2 : n < 4611686018427387904) : getN (put n ++ x) = (n, ((put n).length : Int)) := by
 unfold getN; rw [rd_put h1 h2]; simp only; rw [if_neg (by omega)]; simp; omega
theorem zbzs : ∀ n, ∃ c ∈ grp n, c < 128 := by
 intro n
 induction n using Nat.strongRecOn with
 | ind n ih =>
  by_cases h : n < 128
  ·rw [grp_lt h]; exact ⟨_, y31, by omega⟩
  ·rw [grp_ge h]
   obtain ⟨c, h1, h2⟩ := ih (n / 128) (by omega)
   exact ⟨c, y35 _ h1, h2⟩
theorem zbzt {n : Int} {x : List Int} (h1 : 0 ≤ n) (h2 : n < 4611686018427387904) : openB (put n ++ x) = false := by
 unfold openB; rw [decide_eq_false_iff_not]
 rintro ⟨_, h⟩
 obtain ⟨c, hc, hl⟩ := zbzs n.toNat
 rw [put_ok h1 h2] at h
 have := h c (List.mem_append.2 (.inl hc)); omega
/-- A frame is decoded as what was framed. -/
theorem zbzu {l x : List Int} (hl : l.length ≤ 1048576) : decF (encF l ++ x) = (l, ((encF l).length : Int), 0) := by
 have hp := zbx7 (l.length : Int)
 unfold decF
 have e : encF l ++ x = put (l.length : Int) ++ (l ++ (fix4 (bsum (put (l.length : Int) ++ l)).toNat ++ x)) := by simp [encF]
 rw [e, zbzt (by omega) (by omega), zbzr (by omega) (by omega)]
 have ht : List.take (((put (l.length : Int)).length : Int) + (l.length : Int)).toNat (put (l.length : Int) ++ (l ++ (fix4 (bsum (put (l.length : Int) ++ l)).toNat ++ x))) = put (l.length : Int) ++ l := by
  rw [← y32, List.take_left' (by simp; omega)]
 have hd : List.drop (((put (l.length : Int)).length : Int) + (l.length : Int)).toNat (put (l.length : Int) ++ (l ++ (fix4 (bsum (put (l.length : Int) ++ l)).toNat ++ x))) = fix4 (bsum (put (l.length : Int) ++ l)).toNat ++ x := by
  rw [← y32, List.drop_left' (by simp; omega)]
 have hg := zbx4 l.length
 have hpp : 1 ≤ (put (l.length : Int)).length := by rw [put_ok (by omega) (by omega)]; simpa using hg
 simp only [ht, hd]
 rw [if_neg (by simp), if_neg (by omega), if_neg (by omega), if_neg (by simp [fix4]; omega), if_pos (by simp [fix4])]
 simp [encF, fix4]
 omega
theorem rd_inv : ∀ {l : List Int} {i v k : Nat}, isB l → rd i l = some (v, k) → l.take k = grp v ∧ (0 < i → v ≠ 0)
 | [], i, v, k, hb, h => by simp [rd] at h
 | c :: l, i, v, k, hb, h => by
  obtain ⟨b1, b2⟩ := hb c y31
  simp only [rd] at h
  split at h
  ·cases h
  ·split at h
   ·cases h
   ·split at h
    ·cases h
    ·rename_i h1 h2 h3
     split at h
     ·simp at h; obtain ⟨rfl, rfl⟩ := h
      refine ⟨?_, fun hi e => h3 ⟨by omega, hi⟩⟩
      rw [grp_lt (by omega)]; simp; omega
     ·cases hr : rd (i + 1) l with
      | none => simp [hr] at h
      | some r =>
       obtain ⟨v', k'⟩ := r
       simp [hr] at h
       obtain ⟨rfl, rfl⟩ := h
       obtain ⟨e1, e2⟩ := rd_inv (fun c hc => hb c (y35 _ hc)) hr
       have hv := e2 (by omega)
       refine ⟨?_, fun _ => by omega⟩
       rw [grp_ge (by omega), List.take_succ_cons, e1]
       congr 1
       ·omega
       ·congr 1; omega
theorem zbzv {l x : List Int} {n : Int} (hb : isB l) (h : decF l = (x, n, 0)) : x.length ≤ 1048576 ∧ 0 ≤ n ∧ n.toNat ≤ l.length ∧ 5 ≤ n ∧ encF x = l.take n.toNat := by
 unfold decF at h
 split at h
 ·simp at h
 split at h
 ·simp at h
 split at h
 ·simp at h
 split at h
 ·simp at h
 split at h
 ·rename_i h1 h2 h3 h4 h5
  obtain ⟨g1, g2, g3, g4, g5⟩ := zbzi (l := l)
  have hrd : rd 0 l = some ((getN l).1.toNat, (getN l).2.toNat) := by
   unfold getN at h2 ⊢
   cases hr : rd 0 l with
   | none => rw [hr] at h2; simp at h2
   | some p =>
    rw [hr] at h2; simp only at h2 ⊢
    split at h2
    ·simp at h2
    ·rename_i hlt; rw [if_neg hlt]; simp
  obtain ⟨e1, _⟩ := rd_inv hb hrd
  generalize (getN l).2 = k at *
  generalize (getN l).1 = m at *
  simp only [y7, and_true] at h
  obtain ⟨hx, hn⟩ := h
  have hlx : x.length = m.toNat := by rw [← hx]; simp; omega
  refine ⟨by omega, by omega, by omega, by omega, ?_⟩
  have hput : put (x.length : Int) = l.take k.toNat := by
   rw [put_ok (by omega) (by omega), e1]; congr 1
  have hcat : l.take k.toNat ++ x = l.take (k + m).toNat := by
   rw [← hx]
   have := List.take_append_drop k.toNat (List.take (k + m).toNat l)
   rw [List.take_take, Nat.min_eq_left (by omega)] at this; exact this
  unfold encF
  rw [hput, hcat, ← h5, ← y32, hcat, ← hn, show (k + m + 4).toNat = (k + m).toNat + 4 by omega, List.take_add]
 ·simp at h
theorem zbzw {l : List Int} (hb : isB l) : isB (decF l).1 := by
 have nil : isB [] := fun c hc => by simp at hc
 unfold decF
 split; exact nil
 split; exact nil
 split; exact nil
 split; exact nil
 split
 ·exact zbzp (zbzo hb _) _
 ·exact nil
/-- The number of bytes, the lowest first. -/
def numB : List Int → Nat
 | [] => 0
 | c :: l => c.toNat + 256 * numB l
theorem zbzx : ∀ {l : List Int}, isB l → numB l < 256 ^ l.length
 | [], _ => by simp [numB]
 | c :: l, h => by
  have h1 := h c y31
  have h2 := zbzx (l := l) fun c hc => h c (y35 _ hc)
  simp only [numB, y20, Nat.pow_succ]
  generalize 256 ^ l.length = X at h2
  omega
theorem zbzy {l : List Int} {v : Nat} (hb : isB l) (hl : l.length = 4) (hv : v < 4294967296) : numB l = v ↔ l = fix4 v := by
 match l, hl with
 | [a, b, c, d], _ =>
  have h1 := hb a (by simp); have h2 := hb b (by simp); have h3 := hb c (by simp); have h4 := hb d (by simp)
  simp only [numB, fix4, List.cons.injEq, and_true]
  constructor
  ·intro h; refine ⟨?_, ?_, ?_, ?_⟩ <;> omega
  ·rintro ⟨e1, e2, e3, e4⟩; omega
/-- The frames that bytes begin with, how many bytes these have, and what ends them. -/
def walkF : Nat → List Int → List (List Int) × Nat × Int
 | 0, _ => ([], 0, 0)
 | f + 1, l => if l = [] then ([], 0, 0) else if (decF l).2.2 = 0 then let w := walkF f (l.drop (decF l).2.1.toNat); ((decF l).1 :: w.1, (decF l).2.1.toNat + w.2.1, w.2.2) else ([], 0, (decF l).2.2)
theorem zbzz {l : List Int} (hb : isB l) (h : (decF l).2.2 = 0) : 5 ≤ (decF l).2.1 ∧ (decF l).2.1.toNat ≤ l.length := by
 generalize hr : decF l = r at h
 obtain ⟨x, n, e⟩ := r
 simp only at h; subst h
 obtain ⟨k1, k2, k3, k4, k5⟩ := zbzv hb hr
 exact ⟨k4, k3⟩
/-- A loop over frames, whoever decodes. -/
theorem zbz0 {D : Nat → Sl Int → Option (Ow Int × Int × Int)} {W : Nat → Bool → List Int → Int → Bool → List (Sl Int) → Option (Ow (Sl Int) × Int × Int)}
  (hW : ∀ q z L i z2 h, W (q + 1) z L i z2 h = if i < (L.length : Int) then (if 0 ≤ i then (if i ≤ (L.length : Int) then ((D q ⟨z, (List.drop i.toNat L)⟩).bind fun r1 => (if r1.2.2 = 0 then (if (h.length + 1) ≤ 4294967296 then (W q z L (wrp .i64 (i + r1.2.1)) false (h ++ [⟨r1.1.n, r1.1.xs⟩])) else none) else (some (⟨z2, true, h⟩, i, r1.2.2)))) else none) else none) else (some (⟨z2, true, h⟩, i, 0)))
  (z : Bool) (L : List Int) (hb : isB L) (hL : L.length ≤ 4294967296)
  (hD : ∀ i : Nat, i < L.length → ∃ z', Ev (fun q => D q ⟨z, L.drop i⟩) (⟨z', true, (decF (L.drop i)).1⟩, (decF (L.drop i)).2.1, (decF (L.drop i)).2.2)) :
  ∀ (f i : Nat) (z2 : Bool) (h : List (Sl Int)), i ≤ L.length → L.length - i < f → h.length ≤ i → ∃ z3 X, Ev (fun q => W q z L (i : Int) z2 h) (⟨z3, true, h ++ X⟩, ((i + (walkF f (L.drop i)).2.1 : Nat) : Int), (walkF f (L.drop i)).2.2) ∧ X.map (·.l) = (walkF f (L.drop i)).1
 | 0, i, z2, h, hi, hf, hh => by omega
 | f + 1, i, z2, h, hi, hf, hh => by
  by_cases hlt : i < L.length
  ·have hne : L.drop i ≠ [] := by intro e; have := congrArg List.length e; simp at this; omega
   obtain ⟨z', hd⟩ := hD i hlt
   simp only [walkF]
   rw [if_neg hne]
   by_cases he : (decF (L.drop i)).2.2 = 0
   ·rw [if_pos he]
    obtain ⟨k1, k2⟩ := zbzz (zbzp hb i) he
    rw [y12] at k2
    obtain ⟨z3, X, hx, hm⟩ := zbz0 hW z L hb hL hD f (i + (decF (L.drop i)).2.1.toNat) false (h ++ [⟨z', (decF (L.drop i)).1⟩]) (by omega) (by omega) (by simp; omega)
    rw [← List.drop_drop] at hx hm
    refine ⟨z3, ⟨z', (decF (L.drop i)).1⟩ :: X, ?_, ?_⟩
    ·refine Ev.succ (Ev.po (Ev.po (Ev.po (Ev.bind hd (Ev.pos he (Ev.pos (by omega) ?_)))))) (fun q => hW q _ _ _ _ _)
     have wi : wrp .i64 ((i : Int) + (decF (L.drop i)).2.1) = ((i + (decF (L.drop i)).2.1.toNat : Nat) : Int) := by
      rw [zbxy (by omega) (by omega)]; omega
     simp only [wi]
     refine hx.cast ?_
     simp only [y32, List.cons_append, y46, y55]
    ·simp [hm]
   ·rw [if_neg he]
    refine ⟨z2, [], Ev.succ (Ev.po (Ev.po (Ev.po (Ev.bind hd (Ev.neg he (Ev.ret' (by simp))))))) (fun q => hW q _ _ _ _ _), rfl⟩
  ·rw [y11 (by omega)]
   simp only [walkF, if_true]
   exact ⟨z2, [], Ev.succ (Ev.ne (Ev.ret' (by simp))) (fun q => hW q _ _ _ _ _), rfl⟩
def allF (l : List Int) : List (List Int) × Nat × Int := walkF (l.length + 1) l
theorem zbz1 (s : Sl Int) (hz : s.z = true → s.l = []) (hb : isB s.l) (hl : s.l.length ≤ 4294967296) : ∃ z X, Ev (fun q => zl6 q s) (⟨z, true, X⟩, (((allF s.l).2.1 : Nat) : Int), (allF s.l).2.2) ∧ X.map (·.l) = (allF s.l).1 := by
 obtain ⟨z, X, h, hm⟩ := zbz0 (D := fun q s => zlh q s) (W := zl5) (fun q z L i z2 h => rfl) s.z s.l hb hl (fun i hi => zbzq ⟨s.z, s.l.drop i⟩ (fun h => by rw [hz h]; simp) (zbzp hb i) (by simp; omega)) (s.l.length + 1) 0 true [] (by omega) (by omega) (by simp)
 rw [y37] at h hm
 refine ⟨z, X, Ev.succ h (fun q => rfl) |>.cast ?_, hm⟩
 simp [allF]
def allE (l : List Int) : List (List Int) × Int := if (allF l).2.2 = 0 then ((allF l).1, 0) else ([], (allF l).2.2)
theorem zbz2 (s : Sl Int) (hz : s.z = true → s.l = []) (hb : isB s.l) (hl : s.l.length ≤ 4294967296) : ∃ z X, Ev (fun q => zl7 q s) (⟨z, true, X⟩, (allE s.l).2) ∧ X.map (·.l) = (allE s.l).1 := by
 obtain ⟨z, X, h, hm⟩ := zbz1 s hz hb hl
 unfold allE
 by_cases he : (allF s.l).2.2 = 0
 ·rw [if_pos he]; exact ⟨z, X, Ev.succ (Ev.bind h (Ev.pos he (Ev.ret _))) (fun q => rfl), hm⟩
 ·rw [if_neg he]; exact ⟨true, [], Ev.succ (Ev.bind h (Ev.neg he (Ev.ret _))) (fun q => rfl), rfl⟩
theorem zbz3 : ∀ {n m : Nat} {c : Int}, m < (grp n).length → c ∈ (grp n).take m → 128 ≤ c := by
 intro n
 induction n using Nat.strongRecOn with
 | ind n ih =>
  intro m c hm hc
  by_cases h : n < 128
  ·rw [grp_lt h] at hm hc
   have : m = 0 := by simp at hm; omega
   subst this; simp at hc
  ·rw [grp_ge h] at hm hc
   cases m with
   | zero => simp at hc
   | succ m =>
    rw [List.take_succ_cons] at hc
    rcases List.mem_cons.1 hc with rfl | hc
    ·omega
    ·exact ih (n / 128) (by omega) (by simpa using hm) hc
/-- A frame that is cut off. -/
theorem zbz4 {d : List Int} {m : Nat} (hd : d.length ≤ 1048576) (h0 : 0 < m) (hm : m < (encF d).length) : decF ((encF d).take m) = ([], 0, 2) := by
 have hp : put (d.length : Int) = grp d.length := by rw [put_ok (by omega) (by omega)]; rfl
 have hp10 := zbx7 (d.length : Int)
 have hg3 : (grp d.length).length ≤ 3 := zbx2 2 (by omega)
 by_cases h : m < (put (d.length : Int)).length
 ·have e : (encF d).take m = (put (d.length : Int)).take m := by
   unfold encF; rw [List.take_append_of_le_length (by omega)]
  unfold decF
  rw [e, if_pos]
  unfold openB
  rw [decide_eq_true_eq]
  refine ⟨by simp; omega, fun c hc => ?_⟩
  rw [hp] at hc h
  exact zbz3 h hc
 ·have e : (encF d).take m = put (d.length : Int) ++ (d ++ fix4 (bsum (put (d.length : Int) ++ d)).toNat).take (m - (put (d.length : Int)).length) := by
   unfold encF; rw [List.take_append, List.take_of_length_le (by omega)]
  have hlen : ((encF d).take m).length = m := by rw [y19]; omega
  unfold decF
  rw [e] at hlen ⊢
  rw [zbzt (by omega) (by omega), zbzr (by omega) (by omega), hlen]
  have hpp : 1 ≤ (put (d.length : Int)).length := by rw [hp]; exact zbx4 _
  have he : (encF d).length = (put (d.length : Int)).length + d.length + 4 := by simp [encF, fix4]; omega
  rw [if_neg (by simp), if_neg (by simp only; omega), if_neg (by simp only; omega), if_pos (by simp only; omega)]
def BB (D : List (List Int)) : List Int := D.flatMap encF
theorem zbz5 (d : List Int) (D : List (List Int)) : BB (d :: D) = encF d ++ BB D := by simp [BB]
theorem zbz6 {d : List Int} (h : d.length ≤ 1048576) : 5 ≤ (encF d).length := by
 have : 1 ≤ (put (d.length : Int)).length := by rw [put_ok (by omega) (by omega)]; exact zbx4 _
 simp [encF, fix4]; omega
theorem zbz7 : ∀ (D : List (List Int)) (i cut f : Nat), (∀ d ∈ D, d.length ≤ 1048576) → i ≤ D.length → (BB (D.take i)).length ≤ cut → cut ≤ (BB D).length → (i < D.length → cut < (BB (D.take (i + 1))).length) → ((BB D).take cut).length < f →
  walkF f ((BB D).take cut) = (D.take i, (BB (D.take i)).length, if (BB (D.take i)).length = cut then 0 else 2)
 | [], i, cut, f, hD, hi, h1, h2, h3, hf => by
  have : i = 0 := by simpa using hi
  subst this
  have hc : cut = 0 := by simpa [BB] using h2
  subst hc
  obtain ⟨f, rfl⟩ : ∃ g, f = g + 1 := ⟨f - 1, by omega⟩
  simp [walkF, BB]
 | d :: D, i, cut, f, hD, hi, h1, h2, h3, hf => by
  obtain ⟨f, rfl⟩ : ∃ g, f = g + 1 := ⟨f - 1, by omega⟩
  have hd := hD d y31
  have h5 := zbz6 hd
  cases i with
  | zero =>
   have hlt := h3 (by simp)
   simp only [List.take_succ_cons, List.take_zero, zbz5] at hlt
   have hlt' : cut < (encF d).length := by simpa [BB] using hlt
   have e : (BB (d :: D)).take cut = (encF d).take cut := by rw [zbz5, List.take_append_of_le_length (by omega)]
   rw [e] at hf ⊢
   by_cases h0 : cut = 0
   ·subst h0; simp [walkF, BB]
   ·simp only [walkF]
    rw [if_neg (by intro e; have := congrArg List.length e; rw [y19] at this; simp only [y24] at this; omega), zbz4 hd (by omega) hlt']
    simp [BB]; omega
  | succ i =>
   simp only [List.take_succ_cons, zbz5, y9, y20] at h1 h2 h3 hi ⊢
   have e : (encF d ++ BB D).take cut = encF d ++ (BB D).take (cut - (encF d).length) := by
    rw [List.take_append, List.take_of_length_le (by omega)]
   rw [zbz5, e] at hf
   rw [y9] at hf
   rw [e]
   have ih := zbz7 D i (cut - (encF d).length) f (fun x hx => hD x (y35 _ hx)) (by omega) (by omega) (by omega) (fun h => by have := h3 (by omega); omega) (by omega)
   simp only [walkF]
   have hne : encF d ++ (BB D).take (cut - (encF d).length) ≠ [] := by intro e; have := congrArg List.length e; rw [y9] at this; simp only [y24] at this; omega
   rw [if_neg hne, zbzu hd]
   simp only [if_true, y27, List.drop_left]
   rw [ih]
   simp only [y7, true_and]
   split <;> split <;> first | rfl | omega
theorem BB_isB {D : List (List Int)} (h : ∀ d ∈ D, isB d) : isB (BB D) := by
 intro c hc
 obtain ⟨d, hd, hc⟩ := List.mem_flatMap.1 hc
 unfold encF at hc
 rcases List.mem_append.1 hc with h1 | h1
 ·exact zbzb _ c h1
 ·rcases List.mem_append.1 h1 with h2 | h2
  ·exact h d hd c h2
  ·simp [fix4] at h2; omega
def zag (u : Nat) : Int := if u % 2 = 0 then ((u / 2 : Nat) : Int) else -((u / 2 : Nat) : Int) - 1
theorem zbz8 (n : Int) : zag (zig n) = n := by unfold zag zig; split <;> split <;> omega
theorem zbz9 (u : Nat) : zig (zag u) = u := by unfold zag zig; split <;> split <;> omega
theorem ixor0 {x : Int} (h1 : 0 ≤ x) (h2 : x < 9223372036854775808) : ibits .xor .i64 x 0 = x := by
 have e : ibits .xor .i64 x 0 = IntKind.wrap .i64 (((BitVec.ofInt 64 x ^^^ 0#64 : BitVec 64).toNat : Nat) : Int) := by unfold ibits; rfl
 rw [e, BitVec.xor_zero, y48, zbx9, zbxy] <;> omega
theorem zb0a {x : Int} (h1 : 9223372036854775808 ≤ x) (h2 : x < 18446744073709551616) : wrp .i64 x = x - 18446744073709551616 := by
 unfold wrp; simp [IntKind.wrap, IntKind.min, IntKind.max, IntKind.signed, IntKind.bits] <;> omega
theorem ixor1 {x : Int} (h1 : 0 ≤ x) (h2 : x < 9223372036854775808) : ibits .xor .i64 x (-1) = -x - 1 := by
 have e : ibits .xor .i64 x (-1) = IntKind.wrap .i64 (((BitVec.ofInt 64 x ^^^ BitVec.allOnes 64 : BitVec 64).toNat : Nat) : Int) := by unfold ibits; rfl
 rw [e, BitVec.xor_allOnes, BitVec.toNat_not, y48, zbx9, zb0a] <;> omega
theorem and1u {u : Nat} (h : u < 18446744073709551616) : ibits .and .u64 (u : Int) 1 = ((u % 2 : Nat) : Int) := by
 have e : ibits .and .u64 (u : Int) 1 = IntKind.wrap .u64 (((BitVec.ofInt 64 (u : Int) &&& 1#64 : BitVec 64).toNat : Nat) : Int) := by unfold ibits; rfl
 have e1 : (BitVec.ofInt 64 (u : Int)).toNat = u := by rw [y48]; omega
 rw [e, BitVec.toNat_and, e1, show (1#64 : BitVec 64).toNat = 1 from rfl, Nat.and_one_is_mod, zbx9, zbxz (by omega) (by omega)]
theorem ishr1 {x : Int} (h1 : 0 ≤ x) : ishr .u64 x 1 = x / 2 := by
 unfold ishr; simp [IntKind.bits]
 rw [y52]; omega
theorem zb0b {u : Nat} (h : u < 18446744073709551616) : Ev (fun q => zli q (u : Int)) (zag u) := by
 refine Ev.succ (Ev.ret' ?_) (fun q => rfl)
 rw [ishr1 (by omega), and1u h, zbxy (by omega) (by omega)]
 unfold zag
 split
 ·rename_i e
  rw [e, show wrp .i64 ((0 : Nat) : Int) = 0 from zbxy (by omega) (by omega), show wrp .i64 (0 - 0) = 0 from zbxy (by omega) (by omega), ixor0 (by omega) (by omega)]; omega
 ·rename_i e
  rw [show u % 2 = 1 by omega, show wrp .i64 ((1 : Nat) : Int) = 1 from zbxy (by omega) (by omega), show wrp .i64 (0 - 1) = -1 from zbxy (by omega) (by omega), ixor1 (by omega) (by omega)]; omega
theorem rd_lt : ∀ {l : List Int} {i : Nat} {p : Nat × Nat}, isB l → i ≤ 9 → rd i l = some p → p.1 < 2 ^ (64 - 7 * i)
 | [], i, p, hb, hi, h => by simp [rd] at h
 | c :: l, i, p, hb, hi, h => by
  obtain ⟨b1, b2⟩ := hb c y31
  simp only [rd] at h
  split at h
  ·cases h
  ·split at h
   ·cases h
   ·rename_i h9
    split at h
    ·cases h
    ·split at h
     ·simp at h; subst h
      simp only
      by_cases e : i = 9
      ·subst e; simp; omega
      ·have : 2 ^ 7 ≤ 2 ^ (64 - 7 * i) := Nat.pow_le_pow_right (by omega) (by omega)
       omega
     ·cases hr : rd (i + 1) l with
      | none => simp [hr] at h
      | some r =>
       simp [hr] at h; subst h
       by_cases e : i = 9
       ·exfalso; subst e; exact h9 ⟨rfl, by omega⟩
       ·have := rd_lt (fun c hc => hb c (y35 _ hc)) (by omega) hr
        have e2 : 2 ^ (64 - 7 * i) = 128 * 2 ^ (64 - 7 * (i + 1)) := by rw [show 64 - 7 * i = 7 + (64 - 7 * (i + 1)) by omega, Nat.pow_add]
        simp only
        rw [e2]; omega
def getS (l : List Int) : Int × Int := match rd 0 l with
 | none => (0, 0)
 | some p => (zag p.1, (p.2 : Int))
theorem zb0c (s : Sl Int) (hb : isB s.l) : Ev (fun q => zlj q s) (getS s.l) := by
 refine Ev.succ (Ev.bind (zbzg s hb) ?_) (fun q => rfl)
 unfold getS
 cases h : rd 0 s.l with
 | none => exact Ev.pos (by simp [resN]) (Ev.ret _)
 | some p =>
  have h1 := rd_len h
  have h2 := rd_lt hb (by omega) h
  simp only [resN]
  exact Ev.neg (by simp; omega) (Ev.bind (zb0b (by simpa using h2)) (Ev.ret _))
theorem zb0d {l : List Int} : 0 ≤ (getS l).2 ∧ (getS l).2 ≤ l.length ∧ (getS l).2 ≤ 10 := by
 unfold getS
 cases h : rd 0 l with
 | none => simp
 | some p =>
  have := rd_len h
  simp only; omega
def cutsB (l : List Int) : Prop := ∀ n ∈ l, n = cutI n
instance (l : List Int) : Decidable (cutsB l) := by unfold cutsB; infer_instance
theorem zb0e (n : Int) : Ev (fun q => zjq q n) (!(decide (n = cutI n))) := Ev.succ (Ev.bind (zbyd n) (Ev.ret _)) (fun q => rfl)
theorem zb0f (z : Bool) (L : List Int) (h0 : Int) (h1z : Bool) (h1l : List Int) (h2 : Bool) (h3 : Int) (hL : L.length ≤ 1000000) : ∀ (k i : Nat), L.length = i + k →
  ∃ r, Ev (fun q => zjt q z L (L.length : Int) (i : Int) h0 h1z h1l h2 h3) r ∧ (0 ≤ r ↔ ¬ cutsB (L.drop i))
 | 0, i, hk => by
  refine ⟨-1, Ev.succ (Ev.ne (Ev.ret _)) (fun q => rfl), ?_⟩
  rw [y11 (by omega)]; simp [cutsB]
 | k + 1, i, hk => by
  have hi : i < L.length := by omega
  have he : L[((i : Int)).toNat]? = some L[i] := by simp [hi]
  have hd := y8 hi
  by_cases h : L[i] = cutI L[i]
  ·obtain ⟨r, hr, hi2⟩ := zb0f z L h0 h1z h1l h2 h3 hL k (i + 1) (by omega)
   rw [show ((i + 1 : Nat) : Int) = wrp .i64 ((i : Int) + 1) by rw [zbxy (by omega) (by omega)]; omega] at hr
   refine ⟨r, Ev.succ (Ev.po (Ev.po (Ev.opt he (Ev.bind (zb0e _) (Ev.neg (by simpa using h) hr))))) (fun q => rfl), ?_⟩
   rw [hi2, hd]; unfold cutsB; simp only [List.mem_cons, forall_eq_or_imp]
   exact ⟨fun a b => a b.2, fun a b => a ⟨h, b⟩⟩
  ·refine ⟨i, Ev.succ (Ev.po (Ev.po (Ev.opt he (Ev.bind (zb0e _) (Ev.pos (by simpa using h) (Ev.ret _)))))) (fun q => rfl), ?_⟩
   rw [hd]; unfold cutsB; simp only [List.mem_cons, forall_eq_or_imp]
   exact ⟨fun _ b => h b.1, fun _ => by omega⟩
theorem zb0g (z : Bool) (L : List Int) (h0 : Int) (h1z : Bool) (h1l : List Int) (h2 : Bool) (h3 : Int) (hL : L.length ≤ 1000000) : ∃ r, Ev (fun q => zju q z L h0 h1z h1l h2 h3) r ∧ (0 ≤ r ↔ ¬ cutsB L) := by
 obtain ⟨r, h, h4⟩ := zb0f z L h0 h1z h1l h2 h3 hL L.length 0 (by omega)
 exact ⟨r, Ev.succ h (fun q => rfl), by simpa using h4⟩
def prs (least : Int) : Int → List Int → Bool
 | last, a :: b :: t => decide (last < a) && (decide (a ≤ 255) && (decide (least ≤ b) && (decide (b ≤ 1099511627776) && prs least a t)))
 | _, _ => true
def pairsOk (least : Int) (l : List Int) : Bool := prs least (-1) l && (decide (l.length % 2 = 0) && decide (l.length ≤ 128))
theorem zb0h (z : Bool) (L : List Int) (least : Int) (hL : L.length ≤ 1000000) : ∀ (k i : Nat) (last : Int), L.length ≤ i + 2 * k → i ≤ 2000000 →
  Ev (fun q => zjr q z L least last (i : Int)) (prs least last (L.drop i) && (decide (L.length % 2 = 0) && decide (L.length ≤ 128)))
 | k, i, last, hk, hi9 => by
  have w1 : wrp .i64 ((i : Int) + 1) = ((i + 1 : Nat) : Int) := by rw [zbxy (by omega) (by omega)]; omega
  have w2 : wrp .i64 ((i : Int) + 2) = ((i + 2 : Nat) : Int) := by rw [zbxy (by omega) (by omega)]; omega
  by_cases h : i + 1 < L.length
  ·cases k with
   | zero => omega
   | succ k =>
    have he : L[((i : Int)).toNat]? = some L[i] := by rw [y27]; exact y6 (by omega)
    have he2 : L[(wrp .i64 ((i : Int) + 1)).toNat]? = some L[i + 1] := by rw [w1, y27]; exact y6 h
    have hd : L.drop i = L[i] :: L[i + 1] :: L.drop (i + 2) := by rw [y8 (by omega), y8 h]
    rw [hd]
    simp only [prs]
    refine Ev.succ (Ev.pos (by rw [w1]; omega) (Ev.po (Ev.opt he (Ev.ite (fun c => Ev.ret' ?_) fun c => Ev.ite (fun c2 => Ev.ret' ?_) fun c2 => Ev.pos (by rw [w1]; omega) (Ev.opt he2 (Ev.ite (fun c3 => Ev.ret' ?_) fun c3 => Ev.ite (fun c4 => Ev.ret' ?_) fun c4 => ?_)))))) (fun q => rfl)
    ·rw [decide_eq_false (show ¬ last < L[i] by omega)]; rfl
    ·rw [decide_eq_false (show ¬ L[i] ≤ 255 by omega)]; simp
    ·rw [decide_eq_false (show ¬ least ≤ L[i + 1] by omega)]; simp
    ·rw [decide_eq_false (show ¬ L[i + 1] ≤ 1099511627776 by omega)]; simp
    ·rw [decide_eq_true (show last < L[i] by omega), decide_eq_true (show L[i] ≤ 255 by omega), decide_eq_true (show least ≤ L[i + 1] by omega), decide_eq_true (show L[i + 1] ≤ 1099511627776 by omega), w2]
     simp only [y59]
     exact zb0h z L least hL k (i + 2) L[i] (by omega) (by omega)
  ·have hp : prs least last (L.drop i) = true := by
    have hl : (L.drop i).length ≤ 1 := by rw [y12]; omega
    generalize L.drop i = X at hl
    match X, hl with
    | [], _ => rfl
    | [a], _ => rfl
   rw [hp, y59]
   have ht : Int.tmod (L.length : Int) 2 = ((L.length % 2 : Nat) : Int) := by rw [Int.tmod_eq_emod_of_nonneg (by omega)]; omega
   refine Ev.succ (Ev.neg (by rw [w1]; omega) (Ev.ite (fun c => Ev.ret' ?_) fun c => Ev.ret' ?_)) (fun q => rfl)
   ·rw [ht] at c
    rw [decide_eq_true (show L.length % 2 = 0 by omega), y59]
    by_cases h4 : L.length ≤ 128
    ·rw [decide_eq_true h4, decide_eq_true (by omega)]
    ·rw [decide_eq_false h4, decide_eq_false (by omega)]
   ·rw [ht] at c
    rw [decide_eq_false (show ¬ L.length % 2 = 0 by omega)]; rfl
theorem zb0i (s : Sl Int) (least : Int) (hL : s.l.length ≤ 1000000) : Ev (fun q => zjs q s least) (pairsOk least s.l) := by
 have := zb0h s.z s.l least hL s.l.length 0 (-1) (by omega) (by omega)
 exact Ev.succ this (fun q => rfl)
def kindOk (k : Int) (l : List Int) : Bool :=
 if k = 0 ∨ k = 1 then decide (l.length = 1 ∧ cutsB l) else if k = 2 ∨ k = 3 then decide (l.length ≤ 64 ∧ cutsB l) else if k = 4 then pairsOk (-1099511627776) l else if k = 5 then pairsOk 0 l else false
def mayS (s : zji) : Bool := if s.To < 0 then false else if 3 ≤ s.To then false else if s.Sealed = true then kindOk s.Kind s.L.l else if s.To = 0 then kindOk s.Kind s.L.l else false
theorem zb0j (s : zji) (hL : s.L.l.length ≤ 1000000) : Ev (fun q => ((zju q s.L.z s.L.l s.Kind s.L.z s.L.l s.Sealed s.To).bind fun r1 => (if s.Kind = 0 then (if (s.L.l.length : Int) = 1 then (some (!(decide (0 ≤ r1)))) else (some false)) else (if s.Kind = 1 then (if (s.L.l.length : Int) = 1 then (some (!(decide (0 ≤ r1)))) else (some false)) else (if s.Kind = 2 then (if (s.L.l.length : Int) ≤ 64 then (some (!(decide (0 ≤ r1)))) else (some false)) else (if s.Kind = 3 then (if (s.L.l.length : Int) ≤ 64 then (some (!(decide (0 ≤ r1)))) else (some false)) else (if s.Kind = 4 then ((zjs q s.L (-1099511627776)).bind fun r2 => (some r2)) else (if s.Kind = 5 then ((zjs q s.L 0).bind fun r3 => (some r3)) else (some false))))))))) (kindOk s.Kind s.L.l) := by
 obtain ⟨r, h, hr⟩ := zb0g s.L.z s.L.l s.Kind s.L.z s.L.l s.Sealed s.To hL
 have one : ∀ {P : Prop} [Decidable P], P → Ev (fun _ : Nat => (some (!(decide (0 ≤ r))) : Option Bool)) (decide (P ∧ cutsB s.L.l)) := fun {P} _ hp => Ev.ret' (by
  by_cases hc : cutsB s.L.l
  ·rw [decide_eq_false (fun e => hr.1 e hc)]; symm; simp only [Bool.not_false, decide_eq_true_eq]; exact ⟨hp, hc⟩
  ·rw [decide_eq_true (hr.2 hc)]; symm; simp only [Bool.not_true, decide_eq_false_iff_not]; exact fun e => hc e.2)
 have no : ∀ {P : Prop} [Decidable P], ¬ P → Ev (fun _ : Nat => (some false : Option Bool)) (decide (P ∧ cutsB s.L.l)) := fun {P} _ hp => Ev.ret' (by
  symm; simp only [decide_eq_false_iff_not]; exact fun e => hp e.1)
 refine Ev.bind h ?_
 unfold kindOk
 by_cases k0 : s.Kind = 0
 ·rw [if_pos (show s.Kind = 0 ∨ s.Kind = 1 from .inl k0)]
  by_cases hl : s.L.l.length = 1
  ·exact Ev.pos k0 (Ev.po (one hl))
  ·exact Ev.pos k0 (Ev.ne (no hl))
 by_cases k1 : s.Kind = 1
 ·rw [if_pos (show s.Kind = 0 ∨ s.Kind = 1 from .inr k1)]
  by_cases hl : s.L.l.length = 1
  ·exact Ev.neg k0 (Ev.pos k1 (Ev.po (one hl)))
  ·exact Ev.neg k0 (Ev.pos k1 (Ev.ne (no hl)))
 rw [if_neg (show ¬ (s.Kind = 0 ∨ s.Kind = 1) by omega)]
 by_cases k2 : s.Kind = 2
 ·rw [if_pos (show s.Kind = 2 ∨ s.Kind = 3 from .inl k2)]
  by_cases hl : s.L.l.length ≤ 64
  ·exact Ev.neg k0 (Ev.neg k1 (Ev.pos k2 (Ev.po (one hl))))
  ·exact Ev.neg k0 (Ev.neg k1 (Ev.pos k2 (Ev.ne (no hl))))
 by_cases k3 : s.Kind = 3
 ·rw [if_pos (show s.Kind = 2 ∨ s.Kind = 3 from .inr k3)]
  by_cases hl : s.L.l.length ≤ 64
  ·exact Ev.neg k0 (Ev.neg k1 (Ev.neg k2 (Ev.pos k3 (Ev.po (one hl)))))
  ·exact Ev.neg k0 (Ev.neg k1 (Ev.neg k2 (Ev.pos k3 (Ev.ne (no hl)))))
 rw [if_neg (show ¬ (s.Kind = 2 ∨ s.Kind = 3) by omega)]
 refine Ev.neg k0 (Ev.neg k1 (Ev.neg k2 (Ev.neg k3 (Ev.ite (fun k4 => ?_) fun k4 => Ev.ite (fun k5 => ?_) fun k5 => ?_))))
 ·rw [if_pos k4]; exact Ev.bind (zb0i _ _ hL) (Ev.ret _)
 ·rw [if_neg k4, if_pos k5]; exact Ev.bind (zb0i _ _ hL) (Ev.ret _)
 ·rw [if_neg k4, if_neg k5]; exact Ev.ret _
theorem zb0k (s : zji) (hL : s.L.l.length ≤ 1000000) : Ev (fun q => zjv q s) (mayS s) := by
 have hb := zb0j s hL
 unfold mayS
 refine Ev.succ (Ev.ite (fun h => ?_) fun h => Ev.ite (fun h2 => ?_) fun h2 => Ev.ite (fun h3 => ?_) fun h3 => Ev.ite (fun h4 => ?_) fun h4 => ?_) (fun q => rfl)
 ·rw [if_pos h]; exact Ev.ret _
 ·rw [if_neg h, if_pos h2]; exact Ev.ret _
 ·rw [if_neg h, if_neg h2, if_pos h3]; exact hb
 ·rw [if_neg h, if_neg h2, if_neg h3, if_pos h4]; exact hb
 ·rw [if_neg h, if_neg h2, if_neg h3, if_neg h4]; exact Ev.ret _
def entOk (e : zjj) : Bool := decide (0 ≤ e.Proc) && (decide (e.Proc ≤ 64) && (decide (0 ≤ e.Seq) && (decide (e.Seq < 4611686018427387904) && (decide (-1125899906842624 ≤ e.Resp) && decide (e.Resp ≤ 1125899906842624)))))
theorem zb0l (e : zjj) : Ev (fun q => zjw q e) (entOk e) := by
 unfold entOk
 exact Ev.succ (Ev.ite (fun h1 => Ev.ite (fun h2 => Ev.ite (fun h3 => Ev.ite (fun h4 => Ev.ite (fun h5 => Ev.ret' (by simp [*])) fun h5 => Ev.ret' (by simp [*])) fun h4 => Ev.ret' (by simp [*])) fun h3 => Ev.ret' (by simp [*])) fun h2 => Ev.ret' (by simp [*])) fun h1 => Ev.ret' (by simp [*])) (fun q => rfl)
def tabB : Int → List zjj → Bool
 | _, [] => true
 | last, e :: t => entOk e && (decide (last < e.Proc) && tabB e.Proc t)
theorem zb0m (z z2 : Bool) (L : List zjj) (hL : L.length ≤ 1000000) : ∀ (k i : Nat) (last : Int), L.length = i + k → (∀ e, 0 < i → L[i - 1]? = some e → e.Proc = last) → (i = 0 → last = -1) →
  Ev (fun q => zjx q z L z2 L (L.length : Int) (i : Int)) (tabB last (L.drop i))
 | 0, i, last, hk, h1, h0 => by
  refine Ev.succ (Ev.ne (Ev.ret' ?_)) (fun q => rfl)
  rw [y11 (by omega)]; rfl
 | k + 1, i, last, hk, h1, h0 => by
  have hi : i < L.length := by omega
  have he : L[((i : Int)).toNat]? = some L[i] := by simp [hi]
  rw [y8 hi]
  simp only [tabB]
  have w1 : wrp .i64 ((i : Int) + 1) = ((i + 1 : Nat) : Int) := by rw [zbxy (by omega) (by omega)]; omega
  have ih := zb0m z z2 L hL k (i + 1) L[i].Proc (by omega) (fun e _ hx => by
   rw [Nat.add_sub_cancel, y6 hi] at hx
   simp only [y1] at hx; rw [hx]) (by omega)
  refine Ev.succ (Ev.po (Ev.po (Ev.opt he (Ev.bind (zb0l _) (Ev.ite (fun c => Ev.ite (fun c2 => ?_) fun c2 => ?_) fun c => Ev.ret' ?_))))) (fun q => rfl)
  ·have w3 : wrp .i64 ((i : Int) - 1) = ((i - 1 : Nat) : Int) := by rw [zbxy (by omega) (by omega)]; omega
   have he3 : L[(wrp .i64 ((i : Int) - 1)).toNat]? = some L[i - 1] := by rw [w3, y27]; exact y6 (by omega)
   have hq := h1 L[i - 1] (by omega) (y6 (by omega))
   refine Ev.pos (by rw [w3]; omega) (Ev.opt he3 (Ev.ite (fun c4 => Ev.ret' ?_) fun c4 => ?_))
   ·rw [c, decide_eq_false (show ¬ last < L[i].Proc by omega)]; rfl
   ·rw [c, decide_eq_true (show last < L[i].Proc by omega), w1]; simpa using ih
  ·have := h0 (by omega)
   have hp : 0 ≤ L[i].Proc := by unfold entOk at c; simp only [y5, decide_eq_true_eq] at c; exact c.1
   rw [c, decide_eq_true (show last < L[i].Proc by omega), w1]; simpa using ih
  ·simp only [Bool.not_eq_true] at c; rw [c]; rfl
theorem zb0n (s : Sl zjj) (hL : s.l.length ≤ 1000000) : Ev (fun q => zjy q s) (tabB (-1) s.l) :=
 Ev.succ (zb0m s.z s.z s.l hL s.l.length 0 (-1) (by omega) (fun e h => by omega) (fun _ => rfl)) (fun q => rfl)
def mayN (s : zjk) : Bool := decide (0 ≤ s.Index) && (decide (s.Index < 4611686018427387904) && (mayS s.State && tabB (-1) s.Table.l))
theorem zb0o (s : zjk) (h1 : s.State.L.l.length ≤ 1000000) (h2 : s.Table.l.length ≤ 1000000) : Ev (fun q => zjz q s) (mayN s) := by
 unfold mayN
 refine Ev.succ (Ev.ite (fun c1 => Ev.ite (fun c2 => Ev.bind (zb0k _ h1) (Ev.ite (fun c3 => Ev.bind (zb0n _ h2) (Ev.ret' ?_)) fun c3 => Ev.ret' ?_)) fun c2 => Ev.ret' ?_) fun c1 => Ev.ret' ?_) (fun q => rfl)
 ·simp [c1, c2, c3]
 ·simp [c3]
 ·simp [c2]
 ·simp [c1]
instance : DecidableEq zjj := fun a b => if h : a.Proc = b.Proc ∧ a.Seq = b.Seq ∧ a.Resp = b.Resp then isTrue (by cases a; cases b; simp_all) else isFalse (fun e => h (by rw [e]; exact ⟨rfl, rfl, rfl⟩))
theorem zb0p {a b : zjj} (h1 : a.Proc = b.Proc) (h2 : a.Seq = b.Seq) (h3 : a.Resp = b.Resp) : a = b := by cases a; cases b; simp_all
theorem zb0q (z z2 : Bool) (A B : List Int) (hl : A.length = B.length) (hL : A.length ≤ 1099511627776) : ∀ (k i : Nat), A.length = i + k → Ev (fun q => zka q z A z2 B (A.length : Int) (i : Int)) (decide (A.drop i = B.drop i))
 | 0, i, hk => by
  refine Ev.succ (Ev.ne (Ev.ret' ?_)) (fun q => rfl)
  rw [y11 (by omega), y11 (by omega)]; simp
 | k + 1, i, hk => by
  have hi : i < A.length := by omega
  have hi2 : i < B.length := by omega
  have hg : A[(i : Int).toNat]? = some A[i] := by simpa using y6 hi
  have hg2 : B[(i : Int).toNat]? = some B[i] := by simpa using y6 hi2
  refine Ev.succ (Ev.po (Ev.po (Ev.opt hg (Ev.opt hg2 ?_)))) (fun q => rfl)
  rw [y8 hi, y8 hi2]
  refine Ev.ite (fun h => ?_) fun h => Ev.ret' (by symm; rw [decide_eq_false_iff_not]; intro e; exact h (List.cons.inj e).1)
  rw [zbxy (by omega) (by omega), show ((i : Int) + 1) = ((i + 1 : Nat) : Int) by omega]
  refine (zb0q z z2 A B hl hL k (i + 1) (by omega)).cast ?_
  rw [decide_eq_decide, List.cons.injEq]; simp only [h, true_and]
theorem zb0r (a b : Sl Int) (hL : a.l.length ≤ 1099511627776) : Ev (fun q => zkb q a b) (decide (a.l = b.l)) := by
 refine Ev.succ (Ev.ite (fun h => ?_) fun h => Ev.ret' ?_) (fun q => rfl)
 ·have := zb0q a.z b.z a.l b.l (by omega) hL a.l.length 0 (by omega)
  rw [y37, y37] at this; exact this
 ·symm; rw [decide_eq_false_iff_not]; intro e; rw [e] at h; exact h rfl
theorem Few_ev (s : zjk) : Ev (fun q => zkh q s) (decide (s.State.L.l.length ≤ 300 ∧ s.Table.l.length ≤ 100)) := by
 have h4 : Ev (fun q => zkg q s.State) (decide ((s.State.L.l.length : Int) ≤ 300)) := Ev.succ (g := fun _ => some (decide ((s.State.L.l.length : Int) ≤ 300))) (Ev.ret _) (fun q => rfl)
 refine Ev.succ (Ev.bind h4 (Ev.ite (fun h => Ev.ret' ?_) fun h => Ev.ret' ?_)) (fun q => rfl)
 ·simp only [decide_eq_true_eq] at h
  by_cases c : s.Table.l.length ≤ 100
  ·rw [decide_eq_true (by omega), decide_eq_true ⟨by omega, c⟩]
  ·rw [decide_eq_false (by omega), decide_eq_false (fun e => c e.2)]
 ·simp only [decide_eq_true_eq] at h
  rw [decide_eq_false (fun e => h (by omega))]
theorem zb0s {least : Int} : ∀ {l : List Int} {last : Int}, prs least last l = true → l.length % 2 = 0 → -1 ≤ last → -1099511627776 ≤ least → ∀ x ∈ l, -1099511627776 ≤ x ∧ x ≤ 1099511627776
 | [], last, h, h2, h3, h4, x, hx => by cases hx
 | [a], last, h, h2, h3, h4, x, hx => by simp at h2
 | a :: b :: t, last, h, h2, h3, h4, x, hx => by
  simp only [prs, y5, decide_eq_true_eq] at h
  simp only [y20] at h2
  rcases List.mem_cons.1 hx with e | e
  ·omega
  ·rcases List.mem_cons.1 e with e | e
   ·omega
   ·exact zb0s h.2.2.2.2 (by omega) (by omega) h4 x e
theorem zb0t {l : List Int} (h : cutsB l) : ∀ x ∈ l, -1099511627776 ≤ x ∧ x ≤ 1099511627776 := fun x hx => zbyf.1 (h x hx)
theorem zb0u {k : Int} {l : List Int} (h : kindOk k l = true) : 0 ≤ k ∧ k ≤ 5 ∧ l.length ≤ 128 ∧ ∀ x ∈ l, -1099511627776 ≤ x ∧ x ≤ 1099511627776 := by
 unfold kindOk at h
 split at h
 ·simp only [decide_eq_true_eq] at h; exact ⟨by omega, by omega, by omega, zb0t h.2⟩
 ·split at h
  ·simp only [decide_eq_true_eq] at h; exact ⟨by omega, by omega, by omega, zb0t h.2⟩
  ·split at h
   ·simp only [pairsOk, y5, decide_eq_true_eq] at h; exact ⟨by omega, by omega, by omega, zb0s h.1 h.2.1 (by omega) (by omega)⟩
   ·split at h
    ·simp only [pairsOk, y5, decide_eq_true_eq] at h; exact ⟨by omega, by omega, by omega, zb0s h.1 h.2.1 (by omega) (by omega)⟩
    ·cases h
theorem zb0v {s : zji} (h : mayS s = true) : 0 ≤ s.To ∧ s.To ≤ 2 ∧ (s.Sealed = false → s.To = 0) ∧ kindOk s.Kind s.L.l = true := by
 unfold mayS at h
 split at h
 ·cases h
 ·split at h
  ·cases h
  ·split at h
   ·rename_i h1 h2 h3; exact ⟨by omega, by omega, fun e => (by rw [e] at h3; cases h3), h⟩
   ·split at h
    ·rename_i h1 h2 h3 h4; exact ⟨by omega, by omega, fun _ => h4, h⟩
    ·cases h
theorem zb0w {e : zjj} (h : entOk e = true) : 0 ≤ e.Proc ∧ e.Proc ≤ 64 ∧ 0 ≤ e.Seq ∧ e.Seq < 4611686018427387904 ∧ -1125899906842624 ≤ e.Resp ∧ e.Resp ≤ 1125899906842624 := by
 simpa only [entOk, y5, decide_eq_true_eq] using h
theorem zb0x : ∀ {t : List zjj} {last : Int}, tabB last t = true → ∀ e ∈ t, entOk e = true
 | [], last, h, e, he => by cases he
 | a :: t, last, h, e, he => by
  simp only [tabB, y5] at h
  rcases List.mem_cons.1 he with r | r
  ·rw [r]; exact h.1
  ·exact zb0x h.2.2 e r
theorem zb0y {s : zjk} (h : mayN s = true) : 0 ≤ s.Index ∧ s.Index < 4611686018427387904 ∧ mayS s.State = true ∧ tabB (-1) s.Table.l = true := by
 simpa only [mayN, y5, decide_eq_true_eq] using h
/-- A table has at most 65 entries. -/
theorem zb0z : ∀ {t : List zjj} {last : Int}, tabB last t = true → -1 ≤ last → (t.length : Int) + last ≤ 64 ∨ t = []
 | [], last, h, h1 => .inr rfl
 | a :: t, last, h, h1 => by
  simp only [tabB, y5, decide_eq_true_eq] at h
  have ha := zb0w h.1
  rcases zb0z h.2.2 (by omega) with e | e
  ·left; rw [y20]; omega
  ·left; rw [e]; simp only [y20, y24]; omega
def sealN (s : zji) : Int := if s.Sealed = true then s.To + 1 else 0
def numsB (l : List Int) : List Int := l.flatMap putS
theorem zb00 (x : Int) (l : List Int) : numsB (x :: l) = putS x ++ numsB l := by simp [numsB]
def inT (l : List Int) : Prop := ∀ x ∈ l, -1099511627776 ≤ x ∧ x ≤ 1099511627776
theorem inT_R {l : List Int} (h : inT l) {x : Int} (hx : x ∈ l) : inR .i64 x := by have := h x hx; exact zbyi (by omega) (by omega)
theorem zb01 {x : Int} {l : List Int} (h : inT (x :: l)) : inR .i64 x ∧ inT l := ⟨inT_R h y31, fun y hy => h y (y35 _ hy)⟩
theorem zb02 : ∀ {l : List Int}, inT l → (numsB l).length ≤ 10 * l.length
 | [], h => by simp [numsB]
 | x :: l, h => by
  have h2 := zb02 (zb01 h).2
  have h1 := zbyh (zb01 h).1
  rw [zb00, y9, y20]; omega
theorem zb03 (n : Int) : isB (putS n) := zbza _
theorem zb04 : ∀ {l : List Int}, isB (numsB l)
 | [] => fun c hc => by simp [numsB] at hc
 | x :: l => by rw [zb00]; exact zbzc.2 ⟨zb03 _, zb04⟩
def stateB (s : zji) : List Int := ((put s.Kind ++ put (sealN s)) ++ put (s.L.l.length : Int)) ++ numsB s.L.l
theorem zb05 {s : zji} (h : inT s.L.l) : (stateB s).length ≤ 30 + 10 * s.L.l.length := by
 have h1 := zbx7 s.Kind; have h2 := zbx7 (sealN s); have h3 := zbx7 (s.L.l.length : Int); have h4 := zb02 h
 simp only [stateB, y9]; omega
theorem zb06 {s : zji} : isB (stateB s) := zbzc.2 ⟨zbzc.2 ⟨zbzc.2 ⟨zbzb _, zbzb _⟩, zbzb _⟩, zb04⟩
theorem zb07 (z : Bool) (L : List Int) (hL : L.length ≤ 1000000) (hT : inT L) : ∀ (k i : Nat) (l : List Int), L.length = i + k → l.length ≤ 1000 + 10 * i →
  Ev (fun q => zlw q z L (L.length : Int) (i : Int) false l true) (⟨false, true, l ++ numsB (L.drop i)⟩, 0)
 | 0, i, l, hk, hl => by
  refine Ev.succ (Ev.ne (Ev.ret' ?_)) (fun q => rfl)
  rw [y11 (by omega)]; simp [numsB]
 | k + 1, i, l, hk, hl => by
  have hi : i < L.length := by omega
  have he : L[((i : Int)).toNat]? = some L[i] := by simp [hi]
  have hr := inT_R hT (y25 hi)
  have hp := zbyh hr
  have ih := zb07 z L hL hT k (i + 1) (l ++ putS L[i]) (by omega) (by rw [y9]; omega)
  rw [show ((i + 1 : Nat) : Int) = wrp .i64 ((i : Int) + 1) by rw [zbxy (by omega) (by omega)]; omega] at ih
  refine Ev.succ (Ev.po (Ev.po (Ev.opt he (Ev.bind (zbyc ⟨false, true, l⟩ hr (by simp only; omega)) (Ev.cast ih ?_))))) (fun q => rfl)
  rw [y8 hi, zb00, y32]
theorem zb08 {s : zji} (h : mayS s = true) : 0 ≤ sealN s ∧ sealN s ≤ 3 := by
 have := zb0v h; unfold sealN; split <;> omega
theorem zb09 {s : zji} (h : mayS s = true) : Ev (fun q => zlv q s) (sealN s) := by
 have hm := zb0v h
 unfold sealN
 refine Ev.succ (Ev.ite (fun c => Ev.ret' ?_) fun c => Ev.ret' ?_) (fun q => rfl)
 ·rw [if_pos c, zbxy (by omega) (by omega)]
 ·rw [if_neg c]
theorem zb1a {s : zji} (h : mayS s = true) : Ev (fun q => zlx q s) (⟨false, true, stateB s⟩, 0) := by
 have hm := zb0v h
 have hk := zb0u hm.2.2.2
 have hs := zb08 h
 have hM := zb0k s (by omega)
 rw [h] at hM
 have p1 := zbx7 s.Kind; have p2 := zbx7 (sealN s); have p3 := zbx7 (s.L.l.length : Int)
 have hl := zb07 s.L.z s.L.l (by omega) hk.2.2.2 s.L.l.length 0 ((put s.Kind ++ put (sealN s)) ++ put (s.L.l.length : Int)) (by omega) (by simp only [y9]; omega)
 rw [y37] at hl
 exact Ev.succ (Ev.bind hM (Ev.pos rfl (Ev.bind (zbx8 ⟨true, true, []⟩ (by omega) (by omega) (by simp)) (Ev.bind (zb09 h) (Ev.bind (zbx8 _ (by omega) (by omega) (by simp only [y46]; omega)) (Ev.bind (zbx8 _ (by omega) (by omega) (by simp only [y46, y9]; omega)) hl)))))) (fun q => rfl)
def entB (e : zjj) : List Int := put e.Proc ++ (put e.Seq ++ putS e.Resp)
def tabE (l : List zjj) : List Int := l.flatMap entB
theorem zb1b (e : zjj) (l : List zjj) : tabE (e :: l) = entB e ++ tabE l := by simp [tabE]
def entsOk (l : List zjj) : Prop := ∀ e ∈ l, entOk e = true
theorem zb1c {e : zjj} (h : entOk e = true) : inR .i64 e.Resp := by have := zb0w h; exact zbyi (by omega) (by omega)
theorem zb1d {e : zjj} (h : entOk e = true) : (entB e).length ≤ 30 := by
 have h1 := zbx7 e.Proc; have h2 := zbx7 e.Seq; have h3 := zbyh (zb1c h)
 simp only [entB, y9]; omega
theorem zb1e {e : zjj} : isB (entB e) := zbzc.2 ⟨zbzb _, zbzc.2 ⟨zbzb _, zb03 _⟩⟩
theorem zb1f : ∀ {l : List zjj}, entsOk l → (tabE l).length ≤ 30 * l.length
 | [], h => by simp [tabE]
 | e :: l, h => by
  have h1 := zb1d (h e y31)
  have h2 := zb1f (l := l) fun x hx => h x (y35 _ hx)
  rw [zb1b, y9, y20]; omega
theorem zb1g : ∀ {l : List zjj}, isB (tabE l)
 | [] => fun c hc => by simp [tabE] at hc
 | e :: l => by rw [zb1b]; exact zbzc.2 ⟨zb1e, zb1g⟩
def wholeB (s : zjk) : List Int := ((put ((stateB s.State).length : Int) ++ stateB s.State) ++ put (s.Table.l.length : Int)) ++ tabE s.Table.l
theorem zb1h (z : Bool) (L : List zjj) (hL : L.length ≤ 1000000) (hT : entsOk L) : ∀ (k i : Nat) (l : List Int), L.length = i + k → l.length ≤ 10000 + 30 * i →
  Ev (fun q => zly q z L (L.length : Int) (i : Int) false l true) ⟨false, true, l ++ tabE (L.drop i)⟩
 | 0, i, l, hk, hl => by
  refine Ev.succ (Ev.ne (Ev.ret' ?_)) (fun q => rfl)
  rw [y11 (by omega)]; simp [tabE]
 | k + 1, i, l, hk, hl => by
  have hi : i < L.length := by omega
  have he : L[((i : Int)).toNat]? = some L[i] := by simp [hi]
  have hr := hT L[i] (y25 hi)
  have ho := zb0w hr
  have p1 := zbx7 L[i].Proc; have p2 := zbx7 L[i].Seq; have p3 := zbyh (zb1c hr)
  have ih := zb1h z L hL hT k (i + 1) (((l ++ put L[i].Proc) ++ put L[i].Seq) ++ putS L[i].Resp) (by omega) (by simp only [y9]; omega)
  rw [show ((i + 1 : Nat) : Int) = wrp .i64 ((i : Int) + 1) by rw [zbxy (by omega) (by omega)]; omega] at ih
  refine Ev.succ (Ev.po (Ev.po (Ev.opt he (Ev.bind (zbx8 ⟨false, true, l⟩ (by omega) (by omega) (by simp only; omega)) (Ev.bind (zbx8 _ (by omega) (by omega) (by simp only [y9]; omega)) (Ev.bind (zbyc _ (zb1c hr) (by simp only [y9]; omega)) (Ev.cast ih ?_))))))) (fun q => rfl)
  rw [y8 hi, zb1b, entB]; simp only [y32]
theorem zb1i {s : zjk} (h : mayN s = true) : (wholeB s).length ≤ 5000 ∧ (stateB s.State).length ≤ 1310 ∧ s.Table.l.length ≤ 65 := by
 have hm := zb0y h
 have hk := zb0u (zb0v hm.2.2.1).2.2.2
 have h1 := zb05 (s := s.State) hk.2.2.2
 have h2 := zb1f (zb0x hm.2.2.2)
 have h3 := zb0z hm.2.2.2 (by omega)
 have h4 : s.Table.l.length ≤ 65 := by
  rcases h3 with e | e
  ·omega
  ·rw [e]; simp
 have p1 := zbx7 ((stateB s.State).length : Int); have p2 := zbx7 (s.Table.l.length : Int)
 simp only [wholeB, y9]; omega
theorem zb1j {s : zjk} : isB (wholeB s) := zbzc.2 ⟨zbzc.2 ⟨zbzc.2 ⟨zbzb _, zb06⟩, zbzb _⟩, zb1g⟩
theorem zb1k {s : zjk} (h : mayN s = true) : Ev (fun q => zlz q s) ⟨false, true, wholeB s⟩ := by
 have hm := zb0y h
 have hl := zb1i h
 have p1 := zbx7 ((stateB s.State).length : Int); have p2 := zbx7 (s.Table.l.length : Int)
 have hw := zb1h s.Table.z s.Table.l (by omega) (zb0x hm.2.2.2) s.Table.l.length 0 ((put ((stateB s.State).length : Int) ++ stateB s.State) ++ put (s.Table.l.length : Int)) (by omega) (by simp only [y9]; omega)
 rw [y37] at hw
 exact Ev.succ (Ev.bind (zb1a hm.2.2.1) (Ev.bind (zbx8 ⟨true, true, []⟩ (by omega) (by simp only; omega) (by simp)) (Ev.pos (by simp only [y46]; omega) (Ev.bind (zbx8 _ (by omega) (by omega) (by simp only [y46, y9]; omega)) hw)))) (fun q => rfl)
/-- Pieces of 64 bytes. -/
def chks : Nat → List Int → List (List Int)
 | 0, _ => []
 | k + 1, l => if l.length = 0 then [] else l.take 64 :: chks k (l.drop 64)
def frsB (F : List (List Int)) : List Int := (F.map encF).flatten
theorem zb1l (f : List Int) (F : List (List Int)) : frsB (f :: F) = encF f ++ frsB F := by simp [frsB]
theorem zb1m (l : List Int) : (encF l).length = (put (l.length : Int)).length + l.length + 4 := by
 simp only [encF, fix4, y9, y20, y24]; omega
theorem zb1n (s : Sl Int) (hb : isB s.l) (hl : s.l.length ≤ 1048576) : ∃ z, Ev (fun q => zl0 q s) ⟨z, true, encF s.l⟩ := by
 obtain ⟨z, h⟩ := zbzd s hb hl
 exact ⟨z, Ev.succ (Ev.bind h (Ev.ret _)) (fun q => rfl)⟩
theorem min64 (n : Nat) : (if 64 < (n : Int) then 64 else (n : Int)) = ((min 64 n : Nat) : Int) := by
 split <;> omega
theorem zb1o (z : Bool) (L : List Int) (hL : L.length ≤ 1000000) (hb : isB L) : ∀ (k i n : Nat) (hz : Bool) (l : List Int), L.length = i + n → n ≤ k → l.length ≤ 1000 + 20 * i →
  ∃ z', (hz = false → z' = false) ∧ Ev (fun q => zl1 q i n z L hz l true) (⟨z', true, l ++ frsB (chks k (L.drop i))⟩, 0)
 | 0, i, n, hz, l, hk, hn, hl => by
  refine ⟨hz, id, Ev.succ (Ev.ne (Ev.ret' ?_)) (fun q => rfl)⟩
  simp [chks, frsB]
 | k + 1, i, n, hz, l, hk, hn, hl => by
  by_cases h0 : n = 0
  ·refine ⟨hz, id, Ev.succ (Ev.ne (Ev.ret' ?_)) (fun q => rfl)⟩
   rw [y11 (by omega)]; simp [chks, frsB]
  ·have ht : ((L.drop i).take (min 64 n)).length = min 64 n := by rw [y19, y12]; omega
   have p := zbx7 (((L.drop i).take (min 64 n)).length : Int)
   have he := zb1m ((L.drop i).take (min 64 n))
   obtain ⟨z1, hF⟩ := zb1n ⟨z, (L.drop i).take (min 64 n)⟩ (zbzo (zbzp hb _) _) (by simp only; omega)
   obtain ⟨z', hzz, ih⟩ := zb1o z L hL hb k (i + min 64 n) (n - min 64 n) (hz && (decide ((encF ((L.drop i).take (min 64 n))).length = 0))) (l ++ encF ((L.drop i).take (min 64 n))) (by omega) (by omega) (by simp only [y9]; omega)
   refine ⟨z', fun h => hzz (by rw [h]; rfl), Ev.succ (Ev.pos (by omega) ?_) (fun q => rfl)⟩
   rw [min64 n, y27]
   refine Ev.po (Ev.po (Ev.po (Ev.bind hF (Ev.pos (by simp only; omega) (Ev.po (Ev.cast ih ?_))))))
   simp only [chks]
   rw [if_neg (by rw [y12]; omega), zb1l, y32, List.drop_drop]
   by_cases hn : n ≤ 64
   ·rw [Nat.min_eq_right hn, List.take_of_length_le (by rw [y12]; omega), List.take_of_length_le (by rw [y12]; omega), y11 (l := L) (i := i + n) (by omega), y11 (l := L) (i := i + 64) (by omega)]
   ·rw [Nat.min_eq_left (by omega)]
theorem zb1p (z x : Bool) (L : List Int) (hL : L.length ≤ 1000000) (hb : isB L) (hz : Bool) (l : List Int) (hl : l.length ≤ 900) :
  ∃ z', (L.length ≠ 0 → z' = false) ∧ Ev (fun q => zl2 q z L x hz l true) (⟨z', true, l ++ frsB (chks L.length L)⟩, 0) := by
 by_cases h0 : L.length = 0
 ·refine ⟨hz, fun h => absurd h0 h, Ev.succ (Ev.ne (Ev.ret' ?_)) (fun q => rfl)⟩
  rw [h0]; simp [chks, frsB]
 ·have ht : (L.take (min 64 L.length)).length = min 64 L.length := by rw [y19]; omega
  have p := zbx7 ((L.take (min 64 L.length)).length : Int)
  have he := zb1m (L.take (min 64 L.length))
  obtain ⟨z1, hF⟩ := zb1n ⟨z, L.take (min 64 L.length)⟩ (zbzo hb _) (by simp only; omega)
  obtain ⟨z', hzz, ih⟩ := zb1o z L hL hb (L.length - 1) (min 64 L.length) (L.length - min 64 L.length) (hz && (decide ((encF (L.take (min 64 L.length))).length = 0))) (l ++ encF (L.take (min 64 L.length))) (by omega) (by omega) (by simp only [y9]; omega)
  refine ⟨z', fun _ => hzz (by rw [decide_eq_false (by omega), Bool.and_false]), Ev.succ (Ev.pos (by omega) ?_) (fun q => rfl)⟩
  rw [min64 L.length, y27]
  refine Ev.po (Ev.po (Ev.po (Ev.bind hF (Ev.pos (by simp only; omega) (Ev.cast ih ?_)))))
  obtain ⟨m, hm⟩ : ∃ m, L.length = m + 1 := ⟨L.length - 1, by omega⟩
  have hc : chks L.length L = L.take 64 :: chks (L.length - 1) (L.drop 64) := by rw [hm]; simp only [chks]; rw [if_neg (by omega)]; rfl
  rw [hc, zb1l, y32]
  by_cases hn : L.length ≤ 64
  ·rw [Nat.min_eq_right hn, List.take_of_length_le (by omega), List.take_of_length_le hn, y11 (by omega), y11 (by omega)]
  ·rw [Nat.min_eq_left (by omega)]
/-- What the first frame tells. -/
def manB (i : Int) (w : List Int) : List Int := ((([115] ++ put 3) ++ put i) ++ put (w.length : Int)) ++ fix4 (bsum w).toNat
def snapB (s : zjk) : List Int := encF (manB s.Index (wholeB s)) ++ frsB (chks (wholeB s).length (wholeB s))
theorem zb1q (i : Int) (w : List Int) : (manB i w).length ≤ 35 := by
 have h1 := zbx7 3; have h2 := zbx7 i; have h3 := zbx7 (w.length : Int)
 simp only [manB, fix4, y9, y20, y24]; omega
theorem zb1r (v : Nat) : isB (fix4 v) := by
 intro c hc; simp only [fix4, List.mem_cons, List.not_mem_nil, or_false] at hc; omega
theorem zb1s (i : Int) (w : List Int) : isB (manB i w) := by
 refine zbzc.2 ⟨zbzc.2 ⟨zbzc.2 ⟨zbzc.2 ⟨?_, zbzb _⟩, zbzb _⟩, zbzb _⟩, zb1r _⟩
 intro c hc; simp only [List.mem_cons, List.not_mem_nil, or_false] at hc; omega
theorem zb1t (s : zjk) (h1 : s.State.L.l.length ≤ 1000000) (h2 : s.Table.l.length ≤ 1000000) : ∃ z, (mayN s = true → z = false) ∧ Ev (fun q => zl3 q s) (if mayN s = true then (⟨z, true, snapB s⟩, 0) else (⟨true, true, []⟩, 1)) := by
 by_cases h : mayN s = true
 ·have hm := zb0y h
  have hl := zb1i h
  have q1 := zbx7 3; have q2 := zbx7 s.Index; have q3 := zbx7 ((wholeB s).length : Int)
  have hml := zb1q s.Index (wholeB s)
  obtain ⟨z1, hF⟩ := zb1n ⟨false && (decide ((fix4 (bsum (wholeB s)).toNat).length = 0)), manB s.Index (wholeB s)⟩ (zb1s _ _) (by simp only; omega)
  have he := zb1m (manB s.Index (wholeB s)); have p := zbx7 ((manB s.Index (wholeB s)).length : Int)
  obtain ⟨z, hzf, hE⟩ := zb1p false true (wholeB s) (by omega) zb1j z1 (encF (manB s.Index (wholeB s))) (by omega)
  refine ⟨z, fun _ => hzf (by have : 1 ≤ (put ((stateB s.State).length : Int)).length := (by rw [put_ok (by omega) (by omega)]; exact zbx4 _); simp only [wholeB, y9]; omega), ?_⟩
  rw [if_pos h]
  refine Ev.succ (Ev.bind (zb0o s h1 h2) (Ev.pos h (Ev.bind (zb1k h) (Ev.bind (zbx8 ⟨false, true, [115]⟩ (by omega) (by omega) (by simp)) (Ev.bind (zbx8 _ (by omega) (by omega) (by simp only [y9, y20, y24]; omega)) (Ev.bind (zbx8 _ (by omega) (by simp only; omega) (by simp only [y9, y20, y24]; omega)) (Ev.bind (zbyw ⟨false, wholeB s⟩ zb1j (by simp only; omega)) (Ev.bind (zby3 _) (Ev.pos ?_ (Ev.bind hF hE))))))))) ) (fun q => rfl)
  simp only [fix4, y9, y20, y24]; omega
 ·refine ⟨true, fun e => absurd e h, ?_⟩
  rw [if_neg h]
  exact Ev.succ (Ev.bind (zb0o s h1 h2) (Ev.neg h (Ev.ret _))) (fun q => rfl)
theorem zb1u (s : zjk) (h1 : s.State.L.l.length ≤ 1000000) (h2 : s.Table.l.length ≤ 1000000) : ∃ z, Ev (fun q => zl3 q s) (if mayN s = true then (⟨z, true, snapB s⟩, 0) else (⟨true, true, []⟩, 1)) := by
 obtain ⟨z, _, h⟩ := zb1t s h1 h2
 exact ⟨z, h⟩
theorem zb1v (z z2 : Bool) (A B : List zjj) (hl : A.length = B.length) (hL : A.length ≤ 1099511627776) : ∀ (k i : Nat), A.length = i + k → Ev (fun q => zkd q z A z2 B (A.length : Int) (i : Int)) (decide (A.drop i = B.drop i))
 | 0, i, hk => by
  refine Ev.succ (Ev.ne (Ev.ret' ?_)) (fun q => rfl)
  rw [y11 (by omega), y11 (by omega)]; simp
 | k + 1, i, hk => by
  have hi : i < A.length := by omega
  have hi2 : i < B.length := by omega
  have hg : A[(i : Int).toNat]? = some A[i] := by simpa using y6 hi
  have hg2 : B[(i : Int).toNat]? = some B[i] := by simpa using y6 hi2
  have no : ¬ A[i] = B[i] → false = decide (A[i] :: A.drop (i + 1) = B[i] :: B.drop (i + 1)) := fun h => by
   symm; rw [decide_eq_false_iff_not]; intro e; exact h (List.cons.inj e).1
  rw [y8 hi, y8 hi2]
  refine Ev.succ (Ev.po (Ev.po (Ev.opt hg (Ev.opt hg2 (Ev.ite (fun c1 => Ev.ite (fun c2 => Ev.ite (fun c3 => ?_) fun c3 => Ev.ret' (no fun e => c3 (by rw [e]))) fun c2 => Ev.ret' (no fun e => c2 (by rw [e]))) fun c1 => Ev.ret' (no fun e => c1 (by rw [e]))))))) (fun q => rfl)
  rw [zbxy (by omega) (by omega), show ((i : Int) + 1) = ((i + 1 : Nat) : Int) by omega]
  refine (zb1v z z2 A B hl hL k (i + 1) (by omega)).cast ?_
  rw [decide_eq_decide, List.cons.injEq]; simp only [zb0p c1 c2 c3, true_and]
theorem zb1w (a b : Sl zjj) (hL : a.l.length ≤ 1099511627776) : Ev (fun q => zke q a b) (decide (a.l = b.l)) := by
 refine Ev.succ (Ev.ite (fun h => ?_) fun h => Ev.ret' ?_) (fun q => rfl)
 ·have := zb1v a.z b.z a.l b.l (by omega) hL a.l.length 0 (by omega)
  rw [y37, y37] at this; exact this
 ·symm; rw [decide_eq_false_iff_not]; intro e; rw [e] at h; exact h rfl
/-- The same states, the same snapshots. -/
def sameS (a b : zji) : Bool := decide (a.Kind = b.Kind) && (decide (a.Sealed = b.Sealed) && (decide (a.To = b.To) && decide (a.L.l = b.L.l)))
def sameN (a b : zjk) : Bool := decide (a.Index = b.Index) && (sameS a.State b.State && decide (a.Table.l = b.Table.l))
theorem zb1x (a b : zji) (hL : a.L.l.length ≤ 1099511627776) : Ev (fun q => zkc q a b) (sameS a b) := by
 unfold sameS
 refine Ev.succ (Ev.ite (fun c1 => Ev.ite (fun c2 => Ev.ite (fun c3 => Ev.bind (zb0r _ _ hL) (Ev.ret' ?_)) fun c3 => Ev.ret' ?_) fun c2 => Ev.ret' ?_) fun c1 => Ev.ret' ?_) (fun q => rfl)
 ·rw [beq_iff_eq] at c2; simp [c1, c2, c3]
 ·simp [c3]
 ·rw [beq_iff_eq] at c2; simp [c2]
 ·simp [c1]
theorem zb1y (a b : zjk) (hL : a.State.L.l.length ≤ 1099511627776) (hT : a.Table.l.length ≤ 1099511627776) : Ev (fun q => zkf q a b) (sameN a b) := by
 unfold sameN
 refine Ev.succ (Ev.ite (fun c1 => Ev.bind (zb1x _ _ hL) (Ev.ite (fun c2 => Ev.bind (zb1w _ _ hT) (Ev.ret' ?_)) fun c2 => Ev.ret' ?_)) fun c1 => Ev.ret' ?_) (fun q => rfl)
 ·simp [c1, c2]
 ·simp only [Bool.not_eq_true] at c2; simp [c2]
 ·simp [c1]
theorem mayC : mayS ⟨0, ⟨false, [0]⟩, false, 0⟩ = true := by
 simp [mayS, kindOk, cutsB, cutI]
theorem mayD (z z2 : Bool) : mayN ⟨1, ⟨0, ⟨z, [5]⟩, false, 0⟩, ⟨z2, [⟨2, 1, 0⟩]⟩⟩ = true := by
 simp [mayN, mayS, kindOk, cutsB, cutI, tabB, entOk]
theorem zb1z (z : Bool) : ∃ z', Ev (fun q => zj9 q ⟨true, []⟩ ⟨0, 2, 1, ⟨1, 5, 0⟩, 0⟩) ⟨z', true, [⟨2, 1, 0⟩]⟩ := by
 have h68 : Ev (fun q => zj1 q ⟨true, []⟩) ⟨true, true, []⟩ := Ev.succ (g := fun _ => some ⟨true, true, []⟩) (Ev.ret _) (fun q => rfl)
 have hs00 : Ev (fun q => zj3 q 0 0 0 2 1 1 5 0 0 true [] true) (-1) := Ev.succ (g := fun _ => some (-1)) (Ev.ret _) (fun q => rfl)
 have hs0 : Ev (fun q => zj4 q 0 2 1 1 5 0 0 true [] true) (-1) := Ev.succ hs00 (fun q => rfl)
 have h0 : Ev (fun q => zj6 q 0 2 1 1 5 0 0 true [] true) (0, [], true) := Ev.succ (Ev.bind hs0 (Ev.pos rfl (Ev.ret _))) (fun q => rfl)
 have hs10 : Ev (fun q => zj7 q 0 0 0 0 2 1 1 5 0 0 true [] true) (-1) := Ev.succ (g := fun _ => some (-1)) (Ev.ret _) (fun q => rfl)
 have h1 : Ev (fun q => zj8 q 0 0 2 1 1 5 0 0 true [] true) (-1) := Ev.succ hs10 (fun q => rfl)
 have h72 : Ev (fun q => zj2 q ⟨true, true, []⟩ 0 ⟨false, [⟨2, 1, 0⟩]⟩) ⟨false, true, [⟨2, 1, 0⟩]⟩ := by
  refine Ev.succ (g := fun _ => some ⟨false, true, [⟨2, 1, 0⟩]⟩) (Ev.ret _) (fun q => rfl)
 exact ⟨false, Ev.succ (Ev.bind h68 (Ev.bind h0 (Ev.bind h1 (Ev.po (Ev.pos rfl (Ev.bind h72 (Ev.ret _))))))) (fun q => rfl)⟩
theorem zb10 {s : zji} {o : zjm} {n : Int} (h : s.L.l[0]? = some n) (hk : s.Kind = 0) (hc : o.Code = 1) : Ev (fun q => zkk q s o) (⟨s.Kind, ⟨false, [cutI (wrp .i64 (n + cutI o.A))]⟩, s.Sealed, s.To⟩, n) := by
 refine Ev.succ (Ev.opt h (Ev.ne (Ev.pos hk (Ev.pos hc ?_)))) (fun q => rfl)
 exact Ev.bind (zbyd _) (Ev.bind (zbyd _) (Ev.ret _))
theorem zb11 {s : zji} {o : zjm} {n : Int} (hm : mayS s = true) (hL : s.L.l.length ≤ 1000000) (hs : s.Sealed = false) (h : s.L.l[0]? = some n) (hk : s.Kind = 0) (hc : o.Code = 1) : Ev (fun q => zkt q s o) (⟨s.Kind, ⟨false, [cutI (wrp .i64 (n + cutI o.A))]⟩, s.Sealed, s.To⟩, n) := by
 have hM := zb0k s hL
 exact Ev.succ (Ev.bind hM (Ev.pos hm (Ev.neg (by rw [hs]; simp) (Ev.ne (Ev.pos hk (Ev.bind (zb10 h hk hc) (Ev.ret _))))))) (fun q => rfl)
theorem zb12 : Ev (fun q => zkt q ⟨0, ⟨false, [0]⟩, false, 0⟩ ⟨1, 5, 0⟩) (⟨0, ⟨false, [5]⟩, false, 0⟩, 0) := by
 have := zb11 (s := ⟨0, ⟨false, [0]⟩, false, 0⟩) (o := ⟨1, 5, 0⟩) (n := 0) mayC (by simp) rfl rfl rfl rfl
 have e : cutI (wrp .i64 (0 + cutI 5)) = 5 := by rw [show cutI 5 = 5 by simp [cutI], zbxy (by omega) (by omega)]; simp [cutI]
 simp only [e] at this
 exact this
theorem zb13 {s : zjk} {r : Sl zjn} {e : zjn} {t : zji} {n : Int} {z : Bool} {T : List zjj} (h1 : r.l[0]? = some e) (h2 : r.l.length = 1) (hi : e.Index = s.Index) (hf : FitsR e)
  (hS : Ev (fun q => zkt q s.State e.Op) (t, n)) (hN : Ev (fun q => zj9 q s.Table ⟨e.Index, e.Proc, e.Seq, e.Op, n⟩) ⟨z, true, T⟩) : Ev (fun q => zkw q s r) (⟨wrp .i64 (s.Index + 1), t, ⟨z, T⟩⟩, 0) := by
 have w1 : wrp .i64 1 = 1 := zbxy (by omega) (by omega)
 have hl : ∀ a : Int, a = 1 → Ev (fun q => zku q r.z r.l (r.l.length : Int) a (wrp .i64 (s.Index + 1)) t.Kind t.L.z t.L.l t.Sealed t.To z T true) (⟨wrp .i64 (s.Index + 1), t, ⟨z, T⟩⟩, 0) := fun a ha =>
  Ev.succ (Ev.ne (Ev.ret _)) (fun q => rfl)
 have h0 : Ev (fun q => zkv q r.z r.l (r.l.length : Int) s.Index s.State.Kind s.State.L.z s.State.L.l s.State.Sealed s.State.To s.Table.z s.Table.l) (⟨wrp .i64 (s.Index + 1), t, ⟨z, T⟩⟩, 0) :=
  Ev.succ (Ev.po (Ev.opt h1 (Ev.pos hi (Ev.bind (zbyg e) (Ev.pos (by simpa using hf) (Ev.bind hS (Ev.bind hN (hl _ w1)))))))) (fun q => rfl)
 exact Ev.succ h0 (fun q => rfl)
theorem zb14 : ∃ z z', Ev (fun q => zkw q ⟨0, ⟨0, ⟨false, [0]⟩, false, 0⟩, ⟨true, []⟩⟩ ⟨false, [⟨0, 2, 1, ⟨1, 5, 0⟩, 0⟩]⟩) (⟨1, ⟨0, ⟨z, [5]⟩, false, 0⟩, ⟨z', [⟨2, 1, 0⟩]⟩⟩, 0) := by
 obtain ⟨z', hN⟩ := zb1z true
 have w2 : wrp .i64 (0 + 1) = 1 := zbxy (by omega) (by omega)
 have := zb13 (s := ⟨0, ⟨0, ⟨false, [0]⟩, false, 0⟩, ⟨true, []⟩⟩) (r := ⟨false, [⟨0, 2, 1, ⟨1, 5, 0⟩, 0⟩]⟩) rfl rfl rfl (by simp [FitsR, fitsOp, cutI]) zb12 hN
 simp only [w2] at this
 exact ⟨false, z', this⟩
theorem zb15 (s : zjk) : 10 < (snapB s).length := by
 have h := zb1m (manB s.Index (wholeB s))
 have g : ∀ n : Int, (put n).length = 0 ∨ 1 ≤ (put n).length := fun n => by omega
 have p3 : 1 ≤ (put 3).length := by rw [put_ok (by omega) (by omega)]; exact zbx4 _
 have p4 : 1 ≤ (put ((manB s.Index (wholeB s)).length : Int)).length := by
  have := zb1q s.Index (wholeB s)
  rw [put_ok (by omega) (by omega)]; exact zbx4 _
 have p5 : 1 + 1 + 4 ≤ (manB s.Index (wholeB s)).length := by simp only [manB, fix4, y9, y20, y24]; omega
 simp only [snapB, y9]; omega
theorem zb16 : Ev (fun q => zl4 q) true := by
 obtain ⟨z, z', hT⟩ := zb14
 obtain ⟨z2, hE⟩ := zb1u ⟨1, ⟨0, ⟨z, [5]⟩, false, 0⟩, ⟨z', [⟨2, 1, 0⟩]⟩⟩ (by simp) (by simp)
 rw [if_pos (mayD z z')] at hE
 have hl := zb15 ⟨1, ⟨0, ⟨z, [5]⟩, false, 0⟩, ⟨z', [⟨2, 1, 0⟩]⟩⟩
 generalize snapB ⟨1, ⟨0, ⟨z, [5]⟩, false, 0⟩, ⟨z', [⟨2, 1, 0⟩]⟩⟩ = B at hE hl
 have e1 : (⟨1, ⟨0, ⟨z, [5]⟩, false, 0⟩, ⟨z', [⟨2, 1, 0⟩]⟩⟩ : zjk).Index = 1 := rfl
 have e2 : (⟨1, ⟨0, ⟨z, [5]⟩, false, 0⟩, ⟨z', [⟨2, 1, 0⟩]⟩⟩ : zjk).Table.l = [⟨2, 1, 0⟩] := rfl
 have e3 : (⟨1, ⟨0, ⟨z, [5]⟩, false, 0⟩, ⟨z', [⟨2, 1, 0⟩]⟩⟩ : zjk).State.L.l = [5] := rfl
 generalize (⟨1, ⟨0, ⟨z, [5]⟩, false, 0⟩, ⟨z', [⟨2, 1, 0⟩]⟩⟩ : zjk) = x at hT hE e1 e2 e3
 have e4 : x.Table.l[0]? = some ⟨2, 1, 0⟩ := by rw [e2]; rfl
 have e5 : x.State.L.l[0]? = some 5 := by rw [e3]; rfl
 refine Ev.succ (Ev.bind hT (Ev.bind hE ?_)) (fun q => rfl)
 refine Ev.pos rfl (Ev.pos rfl (Ev.pos (by simp only; omega) (Ev.pos e1 (Ev.pos (by simp only [e2]; rfl) (Ev.opt e4 (Ev.pos rfl (Ev.pos rfl (Ev.pos rfl (Ev.pos (by simp only [e3]; rfl) (Ev.opt e5 (Ev.ret' (by simp))))))))))))
theorem zb17 {n : Int} {x : List Int} (h : inR .i64 n) : getS (putS n ++ x) = (n, ((putS n).length : Int)) := by
 unfold getS putS
 rw [rd_grp (by simpa using zig_lt h) (by omega) (by omega)]
 simp only [zbz8]
theorem zb18 (n : Int) : 1 ≤ (putS n).length := zbx4 _
theorem zb19 {n : Int} (h1 : 0 ≤ n) (h2 : n < 4611686018427387904) : 1 ≤ (put n).length := by rw [put_ok h1 h2]; exact zbx4 _
theorem zb2a {l : List Int} (hb : isB l) (h : (getN l).2 ≠ 0) : l.take (getN l).2.toNat = put (getN l).1 := by
 unfold getN at h ⊢
 cases e : rd 0 l with
 | none => simp [e] at h
 | some p =>
  simp only [e] at h ⊢
  split
  ·rename_i h2; rw [if_pos h2] at h; simp at h
  ·rename_i h2
   have := (rd_inv hb (show rd 0 l = some (p.1, p.2) from e)).1
   simp only [y27]
   rw [this, put_ok (by omega) (by omega), y27]
theorem zb2b {l : List Int} (hb : isB l) (h : (getS l).2 ≠ 0) : l.take (getS l).2.toNat = putS (getS l).1 := by
 unfold getS at h ⊢
 cases e : rd 0 l with
 | none => simp [e] at h
 | some p =>
  have := (rd_inv hb (show rd 0 l = some (p.1, p.2) from e)).1
  simp only [y27]
  rw [this, putS, zbz9]
theorem zb2c {l : List Int} (hb : isB l) (h : 0 < (getN l).2) : l = put (getN l).1 ++ l.drop (getN l).2.toNat := by
 rw [← zb2a hb (by omega), List.take_append_drop]
theorem zb2d {l : List Int} (hb : isB l) (h : 0 < (getS l).2) : l = putS (getS l).1 ++ l.drop (getS l).2.toNat := by
 rw [← zb2b hb (by omega), List.take_append_drop]
theorem zb2e : ∀ {f : Nat} {l : List Int}, isB l → ∀ d ∈ (walkF f l).1, isB d ∧ d.length ≤ 1048576
 | 0, l, hb, d, h => by simp [walkF] at h
 | f + 1, l, hb, d, h => by
  simp only [walkF] at h
  split at h
  ·simp at h
  ·split at h
   ·rename_i h1 h2
    rcases List.mem_cons.1 h with e | e
    ·rw [e]
     exact ⟨zbzw hb, (zbzv (l := l) (x := (decF l).1) (n := (decF l).2.1) hb (by rw [← h2])).1⟩
    ·exact zb2e (zbzp hb _) d e
   ·simp at h
theorem zb2f {l : List Int} (hb : isB l) : ∀ d ∈ (allE l).1, isB d ∧ d.length ≤ 1048576 := by
 unfold allE
 split
 ·exact zb2e hb
 ·simp
theorem zb2g : ∀ {f : Nat} {l : List Int}, isB l → l.length < f → (walkF f l).2.2 = 0 → BB (walkF f l).1 = l
 | 0, l, hb, hf, h => by omega
 | f + 1, l, hb, hf, h => by
  simp only [walkF] at h ⊢
  split at h
  ·rename_i e; rw [if_pos e]; simp [BB, e]
  ·rename_i e
   rw [if_neg e]
   split at h
   ·rename_i e2
    rw [if_pos e2]
    obtain ⟨k1, k2, k3, k4, k5⟩ := zbzv (l := l) (x := (decF l).1) (n := (decF l).2.1) hb (by rw [← e2])
    have := zb2g (f := f) (l := l.drop (decF l).2.1.toNat) (zbzp hb _) (by rw [y12]; omega) h
    simp only [zbz5, this, k5, List.take_append_drop]
   ·rename_i e2; exact absurd h e2
theorem zb2h {l : List Int} (hb : isB l) (h : (allE l).2 = 0) : BB (allE l).1 = l := by
 unfold allE at h ⊢
 split at h
 ·rename_i e; rw [if_pos e]; exact zb2g hb (by omega) e
 ·rename_i e; exact absurd h e
theorem zb2i {D : List (List Int)} (h : ∀ d ∈ D, isB d ∧ d.length ≤ 1048576) : allE (BB D) = (D, 0) := by
 have := zbz7 D D.length (BB D).length ((BB D).length + 1) (fun d hd => (h d hd).2) (y13 _) (by rw [List.take_length]; exact y13 _) (y13 _) (fun h => by omega) (by rw [List.take_length]; omega)
 rw [List.take_length, List.take_length, if_pos rfl] at this
 unfold allE allF
 rw [this]; rfl
theorem zb2j (F : List (List Int)) : frsB F = BB F := by simp [frsB, BB, List.flatMap]
def noS : zji := ⟨0, ⟨true, []⟩, false, 0⟩
def nums : Nat → List Int → List Int × Bool × List Int
 | 0, b => ([], true, b)
 | k + 1, b => ((getS b).1 :: (nums k (b.drop (getS b).2.toNat)).1, decide (0 < (getS b).2) && (nums k (b.drop (getS b).2.toNat)).2.1, (nums k (b.drop (getS b).2.toNat)).2.2)
theorem zb2k : ∀ {k : Nat} {b : List Int}, isB b → (nums k b).2.1 = true → b = numsB (nums k b).1 ++ (nums k b).2.2
 | 0, b, hb, h => by simp [nums, numsB]
 | k + 1, b, hb, h => by
  simp only [nums, y5, decide_eq_true_eq] at h ⊢
  rw [zb00, y32, ← zb2k (zbzp hb _) h.2]
  exact zb2d hb h.1
theorem zb2l : ∀ {k : Nat} {b : List Int}, (nums k b).1.length = k
 | 0, b => rfl
 | k + 1, b => by simp only [nums, y20, zb2l]
theorem zb2m : ∀ {l x : List Int}, inT l → nums l.length (numsB l ++ x) = (l, true, x)
 | [], x, h => by simp [nums, numsB]
 | a :: l, x, h => by
  have ha := zb01 h
  have e : getS (numsB (a :: l) ++ x) = (a, ((putS a).length : Int)) := by rw [zb00, y32]; exact zb17 ha.1
  have e2 : (numsB (a :: l) ++ x).drop (putS a).length = numsB l ++ x := by rw [zb00, y32]; exact List.drop_left' rfl
  have p := zb18 a
  simp only [y20, nums, e, y27, e2, zb2m ha.2]
  simp; omega
/-- The state that was read. -/
def stR (x y : Int) (l : List Int) : zji := ⟨x, ⟨l.isEmpty, l⟩, decide (0 < y), if y - 1 < 0 then 0 else y - 1⟩
def stD (b : List Int) : zji × Int :=
 let x := getN b
 let b1 := b.drop x.2.toNat
 let y := getN b1
 let b2 := b1.drop y.2.toNat
 let z := getN b2
 let b3 := b2.drop z.2.toNat
 if 0 < x.2 ∧ 0 < y.2 ∧ 0 < z.2 ∧ y.1 ≤ 3 ∧ z.1 ≤ 128 then
  if (nums z.1.toNat b3).2.1 = true ∧ (nums z.1.toNat b3).2.2 = [] then
   if mayS (stR x.1 y.1 (nums z.1.toNat b3).1) = true then (stR x.1 y.1 (nums z.1.toNat b3).1, 0) else (noS, 1)
  else (noS, 3)
 else (noS, 3)
theorem zb2n {x y : Int} {l : List Int} (hy : 0 ≤ y) : sealN (stR x y l) = y := by
 unfold sealN stR
 by_cases h : 0 < y
 ·simp only [h, decide_true, if_true]; rw [if_neg (by omega)]; omega
 ·simp only [h, decide_false, y17, if_false]; omega
theorem zb2o {b : List Int} (hb : isB b) (h : (stD b).2 = 0) : mayS (stD b).1 = true ∧ stateB (stD b).1 = b := by
 simp only [stD] at h ⊢
 split at h
 ·rename_i c
  rw [if_pos c]
  split at h
  ·rename_i c2
   rw [if_pos c2]
   split at h
   ·rename_i c3
    rw [if_pos c3]
    refine ⟨c3, ?_⟩
    have y0 := (zbzi (l := b.drop (getN b).2.toNat)).2.2.2.1
    have z0 := zbzi (l := (b.drop (getN b).2.toNat).drop (getN (b.drop (getN b).2.toNat)).2.toNat)
    have hb1 := zbzp hb (getN b).2.toNat
    have hb2 := zbzp hb1 (getN (b.drop (getN b).2.toNat)).2.toNat
    have hb3 := zbzp hb2 (getN ((b.drop (getN b).2.toNat).drop (getN (b.drop (getN b).2.toNat)).2.toNat)).2.toNat
    have e0 := zb2c hb c.1
    have e1 := zb2c hb1 c.2.1
    have e2 := zb2c hb2 c.2.2.1
    have e3 := zb2k hb3 c2.1
    have hl := zb2l (k := (getN ((b.drop (getN b).2.toNat).drop (getN (b.drop (getN b).2.toNat)).2.toNat)).1.toNat) (b := ((b.drop (getN b).2.toNat).drop (getN (b.drop (getN b).2.toNat)).2.toNat).drop (getN ((b.drop (getN b).2.toNat).drop (getN (b.drop (getN b).2.toNat)).2.toNat)).2.toNat)
    rw [c2.2, List.append_nil] at e3
    simp only [stateB, zb2n y0]
    show ((put (getN b).1 ++ put _) ++ put (((nums _ _).1.length : Nat) : Int)) ++ numsB (nums _ _).1 = b
    rw [hl, Int.toNat_of_nonneg z0.2.2.2.1, ← e3, y32, y32, ← e2, ← e1, ← e0]
   ·cases h
  ·cases h
 ·cases h
theorem zb2p {s : zji} (h : mayS s = true) : (stD (stateB s)).2 = 0 ∧ sameS (stD (stateB s)).1 s = true := by
 have hm := zb0v h
 have hk := zb0u hm.2.2.2
 have hs := zb08 h
 have f1 : stateB s = put s.Kind ++ (put (sealN s) ++ (put (s.L.l.length : Int) ++ (numsB s.L.l ++ []))) := by simp [stateB]
 have e1 : getN (stateB s) = (s.Kind, ((put s.Kind).length : Int)) := by rw [f1]; exact zbzr (by omega) (by omega)
 have d1 : (stateB s).drop (put s.Kind).length = put (sealN s) ++ (put (s.L.l.length : Int) ++ (numsB s.L.l ++ [])) := by rw [f1]; exact List.drop_left' rfl
 have e2 : getN (put (sealN s) ++ (put (s.L.l.length : Int) ++ (numsB s.L.l ++ []))) = (sealN s, ((put (sealN s)).length : Int)) := zbzr (by omega) (by omega)
 have d2 : (put (sealN s) ++ (put (s.L.l.length : Int) ++ (numsB s.L.l ++ []))).drop (put (sealN s)).length = put (s.L.l.length : Int) ++ (numsB s.L.l ++ []) := List.drop_left' rfl
 have e3 : getN (put (s.L.l.length : Int) ++ (numsB s.L.l ++ [])) = ((s.L.l.length : Int), ((put (s.L.l.length : Int)).length : Int)) := zbzr (by omega) (by omega)
 have d3 : (put (s.L.l.length : Int) ++ (numsB s.L.l ++ [])).drop (put (s.L.l.length : Int)).length = numsB s.L.l ++ [] := List.drop_left' rfl
 have p1 := zb19 (n := s.Kind) (by omega) (by omega)
 have p2 := zb19 (n := sealN s) (by omega) (by omega)
 have p3 := zb19 (n := (s.L.l.length : Int)) (by omega) (by omega)
 have hr : stR s.Kind (sealN s) s.L.l = ⟨s.Kind, ⟨s.L.l.isEmpty, s.L.l⟩, s.Sealed, s.To⟩ := by
  unfold stR sealN
  by_cases c : s.Sealed = true
  ·rw [if_pos c, c, if_neg (by omega)]; simp; omega
  ·have c' : s.Sealed = false := by simpa using c
   rw [if_neg c, c', hm.2.2.1 c']; simp
 have hy : mayS ⟨s.Kind, ⟨s.L.l.isEmpty, s.L.l⟩, s.Sealed, s.To⟩ = true := by
  unfold mayS at h ⊢; exact h
 simp only [stD, e1, y27, d1, e2, d2, e3, d3, zb2m (l := s.L.l) (x := []) hk.2.2.2]
 rw [if_pos (by omega), if_pos (by simp), hr, if_pos hy]
 exact ⟨rfl, by simp [sameS]⟩
def entD (b : List Int) : zjj × Int :=
 let x := getN b
 let b1 := b.drop x.2.toNat
 let y := getN b1
 let b2 := b1.drop y.2.toNat
 let z := getS b2
 (⟨x.1, y.1, z.1⟩, if x.2 = 0 then 0 else if y.2 = 0 then 0 else if z.2 = 0 then 0 else x.2 + y.2 + z.2)
theorem zb2q {b : List Int} : 0 ≤ (entD b).2 ∧ (entD b).2 ≤ b.length := by
 have x := zbzi (l := b)
 have y := zbzi (l := b.drop (getN b).2.toNat)
 have z := zb0d (l := (b.drop (getN b).2.toNat).drop (getN (b.drop (getN b).2.toNat)).2.toNat)
 simp only [y12] at y z
 simp only [entD]
 split
 ·omega
 ·split
  ·omega
  ·split <;> omega
theorem drop3 (b : List Int) {i j k : Int} (h1 : 0 ≤ i) (h2 : 0 ≤ j) (h3 : 0 ≤ k) : b.drop (i + j + k).toNat = ((b.drop i.toNat).drop j.toNat).drop k.toNat := by
 rw [List.drop_drop, List.drop_drop]; congr 1; omega
theorem zb2r {b : List Int} (hb : isB b) (h : (entD b).2 ≠ 0) : b = entB (entD b).1 ++ b.drop (entD b).2.toNat := by
 have x := zbzi (l := b)
 have y := zbzi (l := b.drop (getN b).2.toNat)
 have z := zb0d (l := (b.drop (getN b).2.toNat).drop (getN (b.drop (getN b).2.toNat)).2.toNat)
 have hb1 := zbzp hb (getN b).2.toNat
 have hb2 := zbzp hb1 (getN (b.drop (getN b).2.toNat)).2.toNat
 simp only [entD] at h ⊢
 split at h
 ·exact absurd rfl h
 ·rename_i c1
  split at h
  ·exact absurd rfl h
  ·rename_i c2
   split at h
   ·exact absurd rfl h
   ·rename_i c3
    rw [if_neg c1, if_neg c2, if_neg c3]
    have e0 := zb2c hb (by omega)
    have e1 := zb2c hb1 (by omega)
    have e2 := zb2d hb2 (by omega)
    rw [drop3 b x.1 y.1 z.1]
    simp only [entB, y32]
    rw [← e2, ← e1, ← e0]
theorem zb2s {e : zjj} {x : List Int} (h : entOk e = true) : entD (entB e ++ x) = (e, ((entB e).length : Int)) := by
 have ho := zb0w h
 have hr := zb1c h
 have f1 : entB e ++ x = put e.Proc ++ (put e.Seq ++ (putS e.Resp ++ x)) := by simp [entB]
 have e1 : getN (entB e ++ x) = (e.Proc, ((put e.Proc).length : Int)) := by rw [f1]; exact zbzr (by omega) (by omega)
 have d1 : (entB e ++ x).drop (put e.Proc).length = put e.Seq ++ (putS e.Resp ++ x) := by rw [f1]; exact List.drop_left' rfl
 have e2 : getN (put e.Seq ++ (putS e.Resp ++ x)) = (e.Seq, ((put e.Seq).length : Int)) := zbzr (by omega) (by omega)
 have d2 : (put e.Seq ++ (putS e.Resp ++ x)).drop (put e.Seq).length = putS e.Resp ++ x := List.drop_left' rfl
 have e3 : getS (putS e.Resp ++ x) = (e.Resp, ((putS e.Resp).length : Int)) := zb17 hr
 have p1 := zb19 (n := e.Proc) (by omega) (by omega)
 have p2 := zb19 (n := e.Seq) (by omega) (by omega)
 have p3 := zb18 e.Resp
 simp only [entD, e1, y27, d1, e2, d2, e3]
 rw [if_neg (by omega), if_neg (by omega), if_neg (by omega)]
 have : ((entB e).length : Int) = ((put e.Proc).length : Int) + ((put e.Seq).length : Int) + ((putS e.Resp).length : Int) := by simp [entB]; omega
 rw [this]
def ents : Nat → List Int → Option (List zjj × List Int)
 | 0, b => some ([], b)
 | k + 1, b => if (entD b).2 = 0 then none else match ents k (b.drop (entD b).2.toNat) with
  | none => none
  | some t => some ((entD b).1 :: t.1, t.2)
theorem zb2t : ∀ {k : Nat} {b : List Int} {t : List zjj × List Int}, isB b → ents k b = some t → b = tabE t.1 ++ t.2 ∧ t.1.length = k
 | 0, b, t, hb, h => by simp only [ents, y1] at h; subst h; simp [tabE]
 | k + 1, b, t, hb, h => by
  simp only [ents] at h
  split at h
  ·cases h
  ·rename_i c
   cases e : ents k (b.drop (entD b).2.toNat) with
   | none => simp [e] at h
   | some u =>
    simp only [e, y1] at h
    subst h
    obtain ⟨h1, h2⟩ := zb2t (zbzp hb _) e
    refine ⟨?_, by simp [h2]⟩
    simp only [zb1b, y32]
    rw [← h1]; exact zb2r hb c
theorem zb2u : ∀ {l : List zjj} {x : List Int}, entsOk l → ents l.length (tabE l ++ x) = some (l, x)
 | [], x, h => by simp [ents, tabE]
 | e :: l, x, h => by
  have he := h e y31
  have e1 : entD (tabE (e :: l) ++ x) = (e, ((entB e).length : Int)) := by rw [zb1b, y32]; exact zb2s he
  have d1 : (tabE (e :: l) ++ x).drop (entB e).length = tabE l ++ x := by rw [zb1b, y32]; exact List.drop_left' rfl
  have p : 1 ≤ (entB e).length := by have := zb18 e.Resp; simp only [entB, y9]; omega
  simp only [y20, ents, e1, y27, d1, zb2u (fun y hy => h y (y35 _ hy))]
  rw [if_neg (by omega)]
def noT : zji × List zjj := (noS, [])
def whD (w : List Int) : (zji × List zjj) × Int :=
 if (getN w).2 = 0 then (noT, 3) else if (w.length : Int) - (getN w).2 < (getN w).1 then (noT, 3) else
 if (stD ((w.take ((getN w).2 + (getN w).1).toNat).drop (getN w).2.toNat)).2 = 3 then (noT, 3) else
 if (getN (w.drop ((getN w).2 + (getN w).1).toNat)).2 = 0 then (noT, 3) else
 if ((w.drop ((getN w).2 + (getN w).1).toNat).length : Int) < (getN (w.drop ((getN w).2 + (getN w).1).toNat)).1 then (noT, 3) else
 match ents (getN (w.drop ((getN w).2 + (getN w).1).toNat)).1.toNat ((w.drop ((getN w).2 + (getN w).1).toNat).drop (getN (w.drop ((getN w).2 + (getN w).1).toNat)).2.toNat) with
 | none => (noT, 3)
 | some t => if t.2 = [] then (((stD ((w.take ((getN w).2 + (getN w).1).toNat).drop (getN w).2.toNat)).1, t.1), (stD ((w.take ((getN w).2 + (getN w).1).toNat).drop (getN w).2.toNat)).2) else (noT, 3)
/-- A snapshot of its parts. -/
def mkN (i : Int) (p : zji × List zjj) : zjk := ⟨i, p.1, ⟨p.2.isEmpty, p.2⟩⟩
theorem zb2v {w : List Int} (hb : isB w) (h : (whD w).2 = 0) (i : Int) : wholeB (mkN i (whD w).1) = w := by
 have hn := zbzi (l := w)
 unfold whD at h ⊢
 split at h
 ·cases h
 ·rename_i c1
  rw [if_neg c1]
  split at h
  ·cases h
  ·rename_i c2
   rw [if_neg c2]
   split at h
   ·cases h
   ·rename_i c3
    rw [if_neg c3]
    split at h
    ·cases h
    ·rename_i c4
     rw [if_neg c4]
     split at h
     ·cases h
     ·rename_i c5
      rw [if_neg c5]
      generalize hS : (w.take ((getN w).2 + (getN w).1).toNat).drop (getN w).2.toNat = X at h ⊢
      have hbX : isB X := by rw [← hS]; exact zbzp (zbzo hb _) _
      have hm := zbzi (l := w.drop ((getN w).2 + (getN w).1).toNat)
      have hbW := zbzp hb ((getN w).2 + (getN w).1).toNat
      have hXl : (X.length : Int) = (getN w).1 := by rw [← hS, y12, y19]; omega
      have hw1 : w = (put (getN w).1 ++ X) ++ w.drop ((getN w).2 + (getN w).1).toNat := by
       rw [← zb2a hb c1, ← hS]
       have e : w.take (getN w).2.toNat = (w.take ((getN w).2 + (getN w).1).toNat).take (getN w).2.toNat := by rw [List.take_take]; congr 1; omega
       rw [e, List.take_append_drop, List.take_append_drop]
      cases he : ents (getN (w.drop ((getN w).2 + (getN w).1).toNat)).1.toNat ((w.drop ((getN w).2 + (getN w).1).toNat).drop (getN (w.drop ((getN w).2 + (getN w).1).toNat)).2.toNat) with
      | none => rw [he] at h; cases h
      | some t =>
       rw [he] at h
       simp only at h ⊢
       split at h
       ·rename_i c6
        rw [if_pos c6]
        obtain ⟨h1, h2⟩ := zb2t (zbzp hbW _) he
        rw [c6, List.append_nil] at h1
        obtain ⟨_, s2⟩ := zb2o hbX h
        have e2 := zb2c hbW (by omega)
        show ((put ((stateB (stD X).1).length : Int) ++ stateB (stD X).1) ++ put ((t.1.length : Nat) : Int)) ++ tabE t.1 = w
        rw [s2, hXl, h2, Int.toNat_of_nonneg hm.2.2.2.1, ← h1, y32, ← e2]
        exact hw1.symm
       ·cases h
theorem zb2w {s : zjk} (h : mayN s = true) : (whD (wholeB s)).2 = 0 ∧ sameS (whD (wholeB s)).1.1 s.State = true ∧ (whD (wholeB s)).1.2 = s.Table.l := by
 have hm := zb0y h
 have hl := zb1i h
 obtain ⟨s1, s2⟩ := zb2p hm.2.2.1
 have f1 : wholeB s = put ((stateB s.State).length : Int) ++ (stateB s.State ++ (put (s.Table.l.length : Int) ++ (tabE s.Table.l ++ []))) := by simp [wholeB]
 have e1 : getN (wholeB s) = (((stateB s.State).length : Int), ((put ((stateB s.State).length : Int)).length : Int)) := by rw [f1]; exact zbzr (by omega) (by omega)
 have p1 := zb19 (n := ((stateB s.State).length : Int)) (by omega) (by omega)
 have p2 := zb19 (n := (s.Table.l.length : Int)) (by omega) (by omega)
 have f2 : wholeB s = (put ((stateB s.State).length : Int) ++ stateB s.State) ++ (put (s.Table.l.length : Int) ++ (tabE s.Table.l ++ [])) := by simp [wholeB]
 have hlen : (put ((stateB s.State).length : Int) ++ stateB s.State).length = (((put ((stateB s.State).length : Int)).length : Int) + ((stateB s.State).length : Int)).toNat := by rw [y9]; omega
 have d1 : ((wholeB s).take (((put ((stateB s.State).length : Int)).length : Int) + ((stateB s.State).length : Int)).toNat).drop (put ((stateB s.State).length : Int)).length = stateB s.State := by
  rw [f2, List.take_left' hlen]; exact List.drop_left' rfl
 have d2 : (wholeB s).drop (((put ((stateB s.State).length : Int)).length : Int) + ((stateB s.State).length : Int)).toNat = put (s.Table.l.length : Int) ++ (tabE s.Table.l ++ []) := by
  rw [f2]; exact List.drop_left' hlen
 have e3 : getN (put (s.Table.l.length : Int) ++ (tabE s.Table.l ++ [])) = ((s.Table.l.length : Int), ((put (s.Table.l.length : Int)).length : Int)) := zbzr (by omega) (by omega)
 have d3 : (put (s.Table.l.length : Int) ++ (tabE s.Table.l ++ [])).drop (put (s.Table.l.length : Int)).length = tabE s.Table.l ++ [] := List.drop_left' rfl
 have hlw : (wholeB s).length = (put ((stateB s.State).length : Int)).length + (stateB s.State).length + ((put (s.Table.l.length : Int)).length + (tabE s.Table.l).length) := by simp [wholeB]; omega
 have hte : s.Table.l.length ≤ (tabE s.Table.l).length := by
  have : ∀ l : List zjj, l.length ≤ (tabE l).length := fun l => by
   induction l with
   | nil => simp
   | cons e l ih => have := zb18 e.Resp; rw [zb1b, y9, y20]; simp only [entB, y9]; omega
  exact this _
 have hE := zb2u (l := s.Table.l) (x := []) (zb0x hm.2.2.2)
 have key : whD (wholeB s) = (((stD (stateB s.State)).1, s.Table.l), (stD (stateB s.State)).2) := by
  unfold whD
  simp only [e1, y27, d1, d2, e3, d3, hE]
  rw [if_neg (by omega), if_neg (by omega), if_neg (by omega), if_neg (by omega), if_neg (by simp only [y9, y24]; omega)]
  simp
 rw [key]
 exact ⟨s1, s2, rfl⟩
def manD (d : List Int) : (Int × Int × Nat) × Int :=
 let x := getN (d.drop 1)
 let d1 := (d.drop 1).drop x.2.toNat
 let y := getN d1
 let d2 := d1.drop y.2.toNat
 let z := getN d2
 let d3 := d2.drop z.2.toNat
 if d[0]? = some 115 then
  if x.2 = 0 then ((0, 0, 0), 3) else if y.2 = 0 then ((0, 0, 0), 3) else if z.2 = 0 then ((0, 0, 0), 3) else if x.1 = 3 then if d3.length = 4 then ((y.1, z.1, numB d3), 0) else ((0, 0, 0), 3) else ((0, 0, 0), 6)
 else ((0, 0, 0), 3)
theorem zb2x {i : Int} {w : List Int} (h1 : 0 ≤ i) (h2 : i < 4611686018427387904) (h3 : w.length ≤ 1000000) : manD (manB i w) = ((i, (w.length : Int), (bsum w).toNat), 0) := by
 have f : manB i w = [115] ++ (put 3 ++ (put i ++ (put (w.length : Int) ++ fix4 (bsum w).toNat))) := by simp [manB]
 have c0 : (manB i w)[0]? = some 115 := by rw [f]; rfl
 have d0 : (manB i w).drop 1 = put 3 ++ (put i ++ (put (w.length : Int) ++ fix4 (bsum w).toNat)) := by rw [f]; rfl
 have e1 : getN (put 3 ++ (put i ++ (put (w.length : Int) ++ fix4 (bsum w).toNat))) = (3, ((put 3).length : Int)) := zbzr (by omega) (by omega)
 have d1 : (put 3 ++ (put i ++ (put (w.length : Int) ++ fix4 (bsum w).toNat))).drop (put 3).length = put i ++ (put (w.length : Int) ++ fix4 (bsum w).toNat) := List.drop_left' rfl
 have e2 : getN (put i ++ (put (w.length : Int) ++ fix4 (bsum w).toNat)) = (i, ((put i).length : Int)) := zbzr (by omega) (by omega)
 have d2 : (put i ++ (put (w.length : Int) ++ fix4 (bsum w).toNat)).drop (put i).length = put (w.length : Int) ++ fix4 (bsum w).toNat := List.drop_left' rfl
 have e3 : getN (put (w.length : Int) ++ fix4 (bsum w).toNat) = ((w.length : Int), ((put (w.length : Int)).length : Int)) := zbzr (by omega) (by omega)
 have d3 : (put (w.length : Int) ++ fix4 (bsum w).toNat).drop (put (w.length : Int)).length = fix4 (bsum w).toNat := List.drop_left' rfl
 have p1 := zb19 (n := 3) (by omega) (by omega)
 have p2 := zb19 (n := i) (by omega) (by omega)
 have p3 := zb19 (n := (w.length : Int)) (by omega) (by omega)
 have hn : numB (fix4 (bsum w).toNat) = (bsum w).toNat := (zbzy (zb1r _) rfl (by have := (bsum w).isLt; omega)).2 rfl
 simp only [manD, c0, d0, e1, y27, d1, e2, d2, e3, d3, hn]
 rw [if_pos trivial, if_neg (by omega), if_neg (by omega), if_neg (by omega), if_pos trivial, if_pos (show (fix4 (bsum w).toNat).length = 4 from rfl)]
def cutB : List (List Int) → Bool
 | [] => true
 | [d] => decide (1 ≤ d.length) && decide (d.length ≤ 64)
 | d :: t => decide (d.length = 64) && cutB t
theorem zb2y : ∀ {k : Nat} {l : List Int}, l.length ≤ k → (chks k l).flatten = l
 | 0, l, h => by have : l = [] := y34 (by omega); rw [this]; rfl
 | k + 1, l, h => by
  simp only [chks]
  split
  ·rename_i e; rw [y34 e]; rfl
  ·rw [List.flatten_cons, zb2y (by rw [y12]; omega), List.take_append_drop]
theorem zb2z {k : Nat} {l : List Int} (h : l.length = 0) : chks k l = [] := by
 cases k with
 | zero => rfl
 | succ k => simp only [chks]; rw [if_pos h]
theorem zb20 {k : Nat} {l : List Int} (h : l.length ≠ 0) : chks (k + 1) l = l.take 64 :: chks k (l.drop 64) := by simp only [chks]; rw [if_neg h]
theorem zb21 : ∀ {k : Nat} {l : List Int}, l.length ≤ k → cutB (chks k l) = true
 | 0, l, h => rfl
 | k + 1, l, h => by
  by_cases e : l.length = 0
  ·rw [zb2z e]; rfl
  ·rw [zb20 e]
   by_cases h2 : l.length ≤ 64
   ·rw [zb2z (by rw [y12]; omega)]
    simp only [cutB, y19, y5, decide_eq_true_eq]; omega
   ·have ih := zb21 (k := k) (l := l.drop 64) (by rw [y12]; omega)
    cases k with
    | zero => omega
    | succ k =>
     rw [zb20 (by rw [y12]; omega)] at ih ⊢
     simp only [cutB, ih, Bool.and_true, y19, decide_eq_true_eq]; omega
theorem zb22 : ∀ {k : Nat} {l : List Int}, ∀ d ∈ chks k l, d.length ≤ 64 ∧ (isB l → isB d)
 | 0, l, d, hd => by cases hd
 | k + 1, l, d, hd => by
  simp only [chks] at hd
  split at hd
  ·cases hd
  ·rcases List.mem_cons.1 hd with e | e
   ·rw [e]; exact ⟨by rw [y19]; omega, fun h => zbzo h _⟩
   ·have := zb22 d e; exact ⟨this.1, fun h => this.2 (zbzp h _)⟩
def noN : zjk := ⟨0, noS, ⟨true, []⟩⟩
def snD (b : List Int) : zjk × Int :=
 if (allE b).2 = 0 then match (allE b).1 with
  | [] => (noN, 16)
  | h :: t =>
   if (manD h).2 = 0 then
    if (t.flatten.length : Int) = (manD h).1.2.1 then
     if cutB t = true then
      if (bsum t.flatten).toNat = (manD h).1.2.2 then
       if (whD t.flatten).2 = 0 then
        if mayN (mkN (manD h).1.1 (whD t.flatten).1) = true then (mkN (manD h).1.1 (whD t.flatten).1, 0) else (noN, 1)
       else (noN, (whD t.flatten).2)
      else (noN, 4)
     else (noN, 3)
    else (noN, 16)
   else (noN, (manD h).2)
 else (noN, (allE b).2)
theorem zb23 : ∀ {t : List (List Int)}, (∀ d ∈ t, isB d) → isB t.flatten := fun h c hc => by
 obtain ⟨d, hd, hcd⟩ := List.mem_flatten.1 hc; exact h d hd c hcd
theorem zb24 {a b : zjk} (h : sameN a b = true) (hm : mayN b = true) : mayN a = true := by
 simp only [sameN, sameS, y5, decide_eq_true_eq] at h
 obtain ⟨h1, ⟨h2, h3, h4, h5⟩, h6⟩ := h
 unfold mayN mayS at hm ⊢
 rw [h1, h2, h3, h4, h5, h6]; exact hm
theorem zb25 {s : zjk} (h : mayN s = true) : (snD (snapB s)).2 = 0 ∧ sameN (snD (snapB s)).1 s = true := by
 have hm := zb0y h
 have hl := zb1i h
 have hml := zb1q s.Index (wholeB s)
 obtain ⟨w1, w2, w3⟩ := zb2w h
 have hA : allE (snapB s) = (manB s.Index (wholeB s) :: chks (wholeB s).length (wholeB s), 0) := by
  unfold snapB; rw [zb2j, ← zbz5]
  refine zb2i fun d hd => ?_
  rcases List.mem_cons.1 hd with e | e
  ·rw [e]; exact ⟨zb1s _ _, by omega⟩
  ·have := zb22 d e; exact ⟨this.2 zb1j, by omega⟩
 have hs : sameN (mkN s.Index (whD (wholeB s)).1) s = true := by
  simp only [sameN, mkN, w2, w3]; simp
 have hy := zb24 hs h
 unfold snD
 simp only [hA, zb2x hm.1 hm.2.1 (by omega : (wholeB s).length ≤ 1000000), zb2y (y13 _), zb21 (y13 _), w1, if_true, hy]
 exact ⟨trivial, hs⟩
theorem zb26 (s : zjk) : isB (snapB s) := by
 unfold snapB
 rw [zb2j, ← zbz5]
 refine BB_isB fun d hd => ?_
 rcases List.mem_cons.1 hd with e | e
 ·rw [e]; exact zb1s _ _
 ·exact (zb22 d e).2 zb1j
theorem zb27 {s : zjk} (h : mayN s = true) : (snapB s).length ≤ 200000 := by
 have hl := zb1i h
 have hml := zb1q s.Index (wholeB s)
 have h1 := zb1m (manB s.Index (wholeB s)); have p := zbx7 ((manB s.Index (wholeB s)).length : Int)
 have : ∀ (k : Nat) (l : List Int), (frsB (chks k l)).length ≤ 20 * l.length := fun k => by
  induction k with
  | zero => intro l; simp [chks, frsB]
  | succ k ih =>
   intro l
   by_cases e : l.length = 0
   ·rw [zb2z e]; simp [frsB]
   ·have := ih (l.drop 64)
    rw [y12] at this
    have p2 := zbx7 ((l.take 64).length : Int)
    rw [zb20 e, zb1l, y9, zb1m]
    rw [y19] at p2 ⊢
    omega
 have := this (wholeB s).length (wholeB s)
 unfold snapB; rw [y9]; omega
theorem zb28 : ∀ (a : List Int) (c : Int), numB (a ++ [c]) = numB a + c.toNat * 256 ^ a.length
 | [], c => by simp [numB]
 | x :: a, c => by
  simp only [List.cons_append, numB, zb28 a c, y20, Nat.pow_succ]
  rw [Nat.mul_add, Nat.mul_comm (256 ^ a.length) 256, ← Nat.mul_assoc, ← Nat.mul_assoc, Nat.mul_comm c.toNat 256]; omega
theorem zb29 (z : Bool) (L : List Int) (hb : isB L) (hL : L.length ≤ 8) : ∀ (k i : Nat), L.length = i + k → Ev (fun q => zl8 q z L ((numB (L.take i) : Nat) : Int) (L.length : Int) (i : Int)) ((numB L : Nat) : Int)
 | 0, i, hk => Ev.succ (Ev.ne (Ev.ret' (by rw [List.take_of_length_le (by omega)]))) (fun q => rfl)
 | k + 1, i, hk => by
  have hi : i < L.length := by omega
  have hg : L[(i : Int).toNat]? = some L[i] := by simpa using y6 hi
  obtain ⟨b1, b2⟩ := hb L[i] (y25 hi)
  have ih := zb29 z L hb hL k (i + 1) (by omega)
  have hw : wrp .i64 (8 * (i : Int)) = ((8 * i : Nat) : Int) := by rw [zbxy (by omega) (by omega)]; omega
  have hlt := zbzx (l := L.take i) (zbzo hb _)
  rw [y19, Nat.min_eq_left (by omega)] at hlt
  have hs : numB (L.take (i + 1)) = numB (L.take i) + L[i].toNat * 256 ^ i := by
   rw [← List.take_append_getElem hi, zb28, y19, Nat.min_eq_left (by omega)]
  have hp : 2 ^ (8 * i) = 256 ^ i := by rw [Nat.pow_mul]
  have hpb : 256 ^ i ≤ 256 ^ 7 := Nat.pow_le_pow_right (by omega) (by omega)
  have h6 : L[i].toNat * 2 ^ (8 * i) < 18446744073709551616 := by
   rw [hp]
   have h : L[i].toNat * 256 ^ i ≤ 255 * 256 ^ 7 := Nat.mul_le_mul (by omega) hpb
   simp only [Nat.reducePow] at h; omega
  have hn : numB (L.take i) < 18446744073709551616 := by
   simp only [Nat.reducePow] at hpb; omega
  have key : ibits .or .u64 ((numB (L.take i) : Nat) : Int) (ishl .u64 (wrp .u64 L[i]) (wrp .i64 (8 * (i : Int)))) = ((numB (L.take (i + 1)) : Nat) : Int) := by
   rw [hw, zbxz b1 (by omega), show L[i] = ((L[i].toNat : Nat) : Int) by omega, ishl64 (by omega), Nat.mod_eq_of_lt (by simpa using h6), or64 hn (by simpa using h6), hs]
   congr 1
   rw [← hp] at hlt
   have := Nat.two_pow_add_eq_or_of_lt hlt L[i].toNat
   rw [Nat.or_comm, Nat.mul_comm, ← this, hp, Nat.mul_comm]; omega
  refine Ev.succ (Ev.po (Ev.po (Ev.opt hg (Ev.neg (by rw [hw]; omega) ?_)))) (fun q => rfl)
  rw [key, zbxy (by omega) (by omega), show ((i : Int) + 1) = ((i + 1 : Nat) : Int) by omega]
  exact ih
theorem zb3a (s : Sl Int) (hb : isB s.l) (hL : s.l.length ≤ 8) : Ev (fun q => zl9 q s) ((numB s.l : Nat) : Int) := by
 have h := zb29 s.z s.l hb hL s.l.length 0 (by omega)
 refine Ev.succ (g := fun q => zl8 q s.z s.l 0 (if 8 < (s.l.length : Int) then 8 else (s.l.length : Int)) 0) ?_ (fun q => rfl)
 rw [if_neg (show ¬ 8 < (s.l.length : Int) by omega)]; exact h
theorem zb3b (s : Sl Int) (hb : isB s.l) (hl : s.l.length ≤ 4294967296) : ∃ m, Ev (fun q => zma q s) (m, (manD s.l).2) ∧ ((manD s.l).2 = 0 → m = ⟨(manD s.l).1.1, (manD s.l).1.2.1, (((manD s.l).1.2.2 : Nat) : Int)⟩) := by
 by_cases h0 : (s.l.length : Int) = 0
 ·have e : s.l[0]? = none := by rw [y49]; omega
  have hm : (manD s.l).2 = 3 := by simp only [manD, e]; rw [if_neg (by simp)]
  rw [hm]
  exact ⟨_, Ev.succ (Ev.pos h0 (Ev.ret _)) (fun q => rfl), fun h => by cases h⟩
 ·obtain ⟨a, he⟩ : ∃ a, s.l[0]? = some a := ⟨s.l[0]'(by omega), y6 (by omega)⟩
  obtain ⟨d, hd⟩ : ∃ d, d = s.l.drop 1 := ⟨_, rfl⟩
  have hlc : s.l.length = d.length + 1 := by rw [hd, y12]; omega
  have hb0 : isB d := by rw [hd]; exact zbzp hb 1
  have hb1 := zbzp hb0 (getN d).2.toNat
  have hb2 := zbzp hb1 (getN (d.drop (getN d).2.toNat)).2.toNat
  have hb3 := zbzp hb2 (getN ((d.drop (getN d).2.toNat).drop (getN (d.drop (getN d).2.toNat)).2.toNat)).2.toNat
  have hx := zbzi (l := d)
  have hy := zbzi (l := d.drop (getN d).2.toNat)
  have hz := zbzi (l := (d.drop (getN d).2.toNat).drop (getN (d.drop (getN d).2.toNat)).2.toNat)
  simp only [y12] at hy hz
  have hF := zb3a ⟨s.z, ((d.drop (getN d).2.toNat).drop (getN (d.drop (getN d).2.toNat)).2.toNat).drop (getN ((d.drop (getN d).2.toNat).drop (getN (d.drop (getN d).2.toNat)).2.toNat)).2.toNat⟩ hb3
  simp only [y12] at hF
  have pre : ∀ {m}, (a = 115 → Ev (fun q => (if (getN d).2 = 0 then (some ((⟨(getN (d.drop (getN d).2.toNat)).1, (getN ((d.drop (getN d).2.toNat).drop (getN (d.drop (getN d).2.toNat)).2.toNat)).1, 0⟩ : zjo), (3 : Int))) else (if (getN (d.drop (getN d).2.toNat)).2 = 0 then (some ((⟨(getN (d.drop (getN d).2.toNat)).1, (getN ((d.drop (getN d).2.toNat).drop (getN (d.drop (getN d).2.toNat)).2.toNat)).1, 0⟩ : zjo), 3)) else (if (getN ((d.drop (getN d).2.toNat).drop (getN (d.drop (getN d).2.toNat)).2.toNat)).2 = 0 then (some ((⟨(getN (d.drop (getN d).2.toNat)).1, (getN ((d.drop (getN d).2.toNat).drop (getN (d.drop (getN d).2.toNat)).2.toNat)).1, 0⟩ : zjo), 3)) else (if (getN d).1 = 3 then (if (((((s.l.length - 1) - (getN d).2.toNat) - (getN (d.drop (getN d).2.toNat)).2.toNat) - (getN ((d.drop (getN d).2.toNat).drop (getN (d.drop (getN d).2.toNat)).2.toNat)).2.toNat : Nat) : Int) = 4 then ((zl9 q ⟨s.z, ((d.drop (getN d).2.toNat).drop (getN (d.drop (getN d).2.toNat)).2.toNat).drop (getN ((d.drop (getN d).2.toNat).drop (getN (d.drop (getN d).2.toNat)).2.toNat)).2.toNat⟩).bind fun r5 => (some ((⟨(getN (d.drop (getN d).2.toNat)).1, (getN ((d.drop (getN d).2.toNat).drop (getN (d.drop (getN d).2.toNat)).2.toNat)).1, r5⟩ : zjo), 0))) else (some ((⟨(getN (d.drop (getN d).2.toNat)).1, (getN ((d.drop (getN d).2.toNat).drop (getN (d.drop (getN d).2.toNat)).2.toNat)).1, 0⟩ : zjo), 3))) else (some ((⟨(getN (d.drop (getN d).2.toNat)).1, (getN ((d.drop (getN d).2.toNat).drop (getN (d.drop (getN d).2.toNat)).2.toNat)).1, 0⟩ : zjo), 6))))))) m) → a = 115 → Ev (fun q => zma q s) m := fun {m} h ha => by
   refine Ev.succ (Ev.neg h0 (Ev.opt he (Ev.pos ha (Ev.pos (by omega) ?_)))) (fun q => rfl)
   rw [← hd]
   exact Ev.bind (zbzh ⟨s.z, d⟩ hb0) (Ev.pos hx.1 (Ev.pos (by simp only; omega) (Ev.bind (zbzh ⟨s.z, d.drop (getN d).2.toNat⟩ hb1) (Ev.pos hy.1 (Ev.pos (by simp only; omega) (Ev.bind (zbzh ⟨s.z, (d.drop (getN d).2.toNat).drop (getN (d.drop (getN d).2.toNat)).2.toNat⟩ hb2) (Ev.pos hz.1 (Ev.pos (by simp only; omega) (h ha)))))))))
  by_cases ha : a = 115
  ·have hm : manD s.l = (if (getN d).2 = 0 then ((0, 0, 0), 3) else if (getN (d.drop (getN d).2.toNat)).2 = 0 then ((0, 0, 0), 3) else if (getN ((d.drop (getN d).2.toNat).drop (getN (d.drop (getN d).2.toNat)).2.toNat)).2 = 0 then ((0, 0, 0), 3) else if (getN d).1 = 3 then if (((d.drop (getN d).2.toNat).drop (getN (d.drop (getN d).2.toNat)).2.toNat).drop (getN ((d.drop (getN d).2.toNat).drop (getN (d.drop (getN d).2.toNat)).2.toNat)).2.toNat).length = 4 then (((getN (d.drop (getN d).2.toNat)).1, (getN ((d.drop (getN d).2.toNat).drop (getN (d.drop (getN d).2.toNat)).2.toNat)).1, numB (((d.drop (getN d).2.toNat).drop (getN (d.drop (getN d).2.toNat)).2.toNat).drop (getN ((d.drop (getN d).2.toNat).drop (getN (d.drop (getN d).2.toNat)).2.toNat)).2.toNat)), 0) else ((0, 0, 0), 3) else ((0, 0, 0), 6)) := by
    simp only [manD, ← hd]; rw [if_pos (by rw [he, ha])]
   rw [hm]
   by_cases c1 : (getN d).2 = 0
   ·rw [if_pos c1]; exact ⟨_, pre (fun _ => Ev.pos c1 (Ev.ret _)) ha, fun h => by cases h⟩
   ·rw [if_neg c1]
    by_cases c2 : (getN (d.drop (getN d).2.toNat)).2 = 0
    ·rw [if_pos c2]; exact ⟨_, pre (fun _ => Ev.neg c1 (Ev.pos c2 (Ev.ret _))) ha, fun h => by cases h⟩
    ·rw [if_neg c2]
     by_cases c3 : (getN ((d.drop (getN d).2.toNat).drop (getN (d.drop (getN d).2.toNat)).2.toNat)).2 = 0
     ·rw [if_pos c3]; exact ⟨_, pre (fun _ => Ev.neg c1 (Ev.neg c2 (Ev.pos c3 (Ev.ret _)))) ha, fun h => by cases h⟩
     ·rw [if_neg c3]
      by_cases c4 : (getN d).1 = 3
      ·rw [if_pos c4]
       simp only [y12]
       by_cases c5 : d.length - (getN d).2.toNat - (getN (d.drop (getN d).2.toNat)).2.toNat - (getN ((d.drop (getN d).2.toNat).drop (getN (d.drop (getN d).2.toNat)).2.toNat)).2.toNat = 4
       ·rw [if_pos c5]
        exact ⟨_, pre (fun _ => Ev.neg c1 (Ev.neg c2 (Ev.neg c3 (Ev.pos c4 (Ev.pos (by rw [hlc]; omega) (Ev.bind (hF (by omega)) (Ev.ret _))))))) ha, fun _ => rfl⟩
       ·rw [if_neg c5]
        exact ⟨_, pre (fun _ => Ev.neg c1 (Ev.neg c2 (Ev.neg c3 (Ev.pos c4 (Ev.neg (by rw [hlc]; omega) (Ev.ret _)))))) ha, fun h => by cases h⟩
      ·rw [if_neg c4]
       exact ⟨_, pre (fun _ => Ev.neg c1 (Ev.neg c2 (Ev.neg c3 (Ev.neg c4 (Ev.ret _))))) ha, fun h => by cases h⟩
  ·have hm : manD s.l = ((0, 0, 0), 3) := by
    simp only [manD]; rw [if_neg (by rw [he]; simpa using ha)]
   rw [hm]
   exact ⟨_, Ev.succ (Ev.neg h0 (Ev.opt he (Ev.neg ha (Ev.ret _)))) (fun q => rfl), fun h => by cases h⟩
theorem zb3c {L : List (Sl Int)} {i : Nat} (hi : i < L.length) : cutB ((L.map (·.l)).drop i) = (decide (1 ≤ L[i].l.length) && (decide (L[i].l.length ≤ 64) && ((decide (L[i].l.length = 64) || decide (L.length = i + 1)) && cutB ((L.map (·.l)).drop (i + 1))))) := by
 rw [← List.map_drop, ← List.map_drop, y8 hi, y33]
 by_cases h : L.length = i + 1
 ·rw [y11 (show L.length ≤ i + 1 by omega)]; simp [cutB, h]
 ·have : ∃ e u, L.drop (i + 1) = e :: u := by
   cases hd : L.drop (i + 1) with
   | nil => have := congrArg List.length hd; rw [y12, y24] at this; omega
   | cons e u => exact ⟨e, u, rfl⟩
  obtain ⟨e, u, hu⟩ := this
  rw [hu, y33]
  simp only [cutB]
  rw [decide_eq_false h, Bool.or_false]
  by_cases h4 : L[i].l.length = 64
  ·simp [h4]
  ·simp [h4]
theorem zb3d (z : Bool) (L : List (Sl Int)) (z2 : Bool) (hL : L.length ≤ 1000000000) : ∀ (k i : Nat), L.length = i + k → Ev (fun q => zmb q z L z2 L (L.length : Int) (i : Int)) (cutB ((L.map (·.l)).drop i))
 | 0, i, hk => by
  refine Ev.succ (Ev.ne (Ev.ret' ?_)) (fun q => rfl)
  rw [y11 (by rw [y23]; omega)]; rfl
 | k + 1, i, hk => by
  have hi : i < L.length := by omega
  have he : L[((i : Int)).toNat]? = some L[i] := by simp [hi]
  have ih := zb3d z L z2 hL k (i + 1) (by omega)
  rw [show ((i + 1 : Nat) : Int) = wrp .i64 ((i : Int) + 1) by rw [zbxy (by omega) (by omega)]; omega] at ih
  have w : wrp .i64 ((L.length : Int) - 1) = (L.length : Int) - 1 := zbxy (by omega) (by omega)
  rw [zb3c hi]
  refine Ev.succ (Ev.po (Ev.po (Ev.opt he (Ev.ite (fun c1 => Ev.ret' ?_) fun c1 => Ev.ite (fun c2 => Ev.ret' ?_) fun c2 => Ev.ite (fun c3 => Ev.ite (fun c4 => Ev.ret' ?_) fun c4 => Ev.cast ih ?_) fun c3 => Ev.cast ih ?_)))) (fun q => rfl)
  ·rw [decide_eq_false (show ¬ 1 ≤ L[i].l.length by omega)]; rfl
  ·rw [decide_eq_false (show ¬ L[i].l.length ≤ 64 by omega)]; simp
  ·rw [w] at c4
   rw [decide_eq_false (show ¬ L[i].l.length = 64 by omega), decide_eq_false (show ¬ L.length = i + 1 by omega)]; simp
  ·rw [w] at c4
   rw [decide_eq_true (show 1 ≤ L[i].l.length by omega), decide_eq_true (show L[i].l.length ≤ 64 by omega), decide_eq_true (show L.length = i + 1 by omega)]; simp
  ·rw [decide_eq_true (show 1 ≤ L[i].l.length by omega), decide_eq_true (show L[i].l.length ≤ 64 by omega), decide_eq_true (show L[i].l.length = 64 by omega)]; simp
theorem zb3e (s : Sl (Sl Int)) (hL : s.l.length ≤ 1000000000) : Ev (fun q => zmc q s) (cutB (s.l.map (·.l))) :=
 Ev.succ (zb3d s.z s.l s.z hL s.l.length 0 (by omega)) (fun q => rfl)
theorem zb3f (z : Bool) {l : List Int} (hb : isB l) : Ev (fun q => zk3 q ⟨z, l⟩) (getN l) := zbzh ⟨z, l⟩ hb
theorem zb3g (z : Bool) {l : List Int} (hb : isB l) : Ev (fun q => zlj q ⟨z, l⟩) (getS l) := zb0c ⟨z, l⟩ hb
def stE (fine : Bool) (k : Nat) (b acc : List Int) (x : Int) (sl : Bool) (to : Int) : zji × Int :=
 if fine = true ∧ (nums k b).2.1 = true ∧ (nums k b).2.2 = [] then
  if mayS ⟨x, ⟨false, acc ++ (nums k b).1⟩, sl, to⟩ = true then (⟨x, ⟨false, acc ++ (nums k b).1⟩, sl, to⟩, 0) else (noS, 1)
 else (noS, 3)
theorem zb3h (fine : Bool) (k : Nat) (b acc : List Int) (x : Int) (sl : Bool) (to : Int) : stE fine (k + 1) b acc x sl to = stE (fine && decide (0 < (getS b).2)) k (b.drop (getS b).2.toNat) (acc ++ [(getS b).1]) x sl to := by
 by_cases h : 0 < (getS b).2
 ·rw [decide_eq_true h, Bool.and_true]
  unfold stE
  simp only [nums, decide_eq_true h, y59, y32, List.singleton_append]
 ·rw [decide_eq_false h, Bool.and_false]
  unfold stE
  rw [if_neg (by simp [nums, h]), if_neg (by simp)]
theorem zb3i (z : Bool) (x : Int) (sl : Bool) (to : Int) (m : Nat) (hm : m ≤ 128) : ∀ (k i : Nat) (b : List Int) (fine : Bool) (acc : List Int), m = i + k → acc.length = i → isB b →
  Ev (fun q => zmd q (m : Int) (i : Int) z b fine x sl to acc) (stE fine k b acc x sl to)
 | 0, i, b, fine, acc, hk, ha, hb => by
  unfold stE
  simp only [nums, List.append_nil]
  refine Ev.succ (Ev.ne (Ev.ite (fun c1 => Ev.ite (fun c2 => Ev.ret' ?_) fun c2 => Ev.bind (zb0k _ (by simp only; omega)) (Ev.ite (fun c3 => Ev.ret' ?_) fun c3 => Ev.ret' ?_)) fun c1 => Ev.ret' ?_)) (fun q => rfl)
  ·rw [if_neg (by rintro ⟨_, _, e⟩; rw [e] at c2; simp at c2)]; rfl
  ·rw [if_pos ⟨c1, trivial, y34 (by omega)⟩, if_pos c3]
  ·rw [if_pos ⟨c1, trivial, y34 (by omega)⟩, if_neg c3]; rfl
  ·rw [if_neg (fun e => c1 e.1)]; rfl
 | k + 1, i, b, fine, acc, hk, ha, hb => by
  have hs := zb0d (l := b)
  have ih := fun f => zb3i z x sl to m hm k (i + 1) (b.drop (getS b).2.toNat) f (acc ++ [(getS b).1]) (by omega) (by rw [y9, List.length_singleton]; omega) (zbzp hb _)
  rw [show ((i + 1 : Nat) : Int) = wrp .i64 ((i : Int) + 1) by rw [zbxy (by omega) (by omega)]; omega] at ih
  rw [zb3h]
  refine Ev.succ (Ev.po (Ev.bind (zb3g z hb) (Ev.ite (fun c => ?_) fun c => ?_))) (fun q => rfl)
  ·rw [c, y59]
   exact Ev.pos hs.1 (Ev.pos hs.2.1 (Ev.po (ih _)))
  ·have c' : fine = false := by simpa using c
   rw [c', Bool.false_and]
   exact Ev.pos hs.1 (Ev.pos hs.2.1 (Ev.po (ih _)))
theorem zb3j (z : Bool) (x : Int) (sl : Bool) (to : Int) (m : Nat) (hm : m ≤ 128) (b : List Int) (hb : isB b) :
  Ev (fun q => zme q (m : Int) z b true x sl to) (if (nums m b).2.1 = true ∧ (nums m b).2.2 = [] then if mayS ⟨x, ⟨(nums m b).1.isEmpty, (nums m b).1⟩, sl, to⟩ = true then (⟨x, ⟨(nums m b).1.isEmpty, (nums m b).1⟩, sl, to⟩, 0) else (noS, 1) else (noS, 3)) := by
 by_cases h0 : m = 0
 ·have hn : nums m b = ([], true, b) := by rw [h0]; rfl
  simp only [hn, List.isEmpty_nil]
  refine Ev.succ (Ev.ne (Ev.pos rfl (Ev.ite (fun c2 => Ev.ret' ?_) fun c2 => Ev.bind (zb0k _ (by simp)) (Ev.ite (fun c3 => Ev.ret' ?_) fun c3 => Ev.ret' ?_)))) (fun q => rfl)
  ·rw [if_neg (by rintro ⟨_, e⟩; rw [e] at c2; simp at c2)]; rfl
  ·rw [if_pos ⟨trivial, y34 (by omega)⟩, if_pos c3]
  ·rw [if_pos ⟨trivial, y34 (by omega)⟩, if_neg c3]; rfl
 ·obtain ⟨k, hk⟩ : ∃ k, m = k + 1 := ⟨m - 1, by omega⟩
  have hs := zb0d (l := b)
  have ih := zb3i z x sl to m hm k 1 (b.drop (getS b).2.toNat) (decide (0 < (getS b).2)) [(getS b).1] (by omega) rfl (zbzp hb _)
  rw [show ((1 : Nat) : Int) = wrp .i64 1 by rw [zbxy (by omega) (by omega)]; rfl] at ih
  refine Ev.succ (Ev.po (Ev.bind (zb3g z hb) (Ev.pos rfl (Ev.pos hs.1 (Ev.pos hs.2.1 (Ev.cast ih ?_)))))) (fun q => rfl)
  have e := zb3h true k b [] x sl to
  rw [y59, y46] at e
  rw [← e, hk]
  unfold stE
  by_cases c : (nums (k + 1) b).2.1 = true ∧ (nums (k + 1) b).2.2 = []
  ·rw [if_pos ⟨rfl, c⟩, if_pos c]; rfl
  ·rw [if_neg (fun e => c e.2), if_neg c]
theorem zb3k (s : Sl Int) (hb : isB s.l) (hl : s.l.length ≤ 1000000) : Ev (fun q => zmf q s) (stD s.l) := by
 have hx := zbzi (l := s.l)
 have hy := zbzi (l := s.l.drop (getN s.l).2.toNat)
 have hz := zbzi (l := (s.l.drop (getN s.l).2.toNat).drop (getN (s.l.drop (getN s.l).2.toNat)).2.toNat)
 simp only [y12] at hy hz
 have hb1 := zbzp hb (getN s.l).2.toNat
 have hb2 := zbzp hb1 (getN (s.l.drop (getN s.l).2.toNat)).2.toNat
 have hb3 := zbzp hb2 (getN ((s.l.drop (getN s.l).2.toNat).drop (getN (s.l.drop (getN s.l).2.toNat)).2.toNat)).2.toNat
 have g1 := zbzh s hb
 have g2 := zb3f s.z hb1
 have g3 := zb3f s.z hb2
 simp only [stD]
 have hl0 := zb3j s.z (getN s.l).1 (decide (0 < (getN (s.l.drop (getN s.l).2.toNat)).1)) (if (getN (s.l.drop (getN s.l).2.toNat)).1 - 1 < 0 then 0 else (getN (s.l.drop (getN s.l).2.toNat)).1 - 1) (getN ((s.l.drop (getN s.l).2.toNat).drop (getN (s.l.drop (getN s.l).2.toNat)).2.toNat)).1.toNat
 rw [show ((((getN ((s.l.drop (getN s.l).2.toNat).drop (getN (s.l.drop (getN s.l).2.toNat)).2.toNat)).1.toNat : Nat)) : Int) = (getN ((s.l.drop (getN s.l).2.toNat).drop (getN (s.l.drop (getN s.l).2.toNat)).2.toNat)).1 by omega] at hl0
 have w : wrp .i64 ((getN (s.l.drop (getN s.l).2.toNat)).1 - 1) = (getN (s.l.drop (getN s.l).2.toNat)).1 - 1 := zbxy (by omega) (by omega)
 refine Ev.succ (Ev.bind g1 (Ev.pos hx.1 (Ev.pos hx.2.1 (Ev.bind g2 (Ev.ite (fun c1 => Ev.pos hy.1 (Ev.po (Ev.bind g3 (Ev.ite (fun c2 => Ev.pos hz.1 (Ev.po (Ev.ite (fun c3 => Ev.ite (fun c4 => Ev.ret' ?_) fun c4 => Ev.ite (fun c5 => Ev.ret' ?_) fun c5 => ?_) fun c3 => Ev.ret' ?_))) fun c2 => Ev.pos hz.1 (Ev.po (Ev.ret' ?_)))))) fun c1 => Ev.pos hy.1 (Ev.po (Ev.bind g3 (Ev.pos hz.1 (Ev.po (Ev.ret' ?_)))))))))) (fun q => rfl)
 ·rw [if_neg (by omega)]; rfl
 ·rw [if_neg (by omega)]; rfl
 ·rw [w, if_pos (And.intro c1 (And.intro c2 (And.intro c3 (And.intro (Int.not_lt.1 c4) (Int.not_lt.1 c5))))), decide_eq_true c3]
  exact hl0 (by omega) _ hb3
 ·rw [if_neg (by omega)]; rfl
 ·rw [if_neg (by omega)]; rfl
 ·rw [if_neg (by omega)]; rfl
theorem zb3l (s : Sl Int) (hb : isB s.l) : Ev (fun q => zmg q s) (entD s.l) := by
 have hx := zbzi (l := s.l)
 have hy := zbzi (l := s.l.drop (getN s.l).2.toNat)
 have hz := zb0d (l := (s.l.drop (getN s.l).2.toNat).drop (getN (s.l.drop (getN s.l).2.toNat)).2.toNat)
 simp only [y12] at hy
 have hb1 := zbzp hb (getN s.l).2.toNat
 have hb2 := zbzp hb1 (getN (s.l.drop (getN s.l).2.toNat)).2.toNat
 have g1 := zbzh s hb
 have g2 := zb3f s.z hb1
 have g3 := zb3g s.z hb2
 simp only [entD]
 refine Ev.succ (Ev.bind g1 (Ev.pos hx.1 (Ev.pos hx.2.1 (Ev.bind g2 (Ev.pos hy.1 (Ev.po (Ev.bind g3 (Ev.ite (fun c1 => Ev.ret' ?_) fun c1 => Ev.ite (fun c2 => Ev.ret' ?_) fun c2 => Ev.ite (fun c3 => Ev.ret' ?_) fun c3 => Ev.ret' ?_)))))))) (fun q => rfl)
 ·rw [if_pos c1]
 ·rw [if_neg c1, if_pos c2]
 ·rw [if_neg c1, if_neg c2, if_pos c3]
 ·rw [if_neg c1, if_neg c2, if_neg c3]
  rw [zbxy (x := (getN s.l).2 + _) (by omega) (by omega), zbxy (by omega) (by omega)]
/-- What becomes of a table's bytes. -/
def enE (k : Nat) (b : List Int) (e : Int) : Int := match ents k b with
 | none => 3
 | some t => if t.2 = [] then e else 3
theorem zb3m (z : Bool) (e : Int) (x : Int) (lz : Bool) (ll : List Int) (sl : Bool) (to : Int) (m : Nat) (hm : m ≤ 1000000) : ∀ (k i : Nat) (b : List Int) (acc : List zjj), m = i + k → acc.length = i → isB b → b.length ≤ 1000000 →
  ∃ r, Ev (fun q => zmh q z b e (m : Int) (i : Int) x lz ll sl to acc) (r, enE k b e) ∧ (∀ t, ents k b = some t → t.2 = [] → r = ⟨0, ⟨x, ⟨lz, ll⟩, sl, to⟩, ⟨false, acc ++ t.1⟩⟩)
 | 0, i, b, acc, hk, ha, hb, hl => by
  unfold enE
  simp only [ents, y1]
  by_cases c : b = []
  ·rw [if_pos c]
   refine ⟨_, Ev.succ (Ev.ne (Ev.neg (by rw [c]; simp) (Ev.ret _))) (fun q => rfl), fun t ht _ => ?_⟩
   subst ht; simp
  ·rw [if_neg c]
   have : 0 < b.length := List.length_pos_iff.2 c
   refine ⟨_, Ev.succ (Ev.ne (Ev.po (Ev.ret _))) (fun q => rfl), fun t ht h2 => ?_⟩
   subst ht; exact absurd h2 c
 | k + 1, i, b, acc, hk, ha, hb, hl => by
  have he := zb2q (b := b)
  obtain ⟨r, h1, h2⟩ := zb3m z e x lz ll sl to m hm k (i + 1) (b.drop (entD b).2.toNat) (acc ++ [(entD b).1]) (by omega) (by rw [y9, List.length_singleton]; omega) (zbzp hb _) (by rw [y12]; omega)
  rw [show ((i + 1 : Nat) : Int) = wrp .i64 ((i : Int) + 1) by rw [zbxy (by omega) (by omega)]; omega] at h1
  unfold enE at h1 ⊢
  simp only [ents]
  by_cases c : (entD b).2 = 0
  ·rw [if_pos c]
   exact ⟨_, Ev.succ (Ev.po (Ev.bind (zb3l ⟨z, b⟩ hb) (Ev.pos c (Ev.ret _)))) (fun q => rfl), fun t ht => by cases ht⟩
  ·rw [if_neg c]
   refine ⟨r, Ev.succ (Ev.po (Ev.bind (zb3l ⟨z, b⟩ hb) (Ev.neg c (Ev.po (Ev.pos he.1 (Ev.pos he.2 (Ev.cast h1 ?_))))))) (fun q => rfl), ?_⟩
   ·cases ents k (b.drop (entD b).2.toNat) <;> rfl
   ·intro t ht h3
    cases hq : ents k (b.drop (entD b).2.toNat) with
    | none => rw [hq] at ht; cases ht
    | some u =>
     rw [hq] at ht
     simp only [y1] at ht
     subst ht
     rw [h2 u hq h3]; simp
theorem zb3n (z : Bool) (e : Int) (st : zji) (m : Nat) (hm : m ≤ 1000000) (b : List Int) (hb : isB b) (hl : b.length ≤ 1000000) :
  ∃ r, Ev (fun q => zmi q z b e (m : Int) st.Kind st.L.z st.L.l st.Sealed st.To) (r, enE m b e) ∧ (∀ t, ents m b = some t → t.2 = [] → r = mkN 0 (st, t.1)) := by
 by_cases h0 : m = 0
 ·have hn : ents m b = some ([], b) := by rw [h0]; rfl
  unfold enE
  simp only [hn, y1]
  by_cases c : b = []
  ·rw [if_pos c]
   refine ⟨_, Ev.succ (Ev.ne (Ev.neg (by rw [c]; simp) (Ev.ret _))) (fun q => rfl), fun t ht _ => ?_⟩
   subst ht; rfl
  ·rw [if_neg c]
   have : 0 < b.length := List.length_pos_iff.2 c
   refine ⟨_, Ev.succ (Ev.ne (Ev.po (Ev.ret _))) (fun q => rfl), fun t ht h2 => ?_⟩
   subst ht; exact absurd h2 c
 ·obtain ⟨k, hk⟩ : ∃ k, m = k + 1 := ⟨m - 1, by omega⟩
  have he := zb2q (b := b)
  obtain ⟨r, h1, h2⟩ := zb3m z e st.Kind st.L.z st.L.l st.Sealed st.To m hm k 1 (b.drop (entD b).2.toNat) [(entD b).1] (by omega) rfl (zbzp hb _) (by rw [y12]; omega)
  rw [show ((1 : Nat) : Int) = wrp .i64 1 by rw [zbxy (by omega) (by omega)]; rfl] at h1
  unfold enE at h1 ⊢
  have hE : ents m b = if (entD b).2 = 0 then none else match ents k (b.drop (entD b).2.toNat) with | none => none | some t => some ((entD b).1 :: t.1, t.2) := by rw [hk]; rfl
  rw [hE]
  by_cases c : (entD b).2 = 0
  ·rw [if_pos c]
   exact ⟨_, Ev.succ (Ev.po (Ev.bind (zb3l ⟨z, b⟩ hb) (Ev.pos c (Ev.ret _)))) (fun q => rfl), fun t ht => by cases ht⟩
  ·rw [if_neg c]
   refine ⟨r, Ev.succ (Ev.po (Ev.bind (zb3l ⟨z, b⟩ hb) (Ev.neg c (Ev.pos he.1 (Ev.pos he.2 (Ev.cast h1 ?_)))))) (fun q => rfl), ?_⟩
   ·cases ents k (b.drop (entD b).2.toNat) <;> rfl
   ·intro t ht h3
    cases hq : ents k (b.drop (entD b).2.toNat) with
    | none => rw [hq] at ht; cases ht
    | some u =>
     rw [hq] at ht
     simp only [y1] at ht
     subst ht
     rw [h2 u hq h3]; rfl
theorem zb3o (s : Sl Int) (hb : isB s.l) (hl : s.l.length ≤ 1000000) : ∃ r, Ev (fun q => zmj q s) (r, (whD s.l).2) ∧ ((whD s.l).2 = 0 → r = mkN 0 (whD s.l).1) := by
 have hn := zbzi (l := s.l)
 have g1 := zbzh s hb
 unfold whD
 by_cases c1 : (getN s.l).2 = 0
 ·rw [if_pos c1]; exact ⟨_, Ev.succ (Ev.bind g1 (Ev.pos c1 (Ev.ret _))) (fun q => rfl), fun h => by cases h⟩
 ·rw [if_neg c1]
  have w1 : wrp .i64 ((s.l.length : Int) - (getN s.l).2) = (s.l.length : Int) - (getN s.l).2 := zbxy (by omega) (by omega)
  by_cases c2 : (s.l.length : Int) - (getN s.l).2 < (getN s.l).1
  ·rw [if_pos c2]; exact ⟨_, Ev.succ (Ev.bind g1 (Ev.neg c1 (Ev.pos (by rw [w1]; exact c2) (Ev.ret _)))) (fun q => rfl), fun h => by cases h⟩
  ·rw [if_neg c2]
   have w2 : wrp .i64 ((getN s.l).2 + (getN s.l).1) = (getN s.l).2 + (getN s.l).1 := zbxy (by omega) (by omega)
   generalize hX : (s.l.take ((getN s.l).2 + (getN s.l).1).toNat).drop (getN s.l).2.toNat = X
   generalize hW : s.l.drop ((getN s.l).2 + (getN s.l).1).toNat = W
   have hbX : isB X := by rw [← hX]; exact zbzp (zbzo hb _) _
   have hlX : X.length ≤ 1000000 := by rw [← hX, y12, y19]; omega
   have hbW : isB W := by rw [← hW]; exact zbzp hb _
   have hlW : W.length = s.l.length - ((getN s.l).2 + (getN s.l).1).toNat := by rw [← hW, y12]
   have hm := zbzi (l := W)
   have hS := zb3k ⟨s.z, X⟩ hbX hlX
   have hG := zb3f s.z hbW
   have pre : ∀ {r : zjk × Int}, Ev (fun q => (zmf q ⟨s.z, X⟩).bind fun r2 => (if r2.2 = 3 then (some ((⟨0, (⟨0, ⟨true, []⟩, false, 0⟩ : zji), ⟨true, []⟩⟩ : zjk), r2.2)) else (if 0 ≤ (getN s.l).2 + (getN s.l).1 then (if (getN s.l).2 + (getN s.l).1 ≤ (s.l.length : Int) then ((zk3 q ⟨s.z, W⟩).bind fun r3 => (if r3.2 = 0 then (some ((⟨0, (⟨0, ⟨true, []⟩, false, 0⟩ : zji), ⟨true, []⟩⟩ : zjk), 3)) else (if (((s.l.length - ((getN s.l).2 + (getN s.l).1).toNat) : Nat) : Int) < r3.1 then (some ((⟨0, (⟨0, ⟨true, []⟩, false, 0⟩ : zji), ⟨true, []⟩⟩ : zjk), 3)) else (if 0 ≤ r3.2 then (if r3.2 ≤ (((s.l.length - ((getN s.l).2 + (getN s.l).1).toNat) : Nat) : Int) then (zmi q s.z (List.drop r3.2.toNat W) r2.2 r3.1 r2.1.Kind r2.1.L.z r2.1.L.l r2.1.Sealed r2.1.To) else none) else none)))) else none) else none))) r → Ev (fun q => zmj q s) r := fun {r} h => by
    refine Ev.succ (Ev.bind g1 (Ev.neg c1 (Ev.neg (by rw [w1]; exact c2) (Ev.pos hn.1 (Ev.pos (by rw [w2]; omega) (Ev.pos (by rw [w2]; omega) ?_)))))) (fun q => rfl)
    rw [w2, hX, hW]; exact h
   by_cases c3 : (stD X).2 = 3
   ·rw [if_pos c3]; exact ⟨_, pre (Ev.bind hS (Ev.pos c3 (Ev.ret' (by rw [c3])))), fun h => by cases h⟩
   ·rw [if_neg c3]
    by_cases c4 : (getN W).2 = 0
    ·rw [if_pos c4]; exact ⟨_, pre (Ev.bind hS (Ev.neg c3 (Ev.po (Ev.po (Ev.bind hG (Ev.pos c4 (Ev.ret _))))))), fun h => by cases h⟩
    ·rw [if_neg c4]
     by_cases c5 : (W.length : Int) < (getN W).1
     ·rw [if_pos c5]; exact ⟨_, pre (Ev.bind hS (Ev.neg c3 (Ev.po (Ev.po (Ev.bind hG (Ev.neg c4 (Ev.po (Ev.ret _)))))))), fun h => by cases h⟩
     ·rw [if_neg c5]
      obtain ⟨r, h1, h2⟩ := zb3n s.z (stD X).2 (stD X).1 (getN W).1.toNat (by omega) (W.drop (getN W).2.toNat) (zbzp hbW _) (by rw [y12]; omega)
      rw [show ((((getN W).1.toNat : Nat)) : Int) = (getN W).1 by omega] at h1
      refine ⟨r, pre (Ev.bind hS (Ev.neg c3 (Ev.po (Ev.po (Ev.bind hG (Ev.neg c4 (Ev.ne (Ev.pos hm.1 (Ev.po (Ev.cast h1 ?_)))))))))), ?_⟩
      ·unfold enE
       cases ents (getN W).1.toNat (W.drop (getN W).2.toNat) with
       | none => rfl
       | some t => simp only; split <;> rfl
      ·intro h
       cases he : ents (getN W).1.toNat (W.drop (getN W).2.toNat) with
       | none => rw [he] at h; cases h
       | some t =>
        rw [he] at h
        simp only at h ⊢
        split at h
        ·rename_i c6
         rw [if_pos c6]; exact h2 t he c6
        ·cases h
theorem zb3p (l : List (Sl Int)) : flat l = (l.map (·.l)).flatten := by simp [flat, List.flatMap]
theorem zb3q : ∀ D : List (List Int), D.flatten.length ≤ (BB D).length ∧ D.length ≤ (BB D).length
 | [] => by simp
 | d :: D => by
  have h := zb3q D
  have e := zb1m d
  rw [zbz5, List.flatten_cons, y9, y9, y20]; omega
theorem zb3r {b : List Int} (hb : isB b) : (allE b).1.flatten.length ≤ b.length ∧ (allE b).1.length ≤ b.length := by
 by_cases h : (allE b).2 = 0
 ·have := zb3q (allE b).1; rw [zb2h hb h] at this; exact this
 ·unfold allE at h ⊢
  split
  ·rename_i e; rw [if_pos e] at h; exact absurd rfl h
  ·simp
theorem zb3s (s : Sl Int) (hz : s.z = true → s.l = []) (hb : isB s.l) (hl : s.l.length ≤ 1000000) : Ev (fun q => zmk q s) (snD s.l) := by
 obtain ⟨z, X, hA, hX⟩ := zbz2 s hz hb (by omega)
 have hme := zb2f hb
 have hlo := zb3r hb
 unfold snD
 by_cases c0 : (allE s.l).2 = 0
 ·rw [if_pos c0]
  rw [← hX] at hme hlo ⊢
  rw [c0] at hA
  by_cases hx : X.length = 0
  ·have hX0 : X = [] := y34 hx
   refine Ev.succ (Ev.bind hA (Ev.pos rfl (Ev.pos (by simp only; omega) (Ev.ret' ?_)))) (fun q => rfl)
   rw [hX0]; rfl
  ·obtain ⟨e, he⟩ : ∃ e, X[0]? = some e := ⟨X[0]'(by omega), y6 (by omega)⟩
   obtain ⟨T, hT⟩ : ∃ T, T = X.drop 1 := ⟨_, rfl⟩
   have hXe : X = e :: T := by
    cases X with
    | nil => simp at hx
    | cons a X => simp only [y36, y1] at he; rw [hT, he]; rfl
   have hml : X.map (·.l) = e.l :: T.map (·.l) := by rw [hXe, y33]
   rw [hml] at hme hlo ⊢
   dsimp only
   have hbe := hme e.l y31
   have hbt : isB (T.map (·.l)).flatten := zb23 fun d hd => (hme d (y35 _ hd)).1
   have hTl : T.length ≤ 1000000 := by have := hlo.2; rw [y20, y23] at this; omega
   have hTf : (T.map (·.l)).flatten.length ≤ 1000000 := by have := hlo.1; rw [List.flatten_cons, y9] at this; omega
   obtain ⟨m, hM, hm⟩ := zb3b e hbe.1 (by omega)
   obtain ⟨z', hC⟩ := zby9 ⟨z, T⟩ (by simp only; omega) (by simp only [zb3p]; omega)
   simp only [zb3p] at hC
   have hK := zb3e ⟨z, T⟩ (by simp only; omega)
   generalize (T.map (·.l)).flatten = w at hbt hTf hC ⊢
   have hS := zbyw ⟨z', w⟩ hbt (by simp only; omega)
   obtain ⟨r, hR, hr⟩ := zb3o ⟨z', w⟩ hbt hTf
   simp only at hS hR hr hK
   have pre : ∀ {x : zjk × Int}, Ev (fun q => (zma q e).bind fun r3 => (if r3.2 = 0 then (if 1 ≤ X.length then ((zlt q ⟨z, T⟩).bind fun r4 => (if (r4.xs.length : Int) = r3.1.size then ((zmc q ⟨z, T⟩).bind fun r5 => (if r5 = true then ((zk9 q ⟨r4.n, r4.xs⟩).bind fun r6 => (if (wrp .u64 r6) = r3.1.sum then ((zmj q ⟨r4.n, r4.xs⟩).bind fun r7 => (if r7.2 = 0 then ((zjz q (⟨r3.1.index, r7.1.State, r7.1.Table⟩ : zjk)).bind fun r8 => (if r8 = true then (some ((⟨r3.1.index, r7.1.State, r7.1.Table⟩ : zjk), 0)) else (some ((⟨0, (⟨0, ⟨true, []⟩, false, 0⟩ : zji), ⟨true, []⟩⟩ : zjk), 1)))) else (some ((⟨0, (⟨0, ⟨true, []⟩, false, 0⟩ : zji), ⟨true, []⟩⟩ : zjk), r7.2)))) else (some ((⟨0, (⟨0, ⟨true, []⟩, false, 0⟩ : zji), ⟨true, []⟩⟩ : zjk), 4)))) else (some ((⟨0, (⟨0, ⟨true, []⟩, false, 0⟩ : zji), ⟨true, []⟩⟩ : zjk), 3)))) else (some ((⟨0, (⟨0, ⟨true, []⟩, false, 0⟩ : zji), ⟨true, []⟩⟩ : zjk), 16)))) else none) else (some ((⟨0, (⟨0, ⟨true, []⟩, false, 0⟩ : zji), ⟨true, []⟩⟩ : zjk), r3.2)))) x → Ev (fun q => zmk q s) x := fun {x} h => by
    refine Ev.succ (Ev.bind hA ?_) (fun q => rfl)
    refine Ev.pos rfl (Ev.neg (by simp only; omega) (Ev.pos (by simp only; omega) (Ev.opt he ?_)))
    rw [hT] at h; exact h
   have hn : noN = (⟨0, (⟨0, ⟨true, []⟩, false, 0⟩ : zji), ⟨true, []⟩⟩ : zjk) := rfl
   simp only [hn]
   refine pre (Ev.bind hM ?_)
   refine Ev.ite (fun c1 => ?_) fun c1 => Ev.ret' (by simp only at c1; rw [if_neg c1])
   simp only at c1
   have hm := hm c1
   subst hm
   rw [if_pos c1]
   refine Ev.po (Ev.bind hC (Ev.ite (fun c2 => ?_) fun c2 => Ev.ret' (by simp only at c2; rw [if_neg c2])))
   simp only at c2
   rw [if_pos c2]
   refine Ev.bind hK (Ev.ite (fun c3 => ?_) fun c3 => Ev.ret' (by rw [if_neg c3]))
   rw [if_pos c3]
   have hw : wrp .u64 (u (bsum w)) = (((bsum w).toNat : Nat) : Int) := by rw [zbxz (u_nn _) (by have := u_lt (bsum w); omega)]; rfl
   refine Ev.bind hS (Ev.ite (fun c4 => ?_) fun c4 => Ev.ret' (by rw [hw] at c4; simp only at c4; rw [if_neg (fun e => c4 (by rw [e]))]))
   rw [hw] at c4
   simp only at c4
   rw [if_pos (by omega)]
   refine Ev.bind hR (Ev.ite (fun c5 => ?_) fun c5 => Ev.ret' (by simp only at c5; rw [if_neg c5]))
   simp only at c5
   have hr := hr c5
   subst hr
   rw [if_pos c5]
   have hiv := zb2v hbt c5 0
   have hbnd : (whD w).1.1.L.l.length ≤ 1000000 ∧ (whD w).1.2.length ≤ 1000000 := by
    have hst : (stateB (whD w).1.1).length ≤ w.length := by
     have : (stateB (whD w).1.1).length ≤ (wholeB (mkN 0 (whD w).1)).length := by simp only [wholeB, mkN, y9]; omega
     rw [hiv] at this; exact this
    have htb : (tabE (whD w).1.2).length ≤ w.length := by
     have : (tabE (whD w).1.2).length ≤ (wholeB (mkN 0 (whD w).1)).length := by simp only [wholeB, mkN, y9]; omega
     rw [hiv] at this; exact this
    have g1 : ∀ l : List Int, l.length ≤ (numsB l).length := fun l => by
     induction l with
     | nil => simp
     | cons a l ih => have := zb18 a; rw [zb00, y9, y20]; omega
    have g2 : ∀ l : List zjj, l.length ≤ (tabE l).length := fun l => by
     induction l with
     | nil => simp
     | cons e l ih => have := zb18 e.Resp; rw [zb1b, y9, y20]; simp only [entB, y9]; omega
    have h1 := g1 (whD w).1.1.L.l
    have h2 := g2 (whD w).1.2
    simp only [stateB, y9] at hst
    omega
   refine Ev.bind (zb0o (mkN (manD e.l).1.1 (whD w).1) hbnd.1 hbnd.2) (Ev.ite (fun c6 => Ev.ret' ?_) fun c6 => Ev.ret' ?_)
   ·rw [if_pos c6]; rfl
   ·rw [if_neg c6]
 ·rw [if_neg c0]
  exact Ev.succ (Ev.bind hA (Ev.neg c0 (Ev.ret _))) (fun q => rfl)
theorem zb3t {s : zjk} (h : mayN s = true) : s.State.L.l.length ≤ 1000000 ∧ s.Table.l.length ≤ 1000000 := by
 have hm := zb0y h
 have hk := zb0u (zb0v hm.2.2.1).2.2.2
 have := zb1i h
 omega
theorem zb3u : ∀ (a0 : zjk), zjk.ok a0 → ∃ q, zml q a0 = some true := by
 intro s hs
 refine Ev.get (Ev.succ (Ev.bind zb16 (Ev.bind (Few_ev s) (Ev.pos rfl (Ev.ite (fun h1 => ?_) fun h1 => Ev.ret _)))) (fun q => rfl))
 simp only [decide_eq_true_eq] at h1
 obtain ⟨z, hzf, hE⟩ := zb1t s (by omega) (by omega)
 by_cases hy : mayN s = true
 ·rw [if_pos hy, hzf hy] at hE
  have hlen := zb27 hy
  obtain ⟨d1, d2⟩ := zb25 hy
  have hm1 := zb3t (zb24 d2 hy)
  have hD := zb3s ⟨false, snapB s⟩ (fun e => by cases e) (zb26 s) (by simp only; omega)
  have hS := zb1y (snD (snapB s)).1 s (by omega) (by omega)
  exact Ev.bind hE (Ev.pos rfl (Ev.bind hD (Ev.pos d1 (Ev.bind hS (Ev.ret' d2)))))
 ·rw [if_neg hy] at hE
  exact Ev.bind hE (Ev.neg (by simp) (Ev.ret' (by simp)))
end Go.Dvm.I
