/- Plain laws of the functions: part 1. -/
import Derived.Test.YtngajodhbioheaaQi
set_option linter.all false
set_option maxRecDepth 100000
namespace Go.Dvm.I
open Go Go.Dvm
/-- With enough rounds. -/
def Ev {R : Type} (g : Nat → Option R) (r : R) : Prop := ∃ N, ∀ q, N ≤ q → g q = some r
section
variable {R S : Type}
theorem Ev.ret (r : R) : Ev (fun _ => some r) r := ⟨0, fun _ _ => rfl⟩
theorem Ev.ret' {r r' : R} (h : r = r') : Ev (fun _ => some r) r' := ⟨0, fun _ _ => by rw [h]⟩
theorem Ev.succ {f g : Nat → Option R} {r : R} (h : Ev g r) (e : ∀ q, f (q + 1) = g q) : Ev f r := by
 obtain ⟨N, h⟩ := h
 refine ⟨N + 1, fun q hq => ?_⟩
 obtain ⟨q, rfl⟩ : ∃ p, q = p + 1 := ⟨q - 1, by omega⟩
 rw [e]; exact h q (by omega)
theorem Ev.bind {g : Nat → Option S} {k : Nat → S → Option R} {s : S} {r : R} (h : Ev g s) (h2 : Ev (fun q => k q s) r) : Ev (fun q => (g q).bind (k q)) r := by
 obtain ⟨N, h⟩ := h
 obtain ⟨M, h2⟩ := h2
 exact ⟨N + M, fun q hq => by show (g q).bind (k q) = some r; rw [h q (by omega), y4]; exact h2 q (by omega)⟩
theorem Ev.opt {o : Option S} {k : Nat → S → Option R} {s : S} {r : R} (h : o = some s) (h2 : Ev (fun q => k q s) r) : Ev (fun q => o.bind (k q)) r := by
 subst h; exact h2
theorem Ev.pos {c : Prop} [Decidable c] {a b : Nat → Option R} {r : R} (hc : c) (h : Ev a r) : Ev (fun q => if c then a q else b q) r := by
 obtain ⟨N, h⟩ := h
 exact ⟨N, fun q hq => by show (if c then a q else b q) = some r; rw [if_pos hc]; exact h q hq⟩
theorem Ev.neg {c : Prop} [Decidable c] {a b : Nat → Option R} {r : R} (hc : ¬ c) (h : Ev b r) : Ev (fun q => if c then a q else b q) r := by
 obtain ⟨N, h⟩ := h
 exact ⟨N, fun q hq => by show (if c then a q else b q) = some r; rw [if_neg hc]; exact h q hq⟩
theorem Ev.po {c : Prop} [Decidable c] {a b : Nat → Option R} {r : R} (h : Ev a r) (hc : c := by omega) : Ev (fun q => if c then a q else b q) r := Ev.pos hc h
theorem Ev.ne {c : Prop} [Decidable c] {a b : Nat → Option R} {r : R} (h : Ev b r) (hc : ¬ c := by omega) : Ev (fun q => if c then a q else b q) r := Ev.neg hc h
theorem Ev.ite {c : Prop} [Decidable c] {a b : Nat → Option R} {r : R} (h1 : c → Ev a r) (h2 : ¬ c → Ev b r) : Ev (fun q => if c then a q else b q) r := by
 by_cases hc : c
 ·exact .pos hc (h1 hc)
 ·exact .neg hc (h2 hc)
theorem Ev.get {f : Nat → Option R} {r : R} (h : Ev f r) : ∃ q, f q = some r := by
 obtain ⟨N, h⟩ := h; exact ⟨N, h N (y13 _)⟩
theorem Ev.cast {f : Nat → Option R} {r r' : R} (h : Ev f r) (e : r = r') : Ev f r' := e ▸ h
end
theorem zbkt {x : Int} (h1 : -9223372036854775808 ≤ x) (h2 : x ≤ 9223372036854775807) : wrp .i64 x = x := by
 unfold wrp; simp [IntKind.wrap, IntKind.min, IntKind.max, IntKind.signed, IntKind.bits] <;> omega
theorem zbku {x : Int} (h1 : 0 ≤ x) (h2 : x ≤ 18446744073709551615) : wrp .u64 x = x := by
 unfold wrp; simp [IntKind.wrap, IntKind.min, IntKind.max, IntKind.signed, IntKind.bits] <;> omega
theorem zbkv {x : Int} (h1 : 0 ≤ x) (h2 : x ≤ 4294967295) : wrp .u32 x = x := by
 unfold wrp; simp [IntKind.wrap, IntKind.min, IntKind.max, IntKind.signed, IntKind.bits] <;> omega
theorem wrp_u8 (x : Int) : wrp .u8 x = x % 256 := by
 unfold wrp; simp [IntKind.wrap, IntKind.min, IntKind.max, IntKind.signed, IntKind.bits] <;> omega
theorem zbkw {x : Int} (h1 : 0 ≤ x) : ishr .u64 x 7 = x / 128 := by
 unfold ishr; simp [IntKind.bits]
 rw [y51]; omega
theorem or128 {x : Int} (h1 : 0 ≤ x) (h2 : x < 256) : ibits .or .u8 x 128 = x % 128 + 128 := by
 obtain ⟨n, rfl⟩ := Int.eq_ofNat_of_zero_le h1
 have hn : n < 256 := by omega
 have : ∀ m : Fin 256, ibits .or .u8 (m.val : Int) 128 = (m.val : Int) % 128 + 128 := by unfold ibits; decide +kernel
 exact this ⟨n, hn⟩
/-- A number's groups. -/
def grp (n : Nat) : List Int := if h : n < 128 then [(n : Int)] else ((n % 128 + 128 : Nat) : Int) :: grp (n / 128)
theorem grp_lt {n : Nat} (h : n < 128) : grp n = [(n : Int)] := by rw [grp, dif_pos h]
theorem grp_ge {n : Nat} (h : ¬ n < 128) : grp n = ((n % 128 + 128 : Nat) : Int) :: grp (n / 128) := by rw [grp, dif_neg h]
theorem zbkx : ∀ (k : Nat) {n : Nat}, n < 128 ^ (k + 1) → (grp n).length ≤ k + 1
 | 0, n, h => by rw [grp_lt (by simpa using h)]; simp
 | k + 1, n, h => by
  by_cases hn : n < 128
  ·rw [grp_lt hn]; simp
  ·rw [grp_ge hn]
   have := zbkx k (n := n / 128) (by rw [Nat.div_lt_iff_lt_mul (by omega)]; rw [Nat.pow_succ] at h; exact h)
   simp; omega
theorem zbky {n : Nat} (h : n < 18446744073709551616) : (grp n).length ≤ 10 := zbkx 9 (by omega)
theorem zbkz (n : Nat) : 1 ≤ (grp n).length := by
 by_cases hn : n < 128
 ·rw [grp_lt hn]; simp
 ·rw [grp_ge hn]; simp
theorem zbk0 : ∀ (n : Nat) (z : Bool) (l : List Int) (x : Bool), l.length + (grp n).length ≤ 4294967296 → Ev (fun q => zla q (n : Int) z l x) ⟨false, x, l ++ grp n⟩ := by
 intro n
 induction n using Nat.strongRecOn with
 | ind n ih =>
  intro z l x hl
  refine Ev.succ ?_ (fun q => rfl)
  by_cases hn : n < 128
  ·rw [grp_lt hn] at hl ⊢
   refine Ev.ne (Ev.pos (by simpa using hl) (Ev.ret' ?_))
   rw [wrp_u8]; congr 3; omega
  ·rw [grp_ge hn] at hl ⊢
   simp only [y20] at hl
   refine Ev.po (Ev.pos (by omega) ?_)
   rw [zbkw (by omega), wrp_u8, or128 (by omega) (by omega)]
   have := ih (n / 128) (by omega) false (l ++ [((n % 128 + 128 : Nat) : Int)]) x (by simp; omega)
   rw [show ((n : Int) % 256 % 128 + 128) = ((n % 128 + 128 : Nat) : Int) by omega, show ((n : Int) / 128) = ((n / 128 : Nat) : Int) by omega]
   simpa using this
theorem zbk1 {u : Int} (h1 : 0 ≤ u) (b : Ow Int) (hl : b.xs.length + (grp u.toNat).length ≤ 4294967296) : Ev (fun q => zlb q b u) ⟨false, b.x, b.xs ++ grp u.toNat⟩ := by
 have := zbk0 u.toNat b.n b.xs b.x hl
 rw [Int.toNat_of_nonneg h1] at this
 exact Ev.succ this (fun q => rfl)
/-- What a number puts behind bytes. -/
def put (n : Int) : List Int := if n < 0 then [] else if 4611686018427387904 ≤ n then [] else grp n.toNat
theorem put_ok {n : Int} (h1 : 0 ≤ n) (h2 : n < 4611686018427387904) : put n = grp n.toNat := by
 unfold put; rw [if_neg (by omega), if_neg (by omega)]
theorem zbk2 (n : Int) : (put n).length ≤ 10 := by
 unfold put; split
 ·simp
 ·split
  ·simp
  ·exact zbky (by omega)
theorem zbk3 {n : Int} (b : Ow Int) (h1 : 0 ≤ n) (h2 : n < 4611686018427387904) (hl : b.xs.length + 10 ≤ 4294967296) : Ev (fun q => zlc q b n) ⟨false, b.x, b.xs ++ put n⟩ := by
 refine Ev.succ ?_ (fun q => rfl)
 rw [put_ok h1 h2]
 have hg := zbky (n := n.toNat) (by omega)
 refine Ev.ne (Ev.neg (by omega) ?_)
 rw [zbku h1 (by omega)]
 exact Ev.bind (zbk1 h1 b (by omega)) (Ev.ret _)
/-- Zigzag. -/
def zig (n : Int) : Nat := if 0 ≤ n then 2 * n.toNat else 2 * (-n).toNat - 1
theorem zig_lt {n : Int} (h : inR .i64 n) : zig n < 18446744073709551616 := by
 simp [inR, IntKind.min, IntKind.max, IntKind.signed, IntKind.bits] at h
 unfold zig; split <;> omega
def putS (n : Int) : List Int := grp (zig n)
theorem zbk4 (k : IntKind) (n : Int) : k.wrap n = wrp k n := by unfold wrp; rfl
theorem xor0 {x : Int} (h1 : 0 ≤ x) (h2 : x < 18446744073709551616) : ibits .xor .u64 x 0 = x := by
 have e : ibits .xor .u64 x 0 = IntKind.wrap .u64 (((BitVec.ofInt 64 x ^^^ 0#64 : BitVec 64).toNat : Nat) : Int) := by unfold ibits; rfl
 rw [e, BitVec.xor_zero, y47, zbk4, zbku] <;> omega
theorem xor1 {x : Int} (h1 : 0 ≤ x) (h2 : x < 18446744073709551616) : ibits .xor .u64 x 18446744073709551615 = 18446744073709551615 - x := by
 have e : ibits .xor .u64 x 18446744073709551615 = IntKind.wrap .u64 (((BitVec.ofInt 64 x ^^^ BitVec.allOnes 64 : BitVec 64).toNat : Nat) : Int) := by unfold ibits; rfl
 rw [e, BitVec.xor_allOnes, BitVec.toNat_not, y47, zbk4, zbku] <;> omega
theorem ishl1 {x : Int} (h1 : 0 ≤ x) : ishl .u64 x 1 = (2 * x) % 18446744073709551616 := by
 unfold ishl
 simp [IntKind.wrap, IntKind.signed, IntKind.bits]
 omega
theorem zbk5 (x : Int) : wrp .u64 x = x % 18446744073709551616 := by
 unfold wrp; simp [IntKind.wrap, IntKind.signed, IntKind.bits]
theorem ishr63 {x : Int} (h : inR .i64 x) : ishr .i64 x 63 = if 0 ≤ x then 0 else -1 := by
 simp [inR, IntKind.min, IntKind.max, IntKind.signed, IntKind.bits] at h
 unfold ishr; simp [IntKind.bits]
 rw [y51 _ (by omega)]
 split <;> omega
theorem zbk6 {n : Int} (h : inR .i64 n) : Ev (fun q => zld q n) ((zig n : Nat) : Int) := by
 refine Ev.succ (Ev.ret' ?_) (fun q => rfl)
 have hr := h
 simp [inR, IntKind.min, IntKind.max, IntKind.signed, IntKind.bits] at hr
 rw [ishr63 h]
 by_cases h0 : 0 ≤ n
 ·rw [if_pos h0, zbku h0 (by omega), ishl1 h0, zbku (by omega) (by omega), xor0 (by omega) (by omega)]
  unfold zig; rw [if_pos h0]; omega
 ·rw [if_neg h0, zbk5 n, ishl1 (by omega), show wrp .u64 (-1) = 18446744073709551615 by rw [zbk5]; rfl, xor1 (by omega) (by omega)]
  unfold zig; rw [if_neg h0]; omega
theorem zbk7 {n : Int} (b : Ow Int) (h : inR .i64 n) (hl : b.xs.length + 10 ≤ 4294967296) : Ev (fun q => zle q b n) ⟨false, b.x, b.xs ++ putS n⟩ := by
 refine Ev.succ ?_ (fun q => rfl)
 have hg := zbky (zig_lt h)
 have := zbk1 (u := (zig n : Nat)) (by omega) b (by simpa using (by omega : b.xs.length + (grp (zig n)).length ≤ 4294967296))
 rw [y26] at this
 exact Ev.bind (zbk6 h) (Ev.bind this (Ev.ret _))
def cutI (n : Int) : Int := if n < -1099511627776 then -1099511627776 else if 1099511627776 < n then 1099511627776 else n
theorem zbk8 (n : Int) : Ev (fun q => zjt q n) (cutI n) := by
 refine Ev.succ (Ev.ret' ?_) (fun q => rfl)
 unfold cutI; split <;> split <;> split <;> (try split) <;> omega
def fitsOp (o : zjq) : Bool := decide (0 ≤ o.Code) && (decide (o.Code ≤ 10) && (decide (o.A = cutI o.A) && decide (o.B = cutI o.B)))
theorem zbk9 (o : zjq) : Ev (fun q => zkm q o) (fitsOp o) := by
 refine Ev.succ ?_ (fun q => rfl)
 unfold fitsOp
 refine Ev.ite (fun h => Ev.ite (fun h1 => Ev.bind (zbk8 _) (Ev.ite (fun h2 => Ev.bind (zbk8 _) (Ev.ret' ?_)) fun h2 => Ev.ret' ?_)) fun h1 => Ev.ret' ?_) fun h => Ev.ret' ?_
 ·rw [decide_eq_true h, decide_eq_true h1, decide_eq_true h2]; rfl
 ·rw [decide_eq_true h, decide_eq_true h1, decide_eq_false h2]; rfl
 ·rw [decide_eq_true h, decide_eq_false h1]; rfl
 ·rw [decide_eq_false h]; rfl
theorem zbla {n : Int} : n = cutI n ↔ -1099511627776 ≤ n ∧ n ≤ 1099511627776 := by
 unfold cutI
 by_cases h1 : n < -1099511627776
 ·rw [if_pos h1]; omega
 ·rw [if_neg h1]
  by_cases h2 : 1099511627776 < n
  ·rw [if_pos h2]; omega
  ·rw [if_neg h2]; omega
def FitsR (r : zjr) : Prop := 0 ≤ r.Index ∧ r.Index < 4611686018427387904 ∧ 0 ≤ r.Proc ∧ r.Proc ≤ 64 ∧ 0 ≤ r.Seq ∧ r.Seq < 4611686018427387904 ∧ fitsOp r.Op = true ∧ -1125899906842624 ≤ r.Resp ∧ r.Resp ≤ 1125899906842624
instance (r : zjr) : Decidable (FitsR r) := by unfold FitsR; infer_instance
theorem zblb (r : zjr) : Ev (fun q => zkn q r) (decide (FitsR r)) := by
 refine Ev.succ ?_ (fun q => rfl)
 refine Ev.ite (fun h1 => Ev.ite (fun h2 => Ev.ite (fun h3 => Ev.ite (fun h4 => Ev.ite (fun h5 => Ev.ite (fun h6 => Ev.bind (zbk9 _) (Ev.ite (fun h7 => Ev.ite (fun h8 => Ev.ret' ?_) fun h8 => Ev.ret' ?_) fun h7 => Ev.ret' ?_)) fun h6 => Ev.ret' ?_) fun h5 => Ev.ret' ?_) fun h4 => Ev.ret' ?_) fun h3 => Ev.ret' ?_) fun h2 => Ev.ret' ?_) fun h1 => Ev.ret' ?_ <;> simp only [FitsR, *] <;> simp
theorem zblc {n : Int} (h : inR .i64 n) : (putS n).length ≤ 10 := zbky (zig_lt h)
theorem zbld {n : Int} (h1 : -9223372036854775808 ≤ n) (h2 : n ≤ 9223372036854775807) : inR .i64 n := by
 simp [inR, IntKind.min, IntKind.max, IntKind.signed, IntKind.bits]; omega
abbrev B32 := BitVec 32
def u (a : B32) : Int := (a.toNat : Int)
theorem u_nn (a : B32) : 0 ≤ u a := Int.natCast_nonneg _
theorem u_lt (a : B32) : u a < 4294967296 := by unfold u; have := a.isLt; omega
theorem zble (a : B32) : BitVec.ofInt 32 (u a) = a := by
 apply BitVec.eq_of_toNat_eq; rw [y47]; unfold u; have := a.isLt; omega
theorem wrp_u (a : B32) : IntKind.wrap .u32 ((a.toNat : Nat) : Int) = u a := by
 have := a.isLt
 rw [zbk4, zbkv (by omega) (by omega)]; rfl
theorem xor_u (a b : B32) : ibits .xor .u32 (u a) (u b) = u (a ^^^ b) := by
 have e : ibits .xor .u32 (u a) (u b) = IntKind.wrap .u32 (((BitVec.ofInt 32 (u a) ^^^ BitVec.ofInt 32 (u b) : B32).toNat : Nat) : Int) := by unfold ibits; rfl
 rw [e, zble, zble, wrp_u]
theorem and_u (a b : B32) : ibits .and .u32 (u a) (u b) = u (a &&& b) := by
 have e : ibits .and .u32 (u a) (u b) = IntKind.wrap .u32 (((BitVec.ofInt 32 (u a) &&& BitVec.ofInt 32 (u b) : B32).toNat : Nat) : Int) := by unfold ibits; rfl
 rw [e, zble, zble, wrp_u]
theorem u_lit (n : Nat) (h : n < 4294967296) : u (BitVec.ofNat 32 n) = (n : Int) := by
 unfold u; rw [BitVec.toNat_ofNat]; omega
theorem zblf (x : Int) : wrp .u32 x = x % 4294967296 := by
 unfold wrp; simp [IntKind.wrap, IntKind.signed, IntKind.bits]
theorem ishr_u (a : B32) (k : Nat) (hk : k ≤ 32) : ishr .u32 (u a) (k : Int) = u (a >>> k) := by
 unfold ishr u
 simp only [IntKind.bits, y26, Nat.min_eq_left hk]
 rw [y51 _ (by exact_mod_cast Nat.zero_le _), BitVec.toNat_ushiftRight, Nat.shiftRight_eq_div_pow]
 simp
theorem zblg (a : B32) : ishr .u32 (u a) 1 = u (a >>> 1) := ishr_u a 1 (by omega)
theorem zblh (a : B32) : ishr .u32 (u a) 8 = u (a >>> 8) := ishr_u a 8 (by omega)
def poly : B32 := 2197175160#32
def bstep (a : B32) : B32 := if a &&& 1#32 = 1#32 then (a >>> 1) ^^^ poly else a >>> 1
theorem and1 (a : B32) : a &&& 1#32 = 0#32 ∨ a &&& 1#32 = 1#32 := by
 have : (a &&& 1#32).toNat = a.toNat % 2 := by rw [BitVec.toNat_and]; exact Nat.and_one_is_mod _
 rcases Nat.mod_two_eq_zero_or_one a.toNat with h | h
 ·left; exact BitVec.eq_of_toNat_eq (by rw [this, h]; rfl)
 ·right; exact BitVec.eq_of_toNat_eq (by rw [this, h]; rfl)
/-- The program's step. -/
theorem zbli (a : B32) : ibits .xor .u32 (ishr .u32 (u a) 1) (ibits .and .u32 2197175160 (wrp .u32 (0 - (ibits .and .u32 (u a) 1)))) = u (bstep a) := by
 have e1 : (1 : Int) = u 1#32 := rfl
 have e2 : (2197175160 : Int) = u poly := by unfold poly; rw [u_lit _ (by omega)]; rfl
 rw [zblg]
 conv => lhs; arg 4; rw [e2]; arg 4; rw [e1, and_u]
 unfold bstep
 rcases and1 a with h | h
 ·rw [h, if_neg (by decide)]
  have : wrp .u32 (0 - u 0#32) = u 0#32 := by rw [zblf]; rfl
  rw [this, and_u, BitVec.and_zero, xor_u, BitVec.xor_zero]
 ·rw [h, if_pos rfl]
  have : wrp .u32 (0 - u 1#32) = u (BitVec.allOnes 32) := by rw [zblf]; rfl
  rw [this, and_u, BitVec.and_allOnes, xor_u]
def biter : Nat → B32 → B32
 | 0, a => a
 | n + 1, a => biter n (bstep a)
def bentry (a : B32) : B32 := biter 8 a
theorem zblj (v2 v5 : Int) (t0 t1 : List Int) (r : List Int) : ∀ (k : Nat) (a : B32) (v10 : Int), v10 = 8 - k → k ≤ 8 → 0 ≤ v2 → v2.toNat < 256 → v2.toNat + 1 ≤ t1.length →
  Ev (fun q => zk0 q (wrp .i64 (v5 + 1)) t0 (List.set t1 v2.toNat (u (biter k a)))) r → Ev (fun q => zk1 q v2 (u a) v5 v10 t0 t1) r
 | 0, a, v10, h1, h2, h3, h4, h5, h => Ev.succ (Ev.ne (Ev.pos h3 (Ev.pos h4 (Ev.pos h5 h)))) (fun q => rfl)
 | k + 1, a, v10, h1, h2, h3, h4, h5, h => by
  refine Ev.succ (Ev.pos (by omega) ?_) (fun q => rfl)
  rw [zbli, zbkt (by omega) (by omega)]
  exact zblj v2 v5 t0 t1 r k (bstep a) (v10 + 1) (by omega) (by omega) h3 h4 h5 h
/-- The table. -/
def tabN (n : Nat) : List Int := (List.range n).map fun i => u (bentry (BitVec.ofNat 32 i))
theorem zblk {n i : Nat} (h : i < n) : (tabN n)[i]? = some (u (bentry (BitVec.ofNat 32 i))) := by
 unfold tabN; rw [y40, List.getElem?_range h]; rfl
theorem zbll (n : Nat) : (tabN n).length = n := by simp [tabN]
theorem zblm : ∀ (k i : Nat) (t1 : List Int), i + k = 256 → t1.length = 256 → (∀ j, j < i → t1[j]? = (tabN 256)[j]?) → Ev (fun q => zk0 q (i : Int) (List.replicate 256 0) t1) (tabN 256)
 | 0, i, t1, hk, hl, ht => by
  refine Ev.succ (Ev.ne (Ev.po (Ev.po (Ev.pos (by simp) (Ev.pos (by simp) (Ev.ret' ?_)))))) (fun q => rfl)
  have e : t1 = tabN 256 := by
   apply List.ext_getElem?
   intro j
   by_cases hj : j < 256
   ·exact ht j (by omega)
   ·rw [y48 (by omega), y48 (by rw [zbll]; omega)]
  have h2 := zbll 256
  rw [e, List.take_of_length_le (i := 256) (by omega : (tabN 256).length ≤ 256), y11 (by simp), List.append_nil, List.take_of_length_le (by omega)]
 | k + 1, i, t1, hk, hl, ht => by
  refine Ev.succ (Ev.pos (by omega) ?_) (fun q => rfl)
  have e : wrp .u32 (i : Int) = u (BitVec.ofNat 32 i) := by rw [u_lit _ (by omega), zbkv] <;> omega
  rw [e]
  refine zblj _ _ _ _ _ 8 _ 0 (by omega) (by omega) (by omega) (by omega) (by omega) ?_
  rw [zbkt (by omega) (by omega), show ((i : Int) + 1) = ((i + 1 : Nat) : Int) by omega, y26]
  refine zblm k (i + 1) _ (by omega) (by simpa using hl) fun j hj => ?_
  by_cases e : i = j
  ·subst e; rw [y22 (by omega), zblk (by omega)]; rfl
  ·rw [y27 e]; exact ht j (by omega)
theorem zbln : Ev (fun q => zk2 q) (tabN 256) :=
 Ev.succ (zblm 256 0 (List.replicate 256 0) (by omega) (by simp) (fun j hj => by omega)) (fun q => rfl)
/-- What a byte makes of a sum. -/
def bbyte (x : B32) (c : Int) : B32 := bentry ((x ^^^ BitVec.ofInt 32 c) &&& 255#32) ^^^ (x >>> 8)
def bmore (x : B32) (l : List Int) : B32 := l.foldl bbyte x
def isB (l : List Int) : Prop := ∀ c ∈ l, 0 ≤ c ∧ c < 256
theorem xor8 {x : B32} {c : Int} (h1 : 0 ≤ c) (h2 : c < 256) : ibits .xor .u8 (wrp .u8 (u x)) c = u ((x ^^^ BitVec.ofInt 32 c) &&& 255#32) := by
 have e : ibits .xor .u8 (wrp .u8 (u x)) c = IntKind.wrap .u8 (((BitVec.ofInt 8 (wrp .u8 (u x)) ^^^ BitVec.ofInt 8 c : BitVec 8).toNat : Nat) : Int) := by unfold ibits; rfl
 rw [e, zbk4, wrp_u8, wrp_u8]
 unfold u
 rw [BitVec.toNat_and, BitVec.toNat_xor, BitVec.toNat_xor, y47, y47, y47]
 obtain ⟨n, rfl⟩ := Int.eq_ofNat_of_zero_le h1
 have hn : n < 256 := by omega
 have e1 : (((x.toNat : Int) % 256 % ((2 ^ 8 : Nat) : Int)).toNat) = x.toNat % 256 := by omega
 have e2 : (((n : Int) % ((2 ^ 8 : Nat) : Int)).toNat) = n := by omega
 have e3 : (((n : Int) % ((2 ^ 32 : Nat) : Int)).toNat) = n := by omega
 rw [e1, e2, e3, show (255#32).toNat = 2 ^ 8 - 1 from rfl, Nat.and_two_pow_sub_one_eq_mod]
 have h3 : (x.toNat ^^^ n) % 2 ^ 8 = (x.toNat % 2 ^ 8) ^^^ (n % 2 ^ 8) := Nat.xor_mod_two_pow
 rw [h3, Nat.mod_eq_of_lt (show n < 2 ^ 8 by omega)]
 have h4 : (x.toNat % 2 ^ 8) ^^^ n < 2 ^ 8 := Nat.xor_lt_two_pow (Nat.mod_lt _ (by omega)) (by omega)
 simp only [Nat.reducePow] at h4 ⊢
 omega
theorem and255 (x : B32) : u (x &&& 255#32) < 256 := by
 unfold u
 rw [BitVec.toNat_and, show (255#32).toNat = 2 ^ 8 - 1 from rfl, Nat.and_two_pow_sub_one_eq_mod]; omega
theorem zblo (a : B32) : (u a).toNat = a.toNat := by unfold u; omega
theorem ones : (4294967295 : Int) = u (BitVec.allOnes 32) := rfl
theorem zblp (z : Bool) (l : List Int) (hb : isB l) (hl : l.length ≤ 1099511627776) : ∀ (k i : Nat) (x : B32), l.length = i + k → Ev (fun q => zk3 q (u x) z l (l.length : Int) (i : Int) (tabN 256)) (u (~~~ bmore x (l.drop i)))
 | 0, i, x, hk => by
  refine Ev.succ (Ev.ne (Ev.ret' ?_)) (fun q => rfl)
  rw [y11 (by omega), ones, xor_u]
  simp only [bmore, List.foldl_nil, BitVec.allOnes_xor]
 | k + 1, i, x, hk => by
  have hi : i < l.length := by omega
  have hg : l[(i : Int).toNat]? = some l[i] := by simpa using y6 hi
  obtain ⟨b1, b2⟩ := hb l[i] (List.getElem_mem hi)
  refine Ev.succ (Ev.po (Ev.po (Ev.opt hg ?_))) (fun q => rfl)
  rw [xor8 b1 b2]
  have h255 := and255 (x ^^^ BitVec.ofInt 32 l[i])
  have hnn := u_nn ((x ^^^ BitVec.ofInt 32 l[i]) &&& 255#32)
  refine Ev.pos hnn (Ev.po (Ev.opt (zblk (by omega)) ?_))
  rw [zblh, xor_u, zbkt (by omega) (by omega), show ((i : Int) + 1) = ((i + 1 : Nat) : Int) by omega, zblo]
  have := zblp z l hb hl k (i + 1) (bentry ((x ^^^ BitVec.ofInt 32 l[i]) &&& 255#32) ^^^ (x >>> 8)) (by omega)
  rw [y8 hi]
  simp only [bmore, List.foldl_cons, bbyte, BitVec.ofNat_toNat, BitVec.setWidth_eq] at this ⊢
  exact this
theorem zblq (x : B32) (s : Sl Int) (hb : isB s.l) (hl : s.l.length ≤ 1099511627776) : Ev (fun q => zk4 q (u x) s) (u (~~~ bmore (~~~ x) s.l)) := by
 refine Ev.succ (Ev.bind zbln (Ev.pos (zbll 256) ?_)) (fun q => rfl)
 rw [ones, xor_u, BitVec.allOnes_xor]
 have := zblp s.z s.l hb hl s.l.length 0 (~~~ x) (by omega)
 rw [y36] at this
 exact this
/-- The sum of bytes. -/
def bsum (l : List Int) : B32 := ~~~ bmore (BitVec.allOnes 32) l
theorem zblr (s : Sl Int) (hb : isB s.l) (hl : s.l.length ≤ 1099511627776) : Ev (fun q => zk5 q s) (u (bsum s.l)) := by
 have := zblq 0#32 s hb hl
 exact Ev.succ (Ev.bind this (Ev.ret' (by simp [bsum]))) (fun q => rfl)
theorem zbls (x : B32) (a b : List Int) : bmore (bmore x a) b = bmore x (a ++ b) := by simp [bmore]
theorem zblt {x : Int} (h : 0 ≤ x) (k : Nat) (hk : k ≤ 64) : ishr .u64 x (k : Int) = x / ((2 ^ k : Nat) : Int) := by
 unfold ishr
 simp only [IntKind.bits, y26, Nat.min_eq_left hk]
 rw [y51 _ (by exact_mod_cast Nat.zero_le _)]
 simp
/-- A number in four bytes. -/
def fix4 (v : Nat) : List Int := [((v % 256 : Nat) : Int), ((v / 256 % 256 : Nat) : Int), ((v / 65536 % 256 : Nat) : Int), ((v / 16777216 % 256 : Nat) : Int)]
theorem zblu (v k : Nat) (hk : k ≤ 8) : wrp .u8 (ishr .u64 (v : Int) (wrp .i64 (8 * (k : Int)))) = ((v / 2 ^ (8 * k) % 256 : Nat) : Int) := by
 rw [zbkt (by omega) (by omega), show (8 * (k : Int)) = ((8 * k : Nat) : Int) by omega, zblt (by omega) _ (by omega), wrp_u8]
 exact_mod_cast rfl
def bytesFrom (v : Nat) : Nat → Nat → List Int
 | _, 0 => []
 | i, k + 1 => ((v / 2 ^ (8 * i) % 256 : Nat) : Int) :: bytesFrom v (i + 1) k
theorem zblv {v m : Nat} (hm : m ≤ 8) : ∀ (k i : Nat) (l : List Int), m = i + k → l.length + k ≤ 4294967296 → Ev (fun q => zk6 q (v : Int) (m : Int) (i : Int) false l) ⟨false, true, l ++ bytesFrom v i k⟩
 | 0, i, l, hk, hl => Ev.succ (Ev.ne (Ev.ret' (by simp [bytesFrom]))) (fun q => rfl)
 | k + 1, i, l, hk, hl => by
  have w : wrp .i64 (8 * (i : Int)) = 8 * (i : Int) := zbkt (by omega) (by omega)
  refine Ev.succ (Ev.po (Ev.neg (by rw [w]; omega) (Ev.pos (by omega) ?_))) (fun q => rfl)
  rw [zblu v i (by omega), zbkt (x := (i : Int) + 1) (by omega) (by omega), show ((i : Int) + 1) = ((i + 1 : Nat) : Int) by omega]
  refine (zblv hm k (i + 1) _ (by omega) (by simp; omega)).cast ?_
  simp [bytesFrom]
theorem zblw {v m : Nat} (h0 : 0 < m) (hm : m ≤ 8) : Ev (fun q => zk7 q (v : Int) (m : Int)) ⟨false, true, bytesFrom v 0 m⟩ := by
 obtain ⟨k, rfl⟩ : ∃ k, m = k + 1 := ⟨m - 1, by omega⟩
 have w : wrp .i64 (8 * ((0 : Nat) : Int)) = 0 := zbkt (by omega) (by omega)
 have key : ∀ i : Int, i = ((0 : Nat) : Int) → Ev (fun q => zk6 q (v : Int) ((k + 1 : Nat) : Int) i true []) ⟨false, true, bytesFrom v 0 (k + 1)⟩ := by
  intro i hi
  refine Ev.succ (Ev.po (Ev.neg (by rw [hi, w]; omega) (Ev.pos (by simp) ?_))) (fun q => rfl)
  rw [hi, zblu v 0 (by omega), zbkt (x := ((0 : Nat) : Int) + 1) (by omega) (by omega), show (((0 : Nat) : Int) + 1) = ((0 + 1 : Nat) : Int) by omega]
  refine (zblv hm k 1 _ (by omega) (by simp; omega)).cast ?_
  simp [bytesFrom]
 exact Ev.succ (key 0 rfl) (fun q => rfl)
theorem bytes4 (v : Nat) : bytesFrom v 0 4 = fix4 v := by simp [bytesFrom, fix4]
theorem zblx {v : Nat} (h : v < 18446744073709551616) : Ev (fun q => zk7 q (v : Int) 4) ⟨false, true, fix4 v⟩ := by
 have := zblw (v := v) (m := 4) (by omega) (by omega)
 rw [bytes4] at this; exact this
theorem zbly (a : B32) : Ev (fun q => zk8 q (u a)) ⟨false, true, fix4 a.toNat⟩ := by
 have h1 := u_nn a; have h2 := u_lt a
 have e : wrp .u64 (u a) = ((a.toNat : Nat) : Int) := by rw [zbku h1 (by omega)]; rfl
 exact Ev.succ (Ev.bind (by rw [e]; exact zblx (by have := a.isLt; omega)) (Ev.ret _)) (fun q => rfl)
theorem zblz (a b : Sl Int) (ha : isB a.l) (hb : isB b.l) (la : a.l.length ≤ 1099511627776) (lb : b.l.length ≤ 1099511627776) : Ev (fun q => zk9 q a b) ⟨false, true, fix4 (bsum (a.l ++ b.l)).toNat⟩ := by
 have h2 := zblq (bsum a.l) b hb lb
 have e : ~~~ bmore (~~~ bsum a.l) b.l = bsum (a.l ++ b.l) := by
  unfold bsum; rw [BitVec.not_not, zbls]
 rw [e] at h2
 exact Ev.succ (Ev.bind (zblr a ha la) (Ev.bind h2 (Ev.bind (zbly _) (Ev.ret _)))) (fun q => rfl)
def flat (l : List (Sl Int)) : List Int := l.flatMap (·.l)
theorem zbl0 (a : Sl Int) (b : List (Sl Int)) : flat (a :: b) = a.l ++ flat b := by simp [flat]
theorem zbl1 (z0 : Bool) (L : List (Sl Int)) (z : Bool) (hL : L.length ≤ 1099511627776) : ∀ (k i : Nat) (m : Nat) (l : List Int), L.length = i + k → m + (flat (L.drop i)).length ≤ l.length →
  Ev (fun q => zlf q m z0 L (L.length : Int) (i : Int) z l) ⟨z, true, l.take m ++ flat (L.drop i)⟩
 | 0, i, m, l, hk, hl => by
  refine Ev.succ (Ev.ne (Ev.ret' ?_)) (fun q => rfl)
  rw [y11 (by omega)]; simp [flat]
 | k + 1, i, m, l, hk, hl => by
  have hi : i < L.length := by omega
  have hg : L[(i : Int).toNat]? = some L[i] := by simpa using y6 hi
  rw [y8 hi, zbl0, y9] at hl
  refine Ev.succ (Ev.po (Ev.po (Ev.opt hg (Ev.pos (by omega) ?_)))) (fun q => rfl)
  rw [zbkt (by omega) (by omega), show ((i : Int) + 1) = ((i + 1 : Nat) : Int) by omega]
  refine (zbl1 z0 L z hL k (i + 1) (m + L[i].l.length) _ (by omega) ?_).cast ?_
  ·simp only [y9, y19, y12]; omega
  ·congr 1
   rw [y8 hi, zbl0, ← y31]
   congr 1
   rw [List.take_append_of_le_length (by simp only [y9, y19]; omega), List.take_of_length_le (by simp only [y9, y19]; omega)]
theorem zbl2 (z0 : Bool) (L : List (Sl Int)) (hL : L.length ≤ 1099511627776) : ∀ (k i : Nat) (z : Bool) (l : List Int), L.length = i + k → l.length + (flat (L.drop i)).length ≤ 4294967296 →
  ∃ z', Ev (fun q => zlg q z0 L (L.length : Int) (i : Int) z l) ⟨z', true, l ++ flat (L.drop i)⟩
 | 0, i, z, l, hk, hl => ⟨z, by
  refine Ev.succ (Ev.ne (Ev.ret' ?_)) (fun q => rfl)
  rw [y11 (by omega)]; simp [flat]⟩
 | k + 1, i, z, l, hk, hl => by
  have hi : i < L.length := by omega
  have hg : L[(i : Int).toNat]? = some L[i] := by simpa using y6 hi
  rw [y8 hi, zbl0, y9] at hl
  obtain ⟨z', h⟩ := zbl2 z0 L hL k (i + 1) (z && (decide (L[i].l.length = 0))) (l ++ L[i].l) (by omega) (by simp only [y9]; omega)
  refine ⟨z', Ev.succ (Ev.po (Ev.po (Ev.opt hg (Ev.pos (by omega) ?_)))) (fun q => rfl)⟩
  rw [zbkt (by omega) (by omega), show ((i : Int) + 1) = ((i + 1 : Nat) : Int) by omega]
  refine h.cast ?_
  rw [y8 hi, zbl0]; simp
theorem zbl3 (z0 z9 : Bool) (L : List (Sl Int)) (hL : L.length ≤ 1099511627776) (hf : (flat L).length ≤ 4294967296) : ∀ (k i : Nat) (m : Nat), L.length = i + k → m + (flat (L.drop i)).length = (flat L).length →
  ∃ z', Ev (fun q => zli q z0 L (m : Int) z9 L (L.length : Int) (i : Int)) ⟨z', true, flat L⟩
 | 0, i, m, hk, hm => by
  rw [y11 (by omega)] at hm
  have hm2 : m = (flat L).length := by simpa [flat] using hm
  have w : wrp .i64 ((m : Int) - wrp .i64 0) = (m : Int) := by rw [zbkt (x := 0) (by omega) (by omega), zbkt (by omega) (by omega)]; omega
  by_cases h0 : 0 < m
  ·refine ⟨decide (wrp .i64 ((m : Int) - wrp .i64 0) = 0), Ev.succ (Ev.ne (Ev.ne (Ev.pos (by rw [w]; omega) (Ev.pos (by rw [w]; omega) (Ev.pos (by rw [w]; omega) (Ev.neg (by rw [w]; omega) ?_)))))) (fun q => rfl)⟩
   rw [w]
   have := zbl1 z0 L (decide ((m : Int) = 0)) hL L.length 0 0 (List.replicate (m : Int).toNat 0) (by omega) (by simp; omega)
   rw [y36] at this
   exact this
  ·have hnil : flat L = [] := y33 (by omega)
   match L, hk with
   | [], _ =>
    refine ⟨true, Ev.succ (Ev.neg (by simp) (Ev.neg (by omega) ?_)) (fun q => rfl)⟩
    rw [w]
    refine Ev.neg (by omega) ?_
    exact Ev.succ (g := fun _ => some ⟨true, true, []⟩) (Ev.ret' (by simp [flat])) (fun q => rfl)
   | a :: L', hk =>
    rw [zbl0] at hnil
    obtain ⟨z', h⟩ := zbl2 z0 (a :: L') hL L'.length 1 (decide (a.l.length = 0)) a.l (by simp; omega) (by
     have : flat (List.drop 1 (a :: L')) = flat L' := rfl
     rw [this, ← y9, hnil]; simp)
    refine ⟨z', Ev.succ (Ev.ne (Ev.neg (by omega) ?_)) (fun q => rfl)⟩
    rw [w]
    refine Ev.ne (Ev.succ (Ev.pos (by simp) (Ev.opt (s := a) rfl (Ev.pos ?_ ?_))) (fun q => rfl))
    ·have : a.l.length ≤ (a.l ++ flat L').length := by simp
     rw [hnil] at this; simp at this; simp [this]
    ·rw [zbkt (by omega) (by omega)]
     refine h.cast ?_
     rw [zbl0]; rfl
 | k + 1, i, m, hk, hm => by
  have hi : i < L.length := by omega
  have hg : L[(i : Int).toNat]? = some L[i] := by simpa using y6 hi
  rw [y8 hi, zbl0, y9] at hm
  obtain ⟨z', h⟩ := zbl3 z0 z9 L hL hf k (i + 1) (m + L[i].l.length) (by omega) (by omega)
  refine ⟨z', Ev.succ (Ev.po (Ev.po (Ev.opt hg ?_))) (fun q => rfl)⟩
  have w : wrp .i64 ((m : Int) + (L[i].l.length : Int)) = ((m + L[i].l.length : Nat) : Int) := by rw [zbkt (by omega) (by omega)]; omega
  rw [w, zbkt (by omega) (by omega), show ((i : Int) + 1) = ((i + 1 : Nat) : Int) by omega]
  exact Ev.neg (by omega) h
theorem zbl4 (s : Sl (Sl Int)) (hL : s.l.length ≤ 1099511627776) (hf : (flat s.l).length ≤ 4294967296) : ∃ z', Ev (fun q => zlj q s) ⟨z', true, flat s.l⟩ := by
 obtain ⟨z', h⟩ := zbl3 s.z s.z s.l hL hf s.l.length 0 0 (by omega) (by simp)
 exact ⟨z', Ev.succ h (fun q => rfl)⟩
theorem zbl5 : ∀ n, isB (grp n) := by
 intro n
 induction n using Nat.strongRecOn with
 | ind n ih =>
  by_cases h : n < 128
  ·rw [grp_lt h]; intro c hc; simp at hc; omega
  ·rw [grp_ge h]; intro c hc
   rcases List.mem_cons.1 hc with rfl | hc
   ·omega
   ·exact ih (n / 128) (by omega) c hc
theorem zbl6 (n : Int) : isB (put n) := by
 unfold put; split
 ·intro c hc; simp at hc
 ·split
  ·intro c hc; simp at hc
  ·exact zbl5 _
theorem zbl7 {a b : List Int} : isB (a ++ b) ↔ isB a ∧ isB b := by
 constructor
 ·intro h; exact ⟨fun c hc => h c (List.mem_append.2 (.inl hc)), fun c hc => h c (List.mem_append.2 (.inr hc))⟩
 ·rintro ⟨h1, h2⟩ c hc
  rcases List.mem_append.1 hc with h | h
  ·exact h1 c h
  ·exact h2 c h
/-- A frame. -/
def encF (l : List Int) : List Int := put (l.length : Int) ++ (l ++ fix4 (bsum (put (l.length : Int) ++ l)).toNat)
theorem zbl8 (s : Sl Int) (hb : isB s.l) (hl : s.l.length ≤ 1048576) : ∃ z, Ev (fun q => zlk q s) (⟨z, true, encF s.l⟩, 0) := by
 have hp := zbk2 (s.l.length : Int)
 obtain ⟨z, h⟩ := zbl4 ⟨false, [⟨false, put (s.l.length : Int)⟩, s, ⟨false, fix4 (bsum (put (s.l.length : Int) ++ s.l)).toNat⟩]⟩ (by simp) (by simp [flat, fix4]; omega)
 refine ⟨z, Ev.succ (Ev.neg (by omega) ?_) (fun q => rfl)⟩
 refine Ev.bind (zbk3 ⟨true, true, []⟩ (by omega) (by omega) (by simp)) ?_
 refine Ev.bind (zblz ⟨false, put (s.l.length : Int)⟩ s (zbl6 (s.l.length : Int)) hb (by simp only; omega) (by omega)) ?_
 refine Ev.bind h ?_
 exact Ev.ret' (by simp [encF, flat])
theorem zbl9 {l : List Int} (h : isB l) (n : Nat) : isB (l.take n) := fun c hc => h c (y42 hc)
theorem zbma {l : List Int} (h : isB l) (n : Nat) : isB (l.drop n) := fun c hc => h c (y50 hc)
theorem zbmb (s : Sl Int) (hz : s.z = false) (hl : s.l.length ≤ 4294967296) : Ev (fun q => zj4 q s) ⟨false, true, s.l⟩ :=
 Ev.succ (Ev.neg (by simp [hz]) (Ev.pos hl (Ev.ret _))) (fun q => rfl)
def cutsB (l : List Int) : Prop := ∀ n ∈ l, n = cutI n
instance (l : List Int) : Decidable (cutsB l) := by unfold cutsB; infer_instance
theorem zbmc (n : Int) : Ev (fun q => zju q n) (!(decide (n = cutI n))) := Ev.succ (Ev.bind (zbk8 n) (Ev.ret _)) (fun q => rfl)
theorem zbmd (z : Bool) (L : List Int) (h0 : Int) (h1z : Bool) (h1l : List Int) (h2 : Bool) (h3 : Int) (hL : L.length ≤ 1000000) : ∀ (k i : Nat), L.length = i + k →
  ∃ r, Ev (fun q => zjx q z L (L.length : Int) (i : Int) h0 h1z h1l h2 h3) r ∧ (0 ≤ r ↔ ¬ cutsB (L.drop i))
 | 0, i, hk => by
  refine ⟨-1, Ev.succ (Ev.ne (Ev.ret _)) (fun q => rfl), ?_⟩
  rw [y11 (by omega)]; simp [cutsB]
 | k + 1, i, hk => by
  have hi : i < L.length := by omega
  have he : L[((i : Int)).toNat]? = some L[i] := by simp [hi]
  have hd := y8 hi
  by_cases h : L[i] = cutI L[i]
  ·obtain ⟨r, hr, hi2⟩ := zbmd z L h0 h1z h1l h2 h3 hL k (i + 1) (by omega)
   rw [show ((i + 1 : Nat) : Int) = wrp .i64 ((i : Int) + 1) by rw [zbkt (by omega) (by omega)]; omega] at hr
   refine ⟨r, Ev.succ (Ev.po (Ev.po (Ev.opt he (Ev.bind (zbmc _) (Ev.neg (by simpa using h) hr))))) (fun q => rfl), ?_⟩
   rw [hi2, hd]; unfold cutsB; simp only [List.mem_cons, forall_eq_or_imp]
   exact ⟨fun a b => a b.2, fun a b => a ⟨h, b⟩⟩
  ·refine ⟨i, Ev.succ (Ev.po (Ev.po (Ev.opt he (Ev.bind (zbmc _) (Ev.pos (by simpa using h) (Ev.ret _)))))) (fun q => rfl), ?_⟩
   rw [hd]; unfold cutsB; simp only [List.mem_cons, forall_eq_or_imp]
   exact ⟨fun _ b => h b.1, fun _ => by omega⟩
theorem zbme (z : Bool) (L : List Int) (h0 : Int) (h1z : Bool) (h1l : List Int) (h2 : Bool) (h3 : Int) (hL : L.length ≤ 1000000) : ∃ r, Ev (fun q => zjy q z L h0 h1z h1l h2 h3) r ∧ (0 ≤ r ↔ ¬ cutsB L) := by
 obtain ⟨r, h, h4⟩ := zbmd z L h0 h1z h1l h2 h3 hL L.length 0 (by omega)
 exact ⟨r, Ev.succ h (fun q => rfl), by simpa using h4⟩
def prs (least : Int) : Int → List Int → Bool
 | last, a :: b :: t => decide (last < a) && (decide (a ≤ 255) && (decide (least ≤ b) && (decide (b ≤ 1099511627776) && prs least a t)))
 | _, _ => true
def pairsOk (least : Int) (l : List Int) : Bool := prs least (-1) l && (decide (l.length % 2 = 0) && decide (l.length ≤ 128))
theorem zbmf (z : Bool) (L : List Int) (least : Int) (hL : L.length ≤ 1000000) : ∀ (k i : Nat) (last : Int), L.length ≤ i + 2 * k → i ≤ 2000000 →
  Ev (fun q => zjv q z L least last (i : Int)) (prs least last (L.drop i) && (decide (L.length % 2 = 0) && decide (L.length ≤ 128)))
 | k, i, last, hk, hi9 => by
  have w1 : wrp .i64 ((i : Int) + 1) = ((i + 1 : Nat) : Int) := by rw [zbkt (by omega) (by omega)]; omega
  have w2 : wrp .i64 ((i : Int) + 2) = ((i + 2 : Nat) : Int) := by rw [zbkt (by omega) (by omega)]; omega
  by_cases h : i + 1 < L.length
  ·cases k with
   | zero => omega
   | succ k =>
    have he : L[((i : Int)).toNat]? = some L[i] := by rw [y26]; exact y6 (by omega)
    have he2 : L[(wrp .i64 ((i : Int) + 1)).toNat]? = some L[i + 1] := by rw [w1, y26]; exact y6 h
    have hd : L.drop i = L[i] :: L[i + 1] :: L.drop (i + 2) := by rw [y8 (by omega), y8 h]
    rw [hd]
    simp only [prs]
    refine Ev.succ (Ev.pos (by rw [w1]; omega) (Ev.po (Ev.opt he (Ev.ite (fun c => Ev.ret' ?_) fun c => Ev.ite (fun c2 => Ev.ret' ?_) fun c2 => Ev.pos (by rw [w1]; omega) (Ev.opt he2 (Ev.ite (fun c3 => Ev.ret' ?_) fun c3 => Ev.ite (fun c4 => Ev.ret' ?_) fun c4 => ?_)))))) (fun q => rfl)
    ·rw [decide_eq_false (show ¬ last < L[i] by omega)]; rfl
    ·rw [decide_eq_false (show ¬ L[i] ≤ 255 by omega)]; simp
    ·rw [decide_eq_false (show ¬ least ≤ L[i + 1] by omega)]; simp
    ·rw [decide_eq_false (show ¬ L[i + 1] ≤ 1099511627776 by omega)]; simp
    ·rw [decide_eq_true (show last < L[i] by omega), decide_eq_true (show L[i] ≤ 255 by omega), decide_eq_true (show least ≤ L[i + 1] by omega), decide_eq_true (show L[i + 1] ≤ 1099511627776 by omega), w2]
     simp only [y58]
     exact zbmf z L least hL k (i + 2) L[i] (by omega) (by omega)
  ·have hp : prs least last (L.drop i) = true := by
    have hl : (L.drop i).length ≤ 1 := by rw [y12]; omega
    generalize L.drop i = X at hl
    match X, hl with
    | [], _ => rfl
    | [a], _ => rfl
   rw [hp, y58]
   have ht : Int.tmod (L.length : Int) 2 = ((L.length % 2 : Nat) : Int) := by rw [Int.tmod_eq_emod_of_nonneg (by omega)]; omega
   refine Ev.succ (Ev.neg (by rw [w1]; omega) (Ev.ite (fun c => Ev.ret' ?_) fun c => Ev.ret' ?_)) (fun q => rfl)
   ·rw [ht] at c
    rw [decide_eq_true (show L.length % 2 = 0 by omega), y58]
    by_cases h4 : L.length ≤ 128
    ·rw [decide_eq_true h4, decide_eq_true (by omega)]
    ·rw [decide_eq_false h4, decide_eq_false (by omega)]
   ·rw [ht] at c
    rw [decide_eq_false (show ¬ L.length % 2 = 0 by omega)]; rfl
theorem zbmg (s : Sl Int) (least : Int) (hL : s.l.length ≤ 1000000) : Ev (fun q => zjw q s least) (pairsOk least s.l) := by
 have := zbmf s.z s.l least hL s.l.length 0 (-1) (by omega) (by omega)
 exact Ev.succ this (fun q => rfl)
def kindOk (k : Int) (l : List Int) : Bool :=
 if k = 0 ∨ k = 1 then decide (l.length = 1 ∧ cutsB l) else if k = 2 ∨ k = 3 then decide (l.length ≤ 64 ∧ cutsB l) else if k = 4 then pairsOk (-1099511627776) l else if k = 5 then pairsOk 0 l else false
def mayS (s : zjm) : Bool := if s.To < 0 then false else if 3 ≤ s.To then false else if s.Sealed = true then kindOk s.Kind s.L.l else if s.To = 0 then kindOk s.Kind s.L.l else false
theorem zbmh (s : zjm) (hL : s.L.l.length ≤ 1000000) : Ev (fun q => ((zjy q s.L.z s.L.l s.Kind s.L.z s.L.l s.Sealed s.To).bind fun r1 => (if s.Kind = 0 then (if (s.L.l.length : Int) = 1 then (some (!(decide (0 ≤ r1)))) else (some false)) else (if s.Kind = 1 then (if (s.L.l.length : Int) = 1 then (some (!(decide (0 ≤ r1)))) else (some false)) else (if s.Kind = 2 then (if (s.L.l.length : Int) ≤ 64 then (some (!(decide (0 ≤ r1)))) else (some false)) else (if s.Kind = 3 then (if (s.L.l.length : Int) ≤ 64 then (some (!(decide (0 ≤ r1)))) else (some false)) else (if s.Kind = 4 then ((zjw q s.L (-1099511627776)).bind fun r2 => (some r2)) else (if s.Kind = 5 then ((zjw q s.L 0).bind fun r3 => (some r3)) else (some false))))))))) (kindOk s.Kind s.L.l) := by
 obtain ⟨r, h, hr⟩ := zbme s.L.z s.L.l s.Kind s.L.z s.L.l s.Sealed s.To hL
 have one : ∀ {P : Prop} [Decidable P], P → Ev (fun _ : Nat => (some (!(decide (0 ≤ r))) : Option Bool)) (decide (P ∧ cutsB s.L.l)) := fun {P} _ hp => Ev.ret' (by
  by_cases hc : cutsB s.L.l
  ·rw [decide_eq_false (fun e => hr.1 e hc)]; symm; simp only [Bool.not_false, decide_eq_true_eq]; exact ⟨hp, hc⟩
  ·rw [decide_eq_true (hr.2 hc)]; symm; simp only [Bool.not_true, decide_eq_false_iff_not]; exact fun e => hc e.2)
 have no : ∀ {P : Prop} [Decidable P], ¬ P → Ev (fun _ : Nat => (some false : Option Bool)) (decide (P ∧ cutsB s.L.l)) := fun {P} _ hp => Ev.ret' (by
  symm; simp only [decide_eq_false_iff_not]; exact fun e => hp e.1)
 refine Ev.bind h ?_
 unfold kindOk
 by_cases k0 : s.Kind = 0
 ·rw [if_pos (show s.Kind = 0 ∨ s.Kind = 1 from .inl k0)]
  by_cases hl : s.L.l.length = 1
  ·exact Ev.pos k0 (Ev.po (one hl))
  ·exact Ev.pos k0 (Ev.ne (no hl))
 by_cases k1 : s.Kind = 1
 ·rw [if_pos (show s.Kind = 0 ∨ s.Kind = 1 from .inr k1)]
  by_cases hl : s.L.l.length = 1
  ·exact Ev.neg k0 (Ev.pos k1 (Ev.po (one hl)))
  ·exact Ev.neg k0 (Ev.pos k1 (Ev.ne (no hl)))
 rw [if_neg (show ¬ (s.Kind = 0 ∨ s.Kind = 1) by omega)]
 by_cases k2 : s.Kind = 2
 ·rw [if_pos (show s.Kind = 2 ∨ s.Kind = 3 from .inl k2)]
  by_cases hl : s.L.l.length ≤ 64
  ·exact Ev.neg k0 (Ev.neg k1 (Ev.pos k2 (Ev.po (one hl))))
  ·exact Ev.neg k0 (Ev.neg k1 (Ev.pos k2 (Ev.ne (no hl))))
 by_cases k3 : s.Kind = 3
 ·rw [if_pos (show s.Kind = 2 ∨ s.Kind = 3 from .inr k3)]
  by_cases hl : s.L.l.length ≤ 64
  ·exact Ev.neg k0 (Ev.neg k1 (Ev.neg k2 (Ev.pos k3 (Ev.po (one hl)))))
  ·exact Ev.neg k0 (Ev.neg k1 (Ev.neg k2 (Ev.pos k3 (Ev.ne (no hl)))))
 rw [if_neg (show ¬ (s.Kind = 2 ∨ s.Kind = 3) by omega)]
 refine Ev.neg k0 (Ev.neg k1 (Ev.neg k2 (Ev.neg k3 (Ev.ite (fun k4 => ?_) fun k4 => Ev.ite (fun k5 => ?_) fun k5 => ?_))))
 ·rw [if_pos k4]; exact Ev.bind (zbmg _ _ hL) (Ev.ret _)
 ·rw [if_neg k4, if_pos k5]; exact Ev.bind (zbmg _ _ hL) (Ev.ret _)
 ·rw [if_neg k4, if_neg k5]; exact Ev.ret _
theorem zbmi (s : zjm) (hL : s.L.l.length ≤ 1000000) : Ev (fun q => zjz q s) (mayS s) := by
 have hb := zbmh s hL
 unfold mayS
 refine Ev.succ (Ev.ite (fun h => ?_) fun h => Ev.ite (fun h2 => ?_) fun h2 => Ev.ite (fun h3 => ?_) fun h3 => Ev.ite (fun h4 => ?_) fun h4 => ?_) (fun q => rfl)
 ·rw [if_pos h]; exact Ev.ret _
 ·rw [if_neg h, if_pos h2]; exact Ev.ret _
 ·rw [if_neg h, if_neg h2, if_pos h3]; exact hb
 ·rw [if_neg h, if_neg h2, if_neg h3, if_pos h4]; exact hb
 ·rw [if_neg h, if_neg h2, if_neg h3, if_neg h4]; exact Ev.ret _
def entOk (e : zjn) : Bool := decide (0 ≤ e.Proc) && (decide (e.Proc ≤ 64) && (decide (0 ≤ e.Seq) && (decide (e.Seq < 4611686018427387904) && (decide (-1125899906842624 ≤ e.Resp) && decide (e.Resp ≤ 1125899906842624)))))
theorem zbmj (e : zjn) : Ev (fun q => zj0 q e) (entOk e) := by
 unfold entOk
 exact Ev.succ (Ev.ite (fun h1 => Ev.ite (fun h2 => Ev.ite (fun h3 => Ev.ite (fun h4 => Ev.ite (fun h5 => Ev.ret' (by simp [*])) fun h5 => Ev.ret' (by simp [*])) fun h4 => Ev.ret' (by simp [*])) fun h3 => Ev.ret' (by simp [*])) fun h2 => Ev.ret' (by simp [*])) fun h1 => Ev.ret' (by simp [*])) (fun q => rfl)
def tabB : Int → List zjn → Bool
 | _, [] => true
 | last, e :: t => entOk e && (decide (last < e.Proc) && tabB e.Proc t)
theorem zbmk (z z2 : Bool) (L : List zjn) (hL : L.length ≤ 1000000) : ∀ (k i : Nat) (last : Int), L.length = i + k → (∀ e, 0 < i → L[i - 1]? = some e → e.Proc = last) → (i = 0 → last = -1) →
  Ev (fun q => zj1 q z L z2 L (L.length : Int) (i : Int)) (tabB last (L.drop i))
 | 0, i, last, hk, h1, h0 => by
  refine Ev.succ (Ev.ne (Ev.ret' ?_)) (fun q => rfl)
  rw [y11 (by omega)]; rfl
 | k + 1, i, last, hk, h1, h0 => by
  have hi : i < L.length := by omega
  have he : L[((i : Int)).toNat]? = some L[i] := by simp [hi]
  rw [y8 hi]
  simp only [tabB]
  have w1 : wrp .i64 ((i : Int) + 1) = ((i + 1 : Nat) : Int) := by rw [zbkt (by omega) (by omega)]; omega
  have ih := zbmk z z2 L hL k (i + 1) L[i].Proc (by omega) (fun e _ hx => by
   rw [Nat.add_sub_cancel, y6 hi] at hx
   simp only [y1] at hx; rw [hx]) (by omega)
  refine Ev.succ (Ev.po (Ev.po (Ev.opt he (Ev.bind (zbmj _) (Ev.ite (fun c => Ev.ite (fun c2 => ?_) fun c2 => ?_) fun c => Ev.ret' ?_))))) (fun q => rfl)
  ·have w3 : wrp .i64 ((i : Int) - 1) = ((i - 1 : Nat) : Int) := by rw [zbkt (by omega) (by omega)]; omega
   have he3 : L[(wrp .i64 ((i : Int) - 1)).toNat]? = some L[i - 1] := by rw [w3, y26]; exact y6 (by omega)
   have hq := h1 L[i - 1] (by omega) (y6 (by omega))
   refine Ev.pos (by rw [w3]; omega) (Ev.opt he3 (Ev.ite (fun c4 => Ev.ret' ?_) fun c4 => ?_))
   ·rw [c, decide_eq_false (show ¬ last < L[i].Proc by omega)]; rfl
   ·rw [c, decide_eq_true (show last < L[i].Proc by omega), w1]; simpa using ih
  ·have := h0 (by omega)
   have hp : 0 ≤ L[i].Proc := by unfold entOk at c; simp only [y5, decide_eq_true_eq] at c; exact c.1
   rw [c, decide_eq_true (show last < L[i].Proc by omega), w1]; simpa using ih
  ·simp only [Bool.not_eq_true] at c; rw [c]; rfl
theorem zbml (s : Sl zjn) (hL : s.l.length ≤ 1000000) : Ev (fun q => zj2 q s) (tabB (-1) s.l) :=
 Ev.succ (zbmk s.z s.z s.l hL s.l.length 0 (-1) (by omega) (fun e h => by omega) (fun _ => rfl)) (fun q => rfl)
def mayN (s : zjo) : Bool := decide (0 ≤ s.Index) && (decide (s.Index < 4611686018427387904) && (mayS s.State && tabB (-1) s.Table.l))
theorem zbmm (s : zjo) (h1 : s.State.L.l.length ≤ 1000000) (h2 : s.Table.l.length ≤ 1000000) : Ev (fun q => zj3 q s) (mayN s) := by
 unfold mayN
 refine Ev.succ (Ev.ite (fun c1 => Ev.ite (fun c2 => Ev.bind (zbmi _ h1) (Ev.ite (fun c3 => Ev.bind (zbml _ h2) (Ev.ret' ?_)) fun c3 => Ev.ret' ?_)) fun c2 => Ev.ret' ?_) fun c1 => Ev.ret' ?_) (fun q => rfl)
 ·simp [c1, c2, c3]
 ·simp [c3]
 ·simp [c2]
 ·simp [c1]
instance : DecidableEq zjn := fun a b => if h : a.Proc = b.Proc ∧ a.Seq = b.Seq ∧ a.Resp = b.Resp then isTrue (by cases a; cases b; simp_all) else isFalse (fun e => h (by rw [e]; exact ⟨rfl, rfl, rfl⟩))
theorem zbmn {a b : zjn} (h1 : a.Proc = b.Proc) (h2 : a.Seq = b.Seq) (h3 : a.Resp = b.Resp) : a = b := by cases a; cases b; simp_all
theorem zbmo (z z2 : Bool) (A B : List Int) (hl : A.length = B.length) (hL : A.length ≤ 1099511627776) : ∀ (k i : Nat), A.length = i + k → Ev (fun q => zke q z A z2 B (A.length : Int) (i : Int)) (decide (A.drop i = B.drop i))
 | 0, i, hk => by
  refine Ev.succ (Ev.ne (Ev.ret' ?_)) (fun q => rfl)
  rw [y11 (by omega), y11 (by omega)]; simp
 | k + 1, i, hk => by
  have hi : i < A.length := by omega
  have hi2 : i < B.length := by omega
  have hg : A[(i : Int).toNat]? = some A[i] := by simpa using y6 hi
  have hg2 : B[(i : Int).toNat]? = some B[i] := by simpa using y6 hi2
  refine Ev.succ (Ev.po (Ev.po (Ev.opt hg (Ev.opt hg2 ?_)))) (fun q => rfl)
  rw [y8 hi, y8 hi2]
  refine Ev.ite (fun h => ?_) fun h => Ev.ret' (by symm; rw [decide_eq_false_iff_not]; intro e; exact h (List.cons.inj e).1)
  rw [zbkt (by omega) (by omega), show ((i : Int) + 1) = ((i + 1 : Nat) : Int) by omega]
  refine (zbmo z z2 A B hl hL k (i + 1) (by omega)).cast ?_
  rw [decide_eq_decide, List.cons.injEq]; simp only [h, true_and]
theorem zbmp (a b : Sl Int) (hL : a.l.length ≤ 1099511627776) : Ev (fun q => zkf q a b) (decide (a.l = b.l)) := by
 refine Ev.succ (Ev.ite (fun h => ?_) fun h => Ev.ret' ?_) (fun q => rfl)
 ·have := zbmo a.z b.z a.l b.l (by omega) hL a.l.length 0 (by omega)
  rw [y36, y36] at this; exact this
 ·symm; rw [decide_eq_false_iff_not]; intro e; rw [e] at h; exact h rfl
theorem zbmq (s : Sl Int) (hz : s.z = true → s.l = []) (hl : s.l.length ≤ 4294967296) : ∃ z, Ev (fun q => zj4 q s) ⟨z, true, s.l⟩ := by
 by_cases h : s.z = true
 ·exact ⟨true, Ev.succ (Ev.pos h (Ev.ret' (by rw [hz h]))) (fun q => rfl)⟩
 ·exact ⟨false, Ev.succ (Ev.neg h (Ev.pos hl (Ev.ret _))) (fun q => rfl)⟩
theorem Few_ev (s : zjo) : Ev (fun q => zkl q s) (decide (s.State.L.l.length ≤ 300 ∧ s.Table.l.length ≤ 100)) := by
 have h4 : Ev (fun q => zkk q s.State) (decide ((s.State.L.l.length : Int) ≤ 300)) := Ev.succ (g := fun _ => some (decide ((s.State.L.l.length : Int) ≤ 300))) (Ev.ret _) (fun q => rfl)
 refine Ev.succ (Ev.bind h4 (Ev.ite (fun h => Ev.ret' ?_) fun h => Ev.ret' ?_)) (fun q => rfl)
 ·simp only [decide_eq_true_eq] at h
  by_cases c : s.Table.l.length ≤ 100
  ·rw [decide_eq_true (by omega), decide_eq_true ⟨by omega, c⟩]
  ·rw [decide_eq_false (by omega), decide_eq_false (fun e => c e.2)]
 ·simp only [decide_eq_true_eq] at h
  rw [decide_eq_false (fun e => h (by omega))]
theorem zbmr {least : Int} : ∀ {l : List Int} {last : Int}, prs least last l = true → l.length % 2 = 0 → -1 ≤ last → -1099511627776 ≤ least → ∀ x ∈ l, -1099511627776 ≤ x ∧ x ≤ 1099511627776
 | [], last, h, h2, h3, h4, x, hx => by cases hx
 | [a], last, h, h2, h3, h4, x, hx => by simp at h2
 | a :: b :: t, last, h, h2, h3, h4, x, hx => by
  simp only [prs, y5, decide_eq_true_eq] at h
  simp only [y20] at h2
  rcases List.mem_cons.1 hx with e | e
  ·omega
  ·rcases List.mem_cons.1 e with e | e
   ·omega
   ·exact zbmr h.2.2.2.2 (by omega) (by omega) h4 x e
theorem zbms {l : List Int} (h : cutsB l) : ∀ x ∈ l, -1099511627776 ≤ x ∧ x ≤ 1099511627776 := fun x hx => zbla.1 (h x hx)
theorem zbmt {k : Int} {l : List Int} (h : kindOk k l = true) : 0 ≤ k ∧ k ≤ 5 ∧ l.length ≤ 128 ∧ ∀ x ∈ l, -1099511627776 ≤ x ∧ x ≤ 1099511627776 := by
 unfold kindOk at h
 split at h
 ·simp only [decide_eq_true_eq] at h; exact ⟨by omega, by omega, by omega, zbms h.2⟩
 ·split at h
  ·simp only [decide_eq_true_eq] at h; exact ⟨by omega, by omega, by omega, zbms h.2⟩
  ·split at h
   ·simp only [pairsOk, y5, decide_eq_true_eq] at h; exact ⟨by omega, by omega, by omega, zbmr h.1 h.2.1 (by omega) (by omega)⟩
   ·split at h
    ·simp only [pairsOk, y5, decide_eq_true_eq] at h; exact ⟨by omega, by omega, by omega, zbmr h.1 h.2.1 (by omega) (by omega)⟩
    ·cases h
theorem zbmu {s : zjm} (h : mayS s = true) : 0 ≤ s.To ∧ s.To ≤ 2 ∧ (s.Sealed = false → s.To = 0) ∧ kindOk s.Kind s.L.l = true := by
 unfold mayS at h
 split at h
 ·cases h
 ·split at h
  ·cases h
  ·split at h
   ·rename_i h1 h2 h3; exact ⟨by omega, by omega, fun e => (by rw [e] at h3; cases h3), h⟩
   ·split at h
    ·rename_i h1 h2 h3 h4; exact ⟨by omega, by omega, fun _ => h4, h⟩
    ·cases h
theorem zbmv {e : zjn} (h : entOk e = true) : 0 ≤ e.Proc ∧ e.Proc ≤ 64 ∧ 0 ≤ e.Seq ∧ e.Seq < 4611686018427387904 ∧ -1125899906842624 ≤ e.Resp ∧ e.Resp ≤ 1125899906842624 := by
 simpa only [entOk, y5, decide_eq_true_eq] using h
theorem zbmw : ∀ {t : List zjn} {last : Int}, tabB last t = true → ∀ e ∈ t, entOk e = true
 | [], last, h, e, he => by cases he
 | a :: t, last, h, e, he => by
  simp only [tabB, y5] at h
  rcases List.mem_cons.1 he with r | r
  ·rw [r]; exact h.1
  ·exact zbmw h.2.2 e r
theorem zbmx {s : zjo} (h : mayN s = true) : 0 ≤ s.Index ∧ s.Index < 4611686018427387904 ∧ mayS s.State = true ∧ tabB (-1) s.Table.l = true := by
 simpa only [mayN, y5, decide_eq_true_eq] using h
/-- A table has at most 65 entries. -/
theorem zbmy : ∀ {t : List zjn} {last : Int}, tabB last t = true → -1 ≤ last → (t.length : Int) + last ≤ 64 ∨ t = []
 | [], last, h, h1 => .inr rfl
 | a :: t, last, h, h1 => by
  simp only [tabB, y5, decide_eq_true_eq] at h
  have ha := zbmv h.1
  rcases zbmy h.2.2 (by omega) with e | e
  ·left; rw [y20]; omega
  ·left; rw [e]; simp only [y20, y24]; omega
def sealN (s : zjm) : Int := if s.Sealed = true then s.To + 1 else 0
def numsB (l : List Int) : List Int := l.flatMap putS
theorem zbmz (x : Int) (l : List Int) : numsB (x :: l) = putS x ++ numsB l := by simp [numsB]
def inT (l : List Int) : Prop := ∀ x ∈ l, -1099511627776 ≤ x ∧ x ≤ 1099511627776
theorem inT_R {l : List Int} (h : inT l) {x : Int} (hx : x ∈ l) : inR .i64 x := by have := h x hx; exact zbld (by omega) (by omega)
theorem zbm0 {x : Int} {l : List Int} (h : inT (x :: l)) : inR .i64 x ∧ inT l := ⟨inT_R h y30, fun y hy => h y (y34 _ hy)⟩
theorem zbm1 : ∀ {l : List Int}, inT l → (numsB l).length ≤ 10 * l.length
 | [], h => by simp [numsB]
 | x :: l, h => by
  have h2 := zbm1 (zbm0 h).2
  have h1 := zblc (zbm0 h).1
  rw [zbmz, y9, y20]; omega
theorem zbm2 (n : Int) : isB (putS n) := zbl5 _
theorem zbm3 : ∀ {l : List Int}, isB (numsB l)
 | [] => fun c hc => by simp [numsB] at hc
 | x :: l => by rw [zbmz]; exact zbl7.2 ⟨zbm2 _, zbm3⟩
def stateB (s : zjm) : List Int := ((put s.Kind ++ put (sealN s)) ++ put (s.L.l.length : Int)) ++ numsB s.L.l
theorem zbm4 {s : zjm} (h : inT s.L.l) : (stateB s).length ≤ 30 + 10 * s.L.l.length := by
 have h1 := zbk2 s.Kind; have h2 := zbk2 (sealN s); have h3 := zbk2 (s.L.l.length : Int); have h4 := zbm1 h
 simp only [stateB, y9]; omega
theorem zbm5 {s : zjm} : isB (stateB s) := zbl7.2 ⟨zbl7.2 ⟨zbl7.2 ⟨zbl6 _, zbl6 _⟩, zbl6 _⟩, zbm3⟩
theorem zbm6 (z : Bool) (L : List Int) (hL : L.length ≤ 1000000) (hT : inT L) : ∀ (k i : Nat) (l : List Int), L.length = i + k → l.length ≤ 1000 + 10 * i →
  Ev (fun q => zlm q z L (L.length : Int) (i : Int) false l true) (⟨false, true, l ++ numsB (L.drop i)⟩, 0)
 | 0, i, l, hk, hl => by
  refine Ev.succ (Ev.ne (Ev.ret' ?_)) (fun q => rfl)
  rw [y11 (by omega)]; simp [numsB]
 | k + 1, i, l, hk, hl => by
  have hi : i < L.length := by omega
  have he : L[((i : Int)).toNat]? = some L[i] := by simp [hi]
  have hr := inT_R hT (List.getElem_mem hi)
  have hp := zblc hr
  have ih := zbm6 z L hL hT k (i + 1) (l ++ putS L[i]) (by omega) (by rw [y9]; omega)
  rw [show ((i + 1 : Nat) : Int) = wrp .i64 ((i : Int) + 1) by rw [zbkt (by omega) (by omega)]; omega] at ih
  refine Ev.succ (Ev.po (Ev.po (Ev.opt he (Ev.bind (zbk7 ⟨false, true, l⟩ hr (by simp only; omega)) (Ev.cast ih ?_))))) (fun q => rfl)
  rw [y8 hi, zbmz, y31]
theorem zbm7 {s : zjm} (h : mayS s = true) : 0 ≤ sealN s ∧ sealN s ≤ 3 := by
 have := zbmu h; unfold sealN; split <;> omega
theorem zbm8 {s : zjm} (h : mayS s = true) : Ev (fun q => zll q s) (sealN s) := by
 have hm := zbmu h
 unfold sealN
 refine Ev.succ (Ev.ite (fun c => Ev.ret' ?_) fun c => Ev.ret' ?_) (fun q => rfl)
 ·rw [if_pos c, zbkt (by omega) (by omega)]
 ·rw [if_neg c]
theorem zbm9 {s : zjm} (h : mayS s = true) : Ev (fun q => zln q s) (⟨false, true, stateB s⟩, 0) := by
 have hm := zbmu h
 have hk := zbmt hm.2.2.2
 have hs := zbm7 h
 have hM := zbmi s (by omega)
 rw [h] at hM
 have p1 := zbk2 s.Kind; have p2 := zbk2 (sealN s); have p3 := zbk2 (s.L.l.length : Int)
 have hl := zbm6 s.L.z s.L.l (by omega) hk.2.2.2 s.L.l.length 0 ((put s.Kind ++ put (sealN s)) ++ put (s.L.l.length : Int)) (by omega) (by simp only [y9]; omega)
 rw [y36] at hl
 exact Ev.succ (Ev.bind hM (Ev.pos rfl (Ev.bind (zbk3 ⟨true, true, []⟩ (by omega) (by omega) (by simp)) (Ev.bind (zbm8 h) (Ev.bind (zbk3 _ (by omega) (by omega) (by simp only [y45]; omega)) (Ev.bind (zbk3 _ (by omega) (by omega) (by simp only [y45, y9]; omega)) hl)))))) (fun q => rfl)
def entB (e : zjn) : List Int := put e.Proc ++ (put e.Seq ++ putS e.Resp)
def tabE (l : List zjn) : List Int := l.flatMap entB
theorem zbna (e : zjn) (l : List zjn) : tabE (e :: l) = entB e ++ tabE l := by simp [tabE]
def entsOk (l : List zjn) : Prop := ∀ e ∈ l, entOk e = true
theorem zbnb {e : zjn} (h : entOk e = true) : inR .i64 e.Resp := by have := zbmv h; exact zbld (by omega) (by omega)
theorem zbnc {e : zjn} (h : entOk e = true) : (entB e).length ≤ 30 := by
 have h1 := zbk2 e.Proc; have h2 := zbk2 e.Seq; have h3 := zblc (zbnb h)
 simp only [entB, y9]; omega
theorem zbnd {e : zjn} : isB (entB e) := zbl7.2 ⟨zbl6 _, zbl7.2 ⟨zbl6 _, zbm2 _⟩⟩
theorem zbne : ∀ {l : List zjn}, entsOk l → (tabE l).length ≤ 30 * l.length
 | [], h => by simp [tabE]
 | e :: l, h => by
  have h1 := zbnc (h e y30)
  have h2 := zbne (l := l) fun x hx => h x (y34 _ hx)
  rw [zbna, y9, y20]; omega
theorem zbnf : ∀ {l : List zjn}, isB (tabE l)
 | [] => fun c hc => by simp [tabE] at hc
 | e :: l => by rw [zbna]; exact zbl7.2 ⟨zbnd, zbnf⟩
def wholeB (s : zjo) : List Int := ((put ((stateB s.State).length : Int) ++ stateB s.State) ++ put (s.Table.l.length : Int)) ++ tabE s.Table.l
theorem zbng (z : Bool) (L : List zjn) (hL : L.length ≤ 1000000) (hT : entsOk L) : ∀ (k i : Nat) (l : List Int), L.length = i + k → l.length ≤ 10000 + 30 * i →
  Ev (fun q => zlo q z L (L.length : Int) (i : Int) false l true) ⟨false, true, l ++ tabE (L.drop i)⟩
 | 0, i, l, hk, hl => by
  refine Ev.succ (Ev.ne (Ev.ret' ?_)) (fun q => rfl)
  rw [y11 (by omega)]; simp [tabE]
 | k + 1, i, l, hk, hl => by
  have hi : i < L.length := by omega
  have he : L[((i : Int)).toNat]? = some L[i] := by simp [hi]
  have hr := hT L[i] (List.getElem_mem hi)
  have ho := zbmv hr
  have p1 := zbk2 L[i].Proc; have p2 := zbk2 L[i].Seq; have p3 := zblc (zbnb hr)
  have ih := zbng z L hL hT k (i + 1) (((l ++ put L[i].Proc) ++ put L[i].Seq) ++ putS L[i].Resp) (by omega) (by simp only [y9]; omega)
  rw [show ((i + 1 : Nat) : Int) = wrp .i64 ((i : Int) + 1) by rw [zbkt (by omega) (by omega)]; omega] at ih
  refine Ev.succ (Ev.po (Ev.po (Ev.opt he (Ev.bind (zbk3 ⟨false, true, l⟩ (by omega) (by omega) (by simp only; omega)) (Ev.bind (zbk3 _ (by omega) (by omega) (by simp only [y9]; omega)) (Ev.bind (zbk7 _ (zbnb hr) (by simp only [y9]; omega)) (Ev.cast ih ?_))))))) (fun q => rfl)
  rw [y8 hi, zbna, entB]; simp only [y31]
theorem zbnh {s : zjo} (h : mayN s = true) : (wholeB s).length ≤ 5000 ∧ (stateB s.State).length ≤ 1310 ∧ s.Table.l.length ≤ 65 := by
 have hm := zbmx h
 have hk := zbmt (zbmu hm.2.2.1).2.2.2
 have h1 := zbm4 (s := s.State) hk.2.2.2
 have h2 := zbne (zbmw hm.2.2.2)
 have h3 := zbmy hm.2.2.2 (by omega)
 have h4 : s.Table.l.length ≤ 65 := by
  rcases h3 with e | e
  ·omega
  ·rw [e]; simp
 have p1 := zbk2 ((stateB s.State).length : Int); have p2 := zbk2 (s.Table.l.length : Int)
 simp only [wholeB, y9]; omega
theorem zbni {s : zjo} : isB (wholeB s) := zbl7.2 ⟨zbl7.2 ⟨zbl7.2 ⟨zbl6 _, zbm5⟩, zbl6 _⟩, zbnf⟩
theorem zbnj {s : zjo} (h : mayN s = true) : Ev (fun q => zlp q s) ⟨false, true, wholeB s⟩ := by
 have hm := zbmx h
 have hl := zbnh h
 have p1 := zbk2 ((stateB s.State).length : Int); have p2 := zbk2 (s.Table.l.length : Int)
 have hw := zbng s.Table.z s.Table.l (by omega) (zbmw hm.2.2.2) s.Table.l.length 0 ((put ((stateB s.State).length : Int) ++ stateB s.State) ++ put (s.Table.l.length : Int)) (by omega) (by simp only [y9]; omega)
 rw [y36] at hw
 exact Ev.succ (Ev.bind (zbm9 hm.2.2.1) (Ev.bind (zbk3 ⟨true, true, []⟩ (by omega) (by simp only; omega) (by simp)) (Ev.pos (by simp only [y45]; omega) (Ev.bind (zbk3 _ (by omega) (by omega) (by simp only [y45, y9]; omega)) hw)))) (fun q => rfl)
/-- Pieces of 64 bytes. -/
def chks : Nat → List Int → List (List Int)
 | 0, _ => []
 | k + 1, l => if l.length = 0 then [] else l.take 64 :: chks k (l.drop 64)
def frsB (F : List (List Int)) : List Int := (F.map encF).flatten
theorem zbnk (f : List Int) (F : List (List Int)) : frsB (f :: F) = encF f ++ frsB F := by simp [frsB]
theorem zbnl (l : List Int) : (encF l).length = (put (l.length : Int)).length + l.length + 4 := by
 simp only [encF, fix4, y9, y20, y24]; omega
theorem zbnm (s : Sl Int) (hb : isB s.l) (hl : s.l.length ≤ 1048576) : ∃ z, Ev (fun q => zlq q s) ⟨z, true, encF s.l⟩ := by
 obtain ⟨z, h⟩ := zbl8 s hb hl
 exact ⟨z, Ev.succ (Ev.bind h (Ev.ret _)) (fun q => rfl)⟩
theorem min64 (n : Nat) : (if 64 < (n : Int) then 64 else (n : Int)) = ((min 64 n : Nat) : Int) := by
 split <;> omega
theorem zbnn (z : Bool) (L : List Int) (hL : L.length ≤ 1000000) (hb : isB L) : ∀ (k i n : Nat) (hz : Bool) (l : List Int), L.length = i + n → n ≤ k → l.length ≤ 1000 + 20 * i →
  ∃ z', (hz = false → z' = false) ∧ Ev (fun q => zlr q i n z L hz l true) (⟨z', true, l ++ frsB (chks k (L.drop i))⟩, 0)
 | 0, i, n, hz, l, hk, hn, hl => by
  refine ⟨hz, id, Ev.succ (Ev.ne (Ev.ret' ?_)) (fun q => rfl)⟩
  simp [chks, frsB]
 | k + 1, i, n, hz, l, hk, hn, hl => by
  by_cases h0 : n = 0
  ·refine ⟨hz, id, Ev.succ (Ev.ne (Ev.ret' ?_)) (fun q => rfl)⟩
   rw [y11 (by omega)]; simp [chks, frsB]
  ·have ht : ((L.drop i).take (min 64 n)).length = min 64 n := by rw [y19, y12]; omega
   have p := zbk2 (((L.drop i).take (min 64 n)).length : Int)
   have he := zbnl ((L.drop i).take (min 64 n))
   obtain ⟨z1, hF⟩ := zbnm ⟨z, (L.drop i).take (min 64 n)⟩ (zbl9 (zbma hb _) _) (by simp only; omega)
   obtain ⟨z', hzz, ih⟩ := zbnn z L hL hb k (i + min 64 n) (n - min 64 n) (hz && (decide ((encF ((L.drop i).take (min 64 n))).length = 0))) (l ++ encF ((L.drop i).take (min 64 n))) (by omega) (by omega) (by simp only [y9]; omega)
   refine ⟨z', fun h => hzz (by rw [h]; rfl), Ev.succ (Ev.pos (by omega) ?_) (fun q => rfl)⟩
   rw [min64 n, y26]
   refine Ev.po (Ev.po (Ev.po (Ev.bind hF (Ev.pos (by simp only; omega) (Ev.po (Ev.cast ih ?_))))))
   simp only [chks]
   rw [if_neg (by rw [y12]; omega), zbnk, y31, List.drop_drop]
   by_cases hn : n ≤ 64
   ·rw [Nat.min_eq_right hn, List.take_of_length_le (by rw [y12]; omega), List.take_of_length_le (by rw [y12]; omega), y11 (l := L) (i := i + n) (by omega), y11 (l := L) (i := i + 64) (by omega)]
   ·rw [Nat.min_eq_left (by omega)]
theorem zbno (z x : Bool) (L : List Int) (hL : L.length ≤ 1000000) (hb : isB L) (hz : Bool) (l : List Int) (hl : l.length ≤ 900) :
  ∃ z', (L.length ≠ 0 → z' = false) ∧ Ev (fun q => zls q z L x hz l true) (⟨z', true, l ++ frsB (chks L.length L)⟩, 0) := by
 by_cases h0 : L.length = 0
 ·refine ⟨hz, fun h => absurd h0 h, Ev.succ (Ev.ne (Ev.ret' ?_)) (fun q => rfl)⟩
  rw [h0]; simp [chks, frsB]
 ·have ht : (L.take (min 64 L.length)).length = min 64 L.length := by rw [y19]; omega
  have p := zbk2 ((L.take (min 64 L.length)).length : Int)
  have he := zbnl (L.take (min 64 L.length))
  obtain ⟨z1, hF⟩ := zbnm ⟨z, L.take (min 64 L.length)⟩ (zbl9 hb _) (by simp only; omega)
  obtain ⟨z', hzz, ih⟩ := zbnn z L hL hb (L.length - 1) (min 64 L.length) (L.length - min 64 L.length) (hz && (decide ((encF (L.take (min 64 L.length))).length = 0))) (l ++ encF (L.take (min 64 L.length))) (by omega) (by omega) (by simp only [y9]; omega)
  refine ⟨z', fun _ => hzz (by rw [decide_eq_false (by omega), Bool.and_false]), Ev.succ (Ev.pos (by omega) ?_) (fun q => rfl)⟩
  rw [min64 L.length, y26]
  refine Ev.po (Ev.po (Ev.po (Ev.bind hF (Ev.pos (by simp only; omega) (Ev.cast ih ?_)))))
  obtain ⟨m, hm⟩ : ∃ m, L.length = m + 1 := ⟨L.length - 1, by omega⟩
  have hc : chks L.length L = L.take 64 :: chks (L.length - 1) (L.drop 64) := by rw [hm]; simp only [chks]; rw [if_neg (by omega)]; rfl
  rw [hc, zbnk, y31]
  by_cases hn : L.length ≤ 64
  ·rw [Nat.min_eq_right hn, List.take_of_length_le (by omega), List.take_of_length_le hn, y11 (by omega), y11 (by omega)]
  ·rw [Nat.min_eq_left (by omega)]
/-- What the first frame tells. -/
def manB (i : Int) (w : List Int) : List Int := ((([115] ++ put 3) ++ put i) ++ put (w.length : Int)) ++ fix4 (bsum w).toNat
def snapB (s : zjo) : List Int := encF (manB s.Index (wholeB s)) ++ frsB (chks (wholeB s).length (wholeB s))
theorem zbnp (i : Int) (w : List Int) : (manB i w).length ≤ 35 := by
 have h1 := zbk2 3; have h2 := zbk2 i; have h3 := zbk2 (w.length : Int)
 simp only [manB, fix4, y9, y20, y24]; omega
theorem zbnq (v : Nat) : isB (fix4 v) := by
 intro c hc; simp only [fix4, List.mem_cons, List.not_mem_nil, or_false] at hc; omega
theorem zbnr (i : Int) (w : List Int) : isB (manB i w) := by
 refine zbl7.2 ⟨zbl7.2 ⟨zbl7.2 ⟨zbl7.2 ⟨?_, zbl6 _⟩, zbl6 _⟩, zbl6 _⟩, zbnq _⟩
 intro c hc; simp only [List.mem_cons, List.not_mem_nil, or_false] at hc; omega
theorem zbns (s : zjo) (h1 : s.State.L.l.length ≤ 1000000) (h2 : s.Table.l.length ≤ 1000000) : ∃ z, (mayN s = true → z = false) ∧ Ev (fun q => zlt q s) (if mayN s = true then (⟨z, true, snapB s⟩, 0) else (⟨true, true, []⟩, 1)) := by
 by_cases h : mayN s = true
 ·have hm := zbmx h
  have hl := zbnh h
  have q1 := zbk2 3; have q2 := zbk2 s.Index; have q3 := zbk2 ((wholeB s).length : Int)
  have hml := zbnp s.Index (wholeB s)
  obtain ⟨z1, hF⟩ := zbnm ⟨false && (decide ((fix4 (bsum (wholeB s)).toNat).length = 0)), manB s.Index (wholeB s)⟩ (zbnr _ _) (by simp only; omega)
  have he := zbnl (manB s.Index (wholeB s)); have p := zbk2 ((manB s.Index (wholeB s)).length : Int)
  obtain ⟨z, hzf, hE⟩ := zbno false true (wholeB s) (by omega) zbni z1 (encF (manB s.Index (wholeB s))) (by omega)
  refine ⟨z, fun _ => hzf (by have : 1 ≤ (put ((stateB s.State).length : Int)).length := (by rw [put_ok (by omega) (by omega)]; exact zbkz _); simp only [wholeB, y9]; omega), ?_⟩
  rw [if_pos h]
  refine Ev.succ (Ev.bind (zbmm s h1 h2) (Ev.pos h (Ev.bind (zbnj h) (Ev.bind (zbk3 ⟨false, true, [115]⟩ (by omega) (by omega) (by simp)) (Ev.bind (zbk3 _ (by omega) (by omega) (by simp only [y9, y20, y24]; omega)) (Ev.bind (zbk3 _ (by omega) (by simp only; omega) (by simp only [y9, y20, y24]; omega)) (Ev.bind (zblr ⟨false, wholeB s⟩ zbni (by simp only; omega)) (Ev.bind (zbly _) (Ev.pos ?_ (Ev.bind hF hE))))))))) ) (fun q => rfl)
  simp only [fix4, y9, y20, y24]; omega
 ·refine ⟨true, fun e => absurd e h, ?_⟩
  rw [if_neg h]
  exact Ev.succ (Ev.bind (zbmm s h1 h2) (Ev.neg h (Ev.ret _))) (fun q => rfl)
theorem zbnt (s : zjo) (h1 : s.State.L.l.length ≤ 1000000) (h2 : s.Table.l.length ≤ 1000000) : ∃ z, Ev (fun q => zlt q s) (if mayN s = true then (⟨z, true, snapB s⟩, 0) else (⟨true, true, []⟩, 1)) := by
 obtain ⟨z, _, h⟩ := zbns s h1 h2
 exact ⟨z, h⟩
theorem zbnu (z z2 : Bool) (A B : List zjn) (hl : A.length = B.length) (hL : A.length ≤ 1099511627776) : ∀ (k i : Nat), A.length = i + k → Ev (fun q => zkh q z A z2 B (A.length : Int) (i : Int)) (decide (A.drop i = B.drop i))
 | 0, i, hk => by
  refine Ev.succ (Ev.ne (Ev.ret' ?_)) (fun q => rfl)
  rw [y11 (by omega), y11 (by omega)]; simp
 | k + 1, i, hk => by
  have hi : i < A.length := by omega
  have hi2 : i < B.length := by omega
  have hg : A[(i : Int).toNat]? = some A[i] := by simpa using y6 hi
  have hg2 : B[(i : Int).toNat]? = some B[i] := by simpa using y6 hi2
  have no : ¬ A[i] = B[i] → false = decide (A[i] :: A.drop (i + 1) = B[i] :: B.drop (i + 1)) := fun h => by
   symm; rw [decide_eq_false_iff_not]; intro e; exact h (List.cons.inj e).1
  rw [y8 hi, y8 hi2]
  refine Ev.succ (Ev.po (Ev.po (Ev.opt hg (Ev.opt hg2 (Ev.ite (fun c1 => Ev.ite (fun c2 => Ev.ite (fun c3 => ?_) fun c3 => Ev.ret' (no fun e => c3 (by rw [e]))) fun c2 => Ev.ret' (no fun e => c2 (by rw [e]))) fun c1 => Ev.ret' (no fun e => c1 (by rw [e]))))))) (fun q => rfl)
  rw [zbkt (by omega) (by omega), show ((i : Int) + 1) = ((i + 1 : Nat) : Int) by omega]
  refine (zbnu z z2 A B hl hL k (i + 1) (by omega)).cast ?_
  rw [decide_eq_decide, List.cons.injEq]; simp only [zbmn c1 c2 c3, true_and]
theorem zbnv (a b : Sl zjn) (hL : a.l.length ≤ 1099511627776) : Ev (fun q => zki q a b) (decide (a.l = b.l)) := by
 refine Ev.succ (Ev.ite (fun h => ?_) fun h => Ev.ret' ?_) (fun q => rfl)
 ·have := zbnu a.z b.z a.l b.l (by omega) hL a.l.length 0 (by omega)
  rw [y36, y36] at this; exact this
 ·symm; rw [decide_eq_false_iff_not]; intro e; rw [e] at h; exact h rfl
/-- The same states, the same snapshots. -/
def sameS (a b : zjm) : Bool := decide (a.Kind = b.Kind) && (decide (a.Sealed = b.Sealed) && (decide (a.To = b.To) && decide (a.L.l = b.L.l)))
def sameN (a b : zjo) : Bool := decide (a.Index = b.Index) && (sameS a.State b.State && decide (a.Table.l = b.Table.l))
theorem zbnw (a b : zjm) (hL : a.L.l.length ≤ 1099511627776) : Ev (fun q => zkg q a b) (sameS a b) := by
 unfold sameS
 refine Ev.succ (Ev.ite (fun c1 => Ev.ite (fun c2 => Ev.ite (fun c3 => Ev.bind (zbmp _ _ hL) (Ev.ret' ?_)) fun c3 => Ev.ret' ?_) fun c2 => Ev.ret' ?_) fun c1 => Ev.ret' ?_) (fun q => rfl)
 ·rw [beq_iff_eq] at c2; simp [c1, c2, c3]
 ·simp [c3]
 ·rw [beq_iff_eq] at c2; simp [c2]
 ·simp [c1]
theorem zbnx (a b : zjo) (hL : a.State.L.l.length ≤ 1099511627776) (hT : a.Table.l.length ≤ 1099511627776) : Ev (fun q => zkj q a b) (sameN a b) := by
 unfold sameN
 refine Ev.succ (Ev.ite (fun c1 => Ev.bind (zbnw _ _ hL) (Ev.ite (fun c2 => Ev.bind (zbnv _ _ hT) (Ev.ret' ?_)) fun c2 => Ev.ret' ?_)) fun c1 => Ev.ret' ?_) (fun q => rfl)
 ·simp [c1, c2]
 ·simp only [Bool.not_eq_true] at c2; simp [c2]
 ·simp [c1]
theorem mayC : mayS ⟨0, ⟨false, [0]⟩, false, 0⟩ = true := by
 simp [mayS, kindOk, cutsB, cutI]
theorem mayD (z z2 : Bool) : mayN ⟨1, ⟨0, ⟨z, [5]⟩, false, 0⟩, ⟨z2, [⟨2, 1, 0⟩]⟩⟩ = true := by
 simp [mayN, mayS, kindOk, cutsB, cutI, tabB, entOk]
theorem zbny (z : Bool) : ∃ z', Ev (fun q => zkd q ⟨true, []⟩ ⟨0, 2, 1, ⟨1, 5, 0⟩, 0⟩) ⟨z', true, [⟨2, 1, 0⟩]⟩ := by
 have h68 : Ev (fun q => zj5 q ⟨true, []⟩) ⟨true, true, []⟩ := Ev.succ (g := fun _ => some ⟨true, true, []⟩) (Ev.ret _) (fun q => rfl)
 have hs00 : Ev (fun q => zj7 q 0 0 0 2 1 1 5 0 0 true [] true) (-1) := Ev.succ (g := fun _ => some (-1)) (Ev.ret _) (fun q => rfl)
 have hs0 : Ev (fun q => zj8 q 0 2 1 1 5 0 0 true [] true) (-1) := Ev.succ hs00 (fun q => rfl)
 have h0 : Ev (fun q => zka q 0 2 1 1 5 0 0 true [] true) (0, [], true) := Ev.succ (Ev.bind hs0 (Ev.pos rfl (Ev.ret _))) (fun q => rfl)
 have hs10 : Ev (fun q => zkb q 0 0 0 0 2 1 1 5 0 0 true [] true) (-1) := Ev.succ (g := fun _ => some (-1)) (Ev.ret _) (fun q => rfl)
 have h1 : Ev (fun q => zkc q 0 0 2 1 1 5 0 0 true [] true) (-1) := Ev.succ hs10 (fun q => rfl)
 have h72 : Ev (fun q => zj6 q ⟨true, true, []⟩ 0 ⟨false, true, [⟨2, 1, 0⟩]⟩) ⟨false, true, [⟨2, 1, 0⟩]⟩ := by
  refine Ev.succ (g := fun _ => if insOk (⟨true, true, []⟩ : Ow zjn) 0 ⟨false, true, [⟨2, 1, 0⟩]⟩ then some (insR (⟨true, true, []⟩ : Ow zjn) 0 ⟨false, true, [⟨2, 1, 0⟩]⟩) else none) (Ev.pos ⟨rfl, by omega, by simp, rfl, by simp, by simp⟩ (Ev.ret' (by simp [insR]))) (fun q => rfl)
 exact ⟨false, Ev.succ (Ev.bind h68 (Ev.bind h0 (Ev.bind h1 (Ev.po (Ev.pos rfl (Ev.bind h72 (Ev.ret _))))))) (fun q => rfl)⟩
theorem zbnz {s : zjm} {o : zjq} {n : Int} (h : s.L.l[0]? = some n) (hk : s.Kind = 0) (hc : o.Code = 1) : Ev (fun q => zko q s o) (⟨s.Kind, ⟨false, [cutI (wrp .i64 (n + cutI o.A))]⟩, s.Sealed, s.To⟩, n) := by
 refine Ev.succ (Ev.opt h (Ev.ne (Ev.pos hk (Ev.pos hc ?_)))) (fun q => rfl)
 exact Ev.bind (zbk8 _) (Ev.bind (zbk8 _) (Ev.ret _))
theorem zbn0 {s : zjm} {o : zjq} {n : Int} (hm : mayS s = true) (hL : s.L.l.length ≤ 1000000) (hs : s.Sealed = false) (h : s.L.l[0]? = some n) (hk : s.Kind = 0) (hc : o.Code = 1) : Ev (fun q => zkz q s o) (⟨s.Kind, ⟨false, [cutI (wrp .i64 (n + cutI o.A))]⟩, s.Sealed, s.To⟩, n) := by
 have hM := zbmi s hL
 exact Ev.succ (Ev.bind hM (Ev.pos hm (Ev.neg (by rw [hs]; simp) (Ev.ne (Ev.pos hk (Ev.bind (zbnz h hk hc) (Ev.ret _))))))) (fun q => rfl)
theorem zbn1 : Ev (fun q => zkz q ⟨0, ⟨false, [0]⟩, false, 0⟩ ⟨1, 5, 0⟩) (⟨0, ⟨false, [5]⟩, false, 0⟩, 0) := by
 have := zbn0 (s := ⟨0, ⟨false, [0]⟩, false, 0⟩) (o := ⟨1, 5, 0⟩) (n := 0) mayC (by simp) rfl rfl rfl rfl
 have e : cutI (wrp .i64 (0 + cutI 5)) = 5 := by rw [show cutI 5 = 5 by simp [cutI], zbkt (by omega) (by omega)]; simp [cutI]
 simp only [e] at this
 exact this
theorem zbn2 (s : zjo) : 10 < (snapB s).length := by
 have h := zbnl (manB s.Index (wholeB s))
 have g : ∀ n : Int, (put n).length = 0 ∨ 1 ≤ (put n).length := fun n => by omega
 have p3 : 1 ≤ (put 3).length := by rw [put_ok (by omega) (by omega)]; exact zbkz _
 have p4 : 1 ≤ (put ((manB s.Index (wholeB s)).length : Int)).length := by
  have := zbnp s.Index (wholeB s)
  rw [put_ok (by omega) (by omega)]; exact zbkz _
 have p5 : 1 + 1 + 4 ≤ (manB s.Index (wholeB s)).length := by simp only [manB, fix4, y9, y20, y24]; omega
 simp only [snapB, y9]; omega
def filP (p : Int) (T : List zjn) : List zjn := T.filter fun e => !decide (e.Proc = p)
def insE (e : zjn) : List zjn → List zjn
 | [] => [e]
 | x :: l => if e.Proc < x.Proc then e :: x :: l else x :: insE e l
def noteL (T : List zjn) (p s x : Int) : List zjn := insE ⟨p, s, x⟩ (filP p T)
def atE (p : Int) : List zjn → Nat
 | [] => 0
 | x :: l => if p < x.Proc then 0 else atE p l + 1
theorem atE_le (p : Int) : ∀ T : List zjn, atE p T ≤ T.length
 | [] => y13 _
 | x :: l => by simp only [atE]; split <;> simp only [y20] <;> have := atE_le p l <;> omega
theorem zbn3 (e : zjn) : ∀ T : List zjn, insE e T = T.take (atE e.Proc T) ++ [e] ++ T.drop (atE e.Proc T)
 | [] => rfl
 | x :: l => by
  simp only [insE, atE]
  split
  ·simp
  ·rw [zbn3 e l]; simp
theorem zbn4 (e : zjn) : ∀ T : List zjn, (insE e T).length = T.length + 1
 | [] => rfl
 | x :: l => by simp only [insE]; split <;> simp only [y20, zbn4 e l]
theorem zbn5 (p : Int) (T : List zjn) : (filP p T).length ≤ T.length := List.length_filter_le _ _
theorem zbn6 (T : List zjn) (p s x : Int) : (noteL T p s x).length ≤ T.length + 1 := by
 unfold noteL; rw [zbn4]; have := zbn5 p T; omega
theorem zbn7 (p : Int) (O : List zjn) (j : Nat) (hj : j < O.length) : filP p (O.take (j + 1)) = filP p (O.take j) ++ if O[j].Proc = p then [] else [O[j]] := by
 unfold filP
 rw [List.take_add_one, y6 hj, List.filter_append]
 congr 1
 simp only [Option.toList_some, List.filter_cons, List.filter_nil]
 by_cases c : O[j].Proc = p <;> simp [c]
theorem zbn8 {p : Int} {T : List zjn} (h : ∀ e ∈ T, e.Proc ≠ p) : filP p T = T := List.filter_eq_self.2 fun e he => by simp [h e he]
theorem zbn9 (p0 p p2 p3 p4 p5 p6 : Int) (z : Bool) (L : List zjn) (x : Bool) (hL : L.length ≤ 1000000) : ∀ (k i : Nat), L.length = i + k →
  ∃ r, Ev (fun q => zj7 q (L.length : Int) (i : Int) p0 p p2 p3 p4 p5 p6 z L x) r ∧ ((r = -1 ∧ ∀ e ∈ L.drop i, e.Proc ≠ p) ∨ ∃ j : Nat, i ≤ j ∧ ∃ h : j < L.length, r = (j : Int) ∧ L[j].Proc = p ∧ ∀ e ∈ (L.take j).drop i, e.Proc ≠ p)
 | 0, i, hk => ⟨-1, Ev.succ (Ev.ne (Ev.ret _)) (fun q => rfl), .inl ⟨rfl, by rw [y11 (by omega)]; simp⟩⟩
 | k + 1, i, hk => by
  have hi : i < L.length := by omega
  have he : L[((i : Int)).toNat]? = some L[i] := by simp [hi]
  by_cases c : L[i].Proc = p
  ·exact ⟨(i : Int), Ev.succ (Ev.po (Ev.po (Ev.po (Ev.opt he (Ev.pos c (Ev.ret _)))))) (fun q => rfl), .inr ⟨i, y13 _, hi, rfl, c, by rw [y11 (by rw [y19]; omega)]; simp⟩⟩
  ·obtain ⟨r, h, hr⟩ := zbn9 p0 p p2 p3 p4 p5 p6 z L x hL k (i + 1) (by omega)
   rw [show ((i + 1 : Nat) : Int) = wrp .i64 ((i : Int) + 1) by rw [zbkt (by omega) (by omega)]; omega] at h
   refine ⟨r, Ev.succ (Ev.po (Ev.po (Ev.po (Ev.opt he (Ev.neg c h))))) (fun q => rfl), ?_⟩
   rcases hr with ⟨h1, h2⟩ | ⟨j, h1, h2, h3, h4, h5⟩
   ·refine .inl ⟨h1, fun e hm => ?_⟩
    rw [y8 hi] at hm
    rcases List.mem_cons.1 hm with rfl | hm
    ·exact c
    ·exact h2 e hm
   ·refine .inr ⟨j, by omega, h2, h3, h4, fun e hm => ?_⟩
    have hi2 : i < (L.take j).length := by rw [y19]; omega
    rw [y8 hi2] at hm
    rcases List.mem_cons.1 hm with rfl | hm
    ·rw [List.getElem_take]; exact c
    ·exact h5 e hm
theorem zboa (p0 p p2 p3 p4 p5 p6 : Int) (z : Bool) (O : List zjn) (hO : O.length ≤ 1000000) : ∀ (k j i : Nat) (H : List zjn), O.length = j + k → H.length = O.length → i ≤ j → H.take i = filP p (O.take j) → H.drop j = O.drop j →
  ∃ xs, Ev (fun q => zj9 q (i : Int) (j : Int) p0 p p2 p3 p4 p5 p6 z H true) ((filP p O).length, xs, true) ∧ xs.take (filP p O).length = filP p O ∧ (filP p O).length ≤ xs.length
 | 0, j, i, H, hk, hl, hij, ht, hd => by
  have hO2 : O.take j = O := List.take_of_length_le (by omega)
  rw [hO2] at ht
  have hi : (filP p O).length = i := by rw [← ht, y19]; omega
  refine ⟨((H.take i) ++ (List.replicate (H.length - i) (⟨0, 0, 0⟩ : zjn))) ++ (H.drop (i + (H.length - i))), ?_, ?_, ?_⟩
  ·rw [hi]
   refine Ev.succ (Ev.ne (Ev.po (Ev.po (Ev.pos rfl (Ev.po (Ev.ite (fun _ => Ev.ret' ?_) fun _ => Ev.ret' ?_)))))) (fun q => rfl) <;> simp only [y26]
  ·rw [hi, y31, List.take_append_of_le_length (by rw [y19]; omega), List.take_take, Nat.min_self, ht]
  ·rw [hi]; simp only [y9, y19, List.length_replicate]; omega
 | k + 1, j, i, H, hk, hl, hij, ht, hd => by
  have hj : j < H.length := by omega
  have hjO : j < O.length := by omega
  have he : H[((j : Int)).toNat]? = some O[j] := by
   have := congrArg (fun l => l[0]?) hd
   simp only [y38, Nat.add_zero] at this
   rw [y26, this]; exact y6 hjO
  have hs := zbn7 p O j hjO
  have wj : wrp .i64 ((j : Int) + 1) = ((j + 1 : Nat) : Int) := by rw [zbkt (by omega) (by omega)]; omega
  have dr : ∀ {A B : List zjn}, A.drop j = B.drop j → A.drop (j + 1) = B.drop (j + 1) := fun {A B} h => by rw [← List.drop_drop, ← List.drop_drop, h]
  by_cases c : O[j].Proc = p
  ·rw [if_pos c, List.append_nil] at hs
   obtain ⟨xs, h1, h2⟩ := zboa p0 p p2 p3 p4 p5 p6 z O hO k (j + 1) i H (by omega) hl (by omega) (by rw [hs]; exact ht) (dr hd)
   rw [← wj] at h1
   exact ⟨xs, Ev.succ (Ev.po (Ev.po (Ev.po (Ev.opt he (Ev.pos c h1))))) (fun q => rfl), h2⟩
  ·rw [if_neg c] at hs
   have hi : i < H.length := by omega
   have hg : H[((i : Int)).toNat]? = some H[i] := by simp [hi]
   obtain ⟨xs, h1, h2⟩ := zboa p0 p p2 p3 p4 p5 p6 z O hO k (j + 1) (i + 1) (H.set i O[j]) (by omega) (by rw [List.length_set]; exact hl) (by omega) (by
    rw [hs, ← ht, List.take_add_one, List.take_set_of_le (y13 i), y22 hi]; rfl) (by
    rw [List.drop_set_of_lt (by omega)]; exact dr hd)
   have wi : wrp .i64 ((i : Int) + 1) = ((i + 1 : Nat) : Int) := by rw [zbkt (by omega) (by omega)]; omega
   rw [← wj, ← wi] at h1
   exact ⟨xs, Ev.succ (Ev.po (Ev.po (Ev.po (Ev.opt he (Ev.neg c (Ev.po (Ev.po (Ev.opt hg (Ev.pos rfl h1))))))))) (fun q => rfl), h2⟩
theorem zbob (p0 p p2 p3 p4 p5 p6 : Int) (z : Bool) (O : List zjn) (hO : O.length ≤ 1000000) :
  ∃ xs, Ev (fun q => zka q p0 p p2 p3 p4 p5 p6 z O true) ((filP p O).length, xs, true) ∧ xs.take (filP p O).length = filP p O ∧ (filP p O).length ≤ xs.length := by
 obtain ⟨r, h, hr⟩ := zbn9 p0 p p2 p3 p4 p5 p6 z O true hO O.length 0 (by omega)
 have h' : Ev (fun q => zj8 q p0 p p2 p3 p4 p5 p6 z O true) r := Ev.succ h (fun q => rfl)
 rcases hr with ⟨rfl, h2⟩ | ⟨j, _, h2, rfl, h4, h5⟩
 ·rw [y36] at h2
  rw [zbn8 h2]
  exact ⟨O, Ev.succ (Ev.bind h' (Ev.pos rfl (Ev.ret _))) (fun q => rfl), List.take_length, y13 _⟩
 ·rw [y36] at h5
  have hs := zbn7 p O j h2
  rw [if_pos h4, List.append_nil, zbn8 h5] at hs
  obtain ⟨xs, h1, h6⟩ := zboa p0 p p2 p3 p4 p5 p6 z O hO (O.length - (j + 1)) (j + 1) j O (by omega) rfl (by omega) hs.symm rfl
  rw [show ((j + 1 : Nat) : Int) = wrp .i64 ((j : Int) + 1) by rw [zbkt (by omega) (by omega)]; omega] at h1
  exact ⟨xs, Ev.succ (Ev.bind h' (Ev.neg (by omega) h1)) (fun q => rfl), h6⟩
def ixI (n k i : Nat) : Int := if n < k then ((i + n : Nat) : Int) else -1
theorem zboc (p0 p p2 p3 p4 p5 p6 : Int) (z : Bool) (xs : List zjn) (x : Bool) (M : List zjn) (hM : xs.take M.length = M) (hL : M.length ≤ 1000000) : ∀ (k i : Nat), M.length = i + k →
  Ev (fun q => zkb q M.length (M.length : Int) (i : Int) p0 p p2 p3 p4 p5 p6 z xs x) (ixI (atE p (M.drop i)) k i)
 | 0, i, hk => by
  refine Ev.succ (Ev.ne (Ev.ret' ?_)) (fun q => rfl)
  unfold ixI; rw [if_neg (by omega)]
 | k + 1, i, hk => by
  have hi : i < M.length := by omega
  have he : xs[((i : Int)).toNat]? = some M[i] := by
   have : (xs.take M.length)[i]? = M[i]? := by rw [hM]
   rw [y46, if_pos hi] at this
   rw [y26, this]; exact y6 hi
  rw [y8 hi]
  have ha : atE p (M[i] :: M.drop (i + 1)) = if p < M[i].Proc then 0 else atE p (M.drop (i + 1)) + 1 := rfl
  by_cases c : p < M[i].Proc
  ·rw [if_pos c] at ha
   rw [ha]; unfold ixI; rw [if_pos (by omega)]
   exact Ev.succ (Ev.po (Ev.po (Ev.po (Ev.opt he (Ev.pos c (Ev.ret' (by omega))))))) (fun q => rfl)
  ·rw [if_neg c] at ha
   rw [ha]
   have ih := zboc p0 p p2 p3 p4 p5 p6 z xs x M hM hL k (i + 1) (by omega)
   rw [show ((i + 1 : Nat) : Int) = wrp .i64 ((i : Int) + 1) by rw [zbkt (by omega) (by omega)]; omega] at ih
   refine Ev.succ (Ev.po (Ev.po (Ev.po (Ev.opt he (Ev.neg c (Ev.cast ih ?_)))))) (fun q => rfl)
   unfold ixI
   by_cases d : atE p (M.drop (i + 1)) < k
   ·rw [if_pos d, if_pos (by omega)]; omega
   ·rw [if_neg d, if_neg (by omega)]
theorem zbod (z : Bool) (M : List zjn) (at_ : Int) (e : zjn) (h0 : 0 ≤ at_) (h1 : at_ ≤ (M.length : Int)) (hL : M.length ≤ 1000000) : Ev (fun q => zj6 q ⟨z, true, M⟩ at_ ⟨false, true, [e]⟩) ⟨false, true, M.take at_.toNat ++ [e] ++ M.drop at_.toNat⟩ :=
 Ev.succ (g := fun _ => if insOk (⟨z, true, M⟩ : Ow zjn) at_ ⟨false, true, [e]⟩ then some (insR (⟨z, true, M⟩ : Ow zjn) at_ ⟨false, true, [e]⟩) else none) (Ev.pos ⟨rfl, h0, h1, rfl, by simp, by simp only [List.length_singleton]; omega⟩ (Ev.ret _)) (fun q => rfl)
theorem zboe (s : Sl zjn) (hz : s.z = true → s.l = []) (hL : s.l.length ≤ 1000000) (r : zjr) : Ev (fun q => zkd q s r) ⟨false, true, noteL s.l r.Proc r.Seq r.Resp⟩ := by
 obtain ⟨z, hC⟩ : ∃ z, Ev (fun q => zj5 q s) ⟨z, true, s.l⟩ := by
  by_cases c : s.z = true
  ·exact ⟨true, Ev.succ (Ev.pos c (Ev.ret' (by rw [hz c]))) (fun q => rfl)⟩
  ·exact ⟨false, Ev.succ (Ev.neg c (Ev.po (Ev.ret _))) (fun q => rfl)⟩
 obtain ⟨xs, h0, hx, hle⟩ := zbob r.Index r.Proc r.Seq r.Op.Code r.Op.A r.Op.B r.Resp z s.l hL
 have hM := zbn5 r.Proc s.l
 have h1 := zboc r.Index r.Proc r.Seq r.Op.Code r.Op.A r.Op.B r.Resp z xs true (filP r.Proc s.l) hx (by omega) (filP r.Proc s.l).length 0 (by omega)
 have h1' : Ev (fun q => zkc q (filP r.Proc s.l).length r.Index r.Proc r.Seq r.Op.Code r.Op.A r.Op.B r.Resp z xs true) _ := Ev.succ h1 (fun q => rfl)
 rw [y36] at h1'
 have hat := atE_le r.Proc (filP r.Proc s.l)
 unfold noteL
 rw [zbn3]
 refine Ev.succ (Ev.bind hC (Ev.bind h0 (Ev.bind h1' ?_))) (fun q => rfl)
 simp only
 rw [hx]
 unfold ixI
 by_cases d : atE r.Proc (filP r.Proc s.l) < (filP r.Proc s.l).length
 ·rw [if_pos d]
  have hI := zbod z (filP r.Proc s.l) ((0 + atE r.Proc (filP r.Proc s.l) : Nat) : Int) ⟨r.Proc, r.Seq, r.Resp⟩ (by omega) (by omega) (by omega)
  refine Ev.ne (Ev.pos trivial (Ev.bind hI (Ev.ret' ?_)))
  rw [y26, y41]
 ·rw [if_neg d]
  have hI := zbod z (filP r.Proc s.l) ((filP r.Proc s.l).length : Int) ⟨r.Proc, r.Seq, r.Resp⟩ (by omega) (by omega) (by omega)
  refine Ev.po (Ev.pos trivial (Ev.bind hI (Ev.ret' ?_)))
  rw [y26, show atE r.Proc (filP r.Proc s.l) = (filP r.Proc s.l).length by omega]
theorem zbof {l : List Int} {i j : Int} (h0 : 0 ≤ i) (h1 : i < j) (h2 : j ≤ l.length) (hl : l.length ≤ 1000000) : Ev (fun q => zkp q ⟨false, true, l⟩ i j) ⟨false, true, l.take i.toNat ++ l.drop j.toNat⟩ := by
 refine Ev.succ ?_ (fun q => rfl)
 refine Ev.pos h0 ?_
 refine Ev.pos (by omega) ?_
 refine Ev.pos (by simp only; omega) ?_
 refine Ev.neg (by omega) ?_
 refine Ev.pos (by simp only; omega) ?_
 refine Ev.neg (by simp) ?_
 refine Ev.pos (by omega) ?_
 refine Ev.pos (by simp only; omega) ?_
 refine Ev.pos (by simp only; omega) ?_
 refine Ev.pos rfl ?_
 refine Ev.pos (by simp only; omega) ?_
 refine Ev.pos (by simp only; omega) ?_
 refine Ev.ret' ?_
 congr 1
 have hm : (l.take i.toNat ++ l.drop j.toNat).length = i.toNat + (l.length - j.toNat) := by simp; omega
 rw [← hm]
 simp only [y31]
 rw [← y31 (l.take i.toNat) (l.drop j.toNat), List.take_left', List.take_left'] <;> simp
def findN (key : Int) : List Int → Nat
 | a :: _ :: l => if a < key then findN key l + 2 else 0
 | _ => 0
def isL (key : Int) : List Int → Bool
 | a :: _ :: l => if a < key then isL key l else decide (a = key)
 | _ => false
def hasL (key : Int) : List Int → Int
 | a :: b :: l => if a < key then hasL key l else if a = key then b else -1
 | _ => -1
def putL (key n : Int) : List Int → List Int
 | a :: b :: l => if a < key then a :: b :: putL key n l else if a = key then a :: n :: l else key :: n :: a :: b :: l
 | _ => [key, n]
def delL (key : Int) : List Int → List Int
 | a :: b :: l => if a < key then a :: b :: delL key l else if a = key then l else a :: b :: l
 | _ => []
/-- By pairs. -/
theorem zbog {P : List Int → Prop} (h0 : P []) (h2 : ∀ a b l, l.length % 2 = 0 → P l → P (a :: b :: l)) : ∀ l : List Int, l.length % 2 = 0 → P l
 | [], _ => h0
 | [a], h => by simp at h
 | a :: b :: l, h => h2 a b l (by simp only [y20] at h; omega) (zbog h0 h2 l (by simp only [y20] at h; omega))
theorem zboh (key : Int) : ∀ l : List Int, l.length % 2 = 0 → findN key l ≤ l.length ∧ (isL key l = true → findN key l + 2 ≤ l.length ∧ l[findN key l + 1]? = some (hasL key l)) ∧ (isL key l = false → hasL key l = -1) :=
 zbog (by simp [findN, isL, hasL]) fun a b l he ih => by
  simp only [findN, isL, hasL, y20]
  split
  ·refine ⟨by omega, fun h => ⟨by have := (ih.2.1 h).1; omega, ?_⟩, ih.2.2⟩
   rw [show findN key l + 2 + 1 = (findN key l + 1) + 2 by omega]
   simpa using (ih.2.1 h).2
  ·split
   ·rename_i e; simp [e]
   ·rename_i e; simp [e]
theorem put_is (key n : Int) : ∀ l : List Int, l.length % 2 = 0 → isL key l = true → l.set (findN key l + 1) n = putL key n l :=
 zbog (by simp [isL]) fun a b l he ih h => by
  simp only [findN, isL, putL] at h ⊢
  split at h
  ·rename_i c; rw [if_pos c, if_pos c, ← ih h]; rfl
  ·rename_i c; rw [if_neg c, if_neg c, if_pos (by simpa using h)]; rfl
theorem put_no (key n : Int) : ∀ l : List Int, l.length % 2 = 0 → isL key l = false → l.take (findN key l) ++ [key, n] ++ l.drop (findN key l) = putL key n l :=
 zbog (by simp [findN, putL]) fun a b l he ih h => by
  simp only [findN, isL, putL] at h ⊢
  split at h
  ·rename_i c; rw [if_pos c, if_pos c, ← ih h]; simp
  ·rename_i c; rw [if_neg c, if_neg c, if_neg (by simpa using h)]; simp
theorem del_is (key : Int) : ∀ l : List Int, l.length % 2 = 0 → isL key l = true → l.take (findN key l) ++ l.drop (findN key l + 2) = delL key l :=
 zbog (by simp [isL]) fun a b l he ih h => by
  simp only [findN, isL, delL] at h ⊢
  split at h
  ·rename_i c; rw [if_pos c, if_pos c, ← ih h]; simp
  ·rename_i c; rw [if_neg c, if_neg c, if_pos (by simpa using h)]; simp
theorem zboi (key n : Int) : ∀ l : List Int, l.length % 2 = 0 → (putL key n l).length = l.length + (if isL key l = true then 0 else 2) :=
 zbog (by simp [putL, isL]) fun a b l he ih => by
  simp only [putL, isL]
  split
  ·simp only [y20, ih]; omega
  ·split
   ·rename_i e; simp [e]
   ·rename_i e; simp [e]
theorem zboj (z : Bool) (L : List Int) (key : Int) (hL : L.length ≤ 1000000) (h2 : L.length % 2 = 0) : ∀ (k i : Nat), L.length = i + 2 * k →
  Ev (fun q => zkr q z L key (i : Int)) (((i + findN key (L.drop i) : Nat) : Int), isL key (L.drop i))
 | 0, i, hk => by
  rw [y11 (by omega)]
  exact Ev.succ (Ev.ne (Ev.ret _)) (fun q => rfl)
 | k + 1, i, hk => by
  have hi : i < L.length := by omega
  have hi1 : i + 1 < L.length := by omega
  have he : L[((i : Int)).toNat]? = some L[i] := by simp [hi]
  have hd : L.drop i = L[i] :: L[i + 1] :: L.drop (i + 2) := by rw [y8 hi, y8 hi1]
  rw [hd]
  by_cases c : L[i] < key
  ·have e1 : findN key (L[i] :: L[i + 1] :: L.drop (i + 2)) = findN key (L.drop (i + 2)) + 2 := by simp only [findN, if_pos c]
   have e2 : isL key (L[i] :: L[i + 1] :: L.drop (i + 2)) = isL key (L.drop (i + 2)) := by simp only [isL, if_pos c]
   rw [e1, e2]
   have ih := zboj z L key hL h2 k (i + 2) (by omega)
   rw [show ((i + 2 : Nat) : Int) = wrp .i64 ((i : Int) + 2) by rw [zbkt (by omega) (by omega)]; omega] at ih
   refine Ev.succ (Ev.po (Ev.po (Ev.opt he (Ev.pos c (Ev.cast ih ?_))))) (fun q => rfl)
   rw [show i + 2 + findN key (L.drop (i + 2)) = i + (findN key (L.drop (i + 2)) + 2) by omega]
  ·have e1 : findN key (L[i] :: L[i + 1] :: L.drop (i + 2)) = 0 := by simp only [findN, if_neg c]
   have e2 : isL key (L[i] :: L[i + 1] :: L.drop (i + 2)) = decide (L[i] = key) := by simp only [isL, if_neg c]
   rw [e1, e2]
   exact Ev.succ (Ev.po (Ev.po (Ev.opt he (Ev.neg c (Ev.ret' (by simp)))))) (fun q => rfl)
theorem zbok (s : Sl Int) (key : Int) (hL : s.l.length ≤ 1000000) (h2 : s.l.length % 2 = 0) : Ev (fun q => zks q s key) ((findN key s.l : Int), isL key s.l) := by
 have h := zboj s.z s.l key hL h2 (s.l.length / 2) 0 (by omega)
 rw [y36, y41] at h
 exact Ev.succ h (fun q => rfl)
theorem has_ev (s : Sl Int) (key : Int) (hL : s.l.length ≤ 1000000) (h2 : s.l.length % 2 = 0) : Ev (fun q => zkt q s key) (hasL key s.l) := by
 have hp := zboh key s.l h2
 refine Ev.succ (Ev.bind (zbok s key hL h2) (Ev.ite (fun c => ?_) fun c => Ev.ret' ?_)) (fun q => rfl)
 ·simp only at c
  have h1 := hp.2.1 c
  have w : wrp .i64 ((findN key s.l : Int) + 1) = ((findN key s.l + 1 : Nat) : Int) := by rw [zbkt (by omega) (by omega)]; omega
  exact Ev.pos (by simp only; rw [w]; omega) (Ev.opt (by simp only; rw [w, y26]; exact h1.2) (Ev.ret _))
 ·exact (hp.2.2 (by simpa using c)).symm
def putOk (key : Int) (l : List Int) : Bool := isL key l || decide (l.length < 128)
theorem put_ev (s : Sl Int) (hz : s.z = true → s.l = []) (key n : Int) (hL : s.l.length ≤ 1000000) (h2 : s.l.length % 2 = 0) : Ev (fun q => zkv q s key n) (if putOk key s.l = true then (⟨false, putL key n s.l⟩, true) else (s, false)) := by
 have hp := zboh key s.l h2
 obtain ⟨z, hC⟩ := zbmq s hz (by omega)
 by_cases c : isL key s.l = true
 ·have h1 := hp.2.1 c
  have hs : s.z = false := by
   by_cases e : s.z = true
   ·rw [hz e] at h1; simp at h1
   ·simpa using e
  have hC := zbmb s hs (by omega)
  have w : wrp .i64 ((findN key s.l : Int) + 1) = ((findN key s.l + 1 : Nat) : Int) := by rw [zbkt (by omega) (by omega)]; omega
  rw [if_pos (by unfold putOk; rw [c]; rfl)]
  refine Ev.succ (Ev.bind (zbok s key hL h2) (Ev.pos c (Ev.bind hC ?_))) (fun q => rfl)
  simp only
  rw [w]
  refine Ev.po (Ev.po (Ev.opt (by rw [y26]; exact h1.2) (Ev.pos trivial (Ev.ret' ?_))))
  rw [y26, put_is key n s.l h2 c]
 ·have c' : isL key s.l = false := by simpa using c
  by_cases d : s.l.length < 128
  ·rw [if_pos (by unfold putOk; rw [decide_eq_true d]; simp)]
   have hI : Ev (fun q => zku q ⟨z, true, s.l⟩ (findN key s.l : Int) ⟨false, true, [key, n]⟩) ⟨false, true, putL key n s.l⟩ := by
    refine Ev.succ (g := fun _ => if insOk (⟨z, true, s.l⟩ : Ow Int) (findN key s.l : Int) ⟨false, true, [key, n]⟩ then some (insR (⟨z, true, s.l⟩ : Ow Int) (findN key s.l : Int) ⟨false, true, [key, n]⟩) else none) (Ev.pos ⟨rfl, by omega, by simp only; omega, rfl, by simp, by simp only [y20, y24]; omega⟩ (Ev.ret' ?_)) (fun q => rfl)
    rw [← put_no key n s.l h2 c']; simp [insR]
   refine Ev.succ (Ev.bind (zbok s key hL h2) (Ev.neg (by simp only; rw [c']; simp) (Ev.ne (Ev.bind hC ?_)))) (fun q => rfl)
   exact Ev.bind hI (Ev.ret' rfl)
  ·rw [if_neg (by unfold putOk; rw [c', decide_eq_false d]; simp)]
   exact Ev.succ (Ev.bind (zbok s key hL h2) (Ev.neg (by simp only; rw [c']; simp) (Ev.po (Ev.ret _)))) (fun q => rfl)
def numV (k : Int) (l : List Int) (o : zjq) : List Int × Int :=
 if o.Code = 7 then (l, l.headD 0) else if k = 0 ∧ o.Code = 1 then ([cutI (wrp .i64 (l.headD 0 + cutI o.A))], l.headD 0) else if k = 1 ∧ o.Code = 2 then ([cutI o.A], l.headD 0) else (l, 0)
def linV (k : Int) (l : List Int) (o : zjq) : List Int × Int :=
 if o.Code = 7 then (l, (l.length : Int)) else if o.Code = 3 then (if (l.length : Int) < 64 then (l ++ [cutI o.A], (l.length : Int) + 1) else (l, -1))
 else if o.Code = 4 then (if (l.length : Int) = 0 then (l, -1) else if k = 2 then (l.drop 1, l.headD 0) else (l.take (l.length - 1), (l[l.length - 1]?).getD 0)) else (l, 0)
def stoV (l : List Int) (o : zjq) : List Int × Int :=
 if o.Code = 7 ∨ o.Code = 6 ∨ o.Code = 5 then (if o.A < 0 ∨ 255 < o.A then (l, -1) else if o.Code = 6 ∧ isL o.A l = true then (delL o.A l, hasL o.A l)
  else if o.Code = 5 then (if putOk o.A l = true then (putL o.A (cutI o.B) l, hasL o.A l) else (l, -2)) else (l, hasL o.A l)) else (l, 0)
def nz (n : Int) : Int := if n < 0 then 0 else n
def movV (l : List Int) (o : zjq) : List Int × Int :=
 if o.A < 0 ∨ 65536 ≤ o.A ∨ o.B < 0 then (l, 0) else if hasL (wrp .i64 (Int.tdiv o.A 256)) l < o.B then (l, 0) else if wrp .i64 (Int.tdiv o.A 256) = Int.tmod o.A 256 then (l, 1)
 else if putOk (Int.tmod o.A 256) l = true then (if 1099511627776 < wrp .i64 (nz (hasL (Int.tmod o.A 256) l) + o.B) then (l, 0)
  else if putOk (wrp .i64 (Int.tdiv o.A 256)) (putL (Int.tmod o.A 256) (wrp .i64 (nz (hasL (Int.tmod o.A 256) l) + o.B)) l) = true then (putL (wrp .i64 (Int.tdiv o.A 256)) (wrp .i64 (hasL (wrp .i64 (Int.tdiv o.A 256)) l - o.B)) (putL (Int.tmod o.A 256) (wrp .i64 (nz (hasL (Int.tmod o.A 256) l) + o.B)) l), 1)
  else (putL (Int.tmod o.A 256) (wrp .i64 (nz (hasL (Int.tmod o.A 256) l) + o.B)) l, 1)) else (l, 0)
def ledV (l : List Int) (o : zjq) : List Int × Int :=
 if o.Code = 9 then movV l o else if o.Code = 7 then (if o.A < 0 ∨ 255 < o.A then (l, -1) else (l, hasL o.A l))
 else if o.Code = 8 then (if o.A < 0 ∨ 255 < o.A ∨ o.B < 0 then (l, -1) else if putOk o.A l = true then (putL o.A (cutI (wrp .i64 (nz (hasL o.A l) + cutI o.B))) l, cutI (wrp .i64 (nz (hasL o.A l) + cutI o.B))) else (l, -2)) else (l, 0)
/-- What an operation leaves, and what comes of it. -/
def stepV (s : zjm) (o : zjq) : (List Int × Bool × Int) × Int :=
 if mayS s = true then (if s.Sealed = true then ((s.L.l, s.Sealed, s.To), -1125899906842624) else if o.Code = 10 then ((s.L.l, true, if 0 ≤ o.A ∧ o.A < 3 then o.A else s.To), 0)
  else if s.Kind = 0 ∨ s.Kind = 1 then (((numV s.Kind s.L.l o).1, s.Sealed, s.To), (numV s.Kind s.L.l o).2)
  else if s.Kind = 2 ∨ s.Kind = 3 then (((linV s.Kind s.L.l o).1, s.Sealed, s.To), (linV s.Kind s.L.l o).2)
  else if s.Kind = 4 then (((stoV s.L.l o).1, s.Sealed, s.To), (stoV s.L.l o).2) else (((ledV s.L.l o).1, s.Sealed, s.To), (ledV s.L.l o).2))
 else ((s.L.l, s.Sealed, s.To), 0)
def wS (s : zjm) (z : Bool) (l : List Int) : zjm := ⟨s.Kind, ⟨z, l⟩, s.Sealed, s.To⟩
/-- A function comes to a list and a number. -/
def Comes (f : Nat → zjm → zjq → Option (zjm × Int)) (s : zjm) (o : zjq) (r : List Int × Int) : Prop := ∃ z, (z = true → r.1 = []) ∧ Ev (fun q => f q s o) (wS s z r.1, r.2)
theorem zbol (s : zjm) (hz : s.L.z = true → s.L.l = []) (h1 : s.L.l.length = 1) (o : zjq) : Comes zko s o (numV s.Kind s.L.l o) := by
 obtain ⟨n, hn⟩ : ∃ n, s.L.l = [n] := List.length_eq_one_iff.1 h1
 have hg : s.L.l[0]? = some n := by rw [hn]; rfl
 have hh : s.L.l.headD 0 = n := by rw [hn]; rfl
 unfold Comes numV
 rw [hh]
 by_cases c7 : o.Code = 7
 ·rw [if_pos c7]
  exact ⟨s.L.z, hz, Ev.succ (Ev.opt hg (Ev.pos c7 (Ev.ret _))) (fun q => rfl)⟩
 ·rw [if_neg c7]
  by_cases k0 : s.Kind = 0
  ·by_cases c1 : o.Code = 1
   ·rw [if_pos ⟨k0, c1⟩]
    refine ⟨false, fun h => (by cases h), Ev.succ (Ev.opt hg (Ev.neg c7 (Ev.pos k0 (Ev.pos c1 (Ev.bind (zbk8 _) ?_))))) (fun q => rfl)⟩
    exact Ev.bind (zbk8 (wrp .i64 (n + cutI o.A))) (Ev.ret' rfl)
   ·rw [if_neg (fun h => c1 h.2), if_neg (fun h => by omega)]
    exact ⟨s.L.z, hz, Ev.succ (Ev.opt hg (Ev.neg c7 (Ev.pos k0 (Ev.neg c1 (Ev.ne (Ev.ret _)))))) (fun q => rfl)⟩
  ·rw [if_neg (fun h => k0 h.1)]
   by_cases k1 : s.Kind = 1
   ·by_cases c2 : o.Code = 2
    ·rw [if_pos ⟨k1, c2⟩]
     refine ⟨false, fun h => (by cases h), Ev.succ (Ev.opt hg (Ev.neg c7 (Ev.neg k0 (Ev.pos k1 (Ev.pos c2 ?_))))) (fun q => rfl)⟩
     exact Ev.bind (zbk8 o.A) (Ev.ret' rfl)
    ·rw [if_neg (fun h => c2 h.2)]
     exact ⟨s.L.z, hz, Ev.succ (Ev.opt hg (Ev.neg c7 (Ev.neg k0 (Ev.pos k1 (Ev.neg c2 (Ev.ret _)))))) (fun q => rfl)⟩
   ·rw [if_neg (fun h => k1 h.1)]
    exact ⟨s.L.z, hz, Ev.succ (Ev.opt hg (Ev.neg c7 (Ev.neg k0 (Ev.neg k1 (Ev.ret _))))) (fun q => rfl)⟩
theorem zbom (s : zjm) (hz : s.L.z = true → s.L.l = []) (hL : s.L.l.length ≤ 1000000) (o : zjq) : Comes zkq s o (linV s.Kind s.L.l o) := by
 unfold Comes linV
 by_cases c7 : o.Code = 7
 ·rw [if_pos c7]
  exact ⟨s.L.z, hz, Ev.succ (Ev.pos c7 (Ev.ret _)) (fun q => rfl)⟩
 ·rw [if_neg c7]
  by_cases c3 : o.Code = 3
  ·rw [if_pos c3]
   by_cases d : (s.L.l.length : Int) < 64
   ·rw [if_pos d]
    obtain ⟨z, hC⟩ := zbmq s.L hz (by omega)
    refine ⟨false, fun h => (by cases h), Ev.succ (Ev.neg c7 (Ev.pos c3 (Ev.pos d (Ev.bind hC (Ev.bind (zbk8 _) (Ev.pos (by simp only; omega) ?_)))))) (fun q => rfl)⟩
    exact Ev.ret' (by rw [zbkt (by omega) (by omega)]; rfl)
   ·rw [if_neg d]
    exact ⟨s.L.z, hz, Ev.succ (Ev.neg c7 (Ev.pos c3 (Ev.neg d (Ev.ret _)))) (fun q => rfl)⟩
  ·rw [if_neg c3]
   by_cases c4 : o.Code = 4
   ·rw [if_pos c4]
    by_cases d : (s.L.l.length : Int) = 0
    ·rw [if_pos d]
     exact ⟨s.L.z, hz, Ev.succ (Ev.neg c7 (Ev.neg c3 (Ev.pos c4 (Ev.pos d (Ev.ret _))))) (fun q => rfl)⟩
    ·rw [if_neg d]
     have hs : s.L.z = false := by
      by_cases e : s.L.z = true
      ·rw [hz e] at d; simp at d
      ·simpa using e
     have hC := zbmb s.L hs (by omega)
     by_cases k2 : s.Kind = 2
     ·rw [if_pos k2]
      have hg : s.L.l[0]? = some (s.L.l.headD 0) := by
       cases hl : s.L.l with
       | nil => rw [hl] at d; simp at d
       | cons a t => rfl
      have hD := zbof (l := s.L.l) (i := 0) (j := wrp .i64 1) (by omega) (by rw [zbkt (by omega) (by omega)]; omega) (by rw [zbkt (by omega) (by omega)]; omega) hL
      refine ⟨false, fun h => (by cases h), Ev.succ (Ev.neg c7 (Ev.neg c3 (Ev.pos c4 (Ev.neg d (Ev.pos k2 (Ev.opt hg (Ev.bind hC ?_))))))) (fun q => rfl)⟩
      exact Ev.bind hD (Ev.ret' (by rw [zbkt (by omega) (by omega)]; rfl))
     ·rw [if_neg k2]
      have w1 : wrp .i64 ((s.L.l.length : Int) - 1) = ((s.L.l.length - 1 : Nat) : Int) := by rw [zbkt (by omega) (by omega)]; omega
      have hg : s.L.l[s.L.l.length - 1]? = some ((s.L.l[s.L.l.length - 1]?).getD 0) := by
       rw [y6 (by omega)]; rfl
      have w2 : wrp .i64 (((s.L.l.length - 1 : Nat) : Int) + 1) = (s.L.l.length : Int) := by rw [zbkt (by omega) (by omega)]; omega
      have hD := zbof (l := s.L.l) (i := ((s.L.l.length - 1 : Nat) : Int)) (j := (s.L.l.length : Int)) (by omega) (by omega) (by omega) hL
      refine ⟨false, fun h => (by cases h), Ev.succ (Ev.neg c7 (Ev.neg c3 (Ev.pos c4 (Ev.neg d (Ev.neg k2 ?_))))) (fun q => rfl)⟩
      rw [w1, w2]
      refine Ev.po (Ev.opt (by rw [y26]; exact hg) (Ev.bind hC ?_))
      exact Ev.bind hD (Ev.ret' (by rw [y26, y26, List.drop_length, List.append_nil]; rfl))
   ·rw [if_neg c4]
    exact ⟨s.L.z, hz, Ev.succ (Ev.neg c7 (Ev.neg c3 (Ev.neg c4 (Ev.ret _)))) (fun q => rfl)⟩
theorem zbon (s : zjm) (hz : s.L.z = true → s.L.l = []) (hL : s.L.l.length ≤ 1000000) (h2 : s.L.l.length % 2 = 0) (o : zjq) : Comes zkw s o (stoV s.L.l o) := by
 have hH := has_ev s.L o.A hL h2
 have hF := zbok s.L o.A hL h2
 have hp := zboh o.A s.L.l h2
 have hP := put_ev s.L hz o.A (cutI o.B) hL h2
 -- what is done where the operation is to put
 have put : ∀ {K : Nat → Option (zjm × Int)}, K = (fun q => (zjt q o.B).bind fun r5 => ((zkv q s.L o.A r5).bind fun r6 => (if r6.2 = true then (some ((⟨s.Kind, r6.1, s.Sealed, s.To⟩ : zjm), hasL o.A s.L.l)) else (some (s, (-2)))))) →
   ∃ z, (z = true → (if putOk o.A s.L.l = true then (putL o.A (cutI o.B) s.L.l, hasL o.A s.L.l) else (s.L.l, -2)).1 = []) ∧ Ev K (wS s z (if putOk o.A s.L.l = true then (putL o.A (cutI o.B) s.L.l, hasL o.A s.L.l) else (s.L.l, -2)).1, (if putOk o.A s.L.l = true then (putL o.A (cutI o.B) s.L.l, hasL o.A s.L.l) else (s.L.l, -2)).2) := by
  rintro K rfl
  by_cases c : putOk o.A s.L.l = true
  ·rw [if_pos c] at hP ⊢
   refine ⟨false, fun h => (by cases h), Ev.bind (zbk8 _) (Ev.bind hP (Ev.pos rfl ?_))⟩
   exact Ev.ret' rfl
  ·rw [if_neg c] at hP ⊢
   refine ⟨s.L.z, hz, Ev.bind (zbk8 _) (Ev.bind hP (Ev.neg (by simp) ?_))⟩
   exact Ev.ret' rfl
 have del : isL o.A s.L.l = true → ∀ {K : Nat → Option (zjm × Int)}, K = (fun q => (zj4 q s.L).bind fun r3 => ((zkp q r3 (findN o.A s.L.l : Int) (wrp .i64 ((findN o.A s.L.l : Int) + 2))).bind fun r4 => (some ((⟨s.Kind, ⟨r4.n, r4.xs⟩, s.Sealed, s.To⟩ : zjm), hasL o.A s.L.l)))) →
   Ev K (wS s false (delL o.A s.L.l), hasL o.A s.L.l) := by
  intro c K hK
  subst hK
  have h1 := hp.2.1 c
  have hs : s.L.z = false := by
   by_cases e : s.L.z = true
   ·rw [hz e] at h1; simp at h1
   ·simpa using e
  have w : wrp .i64 ((findN o.A s.L.l : Int) + 2) = ((findN o.A s.L.l + 2 : Nat) : Int) := by rw [zbkt (by omega) (by omega)]; omega
  have hD := zbof (l := s.L.l) (i := (findN o.A s.L.l : Int)) (j := ((findN o.A s.L.l + 2 : Nat) : Int)) (by omega) (by omega) (by omega) hL
  rw [y26, y26, del_is o.A s.L.l h2 c] at hD
  rw [w]
  refine Ev.bind (zbmb s.L hs (by omega)) ?_
  exact Ev.bind hD (Ev.ret' rfl)
 unfold Comes stoV
 by_cases c7 : o.Code = 7
 ·rw [if_pos (.inl c7)]
  by_cases a0 : o.A < 0
  ·rw [if_pos (.inl a0)]
   exact ⟨s.L.z, hz, Ev.succ (Ev.pos c7 (Ev.pos a0 (Ev.ret _))) (fun q => rfl)⟩
  ·by_cases a1 : 255 < o.A
   ·rw [if_pos (.inr a1)]
    exact ⟨s.L.z, hz, Ev.succ (Ev.pos c7 (Ev.neg a0 (Ev.pos a1 (Ev.ret _)))) (fun q => rfl)⟩
   ·rw [if_neg (by omega), if_neg (fun h => by omega), if_neg (by omega)]
    refine ⟨s.L.z, hz, Ev.succ (Ev.pos c7 (Ev.neg a0 (Ev.neg a1 (Ev.bind hH (Ev.bind hF (Ev.ne (Ev.neg (by omega) ?_))))))) (fun q => rfl)⟩
    exact Ev.ret' rfl
 ·by_cases c6 : o.Code = 6
  ·rw [if_pos (.inr (.inl c6))]
   by_cases a0 : o.A < 0
   ·rw [if_pos (.inl a0)]
    exact ⟨s.L.z, hz, Ev.succ (Ev.neg c7 (Ev.pos c6 (Ev.pos a0 (Ev.ret _)))) (fun q => rfl)⟩
   ·by_cases a1 : 255 < o.A
    ·rw [if_pos (.inr a1)]
     exact ⟨s.L.z, hz, Ev.succ (Ev.neg c7 (Ev.pos c6 (Ev.neg a0 (Ev.pos a1 (Ev.ret _))))) (fun q => rfl)⟩
    ·rw [if_neg (show ¬ (o.A < 0 ∨ 255 < o.A) by omega)]
     by_cases d : isL o.A s.L.l = true
     ·rw [if_pos ⟨c6, d⟩]
      refine ⟨false, fun h => (by cases h), Ev.succ (Ev.neg c7 (Ev.pos c6 (Ev.neg a0 (Ev.neg a1 (Ev.bind hH (Ev.bind hF (Ev.pos d ?_))))))) (fun q => rfl)⟩
      exact del d rfl
     ·rw [if_neg (fun h => d h.2), if_neg (by omega)]
      refine ⟨s.L.z, hz, Ev.succ (Ev.neg c7 (Ev.pos c6 (Ev.neg a0 (Ev.neg a1 (Ev.bind hH (Ev.bind hF (Ev.neg d (Ev.neg (by omega) ?_)))))))) (fun q => rfl)⟩
      exact Ev.ret' rfl
  ·by_cases c5 : o.Code = 5
   ·rw [if_pos (.inr (.inr c5))]
    by_cases a0 : o.A < 0
    ·rw [if_pos (.inl a0)]
     exact ⟨s.L.z, hz, Ev.succ (Ev.neg c7 (Ev.neg c6 (Ev.pos c5 (Ev.pos a0 (Ev.ret _))))) (fun q => rfl)⟩
    ·by_cases a1 : 255 < o.A
     ·rw [if_pos (.inr a1)]
      exact ⟨s.L.z, hz, Ev.succ (Ev.neg c7 (Ev.neg c6 (Ev.pos c5 (Ev.neg a0 (Ev.pos a1 (Ev.ret _)))))) (fun q => rfl)⟩
     ·rw [if_neg (show ¬ (o.A < 0 ∨ 255 < o.A) by omega), if_neg (fun h => by omega), if_pos c5]
      obtain ⟨z, h3, h4⟩ := put rfl
      refine ⟨z, h3, Ev.succ (Ev.neg c7 (Ev.neg c6 (Ev.pos c5 (Ev.neg a0 (Ev.neg a1 (Ev.bind hH (Ev.bind hF ?_))))))) (fun q => rfl)⟩
      exact h4
   ·rw [if_neg (by omega)]
    exact ⟨s.L.z, hz, Ev.succ (Ev.neg c7 (Ev.neg c6 (Ev.neg c5 (Ev.ret _)))) (fun q => rfl)⟩
theorem zboo (s : zjm) (hz : s.L.z = true → s.L.l = []) (hL : s.L.l.length ≤ 900000) (h2 : s.L.l.length % 2 = 0) (o : zjq) : Comes zkx s o (movV s.L.l o) := by
 unfold Comes movV
 by_cases a0 : o.A < 0
 ·rw [if_pos (.inl a0)]
  exact ⟨s.L.z, hz, Ev.succ (Ev.pos a0 (Ev.ret _)) (fun q => rfl)⟩
 by_cases a1 : 65536 ≤ o.A
 ·rw [if_pos (.inr (.inl a1))]
  exact ⟨s.L.z, hz, Ev.succ (Ev.neg a0 (Ev.pos a1 (Ev.ret _))) (fun q => rfl)⟩
 by_cases b0 : o.B < 0
 ·rw [if_pos (.inr (.inr b0))]
  exact ⟨s.L.z, hz, Ev.succ (Ev.neg a0 (Ev.neg a1 (Ev.pos b0 (Ev.ret _)))) (fun q => rfl)⟩
 rw [if_neg (show ¬ (o.A < 0 ∨ 65536 ≤ o.A ∨ o.B < 0) by omega)]
 generalize hf : wrp .i64 (Int.tdiv o.A 256) = f
 generalize ht : Int.tmod o.A 256 = t
 have start : ∀ {r : zjm × Int}, Ev (fun q => (if hasL f s.L.l < o.B then (some (s, 0)) else (if f = t then (some (s, 1)) else ((zkv q s.L t (wrp .i64 (nz (hasL t s.L.l) + o.B))).bind fun r3 => (if r3.2 = true then (if 1099511627776 < (wrp .i64 (nz (hasL t s.L.l) + o.B)) then (some (s, 0)) else ((zkv q r3.1 f (wrp .i64 (hasL f s.L.l - o.B))).bind fun r4 => (some ((⟨s.Kind, r4.1, s.Sealed, s.To⟩ : zjm), 1)))) else (some (s, 0))))))) r → Ev (fun q => zkx q s o) r := fun h => by
  have hf' := has_ev s.L f (by omega) h2
  have ht' := has_ev s.L t (by omega) h2
  subst hf; subst ht
  refine Ev.succ (Ev.neg a0 (Ev.neg a1 (Ev.neg b0 (Ev.bind hf' (Ev.bind ht' ?_))))) (fun q => rfl)
  exact h
 by_cases c1 : hasL f s.L.l < o.B
 ·rw [if_pos c1]
  exact ⟨s.L.z, hz, start (Ev.pos c1 (Ev.ret _))⟩
 rw [if_neg c1]
 by_cases c2 : f = t
 ·rw [if_pos c2]
  exact ⟨s.L.z, hz, start (Ev.neg c1 (Ev.pos c2 (Ev.ret _)))⟩
 rw [if_neg c2]
 have hP := put_ev s.L hz t (wrp .i64 (nz (hasL t s.L.l) + o.B)) (by omega) h2
 generalize wrp .i64 (nz (hasL t s.L.l) + o.B) = n at hP start ⊢
 by_cases c3 : putOk t s.L.l = true
 ·rw [if_pos c3] at hP ⊢
  by_cases c4 : 1099511627776 < n
  ·rw [if_pos c4]
   refine ⟨s.L.z, hz, start (Ev.neg c1 (Ev.neg c2 (Ev.bind hP (Ev.pos rfl (Ev.pos c4 ?_)))))⟩
   exact Ev.ret _
  ·rw [if_neg c4]
   have hl := zboi t n s.L.l h2
   have he : (putL t n s.L.l).length % 2 = 0 := by rw [hl]; split <;> omega
   have hl2 : (putL t n s.L.l).length ≤ 1000000 := by rw [hl]; split <;> omega
   have hQ := put_ev ⟨false, putL t n s.L.l⟩ (fun h => by cases h) f (wrp .i64 (hasL f s.L.l - o.B)) hl2 he
   simp only at hQ
   by_cases c5 : putOk f (putL t n s.L.l) = true
   ·rw [if_pos c5] at hQ ⊢
    refine ⟨false, fun h => (by cases h), start (Ev.neg c1 (Ev.neg c2 (Ev.bind hP (Ev.pos rfl (Ev.neg c4 ?_)))))⟩
    exact Ev.bind hQ (Ev.ret' rfl)
   ·rw [if_neg c5] at hQ ⊢
    refine ⟨false, fun h => (by cases h), start (Ev.neg c1 (Ev.neg c2 (Ev.bind hP (Ev.pos rfl (Ev.neg c4 ?_)))))⟩
    exact Ev.bind hQ (Ev.ret' rfl)
 ·rw [if_neg c3] at hP ⊢
  refine ⟨s.L.z, hz, start (Ev.neg c1 (Ev.neg c2 (Ev.bind hP (Ev.neg (by simp) ?_))))⟩
  exact Ev.ret _
theorem zbop (s : zjm) (hz : s.L.z = true → s.L.l = []) (hL : s.L.l.length ≤ 900000) (h2 : s.L.l.length % 2 = 0) (o : zjq) : Comes zky s o (ledV s.L.l o) := by
 unfold ledV
 by_cases c9 : o.Code = 9
 ·rw [if_pos c9]
  obtain ⟨z, h1, h3⟩ := zboo s hz hL h2 o
  refine ⟨z, h1, Ev.succ (Ev.pos c9 (Ev.bind h3 ?_)) (fun q => rfl)⟩
  exact Ev.ret' rfl
 unfold Comes
 rw [if_neg c9]
 have hH := has_ev s.L o.A (by omega) h2
 by_cases c7 : o.Code = 7
 ·rw [if_pos c7]
  by_cases a0 : o.A < 0
  ·rw [if_pos (.inl a0)]
   exact ⟨s.L.z, hz, Ev.succ (Ev.neg c9 (Ev.pos c7 (Ev.pos a0 (Ev.ret _)))) (fun q => rfl)⟩
  ·by_cases a1 : 255 < o.A
   ·rw [if_pos (.inr a1)]
    exact ⟨s.L.z, hz, Ev.succ (Ev.neg c9 (Ev.pos c7 (Ev.neg a0 (Ev.pos a1 (Ev.ret _))))) (fun q => rfl)⟩
   ·rw [if_neg (by omega)]
    refine ⟨s.L.z, hz, Ev.succ (Ev.neg c9 (Ev.pos c7 (Ev.neg a0 (Ev.neg a1 (Ev.bind hH ?_))))) (fun q => rfl)⟩
    exact Ev.ret' rfl
 ·rw [if_neg c7]
  by_cases c8 : o.Code = 8
  ·rw [if_pos c8]
   by_cases a0 : o.A < 0
   ·rw [if_pos (.inl a0)]
    exact ⟨s.L.z, hz, Ev.succ (Ev.neg c9 (Ev.neg c7 (Ev.pos c8 (Ev.pos a0 (Ev.ret _))))) (fun q => rfl)⟩
   ·by_cases a1 : 255 < o.A
    ·rw [if_pos (.inr (.inl a1))]
     exact ⟨s.L.z, hz, Ev.succ (Ev.neg c9 (Ev.neg c7 (Ev.pos c8 (Ev.neg a0 (Ev.pos a1 (Ev.ret _)))))) (fun q => rfl)⟩
    ·by_cases b0 : o.B < 0
     ·rw [if_pos (.inr (.inr b0))]
      exact ⟨s.L.z, hz, Ev.succ (Ev.neg c9 (Ev.neg c7 (Ev.pos c8 (Ev.neg a0 (Ev.neg a1 (Ev.pos b0 (Ev.ret _))))))) (fun q => rfl)⟩
     ·rw [if_neg (show ¬ (o.A < 0 ∨ 255 < o.A ∨ o.B < 0) by omega)]
      have hP := put_ev s.L hz o.A (cutI (wrp .i64 (nz (hasL o.A s.L.l) + cutI o.B))) (by omega) h2
      by_cases d : putOk o.A s.L.l = true
      ·rw [if_pos d] at hP ⊢
       refine ⟨false, fun h => (by cases h), Ev.succ (Ev.neg c9 (Ev.neg c7 (Ev.pos c8 (Ev.neg a0 (Ev.neg a1 (Ev.neg b0 (Ev.bind hH (Ev.bind (zbk8 o.B) (Ev.bind (zbk8 _) ?_))))))))) (fun q => rfl)⟩
       refine Ev.bind hP (Ev.pos rfl ?_)
       exact Ev.ret' rfl
      ·rw [if_neg d] at hP ⊢
       refine ⟨s.L.z, hz, Ev.succ (Ev.neg c9 (Ev.neg c7 (Ev.pos c8 (Ev.neg a0 (Ev.neg a1 (Ev.neg b0 (Ev.bind hH (Ev.bind (zbk8 o.B) (Ev.bind (zbk8 _) ?_))))))))) (fun q => rfl)⟩
       refine Ev.bind hP (Ev.neg (by simp) ?_)
       exact Ev.ret' rfl
  ·rw [if_neg c8]
   exact ⟨s.L.z, hz, Ev.succ (Ev.neg c9 (Ev.neg c7 (Ev.neg c8 (Ev.ret _)))) (fun q => rfl)⟩
theorem zboq {k : Int} {l : List Int} (h : kindOk k l = true) (h0 : ¬ (k = 0 ∨ k = 1)) (h2 : ¬ (k = 2 ∨ k = 3)) : l.length % 2 = 0 := by
 unfold kindOk at h
 rw [if_neg h0, if_neg h2] at h
 split at h
 ·simp only [pairsOk, y5, decide_eq_true_eq] at h; exact h.2.1
 ·split at h
  ·simp only [pairsOk, y5, decide_eq_true_eq] at h; exact h.2.1
  ·cases h
theorem zbor {k : Int} {l : List Int} (h : kindOk k l = true) (h0 : k = 0 ∨ k = 1) : l.length = 1 := by
 unfold kindOk at h
 rw [if_pos h0, decide_eq_true_eq] at h; exact h.1
def stV (s : zjm) (z : Bool) (r : (List Int × Bool × Int) × Int) : zjm × Int := (⟨s.Kind, ⟨z, r.1.1⟩, r.1.2.1, r.1.2.2⟩, r.2)
theorem zbos (s : zjm) (hz : s.L.z = true → s.L.l = []) (hL : s.L.l.length ≤ 900000) (o : zjq) : ∃ z, (z = true → (stepV s o).1.1 = []) ∧ Ev (fun q => zkz q s o) (stV s z (stepV s o)) := by
 have hM := zbmi s (by omega)
 unfold stepV stV
 by_cases m : mayS s = true
 ·rw [if_pos m]
  rw [m] at hM
  have hk := (zbmu m).2.2.2
  by_cases hs : s.Sealed = true
  ·rw [if_pos hs]
   exact ⟨s.L.z, hz, Ev.succ (Ev.bind hM (Ev.pos rfl (Ev.pos hs (Ev.ret _)))) (fun q => rfl)⟩
  rw [if_neg hs]
  by_cases c : o.Code = 10
  ·rw [if_pos c]
   refine ⟨s.L.z, hz, Ev.succ (Ev.bind hM (Ev.pos rfl (Ev.neg hs (Ev.pos c (Ev.ite (fun a0 => Ev.ite (fun a1 => Ev.ret' ?_) fun a1 => Ev.ret' ?_) fun a0 => Ev.ret' ?_))))) (fun q => rfl)⟩
   ·rw [if_pos ⟨a0, a1⟩]
   ·rw [if_neg (fun h => a1 h.2)]
   ·rw [if_neg (fun h => a0 h.1)]
  rw [if_neg c]
  by_cases k0 : s.Kind = 0
  ·obtain ⟨z, h1, h3⟩ := zbol s hz (zbor hk (.inl k0)) o
   rw [if_pos (show s.Kind = 0 ∨ s.Kind = 1 from .inl k0)]
   refine ⟨z, h1, Ev.succ (Ev.bind hM (Ev.pos rfl (Ev.neg hs (Ev.neg c (Ev.pos k0 (Ev.bind h3 ?_)))))) (fun q => rfl)⟩
   exact Ev.ret' rfl
  by_cases k1 : s.Kind = 1
  ·obtain ⟨z, h1, h3⟩ := zbol s hz (zbor hk (.inr k1)) o
   rw [if_pos (show s.Kind = 0 ∨ s.Kind = 1 from .inr k1)]
   refine ⟨z, h1, Ev.succ (Ev.bind hM (Ev.pos rfl (Ev.neg hs (Ev.neg c (Ev.neg k0 (Ev.pos k1 (Ev.bind h3 ?_))))))) (fun q => rfl)⟩
   exact Ev.ret' rfl
  rw [if_neg (show ¬ (s.Kind = 0 ∨ s.Kind = 1) by omega)]
  by_cases k2 : s.Kind = 2
  ·obtain ⟨z, h1, h3⟩ := zbom s hz (by omega) o
   rw [if_pos (show s.Kind = 2 ∨ s.Kind = 3 from .inl k2)]
   refine ⟨z, h1, Ev.succ (Ev.bind hM (Ev.pos rfl (Ev.neg hs (Ev.neg c (Ev.neg k0 (Ev.neg k1 (Ev.pos k2 (Ev.bind h3 ?_)))))))) (fun q => rfl)⟩
   exact Ev.ret' rfl
  by_cases k3 : s.Kind = 3
  ·obtain ⟨z, h1, h3⟩ := zbom s hz (by omega) o
   rw [if_pos (show s.Kind = 2 ∨ s.Kind = 3 from .inr k3)]
   refine ⟨z, h1, Ev.succ (Ev.bind hM (Ev.pos rfl (Ev.neg hs (Ev.neg c (Ev.neg k0 (Ev.neg k1 (Ev.neg k2 (Ev.pos k3 (Ev.bind h3 ?_))))))))) (fun q => rfl)⟩
   exact Ev.ret' rfl
  rw [if_neg (show ¬ (s.Kind = 2 ∨ s.Kind = 3) by omega)]
  have h2 := zboq hk (by omega) (by omega)
  by_cases k4 : s.Kind = 4
  ·obtain ⟨z, h1, h3⟩ := zbon s hz (by omega) h2 o
   rw [if_pos k4]
   refine ⟨z, h1, Ev.succ (Ev.bind hM (Ev.pos rfl (Ev.neg hs (Ev.neg c (Ev.neg k0 (Ev.neg k1 (Ev.neg k2 (Ev.neg k3 (Ev.pos k4 (Ev.bind h3 ?_)))))))))) (fun q => rfl)⟩
   exact Ev.ret' rfl
  ·obtain ⟨z, h1, h3⟩ := zbop s hz hL h2 o
   rw [if_neg k4]
   refine ⟨z, h1, Ev.succ (Ev.bind hM (Ev.pos rfl (Ev.neg hs (Ev.neg c (Ev.neg k0 (Ev.neg k1 (Ev.neg k2 (Ev.neg k3 (Ev.neg k4 (Ev.bind h3 ?_)))))))))) (fun q => rfl)⟩
   exact Ev.ret' rfl
 ·rw [if_neg m]
  rw [show mayS s = false by simpa using m] at hM
  exact ⟨s.L.z, hz, Ev.succ (Ev.bind hM (Ev.neg (by simp) (Ev.ret _))) (fun q => rfl)⟩
theorem zbot (key n : Int) : ∀ l : List Int, (putL key n l).length ≤ l.length + 2
 | [] => by simp [putL]
 | [a] => by simp [putL]
 | a :: b :: l => by
  have := zbot key n l
  simp only [putL]
  split
  ·simp only [y20]; omega
  ·split <;> simp only [y20] <;> omega
theorem zbou (key : Int) : ∀ l : List Int, (delL key l).length ≤ l.length
 | [] => by simp [delL]
 | [a] => by simp [delL]
 | a :: b :: l => by
  have := zbou key l
  simp only [delL]
  split
  ·simp only [y20]; omega
  ·split <;> simp only [y20] <;> omega
theorem zbov (k : Int) (l : List Int) (o : zjq) : (numV k l o).1.length ≤ l.length + 4 := by
 unfold numV; split <;> (try split) <;> (try split) <;> simp only [List.length_singleton] <;> omega
theorem zbow (k : Int) (l : List Int) (o : zjq) : (linV k l o).1.length ≤ l.length + 4 := by
 unfold linV
 split
 ·simp only; omega
 ·split
  ·split <;> simp only [y9, List.length_singleton] <;> omega
  ·split
   ·split
    ·simp only; omega
    ·split <;> simp only [y12, y19] <;> omega
   ·simp only; omega
theorem zbox (l : List Int) (o : zjq) : (stoV l o).1.length ≤ l.length + 4 := by
 have h1 := zbot o.A (cutI o.B) l
 have h2 := zbou o.A l
 unfold stoV
 split
 ·split
  ·simp only; omega
  ·split
   ·simp only; omega
   ·split
    ·split <;> simp only <;> omega
    ·simp only; omega
 ·simp only; omega
theorem zboy (l : List Int) (o : zjq) : (movV l o).1.length ≤ l.length + 4 := by
 unfold movV
 generalize wrp .i64 (Int.tdiv o.A 256) = f
 generalize Int.tmod o.A 256 = t
 have h1 := zbot t (wrp .i64 (nz (hasL t l) + o.B)) l
 have h2 := zbot f (wrp .i64 (hasL f l - o.B)) (putL t (wrp .i64 (nz (hasL t l) + o.B)) l)
 split
 ·simp only; omega
 ·split
  ·simp only; omega
  ·split
   ·simp only; omega
   ·split
    ·split
     ·simp only; omega
     ·split <;> simp only <;> omega
    ·simp only; omega
theorem zboz (l : List Int) (o : zjq) : (ledV l o).1.length ≤ l.length + 4 := by
 have h0 := zboy l o
 have h1 := zbot o.A (cutI (wrp .i64 (nz (hasL o.A l) + cutI o.B))) l
 unfold ledV
 split
 ·exact h0
 ·split
  ·split <;> simp only <;> omega
  ·split
   ·split
    ·simp only; omega
    ·split <;> simp only <;> omega
   ·simp only; omega
theorem zbo0 (s : zjm) (o : zjq) : (stepV s o).1.1.length ≤ s.L.l.length + 4 := by
 unfold stepV
 split
 ·split
  ·simp only; omega
  ·split
   ·simp only; omega
   ·split
    ·exact zbov _ _ _
    ·split
     ·exact zbow _ _ _
     ·split
      ·exact zbox _ _
      ·exact zboz _ _
 ·simp only; omega
def nextS (s : zjm) (o : zjq) : zjm := ⟨s.Kind, ⟨false, (stepV s o).1.1⟩, (stepV s o).1.2.1, (stepV s o).1.2.2⟩
def setZ (z z' : Bool) (x : zjo) : zjo := ⟨x.Index, ⟨x.State.Kind, ⟨z, x.State.L.l⟩, x.State.Sealed, x.State.To⟩, ⟨z', x.Table.l⟩⟩
def noTN : zjo := ⟨0, ⟨0, ⟨false, []⟩, false, 0⟩, ⟨false, []⟩⟩
def nextN (s : zjo) (r : zjr) : zjo := ⟨wrp .i64 (s.Index + 1), nextS s.State r.Op, ⟨false, noteL s.Table.l r.Proc r.Seq (stepV s.State r.Op).2⟩⟩
/-- A snapshot behind records. -/
def takeV : zjo → List zjr → zjo × Int
 | s, [] => (setZ false false s, 0)
 | s, r :: l => if r.Index = s.Index then (if FitsR r then takeV (nextN s r) l else (noTN, 1)) else (noTN, 15)
theorem zbo1 (z z' : Bool) (s : zjo) (l : List zjr) : takeV (setZ z z' s) l = takeV s l := by
 cases l <;> rfl
theorem zbo2 (s : zjo) (r : zjr) (l : List zjr) : takeV s (r :: l) = if r.Index = s.Index then (if FitsR r then takeV (nextN s r) l else (noTN, 1)) else (noTN, 15) := rfl
def zOk (z z' : Bool) (x : zjo) : Prop := (z = true → x.State.L.l = []) ∧ (z' = true → x.Table.l = [])
theorem zbo3 : ∀ (l : List zjr) (s : zjo), (takeV s l).1.State.L.l.length ≤ s.State.L.l.length + 4 * l.length ∧ (takeV s l).1.Table.l.length ≤ s.Table.l.length + l.length
 | [], s => by simp [takeV, setZ]
 | r :: l, s => by
  rw [zbo2]
  split
  ·split
   ·have h := zbo3 l (nextN s r)
    have h1 := zbo0 s.State r.Op
    have h2 := zbn6 s.Table.l r.Proc r.Seq (stepV s.State r.Op).2
    simp only [nextN, nextS, y20] at h ⊢
    omega
   ·simp [noTN]
  ·simp [noTN]
abbrev TT := Nat × Int × Int × Int × Bool × (List Int) × Bool × Int × Bool × (List zjn) × Int × Int × Bool × (List Int) × Bool × Int × Nat × Bool × (List zjn) × Bool
def tup2 (z z' : Bool) (x : zjo) : TT := (2, 0, 0, 0, false, [], false, 0, false, [], x.Index, x.State.Kind, z, x.State.L.l, x.State.Sealed, x.State.To, x.Table.l.length, z', x.Table.l, true)
def tup0 (e : Int) : TT := (0, e, 0, 0, false, [], false, 0, false, [], 0, 0, false, [], false, 0, 0, false, [], false)
def tup1 (s : zjo) : TT := (1, 0, s.Index, s.State.Kind, s.State.L.z, s.State.L.l, s.State.Sealed, s.State.To, s.Table.z, s.Table.l, 0, 0, false, [], false, 0, 0, false, [], false)
def tupL (z z' : Bool) (p : zjo × Int) : TT := if p.2 = 0 then tup2 z z' p.1 else tup0 p.2
def tupT (z z' : Bool) (s : zjo) (l : List zjr) : TT := if l.length = 0 then tup1 s else tupL z z' (takeV s l)
theorem zbo4 (h00 : Int) (h01 : Int) (h02z : Bool) (h02l : (List Int)) (h03 : Bool) (h04 : Int) (h05z : Bool) (h05l : (List zjn)) (zz : Bool) (L : List zjr) (hL : L.length ≤ 1000) : ∀ (k i : Nat) (s : zjo), L.length = i + k → zOk s.State.L.z s.Table.z s → s.State.L.l.length + 4 * k ≤ 900000 → s.Table.l.length + k ≤ 900000 →
  ∃ z z', Ev (fun q => zly q zz L (L.length : Int) (i : Int) h00 h01 h02z h02l h03 h04 h05z h05l s.Index s.State.Kind s.State.L.z s.State.L.l s.State.Sealed s.State.To s.Table.z s.Table.l true) (tupL z z' (takeV s (L.drop i)))
 | 0, i, s, hk, hz, h1, h2 => by
  rw [y11 (by omega)]
  exact ⟨s.State.L.z, s.Table.z, Ev.succ (Ev.ne (Ev.ret _)) (fun q => rfl)⟩
 | k + 1, i, s, hk, hz, h1, h2 => by
  have hi : i < L.length := by omega
  have he : L[((i : Int)).toNat]? = some L[i] := by simp [hi]
  rw [y8 hi]
  simp only [takeV]
  have w : wrp .i64 ((i : Int) + 1) = ((i + 1 : Nat) : Int) := by rw [zbkt (by omega) (by omega)]; omega
  by_cases c : L[i].Index = s.Index
  ·rw [if_pos c]
   by_cases d : FitsR L[i]
   ·rw [if_pos d]
    obtain ⟨z, hz1, hS⟩ := zbos s.State hz.1 (by omega) L[i].Op
    have hN := zboe s.Table hz.2 (by omega) ⟨L[i].Index, L[i].Proc, L[i].Seq, L[i].Op, (stepV s.State L[i].Op).2⟩
    have hl := zbo0 s.State L[i].Op
    have hn := zbn6 s.Table.l L[i].Proc L[i].Seq (stepV s.State L[i].Op).2
    have key := zbo1 z false (nextN s L[i]) (L.drop (i + 1))
    obtain ⟨y, y', ih⟩ := zbo4 h00 h01 h02z h02l h03 h04 h05z h05l zz L hL k (i + 1) (setZ z false (nextN s L[i])) (by omega) ⟨hz1, fun h => by cases h⟩ (by simp only [setZ, nextN, nextS]; omega) (by simp only [setZ, nextN, nextS]; omega)
    rw [key] at ih
    rw [← w] at ih
    refine ⟨y, y', Ev.succ (Ev.po (Ev.po (Ev.opt he (Ev.pos c (Ev.bind (zblb _) (Ev.pos (by simpa using d) (Ev.bind hS (Ev.bind hN ?_)))))))) (fun q => rfl)⟩
    exact ih
   ·rw [if_neg d]
    refine ⟨true, true, Ev.succ (Ev.po (Ev.po (Ev.opt he (Ev.pos c (Ev.bind (zblb _) (Ev.neg (by simpa using d) ?_)))))) (fun q => rfl)⟩
    exact Ev.ret' (by simp [tupL, tup0])
  ·rw [if_neg c]
   refine ⟨true, true, Ev.succ (Ev.po (Ev.po (Ev.opt he (Ev.neg c ?_)))) (fun q => rfl)⟩
   exact Ev.ret' (by simp [tupL, tup0])
theorem zbo5 (h00 : Int) (h01 : Int) (h02z : Bool) (h02l : (List Int)) (h03 : Bool) (h04 : Int) (h05z : Bool) (h05l : (List zjn)) (s : zjo) (r : Sl zjr) (hr : r.l.length ≤ 1000) (hz : zOk s.State.L.z s.Table.z s) (h1 : s.State.L.l.length ≤ 800000) (h2 : s.Table.l.length ≤ 800000) :
  ∃ z z', Ev (fun q => zl0 q s.Index s.State.Kind s.State.L.z s.State.L.l s.State.Sealed s.State.To s.Table.z s.Table.l r.z r.l h00 h01 h02z h02l h03 h04 h05z h05l) (tupT z z' s r.l) := by
 suffices h : ∃ z z', Ev (fun q => zlz q r.z r.l (r.l.length : Int) h00 h01 h02z h02l h03 h04 h05z h05l s.Index s.State.Kind s.State.L.z s.State.L.l s.State.Sealed s.State.To s.Table.z s.Table.l) (tupT z z' s r.l) by
  obtain ⟨z, z', h3⟩ := h
  exact ⟨z, z', Ev.succ h3 (fun q => rfl)⟩
 unfold tupT
 by_cases h0 : r.l.length = 0
 ·simp only [if_pos h0]
  refine ⟨true, true, Ev.succ (Ev.neg (by omega) ?_) (fun q => rfl)⟩
  exact Ev.ret' rfl
 ·simp only [if_neg h0]
  have hi : 0 < r.l.length := by omega
  have he : r.l[0]? = some r.l[0] := y6 hi
  have hd : r.l = r.l[0] :: r.l.drop 1 := by
   have := y8 hi
   rwa [y36] at this
  have hT : takeV s r.l = if r.l[0].Index = s.Index then (if FitsR r.l[0] then takeV (nextN s r.l[0]) (r.l.drop 1) else (noTN, 1)) else (noTN, 15) := by
   have := congrArg (takeV s) hd
   exact this
  rw [hT]
  have w : wrp .i64 1 = ((1 : Nat) : Int) := by rw [zbkt (by omega) (by omega)]; rfl
  generalize r.l[0] = e at he hT ⊢
  by_cases c : e.Index = s.Index
  ·rw [if_pos c]
   by_cases d : FitsR e
   ·rw [if_pos d]
    obtain ⟨z, hz1, hS⟩ := zbos s.State hz.1 (by omega) e.Op
    have hN := zboe s.Table hz.2 (by omega) ⟨e.Index, e.Proc, e.Seq, e.Op, (stepV s.State e.Op).2⟩
    have hl := zbo0 s.State e.Op
    have hn := zbn6 s.Table.l e.Proc e.Seq (stepV s.State e.Op).2
    have key := zbo1 z false (nextN s e) (r.l.drop 1)
    obtain ⟨y, y', ih⟩ := zbo4 h00 h01 h02z h02l h03 h04 h05z h05l r.z r.l hr (r.l.length - 1) 1 (setZ z false (nextN s e)) (by omega) ⟨hz1, fun h => by cases h⟩ (by simp only [setZ, nextN, nextS]; omega) (by simp only [setZ, nextN, nextS]; omega)
    rw [key] at ih
    rw [← w] at ih
    refine ⟨y, y', Ev.succ (Ev.po (Ev.opt he (Ev.pos c (Ev.bind (zblb _) (Ev.pos (by simpa using d) (Ev.bind hS (Ev.bind hN ?_))))))) (fun q => rfl)⟩
    exact ih
   ·rw [if_neg d]
    refine ⟨true, true, Ev.succ (Ev.po (Ev.opt he (Ev.pos c (Ev.bind (zblb _) (Ev.neg (by simpa using d) ?_))))) (fun q => rfl)⟩
    exact Ev.ret' (by simp [tupL, tup0])
  ·rw [if_neg c]
   refine ⟨true, true, Ev.succ (Ev.po (Ev.opt he (Ev.neg c ?_))) (fun q => rfl)⟩
   exact Ev.ret' (by simp [tupL, tup0])
theorem zbo6 (h00 : Int) (h01 : Int) (h02z : Bool) (h02l : (List Int)) (h03 : Bool) (h04 : Int) (h05z : Bool) (h05l : (List zjn)) (zz : Bool) (L : List zjr) (hL : L.length ≤ 1000) : ∀ (k i : Nat) (s : zjo), L.length = i + k → zOk s.State.L.z s.Table.z s → s.State.L.l.length + 4 * k ≤ 900000 → s.Table.l.length + k ≤ 900000 →
  ∃ z z', Ev (fun q => zl1 q zz L (L.length : Int) (i : Int) h00 h01 h02z h02l h03 h04 h05z h05l s.Index s.State.Kind s.State.L.z s.State.L.l s.State.Sealed s.State.To s.Table.z s.Table.l true) (tupL z z' (takeV s (L.drop i)))
 | 0, i, s, hk, hz, h1, h2 => by
  rw [y11 (by omega)]
  exact ⟨s.State.L.z, s.Table.z, Ev.succ (Ev.ne (Ev.ret _)) (fun q => rfl)⟩
 | k + 1, i, s, hk, hz, h1, h2 => by
  have hi : i < L.length := by omega
  have he : L[((i : Int)).toNat]? = some L[i] := by simp [hi]
  rw [y8 hi]
  simp only [takeV]
  have w : wrp .i64 ((i : Int) + 1) = ((i + 1 : Nat) : Int) := by rw [zbkt (by omega) (by omega)]; omega
  by_cases c : L[i].Index = s.Index
  ·rw [if_pos c]
   by_cases d : FitsR L[i]
   ·rw [if_pos d]
    obtain ⟨z, hz1, hS⟩ := zbos s.State hz.1 (by omega) L[i].Op
    have hN := zboe s.Table hz.2 (by omega) ⟨L[i].Index, L[i].Proc, L[i].Seq, L[i].Op, (stepV s.State L[i].Op).2⟩
    have hl := zbo0 s.State L[i].Op
    have hn := zbn6 s.Table.l L[i].Proc L[i].Seq (stepV s.State L[i].Op).2
    have key := zbo1 z false (nextN s L[i]) (L.drop (i + 1))
    obtain ⟨y, y', ih⟩ := zbo6 h00 h01 h02z h02l h03 h04 h05z h05l zz L hL k (i + 1) (setZ z false (nextN s L[i])) (by omega) ⟨hz1, fun h => by cases h⟩ (by simp only [setZ, nextN, nextS]; omega) (by simp only [setZ, nextN, nextS]; omega)
    rw [key] at ih
    rw [← w] at ih
    refine ⟨y, y', Ev.succ (Ev.po (Ev.po (Ev.opt he (Ev.pos c (Ev.bind (zblb _) (Ev.pos (by simpa using d) (Ev.bind hS (Ev.bind hN ?_)))))))) (fun q => rfl)⟩
    exact ih
   ·rw [if_neg d]
    refine ⟨true, true, Ev.succ (Ev.po (Ev.po (Ev.opt he (Ev.pos c (Ev.bind (zblb _) (Ev.neg (by simpa using d) ?_)))))) (fun q => rfl)⟩
    exact Ev.ret' (by simp [tupL, tup0])
  ·rw [if_neg c]
   refine ⟨true, true, Ev.succ (Ev.po (Ev.po (Ev.opt he (Ev.neg c ?_)))) (fun q => rfl)⟩
   exact Ev.ret' (by simp [tupL, tup0])
theorem zbo7 (h00 : Int) (h01 : Int) (h02z : Bool) (h02l : (List Int)) (h03 : Bool) (h04 : Int) (h05z : Bool) (h05l : (List zjn)) (s : zjo) (r : Sl zjr) (hr : r.l.length ≤ 1000) (hz : zOk s.State.L.z s.Table.z s) (h1 : s.State.L.l.length ≤ 800000) (h2 : s.Table.l.length ≤ 800000) :
  ∃ z z', Ev (fun q => zl3 q s.Index s.State.Kind s.State.L.z s.State.L.l s.State.Sealed s.State.To s.Table.z s.Table.l r.z r.l h00 h01 h02z h02l h03 h04 h05z h05l) (tupT z z' s r.l) := by
 suffices h : ∃ z z', Ev (fun q => zl2 q r.z r.l (r.l.length : Int) h00 h01 h02z h02l h03 h04 h05z h05l s.Index s.State.Kind s.State.L.z s.State.L.l s.State.Sealed s.State.To s.Table.z s.Table.l) (tupT z z' s r.l) by
  obtain ⟨z, z', h3⟩ := h
  exact ⟨z, z', Ev.succ h3 (fun q => rfl)⟩
 unfold tupT
 by_cases h0 : r.l.length = 0
 ·simp only [if_pos h0]
  refine ⟨true, true, Ev.succ (Ev.neg (by omega) ?_) (fun q => rfl)⟩
  exact Ev.ret' rfl
 ·simp only [if_neg h0]
  have hi : 0 < r.l.length := by omega
  have he : r.l[0]? = some r.l[0] := y6 hi
  have hd : r.l = r.l[0] :: r.l.drop 1 := by
   have := y8 hi
   rwa [y36] at this
  have hT : takeV s r.l = if r.l[0].Index = s.Index then (if FitsR r.l[0] then takeV (nextN s r.l[0]) (r.l.drop 1) else (noTN, 1)) else (noTN, 15) := by
   have := congrArg (takeV s) hd
   exact this
  rw [hT]
  have w : wrp .i64 1 = ((1 : Nat) : Int) := by rw [zbkt (by omega) (by omega)]; rfl
  generalize r.l[0] = e at he hT ⊢
  by_cases c : e.Index = s.Index
  ·rw [if_pos c]
   by_cases d : FitsR e
   ·rw [if_pos d]
    obtain ⟨z, hz1, hS⟩ := zbos s.State hz.1 (by omega) e.Op
    have hN := zboe s.Table hz.2 (by omega) ⟨e.Index, e.Proc, e.Seq, e.Op, (stepV s.State e.Op).2⟩
    have hl := zbo0 s.State e.Op
    have hn := zbn6 s.Table.l e.Proc e.Seq (stepV s.State e.Op).2
    have key := zbo1 z false (nextN s e) (r.l.drop 1)
    obtain ⟨y, y', ih⟩ := zbo6 h00 h01 h02z h02l h03 h04 h05z h05l r.z r.l hr (r.l.length - 1) 1 (setZ z false (nextN s e)) (by omega) ⟨hz1, fun h => by cases h⟩ (by simp only [setZ, nextN, nextS]; omega) (by simp only [setZ, nextN, nextS]; omega)
    rw [key] at ih
    rw [← w] at ih
    refine ⟨y, y', Ev.succ (Ev.po (Ev.opt he (Ev.pos c (Ev.bind (zblb _) (Ev.pos (by simpa using d) (Ev.bind hS (Ev.bind hN ?_))))))) (fun q => rfl)⟩
    exact ih
   ·rw [if_neg d]
    refine ⟨true, true, Ev.succ (Ev.po (Ev.opt he (Ev.pos c (Ev.bind (zblb _) (Ev.neg (by simpa using d) ?_))))) (fun q => rfl)⟩
    exact Ev.ret' (by simp [tupL, tup0])
  ·rw [if_neg c]
   refine ⟨true, true, Ev.succ (Ev.po (Ev.opt he (Ev.neg c ?_))) (fun q => rfl)⟩
   exact Ev.ret' (by simp [tupL, tup0])
theorem zbo8 (h00 : Int) (h01 : Int) (h02z : Bool) (h02l : (List Int)) (h03 : Bool) (h04 : Int) (h05z : Bool) (h05l : (List zjn)) (h10 : Int) (h11 : Int) (h12z : Bool) (h12l : (List Int)) (h13 : Bool) (h14 : Int) (h15z : Bool) (h15l : (List zjn)) (zz : Bool) (L : List zjr) (hL : L.length ≤ 1000) : ∀ (k i : Nat) (s : zjo), L.length = i + k → zOk s.State.L.z s.Table.z s → s.State.L.l.length + 4 * k ≤ 900000 → s.Table.l.length + k ≤ 900000 →
  ∃ z z', Ev (fun q => zl4 q zz L (L.length : Int) (i : Int) h00 h01 h02z h02l h03 h04 h05z h05l h10 h11 h12z h12l h13 h14 h15z h15l s.Index s.State.Kind s.State.L.z s.State.L.l s.State.Sealed s.State.To s.Table.z s.Table.l true) (tupL z z' (takeV s (L.drop i)))
 | 0, i, s, hk, hz, h1, h2 => by
  rw [y11 (by omega)]
  exact ⟨s.State.L.z, s.Table.z, Ev.succ (Ev.ne (Ev.ret _)) (fun q => rfl)⟩
 | k + 1, i, s, hk, hz, h1, h2 => by
  have hi : i < L.length := by omega
  have he : L[((i : Int)).toNat]? = some L[i] := by simp [hi]
  rw [y8 hi]
  simp only [takeV]
  have w : wrp .i64 ((i : Int) + 1) = ((i + 1 : Nat) : Int) := by rw [zbkt (by omega) (by omega)]; omega
  by_cases c : L[i].Index = s.Index
  ·rw [if_pos c]
   by_cases d : FitsR L[i]
   ·rw [if_pos d]
    obtain ⟨z, hz1, hS⟩ := zbos s.State hz.1 (by omega) L[i].Op
    have hN := zboe s.Table hz.2 (by omega) ⟨L[i].Index, L[i].Proc, L[i].Seq, L[i].Op, (stepV s.State L[i].Op).2⟩
    have hl := zbo0 s.State L[i].Op
    have hn := zbn6 s.Table.l L[i].Proc L[i].Seq (stepV s.State L[i].Op).2
    have key := zbo1 z false (nextN s L[i]) (L.drop (i + 1))
    obtain ⟨y, y', ih⟩ := zbo8 h00 h01 h02z h02l h03 h04 h05z h05l h10 h11 h12z h12l h13 h14 h15z h15l zz L hL k (i + 1) (setZ z false (nextN s L[i])) (by omega) ⟨hz1, fun h => by cases h⟩ (by simp only [setZ, nextN, nextS]; omega) (by simp only [setZ, nextN, nextS]; omega)
    rw [key] at ih
    rw [← w] at ih
    refine ⟨y, y', Ev.succ (Ev.po (Ev.po (Ev.opt he (Ev.pos c (Ev.bind (zblb _) (Ev.pos (by simpa using d) (Ev.bind hS (Ev.bind hN ?_)))))))) (fun q => rfl)⟩
    exact ih
   ·rw [if_neg d]
    refine ⟨true, true, Ev.succ (Ev.po (Ev.po (Ev.opt he (Ev.pos c (Ev.bind (zblb _) (Ev.neg (by simpa using d) ?_)))))) (fun q => rfl)⟩
    exact Ev.ret' (by simp [tupL, tup0])
  ·rw [if_neg c]
   refine ⟨true, true, Ev.succ (Ev.po (Ev.po (Ev.opt he (Ev.neg c ?_)))) (fun q => rfl)⟩
   exact Ev.ret' (by simp [tupL, tup0])
theorem zbo9 (h00 : Int) (h01 : Int) (h02z : Bool) (h02l : (List Int)) (h03 : Bool) (h04 : Int) (h05z : Bool) (h05l : (List zjn)) (h10 : Int) (h11 : Int) (h12z : Bool) (h12l : (List Int)) (h13 : Bool) (h14 : Int) (h15z : Bool) (h15l : (List zjn)) (s : zjo) (r : Sl zjr) (hr : r.l.length ≤ 1000) (hz : zOk s.State.L.z s.Table.z s) (h1 : s.State.L.l.length ≤ 800000) (h2 : s.Table.l.length ≤ 800000) :
  ∃ z z', Ev (fun q => zl6 q s.Index s.State.Kind s.State.L.z s.State.L.l s.State.Sealed s.State.To s.Table.z s.Table.l r.z r.l h00 h01 h02z h02l h03 h04 h05z h05l h10 h11 h12z h12l h13 h14 h15z h15l) (tupT z z' s r.l) := by
 suffices h : ∃ z z', Ev (fun q => zl5 q r.z r.l (r.l.length : Int) h00 h01 h02z h02l h03 h04 h05z h05l h10 h11 h12z h12l h13 h14 h15z h15l s.Index s.State.Kind s.State.L.z s.State.L.l s.State.Sealed s.State.To s.Table.z s.Table.l) (tupT z z' s r.l) by
  obtain ⟨z, z', h3⟩ := h
  exact ⟨z, z', Ev.succ h3 (fun q => rfl)⟩
 unfold tupT
 by_cases h0 : r.l.length = 0
 ·simp only [if_pos h0]
  refine ⟨true, true, Ev.succ (Ev.neg (by omega) ?_) (fun q => rfl)⟩
  exact Ev.ret' rfl
 ·simp only [if_neg h0]
  have hi : 0 < r.l.length := by omega
  have he : r.l[0]? = some r.l[0] := y6 hi
  have hd : r.l = r.l[0] :: r.l.drop 1 := by
   have := y8 hi
   rwa [y36] at this
  have hT : takeV s r.l = if r.l[0].Index = s.Index then (if FitsR r.l[0] then takeV (nextN s r.l[0]) (r.l.drop 1) else (noTN, 1)) else (noTN, 15) := by
   have := congrArg (takeV s) hd
   exact this
  rw [hT]
  have w : wrp .i64 1 = ((1 : Nat) : Int) := by rw [zbkt (by omega) (by omega)]; rfl
  generalize r.l[0] = e at he hT ⊢
  by_cases c : e.Index = s.Index
  ·rw [if_pos c]
   by_cases d : FitsR e
   ·rw [if_pos d]
    obtain ⟨z, hz1, hS⟩ := zbos s.State hz.1 (by omega) e.Op
    have hN := zboe s.Table hz.2 (by omega) ⟨e.Index, e.Proc, e.Seq, e.Op, (stepV s.State e.Op).2⟩
    have hl := zbo0 s.State e.Op
    have hn := zbn6 s.Table.l e.Proc e.Seq (stepV s.State e.Op).2
    have key := zbo1 z false (nextN s e) (r.l.drop 1)
    obtain ⟨y, y', ih⟩ := zbo8 h00 h01 h02z h02l h03 h04 h05z h05l h10 h11 h12z h12l h13 h14 h15z h15l r.z r.l hr (r.l.length - 1) 1 (setZ z false (nextN s e)) (by omega) ⟨hz1, fun h => by cases h⟩ (by simp only [setZ, nextN, nextS]; omega) (by simp only [setZ, nextN, nextS]; omega)
    rw [key] at ih
    rw [← w] at ih
    refine ⟨y, y', Ev.succ (Ev.po (Ev.opt he (Ev.pos c (Ev.bind (zblb _) (Ev.pos (by simpa using d) (Ev.bind hS (Ev.bind hN ?_))))))) (fun q => rfl)⟩
    exact ih
   ·rw [if_neg d]
    refine ⟨true, true, Ev.succ (Ev.po (Ev.opt he (Ev.pos c (Ev.bind (zblb _) (Ev.neg (by simpa using d) ?_))))) (fun q => rfl)⟩
    exact Ev.ret' (by simp [tupL, tup0])
  ·rw [if_neg c]
   refine ⟨true, true, Ev.succ (Ev.po (Ev.opt he (Ev.neg c ?_))) (fun q => rfl)⟩
   exact Ev.ret' (by simp [tupL, tup0])
theorem zbpa (h00 : Int) (h01 : Int) (h02z : Bool) (h02l : (List Int)) (h03 : Bool) (h04 : Int) (h05z : Bool) (h05l : (List zjn)) (h1z : Bool) (h1l : (List zjn)) (h1x : Bool) (h20 : Int) (h21 : Int) (h22z : Bool) (h22l : (List Int)) (h23 : Bool) (h24 : Int) (h25len : Nat) (zz : Bool) (L : List zjr) (hL : L.length ≤ 1000) : ∀ (k i : Nat) (s : zjo), L.length = i + k → zOk s.State.L.z s.Table.z s → s.State.L.l.length + 4 * k ≤ 900000 → s.Table.l.length + k ≤ 900000 →
  ∃ z z', Ev (fun q => zl7 q zz L (L.length : Int) (i : Int) h00 h01 h02z h02l h03 h04 h05z h05l h1z h1l h1x h20 h21 h22z h22l h23 h24 h25len s.Index s.State.Kind s.State.L.z s.State.L.l s.State.Sealed s.State.To s.Table.z s.Table.l true) (tupL z z' (takeV s (L.drop i)))
 | 0, i, s, hk, hz, h1, h2 => by
  rw [y11 (by omega)]
  exact ⟨s.State.L.z, s.Table.z, Ev.succ (Ev.ne (Ev.ret _)) (fun q => rfl)⟩
 | k + 1, i, s, hk, hz, h1, h2 => by
  have hi : i < L.length := by omega
  have he : L[((i : Int)).toNat]? = some L[i] := by simp [hi]
  rw [y8 hi]
  simp only [takeV]
  have w : wrp .i64 ((i : Int) + 1) = ((i + 1 : Nat) : Int) := by rw [zbkt (by omega) (by omega)]; omega
  by_cases c : L[i].Index = s.Index
  ·rw [if_pos c]
   by_cases d : FitsR L[i]
   ·rw [if_pos d]
    obtain ⟨z, hz1, hS⟩ := zbos s.State hz.1 (by omega) L[i].Op
    have hN := zboe s.Table hz.2 (by omega) ⟨L[i].Index, L[i].Proc, L[i].Seq, L[i].Op, (stepV s.State L[i].Op).2⟩
    have hl := zbo0 s.State L[i].Op
    have hn := zbn6 s.Table.l L[i].Proc L[i].Seq (stepV s.State L[i].Op).2
    have key := zbo1 z false (nextN s L[i]) (L.drop (i + 1))
    obtain ⟨y, y', ih⟩ := zbpa h00 h01 h02z h02l h03 h04 h05z h05l h1z h1l h1x h20 h21 h22z h22l h23 h24 h25len zz L hL k (i + 1) (setZ z false (nextN s L[i])) (by omega) ⟨hz1, fun h => by cases h⟩ (by simp only [setZ, nextN, nextS]; omega) (by simp only [setZ, nextN, nextS]; omega)
    rw [key] at ih
    rw [← w] at ih
    refine ⟨y, y', Ev.succ (Ev.po (Ev.po (Ev.opt he (Ev.pos c (Ev.bind (zblb _) (Ev.pos (by simpa using d) (Ev.bind hS (Ev.bind hN ?_)))))))) (fun q => rfl)⟩
    exact ih
   ·rw [if_neg d]
    refine ⟨true, true, Ev.succ (Ev.po (Ev.po (Ev.opt he (Ev.pos c (Ev.bind (zblb _) (Ev.neg (by simpa using d) ?_)))))) (fun q => rfl)⟩
    exact Ev.ret' (by simp [tupL, tup0])
  ·rw [if_neg c]
   refine ⟨true, true, Ev.succ (Ev.po (Ev.po (Ev.opt he (Ev.neg c ?_)))) (fun q => rfl)⟩
   exact Ev.ret' (by simp [tupL, tup0])
theorem zbpb (h00 : Int) (h01 : Int) (h02z : Bool) (h02l : (List Int)) (h03 : Bool) (h04 : Int) (h05z : Bool) (h05l : (List zjn)) (h1z : Bool) (h1l : (List zjn)) (h1x : Bool) (h20 : Int) (h21 : Int) (h22z : Bool) (h22l : (List Int)) (h23 : Bool) (h24 : Int) (h25len : Nat) (s : zjo) (r : Sl zjr) (hr : r.l.length ≤ 1000) (hz : zOk s.State.L.z s.Table.z s) (h1 : s.State.L.l.length ≤ 800000) (h2 : s.Table.l.length ≤ 800000) :
  ∃ z z', Ev (fun q => zl9 q s.Index s.State.Kind s.State.L.z s.State.L.l s.State.Sealed s.State.To s.Table.z s.Table.l r.z r.l h00 h01 h02z h02l h03 h04 h05z h05l h1z h1l h1x h20 h21 h22z h22l h23 h24 h25len) (tupT z z' s r.l) := by
 suffices h : ∃ z z', Ev (fun q => zl8 q r.z r.l (r.l.length : Int) h00 h01 h02z h02l h03 h04 h05z h05l h1z h1l h1x h20 h21 h22z h22l h23 h24 h25len s.Index s.State.Kind s.State.L.z s.State.L.l s.State.Sealed s.State.To s.Table.z s.Table.l) (tupT z z' s r.l) by
  obtain ⟨z, z', h3⟩ := h
  exact ⟨z, z', Ev.succ h3 (fun q => rfl)⟩
 unfold tupT
 by_cases h0 : r.l.length = 0
 ·simp only [if_pos h0]
  refine ⟨true, true, Ev.succ (Ev.neg (by omega) ?_) (fun q => rfl)⟩
  exact Ev.ret' rfl
 ·simp only [if_neg h0]
  have hi : 0 < r.l.length := by omega
  have he : r.l[0]? = some r.l[0] := y6 hi
  have hd : r.l = r.l[0] :: r.l.drop 1 := by
   have := y8 hi
   rwa [y36] at this
  have hT : takeV s r.l = if r.l[0].Index = s.Index then (if FitsR r.l[0] then takeV (nextN s r.l[0]) (r.l.drop 1) else (noTN, 1)) else (noTN, 15) := by
   have := congrArg (takeV s) hd
   exact this
  rw [hT]
  have w : wrp .i64 1 = ((1 : Nat) : Int) := by rw [zbkt (by omega) (by omega)]; rfl
  generalize r.l[0] = e at he hT ⊢
  by_cases c : e.Index = s.Index
  ·rw [if_pos c]
   by_cases d : FitsR e
   ·rw [if_pos d]
    obtain ⟨z, hz1, hS⟩ := zbos s.State hz.1 (by omega) e.Op
    have hN := zboe s.Table hz.2 (by omega) ⟨e.Index, e.Proc, e.Seq, e.Op, (stepV s.State e.Op).2⟩
    have hl := zbo0 s.State e.Op
    have hn := zbn6 s.Table.l e.Proc e.Seq (stepV s.State e.Op).2
    have key := zbo1 z false (nextN s e) (r.l.drop 1)
    obtain ⟨y, y', ih⟩ := zbpa h00 h01 h02z h02l h03 h04 h05z h05l h1z h1l h1x h20 h21 h22z h22l h23 h24 h25len r.z r.l hr (r.l.length - 1) 1 (setZ z false (nextN s e)) (by omega) ⟨hz1, fun h => by cases h⟩ (by simp only [setZ, nextN, nextS]; omega) (by simp only [setZ, nextN, nextS]; omega)
    rw [key] at ih
    rw [← w] at ih
    refine ⟨y, y', Ev.succ (Ev.po (Ev.opt he (Ev.pos c (Ev.bind (zblb _) (Ev.pos (by simpa using d) (Ev.bind hS (Ev.bind hN ?_))))))) (fun q => rfl)⟩
    exact ih
   ·rw [if_neg d]
    refine ⟨true, true, Ev.succ (Ev.po (Ev.opt he (Ev.pos c (Ev.bind (zblb _) (Ev.neg (by simpa using d) ?_))))) (fun q => rfl)⟩
    exact Ev.ret' (by simp [tupL, tup0])
  ·rw [if_neg c]
   refine ⟨true, true, Ev.succ (Ev.po (Ev.opt he (Ev.neg c ?_))) (fun q => rfl)⟩
   exact Ev.ret' (by simp [tupL, tup0])
theorem zbpc (h00 : Int) (h01 : Int) (h02z : Bool) (h02l : (List Int)) (h03 : Bool) (h04 : Int) (h05z : Bool) (h05l : (List zjn)) (h10 : Int) (h11 : Int) (h12z : Bool) (h12l : (List Int)) (h13 : Bool) (h14 : Int) (h15len : Nat) (h20 : Int) (h21 : Int) (h22z : Bool) (h22l : (List Int)) (h23 : Bool) (h24 : Int) (h25len : Nat) (h3z : Bool) (h3l : (List zjn)) (h3x : Bool) (h4z : Bool) (h4l : (List zjn)) (h4x : Bool) (zz : Bool) (L : List zjr) (hL : L.length ≤ 1000) : ∀ (k i : Nat) (s : zjo), L.length = i + k → zOk s.State.L.z s.Table.z s → s.State.L.l.length + 4 * k ≤ 900000 → s.Table.l.length + k ≤ 900000 →
  ∃ z z', Ev (fun q => zmj q zz L (L.length : Int) (i : Int) h00 h01 h02z h02l h03 h04 h05z h05l h10 h11 h12z h12l h13 h14 h15len h20 h21 h22z h22l h23 h24 h25len h3z h3l h3x h4z h4l h4x s.Index s.State.Kind s.State.L.z s.State.L.l s.State.Sealed s.State.To s.Table.z s.Table.l true) (tupL z z' (takeV s (L.drop i)))
 | 0, i, s, hk, hz, h1, h2 => by
  rw [y11 (by omega)]
  exact ⟨s.State.L.z, s.Table.z, Ev.succ (Ev.ne (Ev.ret _)) (fun q => rfl)⟩
 | k + 1, i, s, hk, hz, h1, h2 => by
  have hi : i < L.length := by omega
  have he : L[((i : Int)).toNat]? = some L[i] := by simp [hi]
  rw [y8 hi]
  simp only [takeV]
  have w : wrp .i64 ((i : Int) + 1) = ((i + 1 : Nat) : Int) := by rw [zbkt (by omega) (by omega)]; omega
  by_cases c : L[i].Index = s.Index
  ·rw [if_pos c]
   by_cases d : FitsR L[i]
   ·rw [if_pos d]
    obtain ⟨z, hz1, hS⟩ := zbos s.State hz.1 (by omega) L[i].Op
    have hN := zboe s.Table hz.2 (by omega) ⟨L[i].Index, L[i].Proc, L[i].Seq, L[i].Op, (stepV s.State L[i].Op).2⟩
    have hl := zbo0 s.State L[i].Op
    have hn := zbn6 s.Table.l L[i].Proc L[i].Seq (stepV s.State L[i].Op).2
    have key := zbo1 z false (nextN s L[i]) (L.drop (i + 1))
    obtain ⟨y, y', ih⟩ := zbpc h00 h01 h02z h02l h03 h04 h05z h05l h10 h11 h12z h12l h13 h14 h15len h20 h21 h22z h22l h23 h24 h25len h3z h3l h3x h4z h4l h4x zz L hL k (i + 1) (setZ z false (nextN s L[i])) (by omega) ⟨hz1, fun h => by cases h⟩ (by simp only [setZ, nextN, nextS]; omega) (by simp only [setZ, nextN, nextS]; omega)
    rw [key] at ih
    rw [← w] at ih
    refine ⟨y, y', Ev.succ (Ev.po (Ev.po (Ev.opt he (Ev.pos c (Ev.bind (zblb _) (Ev.pos (by simpa using d) (Ev.bind hS (Ev.bind hN ?_)))))))) (fun q => rfl)⟩
    exact ih
   ·rw [if_neg d]
    refine ⟨true, true, Ev.succ (Ev.po (Ev.po (Ev.opt he (Ev.pos c (Ev.bind (zblb _) (Ev.neg (by simpa using d) ?_)))))) (fun q => rfl)⟩
    exact Ev.ret' (by simp [tupL, tup0])
  ·rw [if_neg c]
   refine ⟨true, true, Ev.succ (Ev.po (Ev.po (Ev.opt he (Ev.neg c ?_)))) (fun q => rfl)⟩
   exact Ev.ret' (by simp [tupL, tup0])
theorem zbpd (h00 : Int) (h01 : Int) (h02z : Bool) (h02l : (List Int)) (h03 : Bool) (h04 : Int) (h05z : Bool) (h05l : (List zjn)) (h10 : Int) (h11 : Int) (h12z : Bool) (h12l : (List Int)) (h13 : Bool) (h14 : Int) (h15len : Nat) (h20 : Int) (h21 : Int) (h22z : Bool) (h22l : (List Int)) (h23 : Bool) (h24 : Int) (h25len : Nat) (h3z : Bool) (h3l : (List zjn)) (h3x : Bool) (h4z : Bool) (h4l : (List zjn)) (h4x : Bool) (s : zjo) (r : Sl zjr) (hr : r.l.length ≤ 1000) (hz : zOk s.State.L.z s.Table.z s) (h1 : s.State.L.l.length ≤ 800000) (h2 : s.Table.l.length ≤ 800000) :
  ∃ z z', Ev (fun q => zml q s.Index s.State.Kind s.State.L.z s.State.L.l s.State.Sealed s.State.To s.Table.z s.Table.l r.z r.l h00 h01 h02z h02l h03 h04 h05z h05l h10 h11 h12z h12l h13 h14 h15len h20 h21 h22z h22l h23 h24 h25len h3z h3l h3x h4z h4l h4x) (tupT z z' s r.l) := by
 suffices h : ∃ z z', Ev (fun q => zmk q r.z r.l (r.l.length : Int) h00 h01 h02z h02l h03 h04 h05z h05l h10 h11 h12z h12l h13 h14 h15len h20 h21 h22z h22l h23 h24 h25len h3z h3l h3x h4z h4l h4x s.Index s.State.Kind s.State.L.z s.State.L.l s.State.Sealed s.State.To s.Table.z s.Table.l) (tupT z z' s r.l) by
  obtain ⟨z, z', h3⟩ := h
  exact ⟨z, z', Ev.succ h3 (fun q => rfl)⟩
 unfold tupT
 by_cases h0 : r.l.length = 0
 ·simp only [if_pos h0]
  refine ⟨true, true, Ev.succ (Ev.neg (by omega) ?_) (fun q => rfl)⟩
  exact Ev.ret' rfl
 ·simp only [if_neg h0]
  have hi : 0 < r.l.length := by omega
  have he : r.l[0]? = some r.l[0] := y6 hi
  have hd : r.l = r.l[0] :: r.l.drop 1 := by
   have := y8 hi
   rwa [y36] at this
  have hT : takeV s r.l = if r.l[0].Index = s.Index then (if FitsR r.l[0] then takeV (nextN s r.l[0]) (r.l.drop 1) else (noTN, 1)) else (noTN, 15) := by
   have := congrArg (takeV s) hd
   exact this
  rw [hT]
  have w : wrp .i64 1 = ((1 : Nat) : Int) := by rw [zbkt (by omega) (by omega)]; rfl
  generalize r.l[0] = e at he hT ⊢
  by_cases c : e.Index = s.Index
  ·rw [if_pos c]
   by_cases d : FitsR e
   ·rw [if_pos d]
    obtain ⟨z, hz1, hS⟩ := zbos s.State hz.1 (by omega) e.Op
    have hN := zboe s.Table hz.2 (by omega) ⟨e.Index, e.Proc, e.Seq, e.Op, (stepV s.State e.Op).2⟩
    have hl := zbo0 s.State e.Op
    have hn := zbn6 s.Table.l e.Proc e.Seq (stepV s.State e.Op).2
    have key := zbo1 z false (nextN s e) (r.l.drop 1)
    obtain ⟨y, y', ih⟩ := zbpc h00 h01 h02z h02l h03 h04 h05z h05l h10 h11 h12z h12l h13 h14 h15len h20 h21 h22z h22l h23 h24 h25len h3z h3l h3x h4z h4l h4x r.z r.l hr (r.l.length - 1) 1 (setZ z false (nextN s e)) (by omega) ⟨hz1, fun h => by cases h⟩ (by simp only [setZ, nextN, nextS]; omega) (by simp only [setZ, nextN, nextS]; omega)
    rw [key] at ih
    rw [← w] at ih
    refine ⟨y, y', Ev.succ (Ev.po (Ev.opt he (Ev.pos c (Ev.bind (zblb _) (Ev.pos (by simpa using d) (Ev.bind hS (Ev.bind hN ?_))))))) (fun q => rfl)⟩
    exact ih
   ·rw [if_neg d]
    refine ⟨true, true, Ev.succ (Ev.po (Ev.opt he (Ev.pos c (Ev.bind (zblb _) (Ev.neg (by simpa using d) ?_))))) (fun q => rfl)⟩
    exact Ev.ret' (by simp [tupL, tup0])
  ·rw [if_neg c]
   refine ⟨true, true, Ev.succ (Ev.po (Ev.opt he (Ev.neg c ?_))) (fun q => rfl)⟩
   exact Ev.ret' (by simp [tupL, tup0])
abbrev TA := Nat × Int × Bool × Nat × Int × Int × Bool × (List Int) × Bool × Int × Nat × Bool × (List zjn) × Bool
theorem awk_l1 (a b : Int) (h : ¬ b < a) (h0l : List Int) (h1l : List zjr) (h20 h21 : Int) (h22z : Bool) (h22l : List Int) (h23 : Bool) (h24 : Int) (h4z : Bool) (h4l : List zjn) (h4x : Bool) :
  Ev (fun q => zlu q a b h0l h1l h20 h21 h22z h22l h23 h24 h4z h4l h4x) (2, 0, false, 0, h20, h21, h22z, h22l, h23, h24, h4l.length, h4z, h4l, h4x) := Ev.succ (Ev.neg h (Ev.ret _)) (fun q => rfl)
theorem awk_s0 {h0l : List Int} {h1l : List zjr} {e : zjr} (h1 : h1l[0]? = some e) (hl : h1l.length = 1) (hi : e.Index = 0) (hf : FitsR e) {t : zjm} {n : Int} {z : Bool} {T : List zjn}
  (hS : Ev (fun q => zkz q ⟨0, ⟨false, h0l⟩, false, 0⟩ e.Op) (t, n)) (hN : Ev (fun q => zkd q ⟨true, []⟩ ⟨e.Index, e.Proc, e.Seq, e.Op, n⟩) ⟨z, true, T⟩) :
  Ev (fun q => zlw q h0l h1l) (2, 0, false, 0, wrp .i64 1, t.Kind, t.L.z, t.L.l, t.Sealed, t.To, T.length, z, T, true) := by
 have w1 : wrp .i64 1 = 1 := zbkt (by omega) (by omega)
 have h0 : Ev (fun q => zlv q (h1l.length : Int) h0l h1l) (2, 0, false, 0, wrp .i64 1, t.Kind, t.L.z, t.L.l, t.Sealed, t.To, T.length, z, T, true) :=
  Ev.succ (Ev.po (Ev.po (Ev.opt h1 (Ev.pos hi (Ev.bind (zblb e) (Ev.pos (by simpa using hf) (Ev.bind hS (Ev.bind hN (awk_l1 _ _ (by omega) _ _ _ _ _ _ _ _ _ _ _))))))))) (fun q => rfl)
 exact Ev.succ h0 (fun q => rfl)
theorem zbpe (t : TA) (B : (Ow Int) × Int) (h : Ev (fun q => zlw q [0] [(⟨0, 2, 1, (⟨1, 5, 0⟩ : zjq), 0⟩ : zjr)]) t)
  (hE : Ev (fun q => zlt q (⟨t.2.2.2.2.1, (⟨t.2.2.2.2.2.1, ⟨t.2.2.2.2.2.2.1, t.2.2.2.2.2.2.2.1⟩, t.2.2.2.2.2.2.2.2.1, t.2.2.2.2.2.2.2.2.2.1⟩ : zjm), ⟨t.2.2.2.2.2.2.2.2.2.2.2.1, t.2.2.2.2.2.2.2.2.2.2.2.2.1⟩⟩ : zjo)) B)
  (h1 : t.1 = 2) (hB : B.2 = 0) (hl : 10 < B.1.xs.length) (e1 : t.2.2.2.2.1 = 1) (e2 : t.2.2.2.2.2.2.2.2.2.2.1 = 1) (e3 : t.2.2.2.2.2.2.2.2.2.2.2.2.1[0]? = some ⟨2, 1, 0⟩) (e4 : t.2.2.2.2.2.2.2.1 = [5]) : Ev (fun q => zlx q) true := by
 have e5 : t.2.2.2.2.2.2.2.1[0]? = some 5 := by rw [e4]; rfl
 refine Ev.succ (Ev.bind h (Ev.ne (Ev.ne (Ev.bind hE (Ev.pos hB (Ev.po (Ev.pos e1 (Ev.po (Ev.po (Ev.opt e3 ?_)))))))))) (fun q => rfl)
 exact Ev.pos rfl (Ev.pos rfl (Ev.pos rfl (Ev.pos (by rw [e4]; rfl) (Ev.opt e5 (Ev.ret' (by simp))))))
theorem zbpf : Ev (fun q => zlx q) true := by
 obtain ⟨z', hN⟩ := zbny true
 have w2 : wrp .i64 1 = 1 := zbkt (by omega) (by omega)
 have hT := awk_s0 (h0l := [0]) (h1l := [⟨0, 2, 1, ⟨1, 5, 0⟩, 0⟩]) rfl rfl rfl (by simp [FitsR, fitsOp, cutI]) zbn1 hN
 obtain ⟨z2, hE⟩ := zbnt ⟨1, ⟨0, ⟨false, [5]⟩, false, 0⟩, ⟨z', [⟨2, 1, 0⟩]⟩⟩ (by simp) (by simp)
 rw [if_pos (mayD false z')] at hE
 have hl := zbn2 ⟨1, ⟨0, ⟨false, [5]⟩, false, 0⟩, ⟨z', [⟨2, 1, 0⟩]⟩⟩
 rw [w2] at hT
 exact zbpe _ _ hT hE rfl rfl hl rfl rfl rfl rfl
theorem zbpg (s : zjo) (r : Sl zjr) (hr : r.l.length ≤ 1000) (hz : zOk s.State.L.z s.Table.z s) (h1 : s.State.L.l.length ≤ 800000) (h2 : s.Table.l.length ≤ 800000) (hne : ¬ r.l.length = 0) (hok : (takeV s r.l).2 = 0)
  (a0 a1 : Int) (a2z : Bool) (a2l : List Int) (a3 : Bool) (a4 : Int) (n : Nat) (b0 b1 : Int) (b2z : Bool) (b2l : List Int) (b3 : Bool) (b4 : Int) (m : Nat) (c4z : Bool) (c4l : List zjn) (c4x : Bool)
  (hY : ∀ z z', sameN ⟨b0, ⟨b1, ⟨b2z, b2l⟩, b3, b4⟩, ⟨c4z, c4l⟩⟩ (setZ z z' (takeV s r.l).1) = true) (hb : b2l.length ≤ 1000000) (hc : c4l.length ≤ 1000000) (hn : n ≤ 1000000) : ∀ (k i : Nat) (hz : Bool) (hl : List zjn) (x : Bool), x = true → hl.length = n → n = i + k →
  Ev (fun q => zmp q r.z r.l (i : Int) s.Index s.State.Kind s.State.L.z s.State.L.l s.State.Sealed s.State.To s.Table.z s.Table.l a0 a1 a2z a2l a3 a4 n b0 b1 b2z b2l b3 b4 m hz hl x c4z c4l c4x) true
 | 0, i, yz, hl, x, hx, hn1, hk => by
  obtain ⟨z, z', h7⟩ := zbpd s.Index s.State.Kind s.State.L.z s.State.L.l s.State.Sealed s.State.To s.Table.z s.Table.l a0 a1 a2z a2l a3 a4 n b0 b1 b2z b2l b3 b4 m yz hl x c4z c4l c4x s r hr hz h1 h2
  have hT : tupT z z' s r.l = tup2 z z' (takeV s r.l).1 := by unfold tupT tupL; rw [if_neg hne, if_pos hok]
  rw [hT] at h7
  generalize hU : tup2 z z' (takeV s r.l).1 = t at h7
  have t1 : t.1 = 2 := by rw [← hU]; rfl
  refine Ev.succ (Ev.ne (Ev.bind h7 (Ev.ne (Ev.ne (Ev.bind (zbnx _ _ (by simp only; omega) (by simp only; omega)) (Ev.ret' ?_)))))) (fun q => rfl)
  rw [← hU]; exact hY z z'
 | k + 1, i, yz, hl, x, hx, hn1, hk => by
  have hi : i < hl.length := by omega
  have he : hl[((i : Int)).toNat]? = some hl[i] := by simp [hi]
  have ih := zbpg s r hr hz h1 h2 hne hok a0 a1 a2z a2l a3 a4 n b0 b1 b2z b2l b3 b4 m c4z c4l c4x hY hb hc hn k (i + 1) yz (List.set hl ((i : Int)).toNat ⟨hl[i].Proc, 77, hl[i].Resp⟩) true rfl (by rw [List.length_set]; exact hn1) (by omega)
  rw [show ((i + 1 : Nat) : Int) = wrp .i64 ((i : Int) + 1) by rw [zbkt (by omega) (by omega)]; omega] at ih
  exact Ev.succ (Ev.po (Ev.po (Ev.po (Ev.opt he (Ev.pos hx ih))))) (fun q => rfl)
theorem zbph : ∀ (a0 : zjo) (a1 : (Sl zjr)), zjo.ok a0 → okSl (fun x => zjr.ok x) a1 → ∃ q, zmq q a0 a1 = some true := by
 intro s r hs hl
 refine Ev.get (Ev.succ (Ev.bind zbpf (Ev.bind (Few_ev s) (Ev.pos rfl (Ev.ite (fun h1 => Ev.ite (fun h2 => Ev.ret _) fun h2 => ?_) fun h1 => Ev.ret _)))) (fun q => rfl))
 simp only [decide_eq_true_eq] at h1
 have hzs : zOk s.State.L.z s.Table.z s := ⟨hs.2.1.2.1.1, hs.2.2.1⟩
 have hr : r.l.length ≤ 1000 := by omega
 obtain ⟨z, z', h0⟩ := zbo5 s.Index s.State.Kind s.State.L.z s.State.L.l s.State.Sealed s.State.To s.Table.z s.Table.l s r hr hzs (by omega) (by omega)
 generalize hT : tupT z z' s r.l = t at h0
 by_cases c : r.l.length = 0
 ·have hU : t = tup1 s := by rw [← hT]; unfold tupT; rw [if_pos c]
  have t1 : t.1 = 1 := by rw [hU]; rfl
  refine Ev.bind h0 (Ev.ne (Ev.pos t1 ?_))
  obtain ⟨y, y', g⟩ := zbo9 s.Index s.State.Kind s.State.L.z s.State.L.l s.State.Sealed s.State.To s.Table.z s.Table.l t.2.2.1 t.2.2.2.1 t.2.2.2.2.1 t.2.2.2.2.2.1 t.2.2.2.2.2.2.1 t.2.2.2.2.2.2.2.1 t.2.2.2.2.2.2.2.2.1 t.2.2.2.2.2.2.2.2.2.1 s r hr hzs (by omega) (by omega)
  generalize hV : tupT y y' s r.l = u at g
  have hW : u = tup1 s := by rw [← hV]; unfold tupT; rw [if_pos c]
  have u1 : u.1 = 1 := by rw [hW]; rfl
  exact Ev.bind g (Ev.ne (Ev.pos u1 (Ev.po (Ev.ret _))))
 ·by_cases d : (takeV s r.l).2 = 0
  ·have hU : t = tup2 z z' (takeV s r.l).1 := by rw [← hT]; unfold tupT tupL; rw [if_neg c, if_pos d]
   have t1 : t.1 = 2 := by rw [hU]; rfl
   refine Ev.bind h0 (Ev.ne (Ev.neg (by omega) ?_))
   obtain ⟨y, y', g⟩ := zbpb s.Index s.State.Kind s.State.L.z s.State.L.l s.State.Sealed s.State.To s.Table.z s.Table.l t.2.2.2.2.2.2.2.2.2.2.2.2.2.2.2.2.2.1 t.2.2.2.2.2.2.2.2.2.2.2.2.2.2.2.2.2.2.1 t.2.2.2.2.2.2.2.2.2.2.2.2.2.2.2.2.2.2.2 t.2.2.2.2.2.2.2.2.2.2.1 t.2.2.2.2.2.2.2.2.2.2.2.1 t.2.2.2.2.2.2.2.2.2.2.2.2.1 t.2.2.2.2.2.2.2.2.2.2.2.2.2.1 t.2.2.2.2.2.2.2.2.2.2.2.2.2.2.1 t.2.2.2.2.2.2.2.2.2.2.2.2.2.2.2.1 t.2.2.2.2.2.2.2.2.2.2.2.2.2.2.2.2.1 s r hr hzs (by omega) (by omega)
   generalize hV : tupT y y' s r.l = u at g
   have hW : u = tup2 y y' (takeV s r.l).1 := by rw [← hV]; unfold tupT tupL; rw [if_neg c, if_pos d]
   have u1 : u.1 = 2 := by rw [hW]; rfl
   have hlen := zbo3 r.l s
   refine Ev.bind g (Ev.ne (Ev.ne (Ev.neg (by omega) ?_)))
   refine zbpg s r hr hzs (by omega) (by omega) c d _ _ _ _ _ _ _ _ _ _ _ _ _ _ _ _ _ ?_ ?_ ?_ ?_ (takeV s r.l).1.Table.l.length 0 _ _ _ ?_ ?_ ?_
   ·intro x x'; rw [hW]; simp [sameN, sameS, setZ, tup2]
   ·rw [hW]; simp only [tup2]; omega
   ·rw [hW]; simp only [tup2]; omega
   ·rw [hU]; simp only [tup2]; omega
   ·rw [hU]; rfl
   ·rw [hU]; rfl
   ·rw [hU]; simp only [tup2]; omega
  ·have hU : t = tup0 (takeV s r.l).2 := by rw [← hT]; unfold tupT tupL; rw [if_neg c, if_neg d]
   have t1 : t.1 = 0 := by rw [hU]; rfl
   have t2 : t.2.1 = (takeV s r.l).2 := by rw [hU]; rfl
   refine Ev.bind h0 (Ev.pos t1 ?_)
   obtain ⟨y, y', g⟩ := zbo7 s.Index s.State.Kind s.State.L.z s.State.L.l s.State.Sealed s.State.To s.Table.z s.Table.l s r hr hzs (by omega) (by omega)
   generalize hV : tupT y y' s r.l = u at g
   have hW : u = tup0 (takeV s r.l).2 := by rw [← hV]; unfold tupT tupL; rw [if_neg c, if_neg d]
   have u1 : u.1 = 0 := by rw [hW]; rfl
   have u2 : u.2.1 = (takeV s r.l).2 := by rw [hW]; rfl
   exact Ev.bind g (Ev.pos u1 (Ev.po (Ev.ne (Ev.ret _))))
end Go.Dvm.I
