/- Plain laws of the functions: part 1. -/
import Derived.Test.YtngajodhbioheaaQi
set_option linter.all false
set_option maxRecDepth 100000
namespace Go.Dvm.I
open Go Go.Dvm
/-- With enough rounds. -/
def Ev {R : Type} (g : Nat → Option R) (r : R) : Prop := ∃ N, ∀ q, N ≤ q → g q = some r
section
variable {R S : Type}
theorem Ev.ret (r : R) : Ev (fun _ => some r) r := ⟨0, fun _ _ => rfl⟩
theorem Ev.ret' {r r' : R} (h : r = r') : Ev (fun _ => some r) r' := ⟨0, fun _ _ => by rw [h]⟩
theorem Ev.succ {f g : Nat → Option R} {r : R} (h : Ev g r) (e : ∀ q, f (q + 1) = g q) : Ev f r := by
 obtain ⟨N, h⟩ := h
 refine ⟨N + 1, fun q hq => ?_⟩
 obtain ⟨q, rfl⟩ : ∃ p, q = p + 1 := ⟨q - 1, by omega⟩
 rw [e]; exact h q (by omega)
theorem Ev.bind {g : Nat → Option S} {k : Nat → S → Option R} {s : S} {r : R} (h : Ev g s) (h2 : Ev (fun q => k q s) r) : Ev (fun q => (g q).bind (k q)) r := by
 obtain ⟨N, h⟩ := h
 obtain ⟨M, h2⟩ := h2
 exact ⟨N + M, fun q hq => by show (g q).bind (k q) = some r; rw [h q (by omega), y8]; exact h2 q (by omega)⟩
theorem Ev.opt {o : Option S} {k : Nat → S → Option R} {s : S} {r : R} (h : o = some s) (h2 : Ev (fun q => k q s) r) : Ev (fun q => o.bind (k q)) r := by
 subst h; exact h2
theorem Ev.pos {c : Prop} [Decidable c] {a b : Nat → Option R} {r : R} (hc : c) (h : Ev a r) : Ev (fun q => if c then a q else b q) r := by
 obtain ⟨N, h⟩ := h
 exact ⟨N, fun q hq => by show (if c then a q else b q) = some r; rw [if_pos hc]; exact h q hq⟩
theorem Ev.neg {c : Prop} [Decidable c] {a b : Nat → Option R} {r : R} (hc : ¬ c) (h : Ev b r) : Ev (fun q => if c then a q else b q) r := by
 obtain ⟨N, h⟩ := h
 exact ⟨N, fun q hq => by show (if c then a q else b q) = some r; rw [if_neg hc]; exact h q hq⟩
theorem Ev.po {c : Prop} [Decidable c] {a b : Nat → Option R} {r : R} (h : Ev a r) (hc : c := by omega) : Ev (fun q => if c then a q else b q) r := Ev.pos hc h
theorem Ev.ne {c : Prop} [Decidable c] {a b : Nat → Option R} {r : R} (h : Ev b r) (hc : ¬ c := by omega) : Ev (fun q => if c then a q else b q) r := Ev.neg hc h
theorem Ev.ite {c : Prop} [Decidable c] {a b : Nat → Option R} {r : R} (h1 : c → Ev a r) (h2 : ¬ c → Ev b r) : Ev (fun q => if c then a q else b q) r := by
 by_cases hc : c
 ·exact .pos hc (h1 hc)
 ·exact .neg hc (h2 hc)
theorem Ev.get {f : Nat → Option R} {r : R} (h : Ev f r) : ∃ q, f q = some r := by
 obtain ⟨N, h⟩ := h; exact ⟨N, h N (y17 _)⟩
theorem Ev.cast {f : Nat → Option R} {r r' : R} (h : Ev f r) (e : r = r') : Ev f r' := e ▸ h
end
theorem zccm {x : Int} (h1 : -9223372036854775808 ≤ x) (h2 : x ≤ 9223372036854775807) : wrp .i64 x = x := by
 unfold wrp; simp [IntKind.wrap, IntKind.min, IntKind.max, IntKind.signed, IntKind.bits] <;> omega
theorem zccn {x : Int} (h1 : 0 ≤ x) (h2 : x ≤ 18446744073709551615) : wrp .u64 x = x := by
 unfold wrp; simp [IntKind.wrap, IntKind.min, IntKind.max, IntKind.signed, IntKind.bits] <;> omega
theorem zcco {x : Int} (h1 : 0 ≤ x) (h2 : x ≤ 4294967295) : wrp .u32 x = x := by
 unfold wrp; simp [IntKind.wrap, IntKind.min, IntKind.max, IntKind.signed, IntKind.bits] <;> omega
theorem wrp_u8 (x : Int) : wrp .u8 x = x % 256 := by
 unfold wrp; simp [IntKind.wrap, IntKind.min, IntKind.max, IntKind.signed, IntKind.bits] <;> omega
theorem zccp {x : Int} (h1 : 0 ≤ x) : ishr .u64 x 7 = x / 128 := by
 unfold ishr; simp [IntKind.bits]
 rw [y56]; omega
theorem or128 {x : Int} (h1 : 0 ≤ x) (h2 : x < 256) : ibits .or .u8 x 128 = x % 128 + 128 := by
 obtain ⟨n, rfl⟩ := Int.eq_ofNat_of_zero_le h1
 have hn : n < 256 := by omega
 have : ∀ m : Fin 256, ibits .or .u8 (m.val : Int) 128 = (m.val : Int) % 128 + 128 := by unfold ibits; decide +kernel
 exact this ⟨n, hn⟩
/-- A number's groups. -/
def grp (n : Nat) : List Int := if h : n < 128 then [(n : Int)] else ((n % 128 + 128 : Nat) : Int) :: grp (n / 128)
theorem grp_lt {n : Nat} (h : n < 128) : grp n = [(n : Int)] := by rw [grp, dif_pos h]
theorem grp_ge {n : Nat} (h : ¬ n < 128) : grp n = ((n % 128 + 128 : Nat) : Int) :: grp (n / 128) := by rw [grp, dif_neg h]
theorem zccq : ∀ (k : Nat) {n : Nat}, n < 128 ^ (k + 1) → (grp n).length ≤ k + 1
 | 0, n, h => by rw [grp_lt (by simpa using h)]; simp
 | k + 1, n, h => by
  by_cases hn : n < 128
  ·rw [grp_lt hn]; simp
  ·rw [grp_ge hn]
   have := zccq k (n := n / 128) (by rw [Nat.div_lt_iff_lt_mul (by omega)]; rw [Nat.pow_succ] at h; exact h)
   simp; omega
theorem zccr {n : Nat} (h : n < 18446744073709551616) : (grp n).length ≤ 10 := zccq 9 (by omega)
theorem zccs (n : Nat) : 1 ≤ (grp n).length := by
 by_cases hn : n < 128
 ·rw [grp_lt hn]; simp
 ·rw [grp_ge hn]; simp
theorem zcct : ∀ (n : Nat) (z : Bool) (l : List Int) (x : Bool), l.length + (grp n).length ≤ 4294967296 → Ev (fun q => znd q (n : Int) z l x) ⟨false, x, l ++ grp n⟩ := by
 intro n
 induction n using Nat.strongRecOn with
 | ind n ih =>
  intro z l x hl
  refine Ev.succ ?_ (fun q => rfl)
  by_cases hn : n < 128
  ·rw [grp_lt hn] at hl ⊢
   refine Ev.ne (Ev.pos (by simpa using hl) (Ev.ret' ?_))
   rw [wrp_u8]; congr 3; omega
  ·rw [grp_ge hn] at hl ⊢
   simp only [y24] at hl
   refine Ev.po (Ev.pos (by omega) ?_)
   rw [zccp (by omega), wrp_u8, or128 (by omega) (by omega)]
   have := ih (n / 128) (by omega) false (l ++ [((n % 128 + 128 : Nat) : Int)]) x (by simp; omega)
   rw [show ((n : Int) % 256 % 128 + 128) = ((n % 128 + 128 : Nat) : Int) by omega, show ((n : Int) / 128) = ((n / 128 : Nat) : Int) by omega]
   simpa using this
theorem zccu {u : Int} (h1 : 0 ≤ u) (b : Ow Int) (hl : b.xs.length + (grp u.toNat).length ≤ 4294967296) : Ev (fun q => zne q b u) ⟨false, b.x, b.xs ++ grp u.toNat⟩ := by
 have := zcct u.toNat b.n b.xs b.x hl
 rw [Int.toNat_of_nonneg h1] at this
 exact Ev.succ this (fun q => rfl)
/-- What a number puts behind bytes. -/
def put (n : Int) : List Int := if n < 0 then [] else if 4611686018427387904 ≤ n then [] else grp n.toNat
theorem put_ok {n : Int} (h1 : 0 ≤ n) (h2 : n < 4611686018427387904) : put n = grp n.toNat := by
 unfold put; rw [if_neg (by omega), if_neg (by omega)]
theorem zccv (n : Int) : (put n).length ≤ 10 := by
 unfold put; split
 ·simp
 ·split
  ·simp
  ·exact zccr (by omega)
theorem zccw {n : Int} (b : Ow Int) (h1 : 0 ≤ n) (h2 : n < 4611686018427387904) (hl : b.xs.length + 10 ≤ 4294967296) : Ev (fun q => znf q b n) ⟨false, b.x, b.xs ++ put n⟩ := by
 refine Ev.succ ?_ (fun q => rfl)
 rw [put_ok h1 h2]
 have hg := zccr (n := n.toNat) (by omega)
 refine Ev.ne (Ev.neg (by omega) ?_)
 rw [zccn h1 (by omega)]
 exact Ev.bind (zccu h1 b (by omega)) (Ev.ret _)
/-- Zigzag. -/
def zig (n : Int) : Nat := if 0 ≤ n then 2 * n.toNat else 2 * (-n).toNat - 1
theorem zig_lt {n : Int} (h : inR .i64 n) : zig n < 18446744073709551616 := by
 simp [inR, IntKind.min, IntKind.max, IntKind.signed, IntKind.bits] at h
 unfold zig; split <;> omega
def putS (n : Int) : List Int := grp (zig n)
theorem zccx (k : IntKind) (n : Int) : k.wrap n = wrp k n := by unfold wrp; rfl
theorem xor0 {x : Int} (h1 : 0 ≤ x) (h2 : x < 18446744073709551616) : ibits .xor .u64 x 0 = x := by
 have e : ibits .xor .u64 x 0 = IntKind.wrap .u64 (((BitVec.ofInt 64 x ^^^ 0#64 : BitVec 64).toNat : Nat) : Int) := by unfold ibits; rfl
 rw [e, BitVec.xor_zero, y52, zccx, zccn] <;> omega
theorem xor1 {x : Int} (h1 : 0 ≤ x) (h2 : x < 18446744073709551616) : ibits .xor .u64 x 18446744073709551615 = 18446744073709551615 - x := by
 have e : ibits .xor .u64 x 18446744073709551615 = IntKind.wrap .u64 (((BitVec.ofInt 64 x ^^^ BitVec.allOnes 64 : BitVec 64).toNat : Nat) : Int) := by unfold ibits; rfl
 rw [e, BitVec.xor_allOnes, BitVec.toNat_not, y52, zccx, zccn] <;> omega
theorem ishl1 {x : Int} (h1 : 0 ≤ x) : ishl .u64 x 1 = (2 * x) % 18446744073709551616 := by
 unfold ishl
 simp [IntKind.wrap, IntKind.signed, IntKind.bits]
 omega
theorem zccy (x : Int) : wrp .u64 x = x % 18446744073709551616 := by
 unfold wrp; simp [IntKind.wrap, IntKind.signed, IntKind.bits]
theorem ishr63 {x : Int} (h : inR .i64 x) : ishr .i64 x 63 = if 0 ≤ x then 0 else -1 := by
 simp [inR, IntKind.min, IntKind.max, IntKind.signed, IntKind.bits] at h
 unfold ishr; simp [IntKind.bits]
 rw [y56 _ (by omega)]
 split <;> omega
theorem zccz {n : Int} (h : inR .i64 n) : Ev (fun q => znj q n) ((zig n : Nat) : Int) := by
 refine Ev.succ (Ev.ret' ?_) (fun q => rfl)
 have hr := h
 simp [inR, IntKind.min, IntKind.max, IntKind.signed, IntKind.bits] at hr
 rw [ishr63 h]
 by_cases h0 : 0 ≤ n
 ·rw [if_pos h0, zccn h0 (by omega), ishl1 h0, zccn (by omega) (by omega), xor0 (by omega) (by omega)]
  unfold zig; rw [if_pos h0]; omega
 ·rw [if_neg h0, zccy n, ishl1 (by omega), show wrp .u64 (-1) = 18446744073709551615 by rw [zccy]; rfl, xor1 (by omega) (by omega)]
  unfold zig; rw [if_neg h0]; omega
theorem zcc0 {n : Int} (b : Ow Int) (h : inR .i64 n) (hl : b.xs.length + 10 ≤ 4294967296) : Ev (fun q => znk q b n) ⟨false, b.x, b.xs ++ putS n⟩ := by
 refine Ev.succ ?_ (fun q => rfl)
 have hg := zccr (zig_lt h)
 have := zccu (u := (zig n : Nat)) (by omega) b (by simpa using (by omega : b.xs.length + (grp (zig n)).length ≤ 4294967296))
 rw [y31] at this
 exact Ev.bind (zccz h) (Ev.bind this (Ev.ret _))
theorem inR64 {x : Int} (h : inR .i64 x) : -9223372036854775808 ≤ x ∧ x ≤ 9223372036854775807 := by
 simp [inR, IntKind.min, IntKind.max, IntKind.signed, IntKind.bits] at h; omega
def cutI (n : Int) : Int := if n < -1099511627776 then -1099511627776 else if 1099511627776 < n then 1099511627776 else n
theorem zcc1 (n : Int) : Ev (fun q => zjw q n) (cutI n) := by
 refine Ev.succ (Ev.ret' ?_) (fun q => rfl)
 unfold cutI; split <;> split <;> split <;> (try split) <;> omega
theorem zcc2 {n : Int} (h : inR .i64 n) : (putS n).length ≤ 10 := zccr (zig_lt h)
theorem zcc3 {n : Int} (h1 : -9223372036854775808 ≤ n) (h2 : n ≤ 9223372036854775807) : inR .i64 n := by
 simp [inR, IntKind.min, IntKind.max, IntKind.signed, IntKind.bits]; omega
theorem zcc4 : ∀ (n : Nat) (z : Bool) (l : List Int), n < 18446744073709551616 → l.length + (grp n).length ≤ 4294967296 → Ev (fun q => zny q (n : Int) z l) ⟨false, true, l ++ grp n⟩ := by
 intro n
 induction n using Nat.strongRecOn with
 | ind n ih =>
  intro z l hb hl
  refine Ev.succ ?_ (fun q => rfl)
  by_cases hn : n < 128
  ·rw [grp_lt hn] at hl ⊢
   refine Ev.ne (Ev.pos (by simpa using hl) (Ev.ret' ?_))
   rw [wrp_u8]; congr 3; omega
  ·rw [grp_ge hn] at hl ⊢
   simp only [y24] at hl
   refine Ev.po (Ev.pos (by omega) ?_)
   have e1 : Int.tdiv (n : Int) 128 = ((n / 128 : Nat) : Int) := by rw [Int.tdiv_eq_ediv_of_nonneg (by omega)]; omega
   have e2 : Int.tmod (n : Int) 128 = ((n % 128 : Nat) : Int) := by rw [y62 (by omega)]; omega
   rw [e1, e2, zccn (by omega) (by omega), zccn (by omega) (by omega), wrp_u8]
   have := ih (n / 128) (by omega) false (l ++ [((n % 128 + 128 : Nat) : Int)]) (by omega) (by simp; omega)
   rw [show (((n % 128 : Nat) : Int) + 128) % 256 = ((n % 128 + 128 : Nat) : Int) by omega]
   simpa using this
theorem zcc5 {u : Int} (h1 : 0 ≤ u) (h2 : u < 18446744073709551616) : Ev (fun q => znz q u) ⟨false, true, grp u.toNat⟩ := by
 have hg := zccr (n := u.toNat) (by omega)
 have := zcc4 u.toNat true [] (by omega) (by simp; omega)
 rw [Int.toNat_of_nonneg h1] at this
 exact Ev.succ this (fun q => rfl)
theorem grp_ne (n : Nat) : decide ((grp n).length = 0) = false := by have := zccs n; simp; intro h; rw [h] at this; simp at this
theorem zcc6 {n : Int} (s : Sl Int) (h1 : 0 ≤ n) (h2 : n < 4611686018427387904) (hl : s.l.length + 10 ≤ 4294967296) : Ev (fun q => zn0 q s n) ⟨false, true, s.l ++ put n⟩ := by
 have hg := zccr (n := n.toNat) (by omega)
 refine Ev.succ (Ev.po (Ev.ne (Ev.neg (by omega) ?_))) (fun q => rfl)
 rw [zccn h1 (by omega), put_ok h1 h2]
 refine Ev.bind (zcc5 h1 (by omega)) (Ev.pos (by simp only; omega) (Ev.ret' ?_))
 simp only [grp_ne, Bool.and_false]
theorem zcc7 {n : Int} (h : inR .i64 n) : Ev (fun q => zn1 q n) ((zig n : Nat) : Int) := by
 have hr := inR64 h
 refine Ev.succ (Ev.ite (fun h0 => Ev.ret' ?_) fun h0 => Ev.ret' ?_) (fun q => rfl)
 ·rw [zccn h0 (by omega), zccn (by omega) (by omega)]
  unfold zig; rw [if_pos h0]; omega
 ·rw [zccm (x := n + 1) (by omega) (by omega), zccm (by omega) (by omega), zccn (x := 0 - (n + 1)) (by omega) (by omega), zccn (x := (0 - (n + 1)) * 2) (by omega) (by omega), zccn (by omega) (by omega)]
  unfold zig; rw [if_neg h0]; omega
theorem zcc8 {n : Int} (s : Sl Int) (h : inR .i64 n) (hl : s.l.length + 10 ≤ 4294967296) : Ev (fun q => zn2 q s n) ⟨false, true, s.l ++ putS n⟩ := by
 have hz := zig_lt h
 have hg := zccr hz
 refine Ev.succ (Ev.po (Ev.bind (zcc7 h) (Ev.bind (zcc5 (by omega) (by omega)) (Ev.pos ?_ (Ev.ret' ?_))))) (fun q => rfl)
 ·simp only [y31]; omega
 ·simp only [grp_ne, Bool.and_false, y31]; rfl
abbrev B32 := BitVec 32
def u (a : B32) : Int := (a.toNat : Int)
theorem u_nn (a : B32) : 0 ≤ u a := Int.natCast_nonneg _
theorem u_lt (a : B32) : u a < 4294967296 := by unfold u; have := a.isLt; omega
theorem zcc9 (a : B32) : BitVec.ofInt 32 (u a) = a := by
 apply BitVec.eq_of_toNat_eq; rw [y52]; unfold u; have := a.isLt; omega
theorem wrp_u (a : B32) : IntKind.wrap .u32 ((a.toNat : Nat) : Int) = u a := by
 have := a.isLt
 rw [zccx, zcco (by omega) (by omega)]; rfl
theorem xor_u (a b : B32) : ibits .xor .u32 (u a) (u b) = u (a ^^^ b) := by
 have e : ibits .xor .u32 (u a) (u b) = IntKind.wrap .u32 (((BitVec.ofInt 32 (u a) ^^^ BitVec.ofInt 32 (u b) : B32).toNat : Nat) : Int) := by unfold ibits; rfl
 rw [e, zcc9, zcc9, wrp_u]
theorem and_u (a b : B32) : ibits .and .u32 (u a) (u b) = u (a &&& b) := by
 have e : ibits .and .u32 (u a) (u b) = IntKind.wrap .u32 (((BitVec.ofInt 32 (u a) &&& BitVec.ofInt 32 (u b) : B32).toNat : Nat) : Int) := by unfold ibits; rfl
 rw [e, zcc9, zcc9, wrp_u]
theorem u_lit (n : Nat) (h : n < 4294967296) : u (BitVec.ofNat 32 n) = (n : Int) := by
 unfold u; rw [BitVec.toNat_ofNat]; omega
theorem zcda (x : Int) : wrp .u32 x = x % 4294967296 := by
 unfold wrp; simp [IntKind.wrap, IntKind.signed, IntKind.bits]
theorem ishr_u (a : B32) (k : Nat) (hk : k ≤ 32) : ishr .u32 (u a) (k : Int) = u (a >>> k) := by
 unfold ishr u
 simp only [IntKind.bits, y31, Nat.min_eq_left hk]
 rw [y56 _ (by exact_mod_cast Nat.zero_le _), BitVec.toNat_ushiftRight, Nat.shiftRight_eq_div_pow]
 simp
theorem zcdb (a : B32) : ishr .u32 (u a) 1 = u (a >>> 1) := ishr_u a 1 (by omega)
theorem zcdc (a : B32) : ishr .u32 (u a) 8 = u (a >>> 8) := ishr_u a 8 (by omega)
def poly : B32 := 2197175160#32
def bstep (a : B32) : B32 := if a &&& 1#32 = 1#32 then (a >>> 1) ^^^ poly else a >>> 1
theorem and1 (a : B32) : a &&& 1#32 = 0#32 ∨ a &&& 1#32 = 1#32 := by
 have : (a &&& 1#32).toNat = a.toNat % 2 := by rw [BitVec.toNat_and]; exact Nat.and_one_is_mod _
 rcases Nat.mod_two_eq_zero_or_one a.toNat with h | h
 ·left; exact BitVec.eq_of_toNat_eq (by rw [this, h]; rfl)
 ·right; exact BitVec.eq_of_toNat_eq (by rw [this, h]; rfl)
theorem zcdd (a : B32) : a &&& 1#32 = 1#32 ↔ u a % 2 = 1 := by
 have h : (a &&& 1#32).toNat = a.toNat % 2 := by rw [BitVec.toNat_and]; exact Nat.and_one_is_mod _
 unfold u
 constructor
 ·intro e; rw [e] at h; simp at h; omega
 ·intro e; exact BitVec.eq_of_toNat_eq (by rw [h]; simp; omega)
/-- The program's step. -/
theorem zcde (a : B32) : ibits .xor .u32 (ishr .u32 (u a) 1) (ibits .and .u32 2197175160 (wrp .u32 (0 - (ibits .and .u32 (u a) 1)))) = u (bstep a) := by
 have e1 : (1 : Int) = u 1#32 := rfl
 have e2 : (2197175160 : Int) = u poly := by unfold poly; rw [u_lit _ (by omega)]; rfl
 rw [zcdb]
 conv => lhs; arg 4; rw [e2]; arg 4; rw [e1, and_u]
 unfold bstep
 rcases and1 a with h | h
 ·rw [h, if_neg (by decide)]
  have : wrp .u32 (0 - u 0#32) = u 0#32 := by rw [zcda]; rfl
  rw [this, and_u, BitVec.and_zero, xor_u, BitVec.xor_zero]
 ·rw [h, if_pos rfl]
  have : wrp .u32 (0 - u 1#32) = u (BitVec.allOnes 32) := by rw [zcda]; rfl
  rw [this, and_u, BitVec.and_allOnes, xor_u]
def biter : Nat → B32 → B32
 | 0, a => a
 | n + 1, a => biter n (bstep a)
def bentry (a : B32) : B32 := biter 8 a
theorem zcdf (v2 v5 : Int) (t0 t1 : List Int) (r : List Int) : ∀ (k : Nat) (a : B32) (v10 : Int), v10 = 8 - k → k ≤ 8 → 0 ≤ v2 → v2.toNat < 256 → v2.toNat + 1 ≤ t1.length →
  Ev (fun q => zlk q (wrp .i64 (v5 + 1)) t0 (List.set t1 v2.toNat (u (biter k a)))) r → Ev (fun q => zll q v2 (u a) v5 v10 t0 t1) r
 | 0, a, v10, h1, h2, h3, h4, h5, h => Ev.succ (Ev.ne (Ev.pos h3 (Ev.pos h4 (Ev.pos h5 h)))) (fun q => rfl)
 | k + 1, a, v10, h1, h2, h3, h4, h5, h => by
  refine Ev.succ (Ev.pos (by omega) ?_) (fun q => rfl)
  rw [zcde, zccm (by omega) (by omega)]
  exact zcdf v2 v5 t0 t1 r k (bstep a) (v10 + 1) (by omega) (by omega) h3 h4 h5 h
/-- The table. -/
def tabN (n : Nat) : List Int := (List.range n).map fun i => u (bentry (BitVec.ofNat 32 i))
theorem zcdg {n i : Nat} (h : i < n) : (tabN n)[i]? = some (u (bentry (BitVec.ofNat 32 i))) := by
 unfold tabN; rw [y45, List.getElem?_range h]; rfl
theorem zcdh (n : Nat) : (tabN n).length = n := by simp [tabN]
theorem zcdi : ∀ (k i : Nat) (t1 : List Int), i + k = 256 → t1.length = 256 → (∀ j, j < i → t1[j]? = (tabN 256)[j]?) → Ev (fun q => zlk q (i : Int) (List.replicate 256 0) t1) (tabN 256)
 | 0, i, t1, hk, hl, ht => by
  refine Ev.succ (Ev.ne (Ev.po (Ev.po (Ev.pos (by simp) (Ev.pos (by simp) (Ev.ret' ?_)))))) (fun q => rfl)
  have e : t1 = tabN 256 := by
   apply List.ext_getElem?
   intro j
   by_cases hj : j < 256
   ·exact ht j (by omega)
   ·rw [y53 (by omega), y53 (by rw [zcdh]; omega)]
  have h2 := zcdh 256
  rw [e, List.take_of_length_le (i := 256) (by omega : (tabN 256).length ≤ 256), y15 (by simp), List.append_nil, List.take_of_length_le (by omega)]
 | k + 1, i, t1, hk, hl, ht => by
  refine Ev.succ (Ev.pos (by omega) ?_) (fun q => rfl)
  have e : wrp .u32 (i : Int) = u (BitVec.ofNat 32 i) := by rw [u_lit _ (by omega), zcco] <;> omega
  rw [e]
  refine zcdf _ _ _ _ _ 8 _ 0 (by omega) (by omega) (by omega) (by omega) (by omega) ?_
  rw [zccm (by omega) (by omega), show ((i : Int) + 1) = ((i + 1 : Nat) : Int) by omega, y31]
  refine zcdi k (i + 1) _ (by omega) (by simpa using hl) fun j hj => ?_
  by_cases e : i = j
  ·subst e; rw [y26 (by omega), zcdg (by omega)]; rfl
  ·rw [y32 e]; exact ht j (by omega)
theorem zcdj : Ev (fun q => zlm q) (tabN 256) :=
 Ev.succ (zcdi 256 0 (List.replicate 256 0) (by omega) (by simp) (fun j hj => by omega)) (fun q => rfl)
/-- What a byte makes of a sum. -/
def bbyte (x : B32) (c : Int) : B32 := bentry ((x ^^^ BitVec.ofInt 32 c) &&& 255#32) ^^^ (x >>> 8)
def bmore (x : B32) (l : List Int) : B32 := l.foldl bbyte x
def isB (l : List Int) : Prop := ∀ c ∈ l, 0 ≤ c ∧ c < 256
theorem xor8 {x : B32} {c : Int} (h1 : 0 ≤ c) (h2 : c < 256) : ibits .xor .u8 (wrp .u8 (u x)) c = u ((x ^^^ BitVec.ofInt 32 c) &&& 255#32) := by
 have e : ibits .xor .u8 (wrp .u8 (u x)) c = IntKind.wrap .u8 (((BitVec.ofInt 8 (wrp .u8 (u x)) ^^^ BitVec.ofInt 8 c : BitVec 8).toNat : Nat) : Int) := by unfold ibits; rfl
 rw [e, zccx, wrp_u8, wrp_u8]
 unfold u
 rw [BitVec.toNat_and, BitVec.toNat_xor, BitVec.toNat_xor, y52, y52, y52]
 obtain ⟨n, rfl⟩ := Int.eq_ofNat_of_zero_le h1
 have hn : n < 256 := by omega
 have e1 : (((x.toNat : Int) % 256 % ((2 ^ 8 : Nat) : Int)).toNat) = x.toNat % 256 := by omega
 have e2 : (((n : Int) % ((2 ^ 8 : Nat) : Int)).toNat) = n := by omega
 have e3 : (((n : Int) % ((2 ^ 32 : Nat) : Int)).toNat) = n := by omega
 rw [e1, e2, e3, show (255#32).toNat = 2 ^ 8 - 1 from rfl, Nat.and_two_pow_sub_one_eq_mod]
 have h3 : (x.toNat ^^^ n) % 2 ^ 8 = (x.toNat % 2 ^ 8) ^^^ (n % 2 ^ 8) := Nat.xor_mod_two_pow
 rw [h3, Nat.mod_eq_of_lt (show n < 2 ^ 8 by omega)]
 have h4 : (x.toNat % 2 ^ 8) ^^^ n < 2 ^ 8 := Nat.xor_lt_two_pow (Nat.mod_lt _ (by omega)) (by omega)
 simp only [Nat.reducePow] at h4 ⊢
 omega
theorem and255 (x : B32) : u (x &&& 255#32) < 256 := by
 unfold u
 rw [BitVec.toNat_and, show (255#32).toNat = 2 ^ 8 - 1 from rfl, Nat.and_two_pow_sub_one_eq_mod]; omega
theorem zcdk (a : B32) : (u a).toNat = a.toNat := by unfold u; omega
theorem ones : (4294967295 : Int) = u (BitVec.allOnes 32) := rfl
theorem zcdl (z : Bool) (l : List Int) (hb : isB l) (hl : l.length ≤ 1099511627776) : ∀ (k i : Nat) (x : B32), l.length = i + k → Ev (fun q => zln q (u x) z l (l.length : Int) (i : Int) (tabN 256)) (u (~~~ bmore x (l.drop i)))
 | 0, i, x, hk => by
  refine Ev.succ (Ev.ne (Ev.ret' ?_)) (fun q => rfl)
  rw [y15 (by omega), ones, xor_u]
  simp only [bmore, List.foldl_nil, BitVec.allOnes_xor]
 | k + 1, i, x, hk => by
  have hi : i < l.length := by omega
  have hg : l[(i : Int).toNat]? = some l[i] := by simpa using y10 hi
  obtain ⟨b1, b2⟩ := hb l[i] (y29 hi)
  refine Ev.succ (Ev.po (Ev.po (Ev.opt hg ?_))) (fun q => rfl)
  rw [xor8 b1 b2]
  have h255 := and255 (x ^^^ BitVec.ofInt 32 l[i])
  have hnn := u_nn ((x ^^^ BitVec.ofInt 32 l[i]) &&& 255#32)
  refine Ev.pos hnn (Ev.po (Ev.opt (zcdg (by omega)) ?_))
  rw [zcdc, xor_u, zccm (by omega) (by omega), show ((i : Int) + 1) = ((i + 1 : Nat) : Int) by omega, zcdk]
  have := zcdl z l hb hl k (i + 1) (bentry ((x ^^^ BitVec.ofInt 32 l[i]) &&& 255#32) ^^^ (x >>> 8)) (by omega)
  rw [y12 hi]
  simp only [bmore, List.foldl_cons, bbyte, BitVec.ofNat_toNat, BitVec.setWidth_eq] at this ⊢
  exact this
theorem zcdm (x : B32) (s : Sl Int) (hb : isB s.l) (hl : s.l.length ≤ 1099511627776) : Ev (fun q => zlo q (u x) s) (u (~~~ bmore (~~~ x) s.l)) := by
 refine Ev.succ (Ev.bind zcdj (Ev.pos (zcdh 256) ?_)) (fun q => rfl)
 rw [ones, xor_u, BitVec.allOnes_xor]
 have := zcdl s.z s.l hb hl s.l.length 0 (~~~ x) (by omega)
 rw [y41] at this
 exact this
/-- The sum of bytes. -/
def bsum (l : List Int) : B32 := ~~~ bmore (BitVec.allOnes 32) l
theorem zcdn (s : Sl Int) (hb : isB s.l) (hl : s.l.length ≤ 1099511627776) : Ev (fun q => zlp q s) (u (bsum s.l)) := by
 have := zcdm 0#32 s hb hl
 exact Ev.succ (Ev.bind this (Ev.ret' (by simp [bsum]))) (fun q => rfl)
theorem zcdo (x : B32) (a b : List Int) : bmore (bmore x a) b = bmore x (a ++ b) := by simp [bmore]
theorem zcdp {x : Int} (h : 0 ≤ x) (k : Nat) (hk : k ≤ 64) : ishr .u64 x (k : Int) = x / ((2 ^ k : Nat) : Int) := by
 unfold ishr
 simp only [IntKind.bits, y31, Nat.min_eq_left hk]
 rw [y56 _ (by exact_mod_cast Nat.zero_le _)]
 simp
/-- A number in four bytes. -/
def fix4 (v : Nat) : List Int := [((v % 256 : Nat) : Int), ((v / 256 % 256 : Nat) : Int), ((v / 65536 % 256 : Nat) : Int), ((v / 16777216 % 256 : Nat) : Int)]
theorem zcdq (v k : Nat) (hk : k ≤ 8) : wrp .u8 (ishr .u64 (v : Int) (wrp .i64 (8 * (k : Int)))) = ((v / 2 ^ (8 * k) % 256 : Nat) : Int) := by
 rw [zccm (by omega) (by omega), show (8 * (k : Int)) = ((8 * k : Nat) : Int) by omega, zcdp (by omega) _ (by omega), wrp_u8]
 exact_mod_cast rfl
def bytesFrom (v : Nat) : Nat → Nat → List Int
 | _, 0 => []
 | i, k + 1 => ((v / 2 ^ (8 * i) % 256 : Nat) : Int) :: bytesFrom v (i + 1) k
theorem zcdr {v m : Nat} (hm : m ≤ 8) : ∀ (k i : Nat) (l : List Int), m = i + k → l.length + k ≤ 4294967296 → Ev (fun q => zlq q (v : Int) (m : Int) (i : Int) false l) ⟨false, true, l ++ bytesFrom v i k⟩
 | 0, i, l, hk, hl => Ev.succ (Ev.ne (Ev.ret' (by simp [bytesFrom]))) (fun q => rfl)
 | k + 1, i, l, hk, hl => by
  have w : wrp .i64 (8 * (i : Int)) = 8 * (i : Int) := zccm (by omega) (by omega)
  refine Ev.succ (Ev.po (Ev.neg (by rw [w]; omega) (Ev.pos (by omega) ?_))) (fun q => rfl)
  rw [zcdq v i (by omega), zccm (x := (i : Int) + 1) (by omega) (by omega), show ((i : Int) + 1) = ((i + 1 : Nat) : Int) by omega]
  refine (zcdr hm k (i + 1) _ (by omega) (by simp; omega)).cast ?_
  simp [bytesFrom]
theorem zcds {v m : Nat} (h0 : 0 < m) (hm : m ≤ 8) : Ev (fun q => zlr q (v : Int) (m : Int)) ⟨false, true, bytesFrom v 0 m⟩ := by
 obtain ⟨k, rfl⟩ : ∃ k, m = k + 1 := ⟨m - 1, by omega⟩
 have w : wrp .i64 (8 * ((0 : Nat) : Int)) = 0 := zccm (by omega) (by omega)
 have key : ∀ i : Int, i = ((0 : Nat) : Int) → Ev (fun q => zlq q (v : Int) ((k + 1 : Nat) : Int) i true []) ⟨false, true, bytesFrom v 0 (k + 1)⟩ := by
  intro i hi
  refine Ev.succ (Ev.po (Ev.neg (by rw [hi, w]; omega) (Ev.pos (by simp) ?_))) (fun q => rfl)
  rw [hi, zcdq v 0 (by omega), zccm (x := ((0 : Nat) : Int) + 1) (by omega) (by omega), show (((0 : Nat) : Int) + 1) = ((0 + 1 : Nat) : Int) by omega]
  refine (zcdr hm k 1 _ (by omega) (by simp; omega)).cast ?_
  simp [bytesFrom]
 exact Ev.succ (key 0 rfl) (fun q => rfl)
theorem bytes4 (v : Nat) : bytesFrom v 0 4 = fix4 v := by simp [bytesFrom, fix4]
theorem zcdt {v : Nat} (h : v < 18446744073709551616) : Ev (fun q => zlr q (v : Int) 4) ⟨false, true, fix4 v⟩ := by
 have := zcds (v := v) (m := 4) (by omega) (by omega)
 rw [bytes4] at this; exact this
theorem zcdu (a : B32) : Ev (fun q => zls q (u a)) ⟨false, true, fix4 a.toNat⟩ := by
 have h1 := u_nn a; have h2 := u_lt a
 have e : wrp .u64 (u a) = ((a.toNat : Nat) : Int) := by rw [zccn h1 (by omega)]; rfl
 exact Ev.succ (Ev.bind (by rw [e]; exact zcdt (by have := a.isLt; omega)) (Ev.ret _)) (fun q => rfl)
theorem zcdv (a b : Sl Int) (ha : isB a.l) (hb : isB b.l) (la : a.l.length ≤ 1099511627776) (lb : b.l.length ≤ 1099511627776) : Ev (fun q => zlt q a b) ⟨false, true, fix4 (bsum (a.l ++ b.l)).toNat⟩ := by
 have h2 := zcdm (bsum a.l) b hb lb
 have e : ~~~ bmore (~~~ bsum a.l) b.l = bsum (a.l ++ b.l) := by
  unfold bsum; rw [BitVec.not_not, zcdo]
 rw [e] at h2
 exact Ev.succ (Ev.bind (zcdn a ha la) (Ev.bind h2 (Ev.bind (zcdu _) (Ev.ret _)))) (fun q => rfl)
def flat (l : List (Sl Int)) : List Int := l.flatMap (·.l)
theorem zcdw (a : Sl Int) (b : List (Sl Int)) : flat (a :: b) = a.l ++ flat b := by simp [flat]
theorem zcdx (z0 : Bool) (L : List (Sl Int)) (z : Bool) (hL : L.length ≤ 1099511627776) : ∀ (k i : Nat) (m : Nat) (l : List Int), L.length = i + k → m + (flat (L.drop i)).length ≤ l.length →
  Ev (fun q => znl q m z0 L (L.length : Int) (i : Int) z l) ⟨z, true, l.take m ++ flat (L.drop i)⟩
 | 0, i, m, l, hk, hl => by
  refine Ev.succ (Ev.ne (Ev.ret' ?_)) (fun q => rfl)
  rw [y15 (by omega)]; simp [flat]
 | k + 1, i, m, l, hk, hl => by
  have hi : i < L.length := by omega
  have hg : L[(i : Int).toNat]? = some L[i] := by simpa using y10 hi
  rw [y12 hi, zcdw, y13] at hl
  refine Ev.succ (Ev.po (Ev.po (Ev.opt hg (Ev.pos (by omega) ?_)))) (fun q => rfl)
  rw [zccm (by omega) (by omega), show ((i : Int) + 1) = ((i + 1 : Nat) : Int) by omega]
  refine (zcdx z0 L z hL k (i + 1) (m + L[i].l.length) _ (by omega) ?_).cast ?_
  ·simp only [y13, y23, y16]; omega
  ·congr 1
   rw [y12 hi, zcdw, ← y36]
   congr 1
   rw [List.take_append_of_le_length (by simp only [y13, y23]; omega), List.take_of_length_le (by simp only [y13, y23]; omega)]
theorem zcdy (z0 : Bool) (L : List (Sl Int)) (hL : L.length ≤ 1099511627776) : ∀ (k i : Nat) (z : Bool) (l : List Int), L.length = i + k → l.length + (flat (L.drop i)).length ≤ 4294967296 →
  ∃ z', Ev (fun q => znm q z0 L (L.length : Int) (i : Int) z l) ⟨z', true, l ++ flat (L.drop i)⟩
 | 0, i, z, l, hk, hl => ⟨z, by
  refine Ev.succ (Ev.ne (Ev.ret' ?_)) (fun q => rfl)
  rw [y15 (by omega)]; simp [flat]⟩
 | k + 1, i, z, l, hk, hl => by
  have hi : i < L.length := by omega
  have hg : L[(i : Int).toNat]? = some L[i] := by simpa using y10 hi
  rw [y12 hi, zcdw, y13] at hl
  obtain ⟨z', h⟩ := zcdy z0 L hL k (i + 1) (z && (decide (L[i].l.length = 0))) (l ++ L[i].l) (by omega) (by simp only [y13]; omega)
  refine ⟨z', Ev.succ (Ev.po (Ev.po (Ev.opt hg (Ev.pos (by omega) ?_)))) (fun q => rfl)⟩
  rw [zccm (by omega) (by omega), show ((i : Int) + 1) = ((i + 1 : Nat) : Int) by omega]
  refine h.cast ?_
  rw [y12 hi, zcdw]; simp
theorem zcdz (z0 z9 : Bool) (L : List (Sl Int)) (hL : L.length ≤ 1099511627776) (hf : (flat L).length ≤ 4294967296) : ∀ (k i : Nat) (m : Nat), L.length = i + k → m + (flat (L.drop i)).length = (flat L).length →
  ∃ z', Ev (fun q => zno q z0 L (m : Int) z9 L (L.length : Int) (i : Int)) ⟨z', true, flat L⟩
 | 0, i, m, hk, hm => by
  rw [y15 (by omega)] at hm
  have hm2 : m = (flat L).length := by simpa [flat] using hm
  have w : wrp .i64 ((m : Int) - wrp .i64 0) = (m : Int) := by rw [zccm (x := 0) (by omega) (by omega), zccm (by omega) (by omega)]; omega
  by_cases h0 : 0 < m
  ·refine ⟨decide (wrp .i64 ((m : Int) - wrp .i64 0) = 0), Ev.succ (Ev.ne (Ev.ne (Ev.pos (by rw [w]; omega) (Ev.pos (by rw [w]; omega) (Ev.pos (by rw [w]; omega) (Ev.neg (by rw [w]; omega) ?_)))))) (fun q => rfl)⟩
   rw [w]
   have := zcdx z0 L (decide ((m : Int) = 0)) hL L.length 0 0 (List.replicate (m : Int).toNat 0) (by omega) (by simp; omega)
   rw [y41] at this
   exact this
  ·have hnil : flat L = [] := y38 (by omega)
   match L, hk with
   | [], _ =>
    refine ⟨true, Ev.succ (Ev.neg (by simp) (Ev.neg (by omega) ?_)) (fun q => rfl)⟩
    rw [w]
    refine Ev.neg (by omega) ?_
    exact Ev.succ (g := fun _ => some ⟨true, true, []⟩) (Ev.ret' (by simp [flat])) (fun q => rfl)
   | a :: L', hk =>
    rw [zcdw] at hnil
    obtain ⟨z', h⟩ := zcdy z0 (a :: L') hL L'.length 1 (decide (a.l.length = 0)) a.l (by simp; omega) (by
     have : flat (List.drop 1 (a :: L')) = flat L' := rfl
     rw [this, ← y13, hnil]; simp)
    refine ⟨z', Ev.succ (Ev.ne (Ev.neg (by omega) ?_)) (fun q => rfl)⟩
    rw [w]
    refine Ev.ne (Ev.succ (Ev.pos (by simp) (Ev.opt (s := a) rfl (Ev.pos ?_ ?_))) (fun q => rfl))
    ·have : a.l.length ≤ (a.l ++ flat L').length := by simp
     rw [hnil] at this; simp at this; simp [this]
    ·rw [zccm (by omega) (by omega)]
     refine h.cast ?_
     rw [zcdw]; rfl
 | k + 1, i, m, hk, hm => by
  have hi : i < L.length := by omega
  have hg : L[(i : Int).toNat]? = some L[i] := by simpa using y10 hi
  rw [y12 hi, zcdw, y13] at hm
  obtain ⟨z', h⟩ := zcdz z0 z9 L hL hf k (i + 1) (m + L[i].l.length) (by omega) (by omega)
  refine ⟨z', Ev.succ (Ev.po (Ev.po (Ev.opt hg ?_))) (fun q => rfl)⟩
  have w : wrp .i64 ((m : Int) + (L[i].l.length : Int)) = ((m + L[i].l.length : Nat) : Int) := by rw [zccm (by omega) (by omega)]; omega
  rw [w, zccm (by omega) (by omega), show ((i : Int) + 1) = ((i + 1 : Nat) : Int) by omega]
  exact Ev.neg (by omega) h
theorem zcd0 (s : Sl (Sl Int)) (hL : s.l.length ≤ 1099511627776) (hf : (flat s.l).length ≤ 4294967296) : ∃ z', Ev (fun q => znp q s) ⟨z', true, flat s.l⟩ := by
 obtain ⟨z', h⟩ := zcdz s.z s.z s.l hL hf s.l.length 0 0 (by omega) (by simp)
 exact ⟨z', Ev.succ h (fun q => rfl)⟩
theorem zcd1 : ∀ n, isB (grp n) := by
 intro n
 induction n using Nat.strongRecOn with
 | ind n ih =>
  by_cases h : n < 128
  ·rw [grp_lt h]; intro c hc; simp at hc; omega
  ·rw [grp_ge h]; intro c hc
   rcases List.mem_cons.1 hc with rfl | hc
   ·omega
   ·exact ih (n / 128) (by omega) c hc
theorem zcd2 (n : Int) : isB (put n) := by
 unfold put; split
 ·intro c hc; simp at hc
 ·split
  ·intro c hc; simp at hc
  ·exact zcd1 _
theorem zcd3 {a b : List Int} : isB (a ++ b) ↔ isB a ∧ isB b := by
 constructor
 ·intro h; exact ⟨fun c hc => h c (List.mem_append.2 (.inl hc)), fun c hc => h c (List.mem_append.2 (.inr hc))⟩
 ·rintro ⟨h1, h2⟩ c hc
  rcases List.mem_append.1 hc with h | h
  ·exact h1 c h
  ·exact h2 c h
/-- A frame. -/
def encF (l : List Int) : List Int := put (l.length : Int) ++ (l ++ fix4 (bsum (put (l.length : Int) ++ l)).toNat)
theorem zcd4 (s : Sl Int) (hb : isB s.l) (hl : s.l.length ≤ 1048576) : ∃ z, Ev (fun q => znq q s) (⟨z, true, encF s.l⟩, 0) := by
 have hp := zccv (s.l.length : Int)
 obtain ⟨z, h⟩ := zcd0 ⟨false, [⟨false, put (s.l.length : Int)⟩, s, ⟨false, fix4 (bsum (put (s.l.length : Int) ++ s.l)).toNat⟩]⟩ (by simp) (by simp [flat, fix4]; omega)
 refine ⟨z, Ev.succ (Ev.neg (by omega) ?_) (fun q => rfl)⟩
 refine Ev.bind (zccw ⟨true, true, []⟩ (by omega) (by omega) (by simp)) ?_
 refine Ev.bind (zcdv ⟨false, put (s.l.length : Int)⟩ s (zcd2 (s.l.length : Int)) hb (by simp only; omega) (by omega)) ?_
 refine Ev.bind h ?_
 exact Ev.ret' (by simp [encF, flat])
/-- The number that bytes begin with, from the i-th group on. -/
def rd : Nat → List Int → Option (Nat × Nat)
 | _, [] => none
 | i, c :: l => if 10 ≤ i then none else if i = 9 ∧ 1 < c then none else if c = 0 ∧ 0 < i then none else if c < 128 then some (c.toNat, 1) else (rd (i + 1) l).map fun p => ((c % 128).toNat + 128 * p.1, p.2 + 1)
def resN : Option (Nat × Nat) → Int × Int
 | none => (0, 0)
 | some p => (p.1, p.2)
theorem and127 {x : Int} (h1 : 0 ≤ x) (h2 : x < 256) : ibits .and .u8 x 127 = x % 128 := by
 obtain ⟨n, rfl⟩ := Int.eq_ofNat_of_zero_le h1
 have hn : n < 256 := by omega
 have : ∀ m : Fin 256, ibits .and .u8 (m.val : Int) 127 = (m.val : Int) % 128 := by unfold ibits; decide +kernel
 exact this ⟨n, hn⟩
theorem or64 {a b : Nat} (ha : a < 18446744073709551616) (hb : b < 18446744073709551616) : ibits .or .u64 (a : Int) (b : Int) = ((a ||| b : Nat) : Int) := by
 have e : ibits .or .u64 (a : Int) (b : Int) = IntKind.wrap .u64 (((BitVec.ofInt 64 (a : Int) ||| BitVec.ofInt 64 (b : Int) : BitVec 64).toNat : Nat) : Int) := by unfold ibits; rfl
 have e1 : (BitVec.ofInt 64 (a : Int)).toNat = a := by rw [y52]; omega
 have e2 : (BitVec.ofInt 64 (b : Int)).toNat = b := by rw [y52]; omega
 have e3 : a ||| b < 2 ^ 64 := Nat.or_lt_two_pow (by omega) (by omega)
 rw [e, BitVec.toNat_or, e1, e2, zccx, zccn (by omega) (by omega)]
theorem ishl64 {x k : Nat} (hk : k ≤ 64) : ishl .u64 (x : Int) (k : Int) = ((x * 2 ^ k % 18446744073709551616 : Nat) : Int) := by
 unfold ishl
 simp only [IntKind.bits, y31, Nat.min_eq_left hk]
 rw [zccx, zccy]
 have : ((x : Int) * 2 ^ k) = ((x * 2 ^ k : Nat) : Int) := by rw [Int.natCast_mul, Int.natCast_pow]; rfl
 rw [this]
 exact (Int.natCast_emod _ _).symm
theorem zcd5 {acc i : Nat} {c : Int} (hi : i ≤ 9) (h1 : 0 ≤ c) (h2 : c < 256) (ha : acc < 2 ^ (7 * i)) (h9 : i = 9 → c ≤ 1) :
  ibits .or .u64 (acc : Int) (ishl .u64 (wrp .u64 (ibits .and .u8 c 127)) (wrp .i64 (7 * (i : Int)))) = ((acc + (c % 128).toNat * 2 ^ (7 * i) : Nat) : Int) ∧ acc + (c % 128).toNat * 2 ^ (7 * i) < 18446744073709551616 ∧ acc + (c % 128).toNat * 2 ^ (7 * i) < 2 ^ (7 * (i + 1)) := by
 have hm : (c % 128).toNat < 128 := by omega
 have hp : 2 ^ (7 * i) ≤ 2 ^ 63 := Nat.pow_le_pow_right (by omega) (by omega)
 have hp1 : 2 ^ (7 * (i + 1)) = 128 * 2 ^ (7 * i) := by rw [show 7 * (i + 1) = 7 + 7 * i by omega, Nat.pow_add]
 have h4 : acc + (c % 128).toNat * 2 ^ (7 * i) < 2 ^ (7 * (i + 1)) := by
  rw [hp1]
  have : ((c % 128).toNat + 1) * 2 ^ (7 * i) ≤ 128 * 2 ^ (7 * i) := y20 _ (by omega)
  rw [y34] at this; omega
 have h5 : acc + (c % 128).toNat * 2 ^ (7 * i) < 18446744073709551616 := by
  by_cases e : i = 9
  ·have hc := h9 e
   have : (c % 128).toNat ≤ 1 := by omega
   subst e
   have h6 : (c % 128).toNat * 2 ^ (7 * 9) ≤ 1 * 2 ^ (7 * 9) := y20 _ this
   simp only [Nat.reduceMul, Nat.reducePow] at ha h6 ⊢
   omega
  ·have : 2 ^ (7 * (i + 1)) ≤ 2 ^ 63 := Nat.pow_le_pow_right (by omega) (by omega)
   simp only [Nat.reducePow] at this
   omega
 refine ⟨?_, h5, h4⟩
 rw [and127 h1 h2, zccn (by omega) (by omega), zccm (by omega) (by omega), show (7 * (i : Int)) = ((7 * i : Nat) : Int) by omega, show (c % 128) = (((c % 128).toNat : Nat) : Int) by omega, ishl64 (by omega)]
 have h6 : (c % 128).toNat * 2 ^ (7 * i) < 18446744073709551616 := by omega
 simp only [y31]
 rw [Nat.mod_eq_of_lt h6, or64 (by omega) h6]
 congr 1
 have := Nat.two_pow_add_eq_or_of_lt ha (c % 128).toNat
 rw [Nat.or_comm, Nat.mul_comm, ← this]; omega
theorem zcd6 (z : Bool) (L : List Int) (hb : isB L) (m : Nat) (hm : m = min 10 L.length) : ∀ (k i acc : Nat), m = i + k → acc < 2 ^ (7 * i) →
  Ev (fun q => zlh q z L (acc : Int) (m : Int) (i : Int)) (match rd i (L.drop i) with | none => (0, 0) | some p => (((acc + p.1 * 2 ^ (7 * i) : Nat) : Int), ((i + p.2 : Nat) : Int)))
 | 0, i, acc, hk, ha => by
  refine Ev.succ (Ev.ne (Ev.ret' ?_)) (fun q => rfl)
  have : rd i (L.drop i) = none := by
   cases h : L.drop i with
   | nil => rfl
   | cons c l =>
    have : (L.drop i).length = l.length + 1 := by rw [h]; rfl
    rw [y16] at this
    simp only [rd]; rw [if_pos (by omega)]
  rw [this]
 | k + 1, i, acc, hk, ha => by
  have hi : i < L.length := by omega
  have hi9 : i ≤ 9 := by omega
  have hg : L[(i : Int).toNat]? = some L[i] := by simpa using y10 hi
  obtain ⟨b1, b2⟩ := hb L[i] (y29 hi)
  have w7 : wrp .i64 (7 * (i : Int)) = 7 * (i : Int) := zccm (by omega) (by omega)
  have wi : wrp .i64 ((i : Int) + 1) = ((i + 1 : Nat) : Int) := by rw [zccm (by omega) (by omega)]; omega
  rw [y12 hi]
  simp only [rd]
  rw [if_neg (by omega)]
  generalize hc : L[i] = c at hg b1 b2
  -- the ends
  have done : (i = 9 → c ≤ 1) → c < 128 → (((ibits .or .u64 (acc : Int) (ishl .u64 (wrp .u64 (ibits .and .u8 c 127)) (wrp .i64 (7 * (i : Int))))), (wrp .i64 ((i : Int) + 1))) : Int × Int) = (((acc + c.toNat * 2 ^ (7 * i) : Nat) : Int), ((i + 1 : Nat) : Int)) := by
   intro h9 h128
   rw [(zcd5 hi9 b1 b2 ha h9).1, wi, show (c % 128).toNat = c.toNat by omega]
  have rest : i ≠ 9 → ¬ c < 128 → Ev (fun q => zlh q z L (ibits .or .u64 (acc : Int) (ishl .u64 (wrp .u64 (ibits .and .u8 c 127)) (wrp .i64 (7 * (i : Int))))) (m : Int) (wrp .i64 ((i : Int) + 1))) (match (rd (i + 1) (L.drop (i + 1))).map (fun p => ((c % 128).toNat + 128 * p.1, p.2 + 1)) with | none => (0, 0) | some p => (((acc + p.1 * 2 ^ (7 * i) : Nat) : Int), ((i + p.2 : Nat) : Int))) := by
   intro h9 h128
   obtain ⟨g1, g2, g3⟩ := zcd5 hi9 b1 b2 ha (fun e => absurd e h9)
   rw [g1, wi]
   refine (zcd6 z L hb m hm k (i + 1) _ (by omega) g3).cast ?_
   cases rd (i + 1) (L.drop (i + 1)) with
   | none => rfl
   | some p =>
    simp only [y42]
    have : 2 ^ (7 * (i + 1)) = 128 * 2 ^ (7 * i) := by rw [show 7 * (i + 1) = 7 + 7 * i by omega, Nat.pow_add]
    rw [this]
    congr 2
    ·rw [y34, Nat.mul_assoc 128, Nat.mul_left_comm p.1 128]; omega
    ·omega
  refine Ev.succ (Ev.po (Ev.po (Ev.opt hg (Ev.neg (by rw [w7]; omega) ?_)))) (fun q => rfl)
  refine Ev.ite (fun h9 => Ev.ite (fun h1 => ?_) fun h1 => Ev.ite (fun h0 => Ev.pos (by omega) ?_) fun h0 => Ev.pos (by omega) ?_) fun h9 => Ev.ite (fun h0 => Ev.ite (fun hp => ?_) fun hp => Ev.pos (by omega) ?_) fun h0 => Ev.ite (fun h128 => ?_) fun h128 => ?_
  ·rw [if_pos ⟨by omega, h1⟩]; exact Ev.ret _
  ·rw [if_neg (by omega), if_pos ⟨h0, by omega⟩]; exact Ev.ret _
  ·rw [if_neg (by omega), if_neg (by omega), if_pos (by omega)]; exact Ev.ret' (done (by omega) (by omega))
  ·rw [if_neg (by omega), if_pos ⟨h0, by omega⟩]; exact Ev.ret _
  ·rw [if_neg (by omega), if_neg (by omega), if_pos (by omega)]; exact Ev.ret' (done (by omega) (by omega))
  ·rw [if_neg (by omega), if_neg (by omega), if_pos h128]; exact Ev.ret' (done (by omega) h128)
  ·rw [if_neg (by omega), if_neg (by omega), if_neg h128]; exact rest (by omega) h128
theorem zcd7 (s : Sl Int) (hb : isB s.l) : Ev (fun q => zli q s) (resN (rd 0 s.l)) := by
 have h := zcd6 s.z s.l hb (min 10 s.l.length) rfl (min 10 s.l.length) 0 0 (by omega) (by simp)
 have e : (if 10 < (s.l.length : Int) then 10 else (s.l.length : Int)) = ((min 10 s.l.length : Nat) : Int) := by split <;> omega
 refine Ev.succ (g := fun q => zlh q s.z s.l 0 (if 10 < (s.l.length : Int) then 10 else (s.l.length : Int)) 0) ?_ (fun q => rfl)
 rw [e]
 refine h.cast ?_
 rw [y41]
 cases rd 0 s.l with
 | none => rfl
 | some p => simp [resN]
def getN (l : List Int) : Int × Int := match rd 0 l with
 | none => (0, 0)
 | some p => if 4611686018427387904 ≤ p.1 then (0, 0) else ((p.1 : Int), (p.2 : Int))
theorem zcd8 (s : Sl Int) (hb : isB s.l) : Ev (fun q => zlj q s) (getN s.l) := by
 refine Ev.succ (Ev.bind (zcd7 s hb) ?_) (fun q => rfl)
 unfold getN
 cases rd 0 s.l with
 | none => exact Ev.neg (by simp [resN]) (Ev.ret' (by rw [zccm] <;> simp [resN]))
 | some p =>
  simp only [resN]
  refine Ev.ite (fun h => ?_) fun h => ?_
  ·rw [if_pos (by omega)]; exact Ev.ret _
  ·rw [if_neg (by omega), zccm (by omega) (by omega)]; exact Ev.ret _
theorem rd_len : ∀ {l : List Int} {i : Nat} {p : Nat × Nat}, rd i l = some p → 1 ≤ p.2 ∧ p.2 ≤ l.length ∧ i + p.2 ≤ 10
 | [], i, p, h => by simp [rd] at h
 | c :: l, i, p, h => by
  simp only [rd] at h
  split at h
  ·cases h
  ·split at h
   ·cases h
   ·split at h
    ·cases h
    ·split at h
     ·simp at h; subst h; simp; omega
     ·cases hr : rd (i + 1) l with
      | none => simp [hr] at h
      | some r =>
       simp [hr] at h; subst h
       have := rd_len hr
       simp; omega
theorem zcd9 {l : List Int} : 0 ≤ (getN l).2 ∧ (getN l).2 ≤ l.length ∧ (getN l).2 ≤ 10 ∧ 0 ≤ (getN l).1 ∧ (getN l).1 < 4611686018427387904 := by
 unfold getN
 cases h : rd 0 l with
 | none => simp
 | some p =>
  have := rd_len h
  simp only
  split <;> simp <;> omega
/-- Where the first byte below 128 stands. -/
def idxLow : List Int → Nat → Int
 | [], _ => -1
 | a :: l, i => if a < 128 then (i : Int) else idxLow l (i + 1)
def allHi (l : List Int) : Prop := ∀ c ∈ l, 128 ≤ c
instance (l : List Int) : Decidable (allHi l) := by unfold allHi; infer_instance
theorem zcea : ∀ {l : List Int} {i : Nat}, ¬ 0 ≤ idxLow l i ↔ allHi l
 | [], i => by simp [idxLow, allHi]
 | a :: l, i => by
  have ih := zcea (l := l) (i := i + 1)
  simp only [idxLow, allHi, List.mem_cons, forall_eq_or_imp] at ih ⊢
  by_cases h : a < 128
  ·rw [if_pos h]; constructor
   ·intro h'; omega
   ·rintro ⟨h1, _⟩; omega
  ·rw [if_neg h, ih]
   constructor
   ·intro h'; exact ⟨by omega, h'⟩
   ·exact fun h' => h'.2
theorem zceb (z : Bool) (L : List Int) (hL : L.length ≤ 1099511627776) : ∀ (k i : Nat), L.length = i + k → Ev (fun q => zle q z L (L.length : Int) (i : Int)) (idxLow (L.drop i) i)
 | 0, i, hk => by
  refine Ev.succ (Ev.ne (Ev.ret' ?_)) (fun q => rfl)
  rw [y15 (by omega)]; rfl
 | k + 1, i, hk => by
  have hi : i < L.length := by omega
  have hg : L[(i : Int).toNat]? = some L[i] := by simpa using y10 hi
  have h1 : Ev (fun q => zld q L[i]) (decide (L[i] < 128)) := Ev.succ (Ev.ret _) (fun q => rfl)
  refine Ev.succ (Ev.po (Ev.po (Ev.opt hg (Ev.bind h1 ?_)))) (fun q => rfl)
  rw [y12 hi]
  simp only [idxLow]
  refine Ev.ite (fun h => ?_) fun h => ?_
  ·rw [if_pos (by simpa using h)]; exact Ev.ret _
  ·rw [if_neg (by simpa using h), zccm (by omega) (by omega), show ((i : Int) + 1) = ((i + 1 : Nat) : Int) by omega]
   exact zceb z L hL k (i + 1) (by omega)
def openB (l : List Int) : Bool := decide (l.length < 10 ∧ allHi l)
theorem zcec (s : Sl Int) : Ev (fun q => zlg q s) (openB s.l) := by
 refine Ev.succ (Ev.ite (fun h => ?_) fun h => Ev.ret' ?_) (fun q => rfl)
 ·have := zceb s.z s.l (by omega) s.l.length 0 (by omega)
  rw [y41] at this
  refine Ev.bind (Ev.succ this (fun q => rfl)) (Ev.ret' ?_)
  unfold openB
  rw [← decide_not, decide_eq_decide, zcea]
  exact ⟨fun h1 => ⟨by omega, h1⟩, fun h1 => h1.2⟩
 ·unfold openB
  symm; rw [decide_eq_false_iff_not]; omega
theorem zced (z z2 : Bool) (A B : List Int) (hl : A.length = B.length) (hL : A.length ≤ 1099511627776) : ∀ (k i : Nat), A.length = i + k → Ev (fun q => zlu q z A z2 B (A.length : Int) (i : Int)) (decide (A.drop i = B.drop i))
 | 0, i, hk => by
  refine Ev.succ (Ev.ne (Ev.ret' ?_)) (fun q => rfl)
  rw [y15 (by omega), y15 (by omega)]; simp
 | k + 1, i, hk => by
  have hi : i < A.length := by omega
  have hi2 : i < B.length := by omega
  have hg : A[(i : Int).toNat]? = some A[i] := by simpa using y10 hi
  have hg2 : B[(i : Int).toNat]? = some B[i] := by simpa using y10 hi2
  refine Ev.succ (Ev.po (Ev.po (Ev.opt hg (Ev.opt hg2 ?_)))) (fun q => rfl)
  rw [y12 hi, y12 hi2]
  refine Ev.ite (fun h => ?_) fun h => Ev.ret' (by symm; rw [decide_eq_false_iff_not]; intro e; exact h (List.cons.inj e).1)
  rw [zccm (by omega) (by omega), show ((i : Int) + 1) = ((i + 1 : Nat) : Int) by omega]
  refine (zced z z2 A B hl hL k (i + 1) (by omega)).cast ?_
  rw [decide_eq_decide, List.cons.injEq]; simp only [h, true_and]
theorem zcee (a b : Sl Int) (hL : a.l.length ≤ 1099511627776) : Ev (fun q => zlv q a b) (decide (a.l = b.l)) := by
 refine Ev.succ (Ev.ite (fun h => ?_) fun h => Ev.ret' ?_) (fun q => rfl)
 ·have := zced a.z b.z a.l b.l (by omega) hL a.l.length 0 (by omega)
  rw [y41, y41] at this; exact this
 ·symm; rw [decide_eq_false_iff_not]; intro e; rw [e] at h; exact h rfl
/-- The data of the frame that bytes begin with, how many bytes it has, and the error. -/
def decF (l : List Int) : List Int × Int × Int :=
 if openB l = true then ([], 0, 2) else if (getN l).2 = 0 then ([], 0, 3) else if 1048576 < (getN l).1 then ([], 0, 5) else if (l.length : Int) < (getN l).2 + 4 + (getN l).1 then ([], 0, 2)
 else if (l.drop ((getN l).2 + (getN l).1).toNat).take 4 = fix4 (bsum (l.take ((getN l).2 + (getN l).1).toNat)).toNat then ((l.take ((getN l).2 + (getN l).1).toNat).drop (getN l).2.toNat, (getN l).2 + (getN l).1 + 4, 0) else ([], 0, 4)
theorem zcef {l : List Int} (h : isB l) (n : Nat) : isB (l.take n) := fun c hc => h c (y47 hc)
theorem zceg {l : List Int} (h : isB l) (n : Nat) : isB (l.drop n) := fun c hc => h c (y55 hc)
theorem zceh (s : Sl Int) (hz : s.z = true → s.l = []) (hb : isB s.l) (hl : s.l.length ≤ 4294967296) : ∃ z, Ev (fun q => zlx q s) (⟨z, true, (decF s.l).1⟩, (decF s.l).2.1, (decF s.l).2.2) := by
 unfold decF
 by_cases h1 : openB s.l = true
 ·rw [if_pos h1]
  exact ⟨true, Ev.succ (Ev.bind (zcec s) (Ev.pos h1 (Ev.ret _))) (fun q => rfl)⟩
 rw [if_neg h1]
 by_cases h2 : (getN s.l).2 = 0
 ·rw [if_pos h2]
  exact ⟨true, Ev.succ (Ev.bind (zcec s) (Ev.neg h1 (Ev.bind (zcd8 s hb) (Ev.pos h2 (Ev.ret _))))) (fun q => rfl)⟩
 rw [if_neg h2]
 by_cases h3 : 1048576 < (getN s.l).1
 ·rw [if_pos h3]
  exact ⟨true, Ev.succ (Ev.bind (zcec s) (Ev.neg h1 (Ev.bind (zcd8 s hb) (Ev.neg h2 (Ev.pos h3 (Ev.ret _)))))) (fun q => rfl)⟩
 rw [if_neg h3]
 obtain ⟨g1, g2, g3, g4, g5⟩ := zcd9 (l := s.l)
 generalize hk : (getN s.l).2 = k at *
 generalize hn : (getN s.l).1 = n at *
 have hg : getN s.l = (n, k) := by rw [← hk, ← hn]
 have hget := zcd8 s hb
 rw [hg] at hget
 have w1 : wrp .i64 (k + 4) = k + 4 := zccm (by omega) (by omega)
 have w2 : wrp .i64 (k + 4 + n) = k + 4 + n := zccm (by omega) (by omega)
 have w3 : wrp .i64 (k + n) = k + n := zccm (by omega) (by omega)
 have w4 : wrp .i64 (k + n + 4) = k + n + 4 := zccm (by omega) (by omega)
 by_cases h4 : (s.l.length : Int) < k + 4 + n
 ·rw [if_pos h4]
  exact ⟨true, Ev.succ (Ev.bind (zcec s) (Ev.neg h1 (Ev.bind hget (Ev.neg h2 (Ev.neg h3 (Ev.pos (by simp only; rw [w1, w2]; exact h4) (Ev.ret _))))))) (fun q => rfl)⟩
 rw [if_neg h4]
 have hzf : s.z = false := by
  cases hz' : s.z
  ·rfl
  ·have := hz hz'; rw [this] at h4; simp at h4; omega
 have hsum := zcdv ⟨s.z, List.take k.toNat s.l⟩ ⟨s.z, List.drop k.toNat (List.take (k + n).toNat s.l)⟩ (zcef hb _) (zceg (zcef hb _) _) (by simp; omega) (by simp; omega)
 have heq := zcee ⟨s.z, List.drop (k + n).toNat (List.take (k + n + 4).toNat s.l)⟩ ⟨false, fix4 (bsum (List.take k.toNat s.l ++ List.drop k.toNat (List.take (k + n).toNat s.l))).toNat⟩ (by simp; omega)
 have hcl : Ev (fun q => zlw q ⟨s.z, List.drop k.toNat (List.take (k + n).toNat s.l)⟩) ⟨false, true, List.drop k.toNat (List.take (k + n).toNat s.l)⟩ :=
  Ev.succ (Ev.neg (by simp [hzf]) (Ev.pos (by simp; omega) (Ev.ret _))) (fun q => rfl)
 have ht : List.take k.toNat s.l ++ List.drop k.toNat (List.take (k + n).toNat s.l) = List.take (k + n).toNat s.l := by
  have := List.take_append_drop k.toNat (List.take (k + n).toNat s.l)
  rw [List.take_take, Nat.min_eq_left (by omega)] at this; exact this
 rw [ht] at heq hsum
 have hd : List.drop (k + n).toNat (List.take (k + n + 4).toNat s.l) = List.take 4 (List.drop (k + n).toNat s.l) := by
  rw [List.drop_take]; congr 1; omega
 rw [hd] at heq
 have pre : ∀ {r : Ow Int × Int × Int}, Ev (fun q => (zlv q ⟨s.z, List.take 4 (List.drop (k + n).toNat s.l)⟩ ⟨false, fix4 (bsum (List.take (k + n).toNat s.l)).toNat⟩).bind fun r4 => (if r4 = true then ((zlw q ⟨s.z, (List.drop k.toNat (List.take (k + n).toNat s.l))⟩).bind fun r5 => (some (r5, k + n + 4, 0))) else (some (⟨true, true, []⟩, 0, 4)))) r → Ev (fun q => zlx q s) r := by
  intro r h
  refine Ev.succ (Ev.bind (zcec s) (Ev.neg h1 (Ev.bind hget (Ev.neg h2 (Ev.neg h3 ?_))))) (fun q => rfl)
  simp only [w1, w2, w3, w4]
  refine Ev.neg h4 (Ev.po (Ev.po (Ev.po (Ev.po (Ev.po (Ev.po (Ev.po (Ev.po (Ev.po (Ev.bind hsum ?_))))))))))
  rw [hd]
  exact h
 by_cases h5 : List.take 4 (List.drop (k + n).toNat s.l) = fix4 (bsum (List.take (k + n).toNat s.l)).toNat
 ·rw [if_pos h5]
  exact ⟨false, pre (Ev.bind heq (Ev.pos (by simpa using h5) (Ev.bind hcl (Ev.ret _))))⟩
 ·rw [if_neg h5]
  exact ⟨true, pre (Ev.bind heq (Ev.neg (by simpa using h5) (Ev.ret _)))⟩
theorem isB_of {s : Sl Int} (h : okSl (fun x => inR .u8 x) s) : isB s.l := fun c hc => by
 have := h.2.2 c hc
 simp [inR, IntKind.min, IntKind.max, IntKind.signed, IntKind.bits] at this; omega
theorem rd_inv : ∀ {l : List Int} {i v k : Nat}, isB l → rd i l = some (v, k) → l.take k = grp v ∧ (0 < i → v ≠ 0)
 | [], i, v, k, hb, h => by simp [rd] at h
 | c :: l, i, v, k, hb, h => by
  obtain ⟨b1, b2⟩ := hb c y35
  simp only [rd] at h
  split at h
  ·cases h
  ·split at h
   ·cases h
   ·split at h
    ·cases h
    ·rename_i h1 h2 h3
     split at h
     ·simp at h; obtain ⟨rfl, rfl⟩ := h
      refine ⟨?_, fun hi e => h3 ⟨by omega, hi⟩⟩
      rw [grp_lt (by omega)]; simp; omega
     ·cases hr : rd (i + 1) l with
      | none => simp [hr] at h
      | some r =>
       obtain ⟨v', k'⟩ := r
       simp [hr] at h
       obtain ⟨rfl, rfl⟩ := h
       obtain ⟨e1, e2⟩ := rd_inv (fun c hc => hb c (y39 _ hc)) hr
       have hv := e2 (by omega)
       refine ⟨?_, fun _ => by omega⟩
       rw [grp_ge (by omega), List.take_succ_cons, e1]
       congr 1
       ·omega
       ·congr 1; omega
theorem zcei {l x : List Int} {n : Int} (hb : isB l) (h : decF l = (x, n, 0)) : x.length ≤ 1048576 ∧ 0 ≤ n ∧ n.toNat ≤ l.length ∧ 5 ≤ n ∧ encF x = l.take n.toNat := by
 unfold decF at h
 split at h
 ·simp at h
 split at h
 ·simp at h
 split at h
 ·simp at h
 split at h
 ·simp at h
 split at h
 ·rename_i h1 h2 h3 h4 h5
  obtain ⟨g1, g2, g3, g4, g5⟩ := zcd9 (l := l)
  have hrd : rd 0 l = some ((getN l).1.toNat, (getN l).2.toNat) := by
   unfold getN at h2 ⊢
   cases hr : rd 0 l with
   | none => rw [hr] at h2; simp at h2
   | some p =>
    rw [hr] at h2; simp only at h2 ⊢
    split at h2
    ·simp at h2
    ·rename_i hlt; rw [if_neg hlt]; simp
  obtain ⟨e1, _⟩ := rd_inv hb hrd
  generalize (getN l).2 = k at *
  generalize (getN l).1 = m at *
  simp only [y11, and_true] at h
  obtain ⟨hx, hn⟩ := h
  have hlx : x.length = m.toNat := by rw [← hx]; simp; omega
  refine ⟨by omega, by omega, by omega, by omega, ?_⟩
  have hput : put (x.length : Int) = l.take k.toNat := by
   rw [put_ok (by omega) (by omega), e1]; congr 1
  have hcat : l.take k.toNat ++ x = l.take (k + m).toNat := by
   rw [← hx]
   have := List.take_append_drop k.toNat (List.take (k + m).toNat l)
   rw [List.take_take, Nat.min_eq_left (by omega)] at this; exact this
  unfold encF
  rw [hput, hcat, ← h5, ← y36, hcat, ← hn, show (k + m + 4).toNat = (k + m).toNat + 4 by omega, List.take_add]
 ·simp at h
theorem zcej {l x : List Int} {n e : Int} (h : decF l = (x, n, e)) (he : e ≠ 0) : x = [] ∧ n = 0 := by
 unfold decF at h
 split at h
 ·simp_all
 split at h
 ·simp_all
 split at h
 ·simp_all
 split at h
 ·simp_all
 split at h
 ·simp at h; omega
 ·simp_all
theorem zcek {l : List Int} (hb : isB l) : isB (decF l).1 := by
 have nil : isB [] := fun c hc => by simp at hc
 unfold decF
 split; exact nil
 split; exact nil
 split; exact nil
 split; exact nil
 split
 ·exact zceg (zcef hb _) _
 ·exact nil
theorem tdiv_u (a : B32) (k : Nat) : Int.tdiv (u a) ((2 ^ k : Nat) : Int) = u (a >>> k) := by
 rw [Int.tdiv_eq_ediv_of_nonneg (u_nn a)]
 unfold u
 rw [BitVec.toNat_ushiftRight, Nat.shiftRight_eq_div_pow]
 exact (Int.natCast_ediv _ _).symm
theorem wrp_uu (a : B32) : wrp .u32 (u a) = u a := zcco (u_nn a) (by have := u_lt a; omega)
theorem zcel : ∀ (k : Nat) (a : B32) (i : Int), i = 8 - k → k ≤ 8 → Ev (fun q => zn3 q (u a) i) (u (biter k a))
 | 0, a, i, h1, h2 => Ev.succ (Ev.ne (Ev.ret _)) (fun q => rfl)
 | k + 1, a, i, h1, h2 => by
  have e1 : Int.tdiv (u a) 2 = u (a >>> 1) := tdiv_u a 1
  have e2 : Int.tmod (u a) 2 = u a % 2 := y62 (u_nn a)
  have hp : (2197175160 : Int) = u poly := by unfold poly; rw [u_lit _ (by omega)]; rfl
  have wi : wrp .i64 (i + 1) = i + 1 := zccm (by omega) (by omega)
  have ih := zcel k (bstep a) (i + 1) (by omega) (by omega)
  refine Ev.succ (Ev.pos (by omega) ?_) (fun q => rfl)
  simp only [biter]
  rw [e1, wrp_uu, hp, xor_u, wi, e2]
  unfold bstep at ih ⊢
  refine Ev.ite (fun h => ?_) fun h => ?_
  ·rw [if_pos ((zcdd a).2 h)] at ih ⊢; exact ih
  ·rw [if_neg (fun e => h ((zcdd a).1 e))] at ih ⊢; exact ih
theorem zcem (a : B32) : Ev (fun q => zn4 q (u a)) (u (bentry a)) := by
 have := zcel 8 a 0 (by omega) (by omega)
 refine Ev.succ (g := fun q => zn3 q (wrp .u32 (u a)) 0) ?_ (fun q => rfl)
 rw [wrp_uu]; exact this
theorem zcen (z : Bool) (l : List Int) (hb : isB l) (hl : l.length ≤ 1099511627776) : ∀ (k i : Nat) (x : B32), l.length = i + k → Ev (fun q => zn5 q z l (u x) (i : Int)) (u (~~~ bmore x (l.drop i)))
 | 0, i, x, hk => by
  refine Ev.succ (Ev.ne (Ev.ret' ?_)) (fun q => rfl)
  rw [y15 (by omega), ones, xor_u]
  simp only [bmore, List.foldl_nil, BitVec.allOnes_xor]
 | k + 1, i, x, hk => by
  have hi : i < l.length := by omega
  have hg : l[(i : Int).toNat]? = some l[i] := by simpa using y10 hi
  obtain ⟨b1, b2⟩ := hb l[i] (y29 hi)
  have e8 : Int.tdiv (u x) 256 = u (x >>> 8) := tdiv_u x 8
  have wi : wrp .i64 ((i : Int) + 1) = ((i + 1 : Nat) : Int) := by rw [zccm (by omega) (by omega)]; omega
  refine Ev.succ (Ev.po (Ev.po (Ev.opt hg (Ev.bind (by rw [xor8 b1 b2]; exact zcem _) ?_)))) (fun q => rfl)
  rw [e8, wrp_uu, xor_u, wi]
  have := zcen z l hb hl k (i + 1) (bentry ((x ^^^ BitVec.ofInt 32 l[i]) &&& 255#32) ^^^ (x >>> 8)) (by omega)
  rw [y12 hi]
  simp only [bmore, List.foldl_cons, bbyte] at this ⊢
  exact this
theorem zceo (x : B32) (s : Sl Int) (hb : isB s.l) (hl : s.l.length ≤ 1099511627776) : Ev (fun q => zn6 q (u x) s) (u (~~~ bmore (~~~ x) s.l)) := by
 have := zcen s.z s.l hb hl s.l.length 0 (~~~ x) (by omega)
 rw [y41] at this
 refine Ev.succ (g := fun q => zn5 q s.z s.l (ibits .xor .u32 4294967295 (u x)) 0) ?_ (fun q => rfl)
 rw [ones, xor_u, BitVec.allOnes_xor]
 exact this
theorem zcep (s : Sl Int) (hb : isB s.l) (hl : s.l.length ≤ 1099511627776) : Ev (fun q => zn7 q s) (u (bsum s.l)) := by
 have := zceo 0#32 s hb hl
 exact Ev.succ (Ev.bind this (Ev.ret' (by simp [bsum]))) (fun q => rfl)
theorem zceq (v m : Nat) (hm : m ≤ 8) (hv : v < 18446744073709551616) : ∀ (k i : Nat) (z : Bool) (l : List Int), m = i + k → 0 < k → l.length + k ≤ 4294967296 → Ev (fun q => zn8 q ((v / 2 ^ (8 * i) : Nat) : Int) (m : Int) (i : Int) z l) ⟨false, true, l ++ bytesFrom v i k⟩
 | 0, i, z, l, hk, h0, hl => by omega
 | k + 1, i, z, l, hk, h0, hl => by
  have hle : v / 2 ^ (8 * i) ≤ v := Nat.div_le_self _ _
  have e1 : Int.tdiv ((v / 2 ^ (8 * i) : Nat) : Int) 256 = ((v / 2 ^ (8 * (i + 1)) : Nat) : Int) := by
   rw [Int.tdiv_eq_ediv_of_nonneg (Int.natCast_nonneg _), show 8 * (i + 1) = 8 * i + 8 by omega, Nat.pow_add, ← Nat.div_div_eq_div_mul]
   exact (Int.natCast_ediv _ _).symm
  have e2 : Int.tmod ((v / 2 ^ (8 * i) : Nat) : Int) 256 = ((v / 2 ^ (8 * i) % 256 : Nat) : Int) := by
   rw [y62 (Int.natCast_nonneg _)]; exact (Int.natCast_emod _ _).symm
  have hle2 : v / 2 ^ (8 * (i + 1)) ≤ v := Nat.div_le_self _ _
  have wi : wrp .i64 ((i : Int) + 1) = ((i + 1 : Nat) : Int) := by rw [zccm (by omega) (by omega)]; omega
  refine Ev.succ (Ev.po (Ev.pos (by omega) ?_)) (fun q => rfl)
  have w1 : wrp .u64 ((v / 2 ^ (8 * (i + 1)) : Nat) : Int) = ((v / 2 ^ (8 * (i + 1)) : Nat) : Int) := by
   generalize v / 2 ^ (8 * (i + 1)) = B at hle2
   exact zccn (by omega) (by omega)
  have w2 : ((v / 2 ^ (8 * i) % 256 : Nat) : Int) % 256 = ((v / 2 ^ (8 * i) % 256 : Nat) : Int) := by
   generalize v / 2 ^ (8 * i) = B
   omega
  rw [e1, e2, w1, wrp_u8, wi, w2]
  by_cases hk0 : k = 0
  ·subst hk0
   exact Ev.succ (Ev.ne (Ev.ret' (by simp [bytesFrom]))) (fun q => rfl)
  ·refine (zceq v m hm hv k (i + 1) false _ (by omega) (by omega) (by simp; omega)).cast ?_
   simp [bytesFrom]
theorem zcer (a : B32) : Ev (fun q => zn9 q (wrp .u64 (u a)) 4) ⟨false, true, fix4 a.toNat⟩ := by
 have h1 := u_nn a; have h2 := u_lt a
 have := zceq a.toNat 4 (by omega) (by omega) 4 0 true [] (by omega) (by omega) (by simp)
 rw [bytes4] at this
 refine Ev.succ (g := fun q => zn8 q (wrp .u64 (u a)) 4 0 true []) ?_ (fun q => rfl)
 rw [zccn h1 (by omega)]
 simpa [u] using this
theorem zces (s : Sl Int) (hb : isB s.l) (hl : s.l.length ≤ 1048576) : ∃ z, Ev (fun q => zoa q s) (⟨z, true, encF s.l⟩, 0) := by
 have hp := zccv (s.l.length : Int)
 have h2 := zceo (bsum (put (s.l.length : Int))) s hb (by omega)
 have e : ~~~ bmore (~~~ bsum (put (s.l.length : Int))) s.l = bsum (put (s.l.length : Int) ++ s.l) := by
  unfold bsum; rw [BitVec.not_not, zcdo]
 rw [e] at h2
 refine ⟨(((decide ((put (s.l.length : Int)).length = 0)) && (decide (s.l.length = 0))) && (decide ((fix4 (bsum (put (s.l.length : Int) ++ s.l)).toNat).length = 0))), Ev.succ (Ev.ne (Ev.bind (zcc6 ⟨true, []⟩ (by omega) (by omega) (by simp)) (Ev.bind (zcep ⟨false, put (s.l.length : Int)⟩ (zcd2 (s.l.length : Int)) (by simp only; omega)) (Ev.bind h2 ?_)))) (fun q => rfl)⟩
 ·simp only [y50]
  refine Ev.po (Ev.po (Ev.bind (zcer _) (Ev.pos (by simp [fix4]; omega) (Ev.ret' ?_))))
  simp [encF]
theorem zcet (z : Bool) (L : List Int) (hL : L.length ≤ 1099511627776) : ∀ (k i : Nat), L.length = i + k → Ev (fun q => zoe q z L (i : Int)) (decide (L.length < 10 ∧ allHi (L.drop i)))
 | 0, i, hk => by
  refine Ev.succ (Ev.ne (Ev.ret' ?_)) (fun q => rfl)
  rw [y15 (by omega), decide_eq_decide]
  simp [allHi]; omega
 | k + 1, i, hk => by
  have hi : i < L.length := by omega
  have hg : L[(i : Int).toNat]? = some L[i] := by simpa using y10 hi
  refine Ev.succ (Ev.po (Ev.po (Ev.opt hg ?_))) (fun q => rfl)
  rw [y12 hi]
  refine Ev.ite (fun h => Ev.ret' ?_) fun h => ?_
  ·symm; rw [decide_eq_false_iff_not]
   rintro ⟨_, h1⟩
   have := h1 _ y35; omega
  ·rw [zccm (by omega) (by omega), show ((i : Int) + 1) = ((i + 1 : Nat) : Int) by omega]
   refine (zcet z L hL k (i + 1) (by omega)).cast ?_
   rw [decide_eq_decide]
   constructor
   ·rintro ⟨h1, h2⟩
    refine ⟨h1, fun c hc => ?_⟩
    rcases List.mem_cons.1 hc with rfl | hc
    ·omega
    ·exact h2 c hc
   ·rintro ⟨h1, h2⟩; exact ⟨h1, fun c hc => h2 c (y39 _ hc)⟩
theorem zceu (s : Sl Int) (hL : s.l.length ≤ 1099511627776) : Ev (fun q => zof q s) (openB s.l) := by
 have := zcet s.z s.l hL s.l.length 0 (by omega)
 rw [y41] at this
 exact Ev.succ this (fun q => rfl)
theorem zcev (z : Bool) (L : List Int) (hb : isB L) (hL : L.length ≤ 1099511627776) : ∀ (k i acc : Nat), 10 = i + k → i ≤ L.length → acc < 2 ^ (7 * i) → ∀ one : Int, (i ≤ 9 → one = ((2 ^ (7 * i) : Nat) : Int)) →
  Ev (fun q => zog q z L (acc : Int) one (i : Int)) (match rd i (L.drop i) with | none => (0, 0) | some p => (((acc + p.1 * 2 ^ (7 * i) : Nat) : Int), ((i + p.2 : Nat) : Int)))
 | 0, i, acc, hk, hi, ha, one, ho => by
  have hi10 : i = 10 := by omega
  have : rd i (L.drop i) = none := by
   cases h : L.drop i with
   | nil => rfl
   | cons c l => simp only [rd]; rw [if_pos (by omega)]
  rw [this]
  exact Ev.succ (Ev.ite (fun h => Ev.ne (Ev.ret _)) fun h => Ev.ret _) (fun q => rfl)
 | k + 1, i, acc, hk, hi, ha, one, ho => by
  have hi9 : i ≤ 9 := by omega
  have ho' := ho hi9
  by_cases hlt : i < L.length
  ·have hg : L[(i : Int).toNat]? = some L[i] := by simpa using y10 hlt
   obtain ⟨b1, b2⟩ := hb L[i] (y29 hlt)
   have wi : wrp .i64 ((i : Int) + 1) = ((i + 1 : Nat) : Int) := by rw [zccm (by omega) (by omega)]; omega
   rw [y12 hlt]
   simp only [rd]
   rw [if_neg (by omega)]
   generalize hc : L[i] = c at hg b1 b2
   have em : Int.tmod c 128 = c % 128 := y62 b1
   have wm : wrp .u64 (Int.tmod c 128) = c % 128 := by rw [em]; exact zccn (by omega) (by omega)
   have hm : (c % 128).toNat < 128 := by omega
   -- the value
   have val : (i = 9 → c % 128 ≤ 1) → wrp .u64 ((acc : Int) + wrp .u64 (c % 128 * one)) = ((acc + (c % 128).toNat * 2 ^ (7 * i) : Nat) : Int) ∧ acc + (c % 128).toNat * 2 ^ (7 * i) < 2 ^ (7 * (i + 1)) := by
    intro h9
    have hp1 : 2 ^ (7 * (i + 1)) = 128 * 2 ^ (7 * i) := by rw [show 7 * (i + 1) = 7 + 7 * i by omega, Nat.pow_add]
    have h4 : acc + (c % 128).toNat * 2 ^ (7 * i) < 2 ^ (7 * (i + 1)) := by
     rw [hp1]
     have : ((c % 128).toNat + 1) * 2 ^ (7 * i) ≤ 128 * 2 ^ (7 * i) := y20 _ (by omega)
     rw [y34] at this; omega
    have h5 : acc + (c % 128).toNat * 2 ^ (7 * i) < 18446744073709551616 := by
     by_cases e : i = 9
     ·have hc := h9 e
      have : (c % 128).toNat ≤ 1 := by omega
      subst e
      have h6 : (c % 128).toNat * 2 ^ (7 * 9) ≤ 1 * 2 ^ (7 * 9) := y20 _ this
      simp only [Nat.reduceMul, Nat.reducePow] at ha h6 ⊢
      omega
     ·have : 2 ^ (7 * (i + 1)) ≤ 2 ^ 63 := Nat.pow_le_pow_right (by omega) (by omega)
      simp only [Nat.reducePow] at this
      omega
    refine ⟨?_, h4⟩
    have hmul : c % 128 * one = (((c % 128).toNat * 2 ^ (7 * i) : Nat) : Int) := by
     rw [ho', Int.natCast_mul]; congr 1; omega
    rw [hmul]
    generalize (c % 128).toNat * 2 ^ (7 * i) = X at h5
    rw [zccn (x := (X : Int)) (by omega) (by omega), zccn (by omega) (by omega)]; omega
   refine Ev.succ (Ev.po (Ev.po (Ev.po (Ev.opt hg ?_)))) (fun q => rfl)
   rw [wm]
   have rest : (i = 9 → c % 128 ≤ 1) → ¬ c < 128 → Ev (fun q => zog q z L (wrp .u64 ((acc : Int) + wrp .u64 (c % 128 * one))) (wrp .u64 (one * 128)) (wrp .i64 ((i : Int) + 1))) (match (rd (i + 1) (L.drop (i + 1))).map (fun p => ((c % 128).toNat + 128 * p.1, p.2 + 1)) with | none => (0, 0) | some p => (((acc + p.1 * 2 ^ (7 * i) : Nat) : Int), ((i + p.2 : Nat) : Int))) := by
    intro h9 h128
    obtain ⟨v1, v2⟩ := val h9
    rw [v1, wi]
    refine (zcev z L hb hL k (i + 1) _ (by omega) (by omega) v2 (wrp .u64 (one * 128)) (fun h10 => ?_)).cast ?_
    ·have hp1 : 2 ^ (7 * (i + 1)) = 2 ^ (7 * i) * 128 := by rw [show 7 * (i + 1) = 7 * i + 7 by omega, Nat.pow_add]
     have hlt : 2 ^ (7 * (i + 1)) ≤ 2 ^ 63 := Nat.pow_le_pow_right (by omega) (by omega)
     have e : one * 128 = ((2 ^ (7 * (i + 1)) : Nat) : Int) := by rw [ho', hp1, Int.natCast_mul]; rfl
     rw [e]
     generalize 2 ^ (7 * (i + 1)) = X at hlt
     simp only [Nat.reducePow] at hlt
     exact zccn (by omega) (by omega)
    ·cases rd (i + 1) (L.drop (i + 1)) with
     | none => rfl
     | some p =>
      simp only [y42]
      have : 2 ^ (7 * (i + 1)) = 128 * 2 ^ (7 * i) := by rw [show 7 * (i + 1) = 7 + 7 * i by omega, Nat.pow_add]
      rw [this]
      congr 2
      ·rw [y34, Nat.mul_assoc 128, Nat.mul_left_comm p.1 128]; omega
      ·omega
   have done : (i = 9 → c ≤ 1) → c < 128 → ((wrp .u64 ((acc : Int) + wrp .u64 (c % 128 * one)), wrp .i64 ((i : Int) + 1)) : Int × Int) = (((acc + c.toNat * 2 ^ (7 * i) : Nat) : Int), ((i + 1 : Nat) : Int)) := by
    intro h9 h128
    rw [(val (by omega)).1, wi, show (c % 128).toNat = c.toNat by omega]
   refine Ev.ite (fun h9 => Ev.ite (fun h1 => ?_) fun h1 => Ev.ite (fun h128 => Ev.po (Ev.ite (fun h0 => ?_) fun h0 => ?_)) fun h128 => ?_) fun h9 => Ev.ite (fun h128 => Ev.ite (fun hp => Ev.ite (fun h0 => ?_) fun h0 => ?_) fun hp => ?_) fun h128 => ?_
   ·rw [if_pos ⟨by omega, by omega⟩]; exact Ev.ret _
   ·rw [if_neg (by omega), if_pos ⟨by omega, by omega⟩]; exact Ev.ret _
   ·rw [if_neg (by omega), if_neg (by omega), if_pos h128]; exact Ev.ret' (done (by omega) h128)
   ·-- the tenth, and it goes on
    rw [if_pos ⟨by omega, by omega⟩]
    obtain ⟨v1, v2⟩ := val (by omega)
    rw [v1, wi]
    have hk0 : k = 0 := by omega
    subst hk0
    refine (zcev z L hb hL 0 (i + 1) _ (by omega) (by omega) v2 (wrp .u64 (one * 128)) (fun h10 => by omega)).cast ?_
    have : rd (i + 1) (L.drop (i + 1)) = none := by
     cases h : L.drop (i + 1) with
     | nil => rfl
     | cons c l => simp only [rd]; rw [if_pos (by omega)]
    rw [this]
   ·rw [if_neg (by omega), if_pos ⟨by omega, by omega⟩]; exact Ev.ret _
   ·rw [if_neg (by omega), if_neg (by omega), if_pos h128]; exact Ev.ret' (done (by omega) h128)
   ·rw [if_neg (by omega), if_neg (by omega), if_pos h128]; exact Ev.ret' (done (by omega) h128)
   ·rw [if_neg (by omega), if_neg (by omega), if_neg h128]; exact rest (by omega) h128
  ·rw [y15 (by omega)]
   exact Ev.succ (Ev.ne (Ev.ret _)) (fun q => rfl)
theorem zcew (s : Sl Int) (hb : isB s.l) (hL : s.l.length ≤ 1099511627776) : Ev (fun q => zoh q s) (resN (rd 0 s.l)) := by
 have h := zcev s.z s.l hb hL 10 0 0 (by omega) (by omega) (by simp) 1 (by simp)
 refine Ev.succ (g := fun q => zog q s.z s.l 0 1 0) ?_ (fun q => rfl)
 refine h.cast ?_
 rw [y41]
 cases rd 0 s.l with
 | none => rfl
 | some p => simp [resN]
theorem zcex (s : Sl Int) (hb : isB s.l) (hL : s.l.length ≤ 1099511627776) : Ev (fun q => zoi q s) (getN s.l) := by
 refine Ev.succ (Ev.bind (zcew s hb hL) ?_) (fun q => rfl)
 unfold getN
 cases h : rd 0 s.l with
 | none => exact Ev.pos (by simp [resN]) (Ev.ret' rfl)
 | some p =>
  have := rd_len h
  simp only [resN]
  refine Ev.ne (Ev.ite (fun h => ?_) fun h => ?_)
  ·rw [if_pos (by omega)]; exact Ev.ret _
  ·rw [if_neg (by omega), zccm (by omega) (by omega)]; exact Ev.ret _
/-- The number of bytes, the lowest first. -/
def numB : List Int → Nat
 | [] => 0
 | c :: l => c.toNat + 256 * numB l
theorem zcey : ∀ {l : List Int}, isB l → numB l < 256 ^ l.length
 | [], _ => by simp [numB]
 | c :: l, h => by
  have h1 := h c y35
  have h2 := zcey (l := l) fun c hc => h c (y39 _ hc)
  simp only [numB, y24, Nat.pow_succ]
  generalize 256 ^ l.length = X at h2
  omega
theorem zcez (z : Bool) (L : List Int) (hb : isB L) (hL : L.length ≤ 8) : ∀ (k : Nat), k ≤ 8 → Ev (fun q => zoj q z L ((numB (L.drop k) : Nat) : Int) ((k : Int) - 1)) ((numB L : Nat) : Int)
 | 0, hk => Ev.succ (Ev.ne (Ev.ret' (by simp))) (fun q => rfl)
 | k + 1, hk => by
  have e : ((k + 1 : Nat) : Int) - 1 = (k : Int) := by omega
  rw [e]
  have wi : wrp .i64 ((k : Int) - 1) = (k : Int) - 1 := zccm (by omega) (by omega)
  have ih := zcez z L hb hL k (by omega)
  by_cases hi : k < L.length
  ·have hg : L[(k : Int).toNat]? = some L[k] := by simpa using y10 hi
   obtain ⟨b1, b2⟩ := hb L[k] (y29 hi)
   have hlt := zcey (l := L.drop (k + 1)) (zceg hb _)
   have hle : 256 ^ (L.drop (k + 1)).length ≤ 256 ^ 7 := Nat.pow_le_pow_right (by omega) (by rw [y16]; omega)
   have hlt2 : numB (L.drop (k + 1)) < 256 ^ 7 := y63 hlt hle
   rw [y12 hi] at ih
   simp only [numB] at ih
   generalize numB (L.drop (k + 1)) = X at hlt2 ih ⊢
   generalize L[k] = c at hg b1 b2 ih
   simp only [Nat.reducePow] at hlt2
   refine Ev.succ (Ev.po (Ev.po (Ev.opt hg ?_))) (fun q => rfl)
   rw [zccn (x := (X : Int) * 256) (by omega) (by omega), zccn (x := c) (by omega) (by omega), zccn (by omega) (by omega), wi]
   rw [show ((c.toNat + 256 * X : Nat) : Int) = (X : Int) * 256 + c by omega] at ih
   exact ih
  ·rw [y15 (by omega)] at ih ⊢
   refine Ev.succ (Ev.po (Ev.neg (by omega) ?_)) (fun q => rfl)
   rw [wi]; exact ih
theorem zce0 (s : Sl Int) (hb : isB s.l) (hL : s.l.length ≤ 8) : Ev (fun q => zok q s) ((numB s.l : Nat) : Int) := by
 have := zcez s.z s.l hb hL 8 (by omega)
 rw [y15 hL] at this
 exact Ev.succ (g := fun q => zoj q s.z s.l 0 7) this (fun q => rfl)
theorem zce1 {l : List Int} {v : Nat} (hb : isB l) (hl : l.length = 4) (hv : v < 4294967296) : numB l = v ↔ l = fix4 v := by
 match l, hl with
 | [a, b, c, d], _ =>
  have h1 := hb a (by simp); have h2 := hb b (by simp); have h3 := hb c (by simp); have h4 := hb d (by simp)
  simp only [numB, fix4, List.cons.injEq, and_true]
  constructor
  ·intro h; refine ⟨?_, ?_, ?_, ?_⟩ <;> omega
  ·rintro ⟨e1, e2, e3, e4⟩; omega
theorem zce2 (s : Sl Int) (hb : isB s.l) (hl : s.l.length ≤ 4294967296) : ∃ z, Ev (fun q => zol q s) (⟨z, true, (decF s.l).1⟩, (decF s.l).2.1, (decF s.l).2.2) := by
 unfold decF
 have hop := zceu s (by omega)
 have hget := zcex s hb (by omega)
 by_cases h1 : openB s.l = true
 ·rw [if_pos h1]
  exact ⟨true, Ev.succ (Ev.bind hop (Ev.pos h1 (Ev.ret _))) (fun q => rfl)⟩
 rw [if_neg h1]
 by_cases h2 : (getN s.l).2 = 0
 ·rw [if_pos h2]
  exact ⟨true, Ev.succ (Ev.bind hop (Ev.neg h1 (Ev.bind hget (Ev.pos h2 (Ev.ret _))))) (fun q => rfl)⟩
 rw [if_neg h2]
 by_cases h3 : 1048576 < (getN s.l).1
 ·rw [if_pos h3]
  exact ⟨true, Ev.succ (Ev.bind hop (Ev.neg h1 (Ev.bind hget (Ev.neg h2 (Ev.pos h3 (Ev.ret _)))))) (fun q => rfl)⟩
 rw [if_neg h3]
 obtain ⟨g1, g2, g3, g4, g5⟩ := zcd9 (l := s.l)
 generalize hk : (getN s.l).2 = k at *
 generalize hn : (getN s.l).1 = n at *
 have hg : getN s.l = (n, k) := by rw [← hk, ← hn]
 rw [hg] at hget
 have w1 : wrp .i64 (k + 4) = k + 4 := zccm (by omega) (by omega)
 have w2 : wrp .i64 (k + 4 + n) = k + 4 + n := zccm (by omega) (by omega)
 have w3 : wrp .i64 (k + n) = k + n := zccm (by omega) (by omega)
 have w4 : wrp .i64 (k + n + 4) = k + n + 4 := zccm (by omega) (by omega)
 by_cases h4 : (s.l.length : Int) < k + 4 + n
 ·rw [if_pos h4]
  exact ⟨true, Ev.succ (Ev.bind hop (Ev.neg h1 (Ev.bind hget (Ev.neg h2 (Ev.neg h3 (Ev.pos (by simp only; rw [w1, w2]; exact h4) (Ev.ret _))))))) (fun q => rfl)⟩
 rw [if_neg h4]
 have hsum := zcep ⟨s.z, List.take (k + n).toNat s.l⟩ (zcef hb _) (by simp; omega)
 have hd : List.drop (k + n).toNat (List.take (k + n + 4).toNat s.l) = List.take 4 (List.drop (k + n).toNat s.l) := by
  rw [List.drop_take]; congr 1; omega
 have h4l : (List.take 4 (List.drop (k + n).toNat s.l)).length = 4 := by simp; omega
 have hfix := zce0 ⟨s.z, List.take 4 (List.drop (k + n).toNat s.l)⟩ (zcef (zceg hb _) _) (by simp only; omega)
 have hw : wrp .u64 (u (bsum (List.take (k + n).toNat s.l))) = (((bsum (List.take (k + n).toNat s.l)).toNat : Nat) : Int) := by
  rw [zccn (u_nn _) (by have := u_lt (bsum (List.take (k + n).toNat s.l)); omega)]; rfl
 have heq := zce1 (zcef (zceg hb (k + n).toNat) 4) h4l (v := (bsum (List.take (k + n).toNat s.l)).toNat) (by have := (bsum (List.take (k + n).toNat s.l)).isLt; omega)
 have pre : ∀ {r : Ow Int × Int × Int}, Ev (fun q => (if ((numB (List.take 4 (List.drop (k + n).toNat s.l)) : Nat) : Int) = (((bsum (List.take (k + n).toNat s.l)).toNat : Nat) : Int) then (if ((min ((k + n).toNat) s.l.length) - k.toNat) ≤ 4294967296 then (some ((⟨(decide (((min ((k + n).toNat) s.l.length) - k.toNat) = 0)), true, (List.drop k.toNat (List.take ((k + n).toNat) s.l))⟩, k + 4 + n, 0) : Ow Int × Int × Int)) else none) else (some (⟨true, true, []⟩, 0, 4)))) r → Ev (fun q => zol q s) r := by
  intro r h
  refine Ev.succ (Ev.bind hop (Ev.neg h1 (Ev.bind hget (Ev.neg h2 (Ev.neg h3 ?_))))) (fun q => rfl)
  simp only [w1, w2, w3, w4]
  refine Ev.neg h4 (Ev.po (Ev.po (Ev.po (Ev.po (Ev.bind hsum (Ev.po (Ev.po (Ev.bind (by rw [hd]; exact hfix) ?_))))))))
  rw [hw]
  exact h
 by_cases h5 : List.take 4 (List.drop (k + n).toNat s.l) = fix4 (bsum (List.take (k + n).toNat s.l)).toNat
 ·rw [if_pos h5]
  refine ⟨decide (((min ((k + n).toNat) s.l.length) - k.toNat) = 0), pre (Ev.pos ?_ (Ev.po (Ev.ret' ?_)))⟩
  ·have := heq.2 h5; rw [this]
  ·rw [show k + 4 + n = k + n + 4 by omega]
 ·rw [if_neg h5]
  refine ⟨true, pre (Ev.neg ?_ (Ev.ret _))⟩
  intro e; exact h5 (heq.1 (by omega))
def zag (u : Nat) : Int := if u % 2 = 0 then ((u / 2 : Nat) : Int) else -((u / 2 : Nat) : Int) - 1
theorem zce3 (u : Nat) : zig (zag u) = u := by unfold zag zig; split <;> split <;> omega
theorem ixor0 {x : Int} (h1 : 0 ≤ x) (h2 : x < 9223372036854775808) : ibits .xor .i64 x 0 = x := by
 have e : ibits .xor .i64 x 0 = IntKind.wrap .i64 (((BitVec.ofInt 64 x ^^^ 0#64 : BitVec 64).toNat : Nat) : Int) := by unfold ibits; rfl
 rw [e, BitVec.xor_zero, y52, zccx, zccm] <;> omega
theorem zce4 {x : Int} (h1 : 9223372036854775808 ≤ x) (h2 : x < 18446744073709551616) : wrp .i64 x = x - 18446744073709551616 := by
 unfold wrp; simp [IntKind.wrap, IntKind.min, IntKind.max, IntKind.signed, IntKind.bits] <;> omega
theorem ixor1 {x : Int} (h1 : 0 ≤ x) (h2 : x < 9223372036854775808) : ibits .xor .i64 x (-1) = -x - 1 := by
 have e : ibits .xor .i64 x (-1) = IntKind.wrap .i64 (((BitVec.ofInt 64 x ^^^ BitVec.allOnes 64 : BitVec 64).toNat : Nat) : Int) := by unfold ibits; rfl
 rw [e, BitVec.xor_allOnes, BitVec.toNat_not, y52, zccx, zce4] <;> omega
theorem and1u {u : Nat} (h : u < 18446744073709551616) : ibits .and .u64 (u : Int) 1 = ((u % 2 : Nat) : Int) := by
 have e : ibits .and .u64 (u : Int) 1 = IntKind.wrap .u64 (((BitVec.ofInt 64 (u : Int) &&& 1#64 : BitVec 64).toNat : Nat) : Int) := by unfold ibits; rfl
 have e1 : (BitVec.ofInt 64 (u : Int)).toNat = u := by rw [y52]; omega
 rw [e, BitVec.toNat_and, e1, show (1#64 : BitVec 64).toNat = 1 from rfl, Nat.and_one_is_mod, zccx, zccn (by omega) (by omega)]
theorem ishr1 {x : Int} (h1 : 0 ≤ x) : ishr .u64 x 1 = x / 2 := by
 unfold ishr; simp [IntKind.bits]
 rw [y56]; omega
theorem zce5 {u : Nat} (h : u < 18446744073709551616) : Ev (fun q => zly q (u : Int)) (zag u) := by
 refine Ev.succ (Ev.ret' ?_) (fun q => rfl)
 rw [ishr1 (by omega), and1u h, zccm (by omega) (by omega)]
 unfold zag
 split
 ·rename_i e
  rw [e, show wrp .i64 ((0 : Nat) : Int) = 0 from zccm (by omega) (by omega), show wrp .i64 (0 - 0) = 0 from zccm (by omega) (by omega), ixor0 (by omega) (by omega)]; omega
 ·rename_i e
  rw [show u % 2 = 1 by omega, show wrp .i64 ((1 : Nat) : Int) = 1 from zccm (by omega) (by omega), show wrp .i64 (0 - 1) = -1 from zccm (by omega) (by omega), ixor1 (by omega) (by omega)]; omega
theorem rd_lt : ∀ {l : List Int} {i : Nat} {p : Nat × Nat}, isB l → i ≤ 9 → rd i l = some p → p.1 < 2 ^ (64 - 7 * i)
 | [], i, p, hb, hi, h => by simp [rd] at h
 | c :: l, i, p, hb, hi, h => by
  obtain ⟨b1, b2⟩ := hb c y35
  simp only [rd] at h
  split at h
  ·cases h
  ·split at h
   ·cases h
   ·rename_i h9
    split at h
    ·cases h
    ·split at h
     ·simp at h; subst h
      simp only
      by_cases e : i = 9
      ·subst e; simp; omega
      ·have : 2 ^ 7 ≤ 2 ^ (64 - 7 * i) := Nat.pow_le_pow_right (by omega) (by omega)
       omega
     ·cases hr : rd (i + 1) l with
      | none => simp [hr] at h
      | some r =>
       simp [hr] at h; subst h
       by_cases e : i = 9
       ·exfalso; subst e; exact h9 ⟨rfl, by omega⟩
       ·have := rd_lt (fun c hc => hb c (y39 _ hc)) (by omega) hr
        have e2 : 2 ^ (64 - 7 * i) = 128 * 2 ^ (64 - 7 * (i + 1)) := by rw [show 64 - 7 * i = 7 + (64 - 7 * (i + 1)) by omega, Nat.pow_add]
        simp only
        rw [e2]; omega
def getS (l : List Int) : Int × Int := match rd 0 l with
 | none => (0, 0)
 | some p => (zag p.1, (p.2 : Int))
theorem zce6 (s : Sl Int) (hb : isB s.l) : Ev (fun q => zlz q s) (getS s.l) := by
 refine Ev.succ (Ev.bind (zcd7 s hb) ?_) (fun q => rfl)
 unfold getS
 cases h : rd 0 s.l with
 | none => exact Ev.pos (by simp [resN]) (Ev.ret _)
 | some p =>
  have h1 := rd_len h
  have h2 := rd_lt hb (by omega) h
  simp only [resN]
  exact Ev.neg (by simp; omega) (Ev.bind (zce5 (by simpa using h2)) (Ev.ret _))
theorem zce7 {l : List Int} : 0 ≤ (getS l).2 ∧ (getS l).2 ≤ l.length ∧ (getS l).2 ≤ 10 := by
 unfold getS
 cases h : rd 0 l with
 | none => simp
 | some p =>
  have := rd_len h
  simp only; omega
def cutsB (l : List Int) : Prop := ∀ n ∈ l, n = cutI n
instance (l : List Int) : Decidable (cutsB l) := by unfold cutsB; infer_instance
theorem zce8 (n : Int) : Ev (fun q => zjx q n) (!(decide (n = cutI n))) := Ev.succ (Ev.bind (zcc1 n) (Ev.ret _)) (fun q => rfl)
theorem zce9 (z : Bool) (L : List Int) (h0 : Int) (h1z : Bool) (h1l : List Int) (h2 : Bool) (h3 : Int) (hL : L.length ≤ 1000000) : ∀ (k i : Nat), L.length = i + k →
  ∃ r, Ev (fun q => zj0 q z L (L.length : Int) (i : Int) h0 h1z h1l h2 h3) r ∧ (0 ≤ r ↔ ¬ cutsB (L.drop i))
 | 0, i, hk => by
  refine ⟨-1, Ev.succ (Ev.ne (Ev.ret _)) (fun q => rfl), ?_⟩
  rw [y15 (by omega)]; simp [cutsB]
 | k + 1, i, hk => by
  have hi : i < L.length := by omega
  have he : L[((i : Int)).toNat]? = some L[i] := by simp [hi]
  have hd := y12 hi
  by_cases h : L[i] = cutI L[i]
  ·obtain ⟨r, hr, hi2⟩ := zce9 z L h0 h1z h1l h2 h3 hL k (i + 1) (by omega)
   rw [show ((i + 1 : Nat) : Int) = wrp .i64 ((i : Int) + 1) by rw [zccm (by omega) (by omega)]; omega] at hr
   refine ⟨r, Ev.succ (Ev.po (Ev.po (Ev.opt he (Ev.bind (zce8 _) (Ev.neg (by simpa using h) hr))))) (fun q => rfl), ?_⟩
   rw [hi2, hd]; unfold cutsB; simp only [List.mem_cons, forall_eq_or_imp]
   exact ⟨fun a b => a b.2, fun a b => a ⟨h, b⟩⟩
  ·refine ⟨i, Ev.succ (Ev.po (Ev.po (Ev.opt he (Ev.bind (zce8 _) (Ev.pos (by simpa using h) (Ev.ret _)))))) (fun q => rfl), ?_⟩
   rw [hd]; unfold cutsB; simp only [List.mem_cons, forall_eq_or_imp]
   exact ⟨fun _ b => h b.1, fun _ => by omega⟩
theorem zcfa (z : Bool) (L : List Int) (h0 : Int) (h1z : Bool) (h1l : List Int) (h2 : Bool) (h3 : Int) (hL : L.length ≤ 1000000) : ∃ r, Ev (fun q => zj1 q z L h0 h1z h1l h2 h3) r ∧ (0 ≤ r ↔ ¬ cutsB L) := by
 obtain ⟨r, h, h4⟩ := zce9 z L h0 h1z h1l h2 h3 hL L.length 0 (by omega)
 exact ⟨r, Ev.succ h (fun q => rfl), by simpa using h4⟩
def prs (least : Int) : Int → List Int → Bool
 | last, a :: b :: t => decide (last < a) && (decide (a ≤ 255) && (decide (least ≤ b) && (decide (b ≤ 1099511627776) && prs least a t)))
 | _, _ => true
def pairsOk (least : Int) (l : List Int) : Bool := prs least (-1) l && (decide (l.length % 2 = 0) && decide (l.length ≤ 128))
theorem zcfb (z : Bool) (L : List Int) (least : Int) (hL : L.length ≤ 1000000) : ∀ (k i : Nat) (last : Int), L.length ≤ i + 2 * k → i ≤ 2000000 →
  Ev (fun q => zjy q z L least last (i : Int)) (prs least last (L.drop i) && (decide (L.length % 2 = 0) && decide (L.length ≤ 128)))
 | k, i, last, hk, hi9 => by
  have w1 : wrp .i64 ((i : Int) + 1) = ((i + 1 : Nat) : Int) := by rw [zccm (by omega) (by omega)]; omega
  have w2 : wrp .i64 ((i : Int) + 2) = ((i + 2 : Nat) : Int) := by rw [zccm (by omega) (by omega)]; omega
  by_cases h : i + 1 < L.length
  ·cases k with
   | zero => omega
   | succ k =>
    have he : L[((i : Int)).toNat]? = some L[i] := by rw [y31]; exact y10 (by omega)
    have he2 : L[(wrp .i64 ((i : Int) + 1)).toNat]? = some L[i + 1] := by rw [w1, y31]; exact y10 h
    have hd : L.drop i = L[i] :: L[i + 1] :: L.drop (i + 2) := by rw [y12 (by omega), y12 h]
    rw [hd]
    simp only [prs]
    refine Ev.succ (Ev.pos (by rw [w1]; omega) (Ev.po (Ev.opt he (Ev.ite (fun c => Ev.ret' ?_) fun c => Ev.ite (fun c2 => Ev.ret' ?_) fun c2 => Ev.pos (by rw [w1]; omega) (Ev.opt he2 (Ev.ite (fun c3 => Ev.ret' ?_) fun c3 => Ev.ite (fun c4 => Ev.ret' ?_) fun c4 => ?_)))))) (fun q => rfl)
    ·rw [decide_eq_false (show ¬ last < L[i] by omega)]; rfl
    ·rw [decide_eq_false (show ¬ L[i] ≤ 255 by omega)]; simp
    ·rw [decide_eq_false (show ¬ least ≤ L[i + 1] by omega)]; simp
    ·rw [decide_eq_false (show ¬ L[i + 1] ≤ 1099511627776 by omega)]; simp
    ·rw [decide_eq_true (show last < L[i] by omega), decide_eq_true (show L[i] ≤ 255 by omega), decide_eq_true (show least ≤ L[i + 1] by omega), decide_eq_true (show L[i + 1] ≤ 1099511627776 by omega), w2]
     simp only [y64]
     exact zcfb z L least hL k (i + 2) L[i] (by omega) (by omega)
  ·have hp : prs least last (L.drop i) = true := by
    have hl : (L.drop i).length ≤ 1 := by rw [y16]; omega
    generalize L.drop i = X at hl
    match X, hl with
    | [], _ => rfl
    | [a], _ => rfl
   rw [hp, y64]
   have ht : Int.tmod (L.length : Int) 2 = ((L.length % 2 : Nat) : Int) := by rw [y62 (by omega)]; omega
   refine Ev.succ (Ev.neg (by rw [w1]; omega) (Ev.ite (fun c => Ev.ret' ?_) fun c => Ev.ret' ?_)) (fun q => rfl)
   ·rw [ht] at c
    rw [decide_eq_true (show L.length % 2 = 0 by omega), y64]
    by_cases h4 : L.length ≤ 128
    ·rw [decide_eq_true h4, decide_eq_true (by omega)]
    ·rw [decide_eq_false h4, decide_eq_false (by omega)]
   ·rw [ht] at c
    rw [decide_eq_false (show ¬ L.length % 2 = 0 by omega)]; rfl
theorem zcfc (s : Sl Int) (least : Int) (hL : s.l.length ≤ 1000000) : Ev (fun q => zjz q s least) (pairsOk least s.l) := by
 have := zcfb s.z s.l least hL s.l.length 0 (-1) (by omega) (by omega)
 exact Ev.succ this (fun q => rfl)
def kindOk (k : Int) (l : List Int) : Bool :=
 if k = 0 ∨ k = 1 then decide (l.length = 1 ∧ cutsB l) else if k = 2 ∨ k = 3 then decide (l.length ≤ 64 ∧ cutsB l) else if k = 4 then pairsOk (-1099511627776) l else if k = 5 then pairsOk 0 l else false
def mayS (s : zjp) : Bool := if s.To < 0 then false else if 3 ≤ s.To then false else if s.Sealed = true then kindOk s.Kind s.L.l else if s.To = 0 then kindOk s.Kind s.L.l else false
theorem zcfd (s : zjp) (hL : s.L.l.length ≤ 1000000) : Ev (fun q => ((zj1 q s.L.z s.L.l s.Kind s.L.z s.L.l s.Sealed s.To).bind fun r1 => (if s.Kind = 0 then (if (s.L.l.length : Int) = 1 then (some (!(decide (0 ≤ r1)))) else (some false)) else (if s.Kind = 1 then (if (s.L.l.length : Int) = 1 then (some (!(decide (0 ≤ r1)))) else (some false)) else (if s.Kind = 2 then (if (s.L.l.length : Int) ≤ 64 then (some (!(decide (0 ≤ r1)))) else (some false)) else (if s.Kind = 3 then (if (s.L.l.length : Int) ≤ 64 then (some (!(decide (0 ≤ r1)))) else (some false)) else (if s.Kind = 4 then ((zjz q s.L (-1099511627776)).bind fun r2 => (some r2)) else (if s.Kind = 5 then ((zjz q s.L 0).bind fun r3 => (some r3)) else (some false))))))))) (kindOk s.Kind s.L.l) := by
 obtain ⟨r, h, hr⟩ := zcfa s.L.z s.L.l s.Kind s.L.z s.L.l s.Sealed s.To hL
 have one : ∀ {P : Prop} [Decidable P], P → Ev (fun _ : Nat => (some (!(decide (0 ≤ r))) : Option Bool)) (decide (P ∧ cutsB s.L.l)) := fun {P} _ hp => Ev.ret' (by
  by_cases hc : cutsB s.L.l
  ·rw [decide_eq_false (fun e => hr.1 e hc)]; symm; simp only [Bool.not_false, decide_eq_true_eq]; exact ⟨hp, hc⟩
  ·rw [decide_eq_true (hr.2 hc)]; symm; simp only [Bool.not_true, decide_eq_false_iff_not]; exact fun e => hc e.2)
 have no : ∀ {P : Prop} [Decidable P], ¬ P → Ev (fun _ : Nat => (some false : Option Bool)) (decide (P ∧ cutsB s.L.l)) := fun {P} _ hp => Ev.ret' (by
  symm; simp only [decide_eq_false_iff_not]; exact fun e => hp e.1)
 refine Ev.bind h ?_
 unfold kindOk
 by_cases k0 : s.Kind = 0
 ·rw [if_pos (show s.Kind = 0 ∨ s.Kind = 1 from .inl k0)]
  by_cases hl : s.L.l.length = 1
  ·exact Ev.pos k0 (Ev.po (one hl))
  ·exact Ev.pos k0 (Ev.ne (no hl))
 by_cases k1 : s.Kind = 1
 ·rw [if_pos (show s.Kind = 0 ∨ s.Kind = 1 from .inr k1)]
  by_cases hl : s.L.l.length = 1
  ·exact Ev.neg k0 (Ev.pos k1 (Ev.po (one hl)))
  ·exact Ev.neg k0 (Ev.pos k1 (Ev.ne (no hl)))
 rw [if_neg (show ¬ (s.Kind = 0 ∨ s.Kind = 1) by omega)]
 by_cases k2 : s.Kind = 2
 ·rw [if_pos (show s.Kind = 2 ∨ s.Kind = 3 from .inl k2)]
  by_cases hl : s.L.l.length ≤ 64
  ·exact Ev.neg k0 (Ev.neg k1 (Ev.pos k2 (Ev.po (one hl))))
  ·exact Ev.neg k0 (Ev.neg k1 (Ev.pos k2 (Ev.ne (no hl))))
 by_cases k3 : s.Kind = 3
 ·rw [if_pos (show s.Kind = 2 ∨ s.Kind = 3 from .inr k3)]
  by_cases hl : s.L.l.length ≤ 64
  ·exact Ev.neg k0 (Ev.neg k1 (Ev.neg k2 (Ev.pos k3 (Ev.po (one hl)))))
  ·exact Ev.neg k0 (Ev.neg k1 (Ev.neg k2 (Ev.pos k3 (Ev.ne (no hl)))))
 rw [if_neg (show ¬ (s.Kind = 2 ∨ s.Kind = 3) by omega)]
 refine Ev.neg k0 (Ev.neg k1 (Ev.neg k2 (Ev.neg k3 (Ev.ite (fun k4 => ?_) fun k4 => Ev.ite (fun k5 => ?_) fun k5 => ?_))))
 ·rw [if_pos k4]; exact Ev.bind (zcfc _ _ hL) (Ev.ret _)
 ·rw [if_neg k4, if_pos k5]; exact Ev.bind (zcfc _ _ hL) (Ev.ret _)
 ·rw [if_neg k4, if_neg k5]; exact Ev.ret _
theorem zcfe (s : zjp) (hL : s.L.l.length ≤ 1000000) : Ev (fun q => zj2 q s) (mayS s) := by
 have hb := zcfd s hL
 unfold mayS
 refine Ev.succ (Ev.ite (fun h => ?_) fun h => Ev.ite (fun h2 => ?_) fun h2 => Ev.ite (fun h3 => ?_) fun h3 => Ev.ite (fun h4 => ?_) fun h4 => ?_) (fun q => rfl)
 ·rw [if_pos h]; exact Ev.ret _
 ·rw [if_neg h, if_pos h2]; exact Ev.ret _
 ·rw [if_neg h, if_neg h2, if_pos h3]; exact hb
 ·rw [if_neg h, if_neg h2, if_neg h3, if_pos h4]; exact hb
 ·rw [if_neg h, if_neg h2, if_neg h3, if_neg h4]; exact Ev.ret _
def entOk (e : zjq) : Bool := decide (0 ≤ e.Proc) && (decide (e.Proc ≤ 64) && (decide (0 ≤ e.Seq) && (decide (e.Seq < 4611686018427387904) && (decide (-1125899906842624 ≤ e.Resp) && decide (e.Resp ≤ 1125899906842624)))))
theorem zcff (e : zjq) : Ev (fun q => zj3 q e) (entOk e) := by
 unfold entOk
 exact Ev.succ (Ev.ite (fun h1 => Ev.ite (fun h2 => Ev.ite (fun h3 => Ev.ite (fun h4 => Ev.ite (fun h5 => Ev.ret' (by simp [*])) fun h5 => Ev.ret' (by simp [*])) fun h4 => Ev.ret' (by simp [*])) fun h3 => Ev.ret' (by simp [*])) fun h2 => Ev.ret' (by simp [*])) fun h1 => Ev.ret' (by simp [*])) (fun q => rfl)
def tabB : Int → List zjq → Bool
 | _, [] => true
 | last, e :: t => entOk e && (decide (last < e.Proc) && tabB e.Proc t)
theorem zcfg (z z2 : Bool) (L : List zjq) (hL : L.length ≤ 1000000) : ∀ (k i : Nat) (last : Int), L.length = i + k → (∀ e, 0 < i → L[i - 1]? = some e → e.Proc = last) → (i = 0 → last = -1) →
  Ev (fun q => zj4 q z L z2 L (L.length : Int) (i : Int)) (tabB last (L.drop i))
 | 0, i, last, hk, h1, h0 => by
  refine Ev.succ (Ev.ne (Ev.ret' ?_)) (fun q => rfl)
  rw [y15 (by omega)]; rfl
 | k + 1, i, last, hk, h1, h0 => by
  have hi : i < L.length := by omega
  have he : L[((i : Int)).toNat]? = some L[i] := by simp [hi]
  rw [y12 hi]
  simp only [tabB]
  have w1 : wrp .i64 ((i : Int) + 1) = ((i + 1 : Nat) : Int) := by rw [zccm (by omega) (by omega)]; omega
  have ih := zcfg z z2 L hL k (i + 1) L[i].Proc (by omega) (fun e _ hx => by
   rw [Nat.add_sub_cancel, y10 hi] at hx
   simp only [y7] at hx; rw [hx]) (by omega)
  refine Ev.succ (Ev.po (Ev.po (Ev.opt he (Ev.bind (zcff _) (Ev.ite (fun c => Ev.ite (fun c2 => ?_) fun c2 => ?_) fun c => Ev.ret' ?_))))) (fun q => rfl)
  ·have w3 : wrp .i64 ((i : Int) - 1) = ((i - 1 : Nat) : Int) := by rw [zccm (by omega) (by omega)]; omega
   have he3 : L[(wrp .i64 ((i : Int) - 1)).toNat]? = some L[i - 1] := by rw [w3, y31]; exact y10 (by omega)
   have hq := h1 L[i - 1] (by omega) (y10 (by omega))
   refine Ev.pos (by rw [w3]; omega) (Ev.opt he3 (Ev.ite (fun c4 => Ev.ret' ?_) fun c4 => ?_))
   ·rw [c, decide_eq_false (show ¬ last < L[i].Proc by omega)]; rfl
   ·rw [c, decide_eq_true (show last < L[i].Proc by omega), w1]; simpa using ih
  ·have := h0 (by omega)
   have hp : 0 ≤ L[i].Proc := by unfold entOk at c; simp only [y9, decide_eq_true_eq] at c; exact c.1
   rw [c, decide_eq_true (show last < L[i].Proc by omega), w1]; simpa using ih
  ·simp only [Bool.not_eq_true] at c; rw [c]; rfl
theorem zcfh (s : Sl zjq) (hL : s.l.length ≤ 1000000) : Ev (fun q => zj5 q s) (tabB (-1) s.l) :=
 Ev.succ (zcfg s.z s.z s.l hL s.l.length 0 (-1) (by omega) (fun e h => by omega) (fun _ => rfl)) (fun q => rfl)
theorem zcfi (z : Bool) (L : List zjq) (hL : L.length ≤ 1000000) : ∀ (k i : Nat) (last : Int), L.length = i + k → (∀ e, 0 < i → L[i - 1]? = some e → e.Proc = last) → (i = 0 → last = -1) →
  Ev (fun q => zk8 q z L (i : Int)) (tabB last (L.drop i))
 | 0, i, last, hk, h1, h0 => by
  refine Ev.succ (Ev.ne (Ev.ret' ?_)) (fun q => rfl)
  rw [y15 (by omega)]; rfl
 | k + 1, i, last, hk, h1, h0 => by
  have hi : i < L.length := by omega
  have he : L[((i : Int)).toNat]? = some L[i] := by simp [hi]
  rw [y12 hi]
  simp only [tabB]
  have w1 : wrp .i64 ((i : Int) + 1) = ((i + 1 : Nat) : Int) := by rw [zccm (by omega) (by omega)]; omega
  have ih := zcfi z L hL k (i + 1) L[i].Proc (by omega) (fun e _ hx => by
   rw [Nat.add_sub_cancel, y10 hi] at hx
   simp only [y7] at hx; rw [hx]) (by omega)
  refine Ev.succ (Ev.po (Ev.po (Ev.opt he (Ev.ite (fun c1 => Ev.ret' ?_) fun c1 => Ev.ite (fun c2 => Ev.ret' ?_) fun c2 => Ev.ite (fun c3 => Ev.ret' ?_) fun c3 => Ev.ite (fun c4 => Ev.ret' ?_) fun c4 => Ev.ite (fun c5 => Ev.ret' ?_) fun c5 => Ev.ite (fun c6 => Ev.ret' ?_) fun c6 => Ev.ite (fun c7 => ?_) fun c7 => ?_)))) (fun q => rfl)
  ·unfold entOk; rw [decide_eq_false (show ¬ 0 ≤ L[i].Proc by omega)]; simp
  ·unfold entOk; rw [decide_eq_false (show ¬ L[i].Proc ≤ 64 by omega)]; simp
  ·unfold entOk; rw [decide_eq_false (show ¬ 0 ≤ L[i].Seq by omega)]; simp
  ·unfold entOk; rw [decide_eq_false (show ¬ L[i].Seq < 4611686018427387904 by omega)]; simp
  ·unfold entOk; rw [decide_eq_false (show ¬ -1125899906842624 ≤ L[i].Resp by omega)]; simp
  ·unfold entOk; rw [decide_eq_false (show ¬ L[i].Resp ≤ 1125899906842624 by omega)]; simp
  ·have c : entOk L[i] = true := by unfold entOk; simp only [y9, decide_eq_true_eq]; omega
   have w3 : wrp .i64 ((i : Int) - 1) = ((i - 1 : Nat) : Int) := by rw [zccm (by omega) (by omega)]; omega
   have he3 : L[(wrp .i64 ((i : Int) - 1)).toNat]? = some L[i - 1] := by rw [w3, y31]; exact y10 (by omega)
   have hq := h1 L[i - 1] (by omega) (y10 (by omega))
   refine Ev.pos (by rw [w3]; omega) (Ev.opt he3 (Ev.ite (fun c4 => Ev.ret' ?_) fun c4 => ?_))
   ·rw [c, decide_eq_false (show ¬ last < L[i].Proc by omega)]; rfl
   ·rw [c, decide_eq_true (show last < L[i].Proc by omega), w1]; simpa using ih
  ·have c : entOk L[i] = true := by unfold entOk; simp only [y9, decide_eq_true_eq]; omega
   have := h0 (by omega)
   rw [c, decide_eq_true (show last < L[i].Proc by omega), w1]; simpa using ih
theorem zcfj (s : Sl zjq) (hL : s.l.length ≤ 1000000) : Ev (fun q => zk9 q s) (tabB (-1) s.l) :=
 Ev.succ (zcfi s.z s.l hL s.l.length 0 (-1) (by omega) (fun e h => by omega) (fun _ => rfl)) (fun q => rfl)
def mayN (s : zjr) : Bool := decide (0 ≤ s.Index) && (decide (s.Index < 4611686018427387904) && (mayS s.State && tabB (-1) s.Table.l))
theorem zcfk (s : zjr) (h1 : s.State.L.l.length ≤ 1000000) (h2 : s.Table.l.length ≤ 1000000) : Ev (fun q => zj6 q s) (mayN s) := by
 unfold mayN
 refine Ev.succ (Ev.ite (fun c1 => Ev.ite (fun c2 => Ev.bind (zcfe _ h1) (Ev.ite (fun c3 => Ev.bind (zcfh _ h2) (Ev.ret' ?_)) fun c3 => Ev.ret' ?_)) fun c2 => Ev.ret' ?_) fun c1 => Ev.ret' ?_) (fun q => rfl)
 ·simp [c1, c2, c3]
 ·simp [c3]
 ·simp [c2]
 ·simp [c1]
instance : DecidableEq zjq := fun a b => if h : a.Proc = b.Proc ∧ a.Seq = b.Seq ∧ a.Resp = b.Resp then isTrue (by cases a; cases b; simp_all) else isFalse (fun e => h (by rw [e]; exact ⟨rfl, rfl, rfl⟩))
theorem zcfl {a b : zjq} (h1 : a.Proc = b.Proc) (h2 : a.Seq = b.Seq) (h3 : a.Resp = b.Resp) : a = b := by cases a; cases b; simp_all
/-- A process's entry. -/
def findE (p : Int) : List zjq → Option zjq
 | [] => none
 | e :: t => if e.Proc = p then some e else findE p t
theorem zcfm (z : Bool) (L : List zjq) (p : Int) (hL : L.length ≤ 1000000) : ∀ (k i : Nat), L.length = i + k →
  ∃ r, Ev (fun q => zj7 q z L (L.length : Int) (i : Int) p) r ∧ ((r < 0 ∧ findE p (L.drop i) = none) ∨ (0 ≤ r ∧ ∃ e, L[r.toNat]? = some e ∧ findE p (L.drop i) = some e))
 | 0, i, hk => by
  refine ⟨-1, Ev.succ (Ev.ne (Ev.ret _)) (fun q => rfl), .inl ⟨by omega, ?_⟩⟩
  rw [y15 (by omega)]; rfl
 | k + 1, i, hk => by
  have hi : i < L.length := by omega
  have he : L[((i : Int)).toNat]? = some L[i] := by simp [hi]
  rw [y12 hi]
  simp only [findE]
  by_cases h : L[i].Proc = p
  ·rw [if_pos h]
   exact ⟨i, Ev.succ (Ev.po (Ev.po (Ev.opt he (Ev.pos h (Ev.ret _))))) (fun q => rfl), .inr ⟨by omega, L[i], he, rfl⟩⟩
  ·rw [if_neg h]
   obtain ⟨r, hr, hr2⟩ := zcfm z L p hL k (i + 1) (by omega)
   rw [show ((i + 1 : Nat) : Int) = wrp .i64 ((i : Int) + 1) by rw [zccm (by omega) (by omega)]; omega] at hr
   exact ⟨r, Ev.succ (Ev.po (Ev.po (Ev.opt he (Ev.neg h hr)))) (fun q => rfl), hr2⟩
theorem zcfn (s : Sl zjq) (p : Int) (hL : s.l.length ≤ 1000000) : ∃ r, Ev (fun q => zj9 q s p) r ∧ ((r < 0 ∧ findE p s.l = none) ∨ (0 ≤ r ∧ ∃ e, s.l[r.toNat]? = some e ∧ findE p s.l = some e)) := by
 obtain ⟨r, h, h2⟩ := zcfm s.z s.l p hL s.l.length 0 (by omega)
 rw [y41] at h2
 exact ⟨r, Ev.succ (Ev.bind (Ev.succ h (fun q => rfl)) (Ev.ret _)) (fun q => rfl), h2⟩
/-- How many numbers two lists begin with alike. -/
def com : List Int → List Int → Nat
 | a :: x, b :: y => if a = b then com x y + 1 else 0
 | _, _ => 0
theorem com_le : ∀ (x y : List Int), com x y ≤ x.length ∧ com x y ≤ y.length
 | [], y => by simp [com]
 | a :: x, [] => by simp [com]
 | a :: x, b :: y => by
  simp only [com]
  split
  ·have := com_le x y; simp only [y24]; omega
  ·simp
theorem zcfo {x y : List Int} {i : Nat} (hx : i < x.length) (hy : i < y.length) : com (x.drop i) (y.drop i) = if x[i] = y[i] then com (x.drop (i + 1)) (y.drop (i + 1)) + 1 else 0 := by
 rw [y12 hx, y12 hy]; rfl
theorem zcfp {x y : List Int} {i : Nat} (h : x.length ≤ i ∨ y.length ≤ i) : com (x.drop i) (y.drop i) = 0 := by
 rcases h with h | h
 ·rw [y15 h]; cases y.drop i <;> rfl
 ·rw [y15 h]; cases x.drop i <;> rfl
theorem zcfq (z1 z2 : Bool) (x y : List Int) (hL : x.length ≤ 1000000) : ∀ (k i : Nat), x.length = i + k →
  Ev (fun q => zka q z1 x z2 y (i : Int)) ((i + com (x.drop i) (y.drop i) : Nat) : Int)
 | 0, i, hk => by
  refine Ev.succ (Ev.ne (Ev.ret' ?_)) (fun q => rfl)
  rw [zcfp (.inl (by omega))]; rfl
 | k + 1, i, hk => by
  have hi : i < x.length := by omega
  have he : x[((i : Int)).toNat]? = some x[i] := by simp [hi]
  by_cases hy : i < y.length
  ·have he2 : y[((i : Int)).toNat]? = some y[i] := by simp [hy]
   rw [zcfo hi hy]
   refine Ev.succ (Ev.po (Ev.po (Ev.po (Ev.opt he (Ev.opt he2 (Ev.ite (fun h => ?_) fun h => ?_)))))) (fun q => rfl)
   ·rw [if_pos h]
    have := zcfq z1 z2 x y hL k (i + 1) (by omega)
    rw [show ((i + 1 : Nat) : Int) = wrp .i64 ((i : Int) + 1) by rw [zccm (by omega) (by omega)]; omega] at this
    refine Ev.cast this ?_
    omega
   ·rw [if_neg h]; exact Ev.ret' (by omega)
  ·rw [zcfp (.inr (by omega))]
   exact Ev.succ (Ev.po (Ev.ne (Ev.ret' (by omega)))) (fun q => rfl)
theorem zcfr (a b : Sl Int) (hL : a.l.length ≤ 1000000) : Ev (fun q => zkb q a b) ((com a.l b.l : Nat) : Int) := by
 have := zcfq a.z b.z a.l b.l hL a.l.length 0 (by omega)
 exact Ev.succ (Ev.cast this (by simp)) (fun q => rfl)
theorem zcfs {x : List Int} {i : Nat} (h : i < x.length) : x[x.length - 1 - i]? = some (x.reverse[i]'(by rw [List.length_reverse]; exact h)) := by
 rw [List.getElem_reverse, y10 (by omega)]
theorem zcft (z1 z2 : Bool) (x y : List Int) (hL : x.length ≤ 1000000) (hL2 : y.length ≤ 1000000) : ∀ (k i : Nat), x.length = i + k →
  Ev (fun q => zkc q z1 x z2 y (i : Int)) ((i + com (x.reverse.drop i) (y.reverse.drop i) : Nat) : Int)
 | 0, i, hk => by
  refine Ev.succ (Ev.ne (Ev.ret' ?_)) (fun q => rfl)
  rw [zcfp (.inl (by rw [List.length_reverse]; omega))]; rfl
 | k + 1, i, hk => by
  have hi : i < x.length := by omega
  have hir : i < x.reverse.length := by rw [List.length_reverse]; exact hi
  have w1 : wrp .i64 (wrp .i64 ((x.length : Int) - 1) - (i : Int)) = ((x.length - 1 - i : Nat) : Int) := by rw [zccm (x := (x.length : Int) - 1) (by omega) (by omega), zccm (by omega) (by omega)]; omega
  have he : x[(wrp .i64 (wrp .i64 ((x.length : Int) - 1) - (i : Int))).toNat]? = some x.reverse[i] := by rw [w1, y31]; exact zcfs hi
  by_cases hy : i < y.length
  ·have hyr : i < y.reverse.length := by rw [List.length_reverse]; exact hy
   have w2 : wrp .i64 (wrp .i64 ((y.length : Int) - 1) - (i : Int)) = ((y.length - 1 - i : Nat) : Int) := by rw [zccm (x := (y.length : Int) - 1) (by omega) (by omega), zccm (by omega) (by omega)]; omega
   have he2 : y[(wrp .i64 (wrp .i64 ((y.length : Int) - 1) - (i : Int))).toNat]? = some y.reverse[i] := by rw [w2, y31]; exact zcfs hy
   rw [zcfo hir hyr]
   refine Ev.succ (Ev.po (Ev.po (Ev.pos (by rw [w1]; omega) (Ev.opt he (Ev.pos (by rw [w2]; omega) (Ev.opt he2 (Ev.ite (fun h => ?_) fun h => ?_))))))) (fun q => rfl)
   ·rw [if_pos h]
    have := zcft z1 z2 x y hL hL2 k (i + 1) (by omega)
    rw [show ((i + 1 : Nat) : Int) = wrp .i64 ((i : Int) + 1) by rw [zccm (by omega) (by omega)]; omega] at this
    refine Ev.cast this ?_
    omega
   ·rw [if_neg h]; exact Ev.ret' (by omega)
  ·rw [zcfp (.inr (by rw [List.length_reverse]; omega))]
   exact Ev.succ (Ev.po (Ev.ne (Ev.ret' (by omega)))) (fun q => rfl)
theorem zcfu (a b : Sl Int) (hL : a.l.length ≤ 1000000) (hL2 : b.l.length ≤ 1000000) : Ev (fun q => zkd q a b) ((com a.l.reverse b.l.reverse : Nat) : Int) := by
 have := zcft a.z b.z a.l b.l hL hL2 a.l.length 0 (by omega)
 exact Ev.succ (Ev.cast this (by simp)) (fun q => rfl)
/-- The entries that are new. -/
def newT (ta : List zjq) : List zjq → List zjq
 | [] => []
 | e :: t => if findE e.Proc ta = some e then newT ta t else e :: newT ta t
def lacksB (ta tb : List zjq) : Bool := match ta with
 | [] => false
 | e :: t => decide (findE e.Proc tb = none) || lacksB t tb
theorem zcfv (z : Bool) (L : List zjq) (x0 x1 : Int) (x2z : Bool) (x2l : List Int) (x3 : Bool) (x4 : Int) (x5z : Bool) (x5l : List zjq) (y0 y1 : Int) (y2z : Bool) (y2l : List Int) (y3 : Bool) (y4 : Int) (tz : Bool) (T : List zjq) (hL : L.length ≤ 1000000) (hT : T.length ≤ 1000000) : ∀ (k i : Nat), L.length = i + k →
  ∃ r, Ev (fun q => zkf q z L (L.length : Int) (i : Int) x0 x1 x2z x2l x3 x4 x5z x5l y0 y1 y2z y2l y3 y4 tz T) r ∧ (0 ≤ r ↔ lacksB (L.drop i) T = true)
 | 0, i, hk => by
  refine ⟨-1, Ev.succ (Ev.ne (Ev.ret _)) (fun q => rfl), ?_⟩
  rw [y15 (by omega)]; simp [lacksB]
 | k + 1, i, hk => by
  have hi : i < L.length := by omega
  have he : L[((i : Int)).toNat]? = some L[i] := by simp [hi]
  obtain ⟨r, hr, hr2⟩ := zcfn ⟨tz, T⟩ L[i].Proc hT
  rw [y12 hi]
  simp only [lacksB]
  rcases hr2 with ⟨h1, h2⟩ | ⟨h1, e, h2, h3⟩
  ·refine ⟨i, Ev.succ (Ev.po (Ev.po (Ev.opt he (Ev.bind hr (Ev.pos h1 (Ev.ret _)))))) (fun q => rfl), ?_⟩
   simp only at h2
   rw [decide_eq_true h2]; simp
  ·obtain ⟨r', hr', hr2'⟩ := zcfv z L x0 x1 x2z x2l x3 x4 x5z x5l y0 y1 y2z y2l y3 y4 tz T hL hT k (i + 1) (by omega)
   rw [show ((i + 1 : Nat) : Int) = wrp .i64 ((i : Int) + 1) by rw [zccm (by omega) (by omega)]; omega] at hr'
   refine ⟨r', Ev.succ (Ev.po (Ev.po (Ev.opt he (Ev.bind hr (Ev.neg (by omega) hr'))))) (fun q => rfl), ?_⟩
   simp only at h3
   rw [decide_eq_false (by rw [h3]; exact fun c => by cases c), Bool.false_or]
   exact hr2'
theorem zcfw (z0 : Bool) (L : List (Sl Int)) (z : Bool) (hL : L.length ≤ 1099511627776) : ∀ (k i : Nat) (m : Nat) (l : List Int), L.length = i + k → m + (flat (L.drop i)).length ≤ l.length →
  Ev (fun q => zkk q m z0 L (L.length : Int) (i : Int) z l) ⟨z, true, l.take m ++ flat (L.drop i)⟩
 | 0, i, m, l, hk, hl => by
  refine Ev.succ (Ev.ne (Ev.ret' ?_)) (fun q => rfl)
  rw [y15 (by omega)]; simp [flat]
 | k + 1, i, m, l, hk, hl => by
  have hi : i < L.length := by omega
  have hg : L[(i : Int).toNat]? = some L[i] := by simpa using y10 hi
  rw [y12 hi, zcdw, y13] at hl
  refine Ev.succ (Ev.po (Ev.po (Ev.opt hg (Ev.pos (by omega) ?_)))) (fun q => rfl)
  rw [zccm (by omega) (by omega), show ((i : Int) + 1) = ((i + 1 : Nat) : Int) by omega]
  refine (zcfw z0 L z hL k (i + 1) (m + L[i].l.length) _ (by omega) ?_).cast ?_
  ·simp only [y13, y23, y16]; omega
  ·congr 1
   rw [y12 hi, zcdw, ← y36]
   congr 1
   rw [List.take_append_of_le_length (by simp only [y13, y23]; omega), List.take_of_length_le (by simp only [y13, y23]; omega)]
theorem zcfx (z0 : Bool) (L : List (Sl Int)) (hL : L.length ≤ 1099511627776) : ∀ (k i : Nat) (z : Bool) (l : List Int), L.length = i + k → l.length + (flat (L.drop i)).length ≤ 4294967296 →
  ∃ z', Ev (fun q => zkl q z0 L (L.length : Int) (i : Int) z l) ⟨z', true, l ++ flat (L.drop i)⟩
 | 0, i, z, l, hk, hl => ⟨z, by
  refine Ev.succ (Ev.ne (Ev.ret' ?_)) (fun q => rfl)
  rw [y15 (by omega)]; simp [flat]⟩
 | k + 1, i, z, l, hk, hl => by
  have hi : i < L.length := by omega
  have hg : L[(i : Int).toNat]? = some L[i] := by simpa using y10 hi
  rw [y12 hi, zcdw, y13] at hl
  obtain ⟨z', h⟩ := zcfx z0 L hL k (i + 1) (z && (decide (L[i].l.length = 0))) (l ++ L[i].l) (by omega) (by simp only [y13]; omega)
  refine ⟨z', Ev.succ (Ev.po (Ev.po (Ev.opt hg (Ev.pos (by omega) ?_)))) (fun q => rfl)⟩
  rw [zccm (by omega) (by omega), show ((i : Int) + 1) = ((i + 1 : Nat) : Int) by omega]
  refine h.cast ?_
  rw [y12 hi, zcdw]; simp
theorem zcfy (z0 z9 : Bool) (L : List (Sl Int)) (hL : L.length ≤ 1099511627776) (hf : (flat L).length ≤ 4294967296) : ∀ (k i : Nat) (m : Nat), L.length = i + k → m + (flat (L.drop i)).length = (flat L).length →
  ∃ z', Ev (fun q => zkn q z0 L (m : Int) z9 L (L.length : Int) (i : Int)) ⟨z', true, flat L⟩
 | 0, i, m, hk, hm => by
  rw [y15 (by omega)] at hm
  have hm2 : m = (flat L).length := by simpa [flat] using hm
  have w : wrp .i64 ((m : Int) - wrp .i64 0) = (m : Int) := by rw [zccm (x := 0) (by omega) (by omega), zccm (by omega) (by omega)]; omega
  by_cases h0 : 0 < m
  ·refine ⟨decide (wrp .i64 ((m : Int) - wrp .i64 0) = 0), Ev.succ (Ev.ne (Ev.ne (Ev.pos (by rw [w]; omega) (Ev.pos (by rw [w]; omega) (Ev.pos (by rw [w]; omega) (Ev.neg (by rw [w]; omega) ?_)))))) (fun q => rfl)⟩
   rw [w]
   have := zcfw z0 L (decide ((m : Int) = 0)) hL L.length 0 0 (List.replicate (m : Int).toNat 0) (by omega) (by simp; omega)
   rw [y41] at this
   exact this
  ·have hnil : flat L = [] := y38 (by omega)
   match L, hk with
   | [], _ =>
    refine ⟨true, Ev.succ (Ev.neg (by simp) (Ev.neg (by omega) ?_)) (fun q => rfl)⟩
    rw [w]
    refine Ev.neg (by omega) ?_
    exact Ev.succ (g := fun _ => some ⟨true, true, []⟩) (Ev.ret' (by simp [flat])) (fun q => rfl)
   | a :: L', hk =>
    rw [zcdw] at hnil
    obtain ⟨z', h⟩ := zcfx z0 (a :: L') hL L'.length 1 (decide (a.l.length = 0)) a.l (by simp; omega) (by
     have : flat (List.drop 1 (a :: L')) = flat L' := rfl
     rw [this, ← y13, hnil]; simp)
    refine ⟨z', Ev.succ (Ev.ne (Ev.neg (by omega) ?_)) (fun q => rfl)⟩
    rw [w]
    refine Ev.ne (Ev.succ (Ev.pos (by simp) (Ev.opt (s := a) rfl (Ev.pos ?_ ?_))) (fun q => rfl))
    ·have : a.l.length ≤ (a.l ++ flat L').length := by simp
     rw [hnil] at this; simp at this; simp [this]
    ·rw [zccm (by omega) (by omega)]
     refine h.cast ?_
     rw [zcdw]; rfl
 | k + 1, i, m, hk, hm => by
  have hi : i < L.length := by omega
  have hg : L[(i : Int).toNat]? = some L[i] := by simpa using y10 hi
  rw [y12 hi, zcdw, y13] at hm
  obtain ⟨z', h⟩ := zcfy z0 z9 L hL hf k (i + 1) (m + L[i].l.length) (by omega) (by omega)
  refine ⟨z', Ev.succ (Ev.po (Ev.po (Ev.opt hg ?_))) (fun q => rfl)⟩
  have w : wrp .i64 ((m : Int) + (L[i].l.length : Int)) = ((m + L[i].l.length : Nat) : Int) := by rw [zccm (by omega) (by omega)]; omega
  rw [w, zccm (by omega) (by omega), show ((i : Int) + 1) = ((i + 1 : Nat) : Int) by omega]
  exact Ev.neg (by omega) h
theorem zcfz (s : Sl (Sl Int)) (hL : s.l.length ≤ 1099511627776) (hf : (flat s.l).length ≤ 4294967296) : ∃ z', Ev (fun q => zko q s) ⟨z', true, flat s.l⟩ := by
 obtain ⟨z', h⟩ := zcfy s.z s.z s.l hL hf s.l.length 0 0 (by omega) (by simp)
 exact ⟨z', Ev.succ h (fun q => rfl)⟩
theorem zcf0 (z z2 : Bool) (A B : List Int) (hl : A.length = B.length) (hL : A.length ≤ 1099511627776) : ∀ (k i : Nat), A.length = i + k → Ev (fun q => zk1 q z A z2 B (A.length : Int) (i : Int)) (decide (A.drop i = B.drop i))
 | 0, i, hk => by
  refine Ev.succ (Ev.ne (Ev.ret' ?_)) (fun q => rfl)
  rw [y15 (by omega), y15 (by omega)]; simp
 | k + 1, i, hk => by
  have hi : i < A.length := by omega
  have hi2 : i < B.length := by omega
  have hg : A[(i : Int).toNat]? = some A[i] := by simpa using y10 hi
  have hg2 : B[(i : Int).toNat]? = some B[i] := by simpa using y10 hi2
  refine Ev.succ (Ev.po (Ev.po (Ev.opt hg (Ev.opt hg2 ?_)))) (fun q => rfl)
  rw [y12 hi, y12 hi2]
  refine Ev.ite (fun h => ?_) fun h => Ev.ret' (by symm; rw [decide_eq_false_iff_not]; intro e; exact h (List.cons.inj e).1)
  rw [zccm (by omega) (by omega), show ((i : Int) + 1) = ((i + 1 : Nat) : Int) by omega]
  refine (zcf0 z z2 A B hl hL k (i + 1) (by omega)).cast ?_
  rw [decide_eq_decide, List.cons.injEq]; simp only [h, true_and]
theorem zcf1 (a b : Sl Int) (hL : a.l.length ≤ 1099511627776) : Ev (fun q => zk2 q a b) (decide (a.l = b.l)) := by
 refine Ev.succ (Ev.ite (fun h => ?_) fun h => Ev.ret' ?_) (fun q => rfl)
 ·have := zcf0 a.z b.z a.l b.l (by omega) hL a.l.length 0 (by omega)
  rw [y41, y41] at this; exact this
 ·symm; rw [decide_eq_false_iff_not]; intro e; rw [e] at h; exact h rfl
theorem zcf2 {ta t : List zjq} {e : zjq} (h : findE e.Proc ta ≠ some e) : newT ta (e :: t) = e :: newT ta t := by simp only [newT]; rw [if_neg h]
theorem zcf3 {ta t : List zjq} {e : zjq} (h : findE e.Proc ta = some e) : newT ta (e :: t) = newT ta t := by simp only [newT]; rw [if_pos h]
theorem zcf4 (s : Sl Int) (hz : s.z = true → s.l = []) (hl : s.l.length ≤ 4294967296) : ∃ z, Ev (fun q => zke q s) ⟨z, true, s.l⟩ := by
 by_cases h : s.z = true
 ·exact ⟨true, Ev.succ (Ev.pos h (Ev.ret' (by rw [hz h]))) (fun q => rfl)⟩
 ·exact ⟨false, Ev.succ (Ev.neg h (Ev.pos hl (Ev.ret _))) (fun q => rfl)⟩
theorem zcf5 (z : Bool) (L : List zjq) (x0 x1 : Int) (x2z : Bool) (x2l : List Int) (x3 : Bool) (x4 : Int) (tz : Bool) (ta : List zjq) (d0 d1 d2 d3 : Int) (d5 : Bool) (d6 : Int) (hz : Bool) (hm : List Int) (hx : Bool) (hL : L.length ≤ 1000000) (hT : ta.length ≤ 1000000) : ∀ (k i : Nat) (acc : List zjq), L.length = i + k → acc.length ≤ i →
  Ev (fun q => zkh q z L (L.length : Int) (i : Int) x0 x1 x2z x2l x3 x4 tz ta d0 d1 d2 d3 d5 d6 hz hm hx acc) (⟨d0, d1, d2, d3, ⟨hz, hm⟩, d5, d6, ⟨false, acc ++ newT ta (L.drop i)⟩⟩, 0)
 | 0, i, acc, hk, ha => by
  refine Ev.succ (Ev.ne (Ev.ret' ?_)) (fun q => rfl)
  rw [y15 (by omega)]; simp [newT]
 | k + 1, i, acc, hk, ha => by
  have hi : i < L.length := by omega
  have he : L[((i : Int)).toNat]? = some L[i] := by simp [hi]
  have w1 : wrp .i64 ((i : Int) + 1) = ((i + 1 : Nat) : Int) := by rw [zccm (by omega) (by omega)]; omega
  obtain ⟨r, hr, hr2⟩ := zcfn ⟨tz, ta⟩ L[i].Proc hT
  simp only at hr2
  have ihN := zcf5 z L x0 x1 x2z x2l x3 x4 tz ta d0 d1 d2 d3 d5 d6 hz hm hx hL hT k (i + 1) (acc ++ [L[i]]) (by omega) (by simp; omega)
  have ihO := zcf5 z L x0 x1 x2z x2l x3 x4 tz ta d0 d1 d2 d3 d5 d6 hz hm hx hL hT k (i + 1) acc (by omega) (by omega)
  rw [← w1] at ihN ihO
  rw [y12 hi]
  refine Ev.succ (Ev.po (Ev.po (Ev.opt he (Ev.bind hr ?_)))) (fun q => rfl)
  have new : findE L[i].Proc ta ≠ some L[i] → Ev (fun q => if (acc.length + 1) ≤ 4294967296 then (zkh q z L (L.length : Int) (wrp .i64 ((i : Int) + 1)) x0 x1 x2z x2l x3 x4 tz ta d0 d1 d2 d3 d5 d6 hz hm hx (acc ++ [L[i]])) else none) (⟨d0, d1, d2, d3, ⟨hz, hm⟩, d5, d6, ⟨false, acc ++ newT ta (L[i] :: L.drop (i + 1))⟩⟩, 0) := fun hne => by
   rw [zcf2 hne]
   exact Ev.po (Ev.cast ihN (by simp))
  rcases hr2 with ⟨q1, q2⟩ | ⟨q1, e, q2, q3⟩
  ·exact Ev.pos q1 (new (by rw [q2]; exact fun c => by cases c))
  ·refine Ev.ne (Ev.pos q1 (Ev.opt q2 (Ev.ite (fun c1 => Ev.ite (fun c2 => Ev.ite (fun c3 => ?_) fun c3 => ?_) fun c2 => ?_) fun c1 => ?_)))
   ·rw [zcf3 (by rw [q3, zcfl c1 c2 c3])]; exact ihO
   ·exact new (by rw [q3]; intro c; cases c; exact c3 rfl)
   ·exact new (by rw [q3]; intro c; cases c; exact c2 rfl)
   ·exact new (by rw [q3]; intro c; cases c; exact c1 rfl)
theorem zcf6 (z : Bool) (L : List zjq) (x0 x1 : Int) (x2z : Bool) (x2l : List Int) (x3 : Bool) (x4 : Int) (tz : Bool) (ta : List zjq) (d0 d1 d2 d3 : Int) (d5 : Bool) (d6 : Int) (hz : Bool) (hm : List Int) (hx : Bool) (hL : L.length ≤ 1000000) (hT : ta.length ≤ 1000000) : ∀ (k i : Nat), L.length = i + k →
  ∃ z', Ev (fun q => zki q z L (L.length : Int) (i : Int) x0 x1 x2z x2l x3 x4 tz ta d0 d1 d2 d3 d5 d6 hz hm hx) (⟨d0, d1, d2, d3, ⟨hz, hm⟩, d5, d6, ⟨z', newT ta (L.drop i)⟩⟩, 0)
 | 0, i, hk => by
  refine ⟨true, Ev.succ (Ev.ne (Ev.ret' ?_)) (fun q => rfl)⟩
  rw [y15 (by omega)]; simp [newT]
 | k + 1, i, hk => by
  have hi : i < L.length := by omega
  have he : L[((i : Int)).toNat]? = some L[i] := by simp [hi]
  have w1 : wrp .i64 ((i : Int) + 1) = ((i + 1 : Nat) : Int) := by rw [zccm (by omega) (by omega)]; omega
  obtain ⟨r, hr, hr2⟩ := zcfn ⟨tz, ta⟩ L[i].Proc hT
  simp only at hr2
  have ihN := zcf5 z L x0 x1 x2z x2l x3 x4 tz ta d0 d1 d2 d3 d5 d6 hz hm hx hL hT k (i + 1) [L[i]] (by omega) (by simp)
  obtain ⟨z', ihO⟩ := zcf6 z L x0 x1 x2z x2l x3 x4 tz ta d0 d1 d2 d3 d5 d6 hz hm hx hL hT k (i + 1) (by omega)
  rw [← w1] at ihN ihO
  rw [y12 hi]
  have fin : ∀ {r' : zjs × Int} , Ev (fun q => if r < 0 then (zkh q z L (L.length : Int) (wrp .i64 ((i : Int) + 1)) x0 x1 x2z x2l x3 x4 tz ta d0 d1 d2 d3 d5 d6 hz hm hx [L[i]]) else (if 0 ≤ r then ((ta[r.toNat]?).bind fun e9 => (if e9.Proc = L[i].Proc then (if e9.Seq = L[i].Seq then (if e9.Resp = L[i].Resp then (zki q z L (L.length : Int) (wrp .i64 ((i : Int) + 1)) x0 x1 x2z x2l x3 x4 tz ta d0 d1 d2 d3 d5 d6 hz hm hx) else (zkh q z L (L.length : Int) (wrp .i64 ((i : Int) + 1)) x0 x1 x2z x2l x3 x4 tz ta d0 d1 d2 d3 d5 d6 hz hm hx [L[i]])) else (zkh q z L (L.length : Int) (wrp .i64 ((i : Int) + 1)) x0 x1 x2z x2l x3 x4 tz ta d0 d1 d2 d3 d5 d6 hz hm hx [L[i]])) else (zkh q z L (L.length : Int) (wrp .i64 ((i : Int) + 1)) x0 x1 x2z x2l x3 x4 tz ta d0 d1 d2 d3 d5 d6 hz hm hx [L[i]]))) else none)) r' → Ev (fun q => zki q z L (L.length : Int) (i : Int) x0 x1 x2z x2l x3 x4 tz ta d0 d1 d2 d3 d5 d6 hz hm hx) r' := fun h => Ev.succ (Ev.po (Ev.po (Ev.opt he (Ev.bind hr h)))) (fun q => rfl)
  rcases hr2 with ⟨q1, q2⟩ | ⟨q1, e, q2, q3⟩
  ·rw [zcf2 (by rw [q2]; exact fun c => by cases c)]
   exact ⟨false, fin (Ev.pos q1 ihN)⟩
  ·by_cases c : e = L[i]
   ·rw [zcf3 (by rw [q3, c])]
    exact ⟨z', fin (Ev.ne (Ev.pos q1 (Ev.opt q2 (Ev.pos (by rw [c]) (Ev.pos (by rw [c]) (Ev.pos (by rw [c]) ihO))))))⟩
   ·rw [zcf2 (by rw [q3]; intro c2; cases c2; exact c rfl)]
    refine ⟨false, fin (Ev.ne (Ev.pos q1 (Ev.opt q2 (Ev.ite (fun c1 => Ev.ite (fun c2 => Ev.ite (fun c3 => absurd (zcfl c1 c2 c3) c) fun c3 => ihN) fun c2 => ihN) fun c1 => ihN))))⟩
/-- What stays ahead, what stays behind, what stands between. -/
def ahN (x y : List Int) : Nat := com x y
def beN (x y : List Int) : Nat := com (x.drop (com x y)).reverse (y.drop (com x y)).reverse
def midL (x y : List Int) : List Int := (y.drop (com x y)).take ((y.drop (com x y)).length - beN x y)
def noD : zjs := ⟨0, 0, 0, 0, ⟨true, []⟩, false, 0, ⟨true, []⟩⟩
def diffR (a b : zjr) (zm zt : Bool) : zjs × Int :=
 if mayN a = true ∧ mayN b = true ∧ a.State.Kind = b.State.Kind then
  (if lacksB a.Table.l b.Table.l = true ∨ b.Index < a.Index then (noD, 15) else (⟨a.Index, b.Index, ((ahN a.State.L.l b.State.L.l : Nat) : Int), ((beN a.State.L.l b.State.L.l : Nat) : Int), ⟨zm, midL a.State.L.l b.State.L.l⟩, b.State.Sealed, b.State.To, ⟨zt, newT a.Table.l b.Table.l⟩⟩, 0))
 else (noD, 1)
theorem beN_le (x y : List Int) : ahN x y ≤ x.length ∧ ahN x y ≤ y.length ∧ beN x y ≤ x.length - ahN x y ∧ beN x y ≤ y.length - ahN x y := by
 have h1 := com_le x y
 have h2 := com_le (x.drop (com x y)).reverse (y.drop (com x y)).reverse
 simp only [List.length_reverse, y16] at h2
 unfold ahN beN; omega
theorem zcf7 (a b : zjr) (h1 : a.State.L.l.length ≤ 1000000) (h2 : a.Table.l.length ≤ 1000000) (h3 : b.State.L.l.length ≤ 1000000) (h4 : b.Table.l.length ≤ 1000000) (hz : b.State.L.z = true → b.State.L.l = []) : ∃ zm zt, Ev (fun q => zkj q a b) (diffR a b zm zt) := by
 unfold diffR
 by_cases c1 : mayN a = true
 ·by_cases c2 : mayN b = true
  ·by_cases c3 : a.State.Kind = b.State.Kind
   ·simp only [if_pos (show mayN a = true ∧ mayN b = true ∧ a.State.Kind = b.State.Kind from ⟨c1, c2, c3⟩)]
    by_cases c4 : b.Index < a.Index
    ·refine ⟨true, true, Ev.succ (Ev.bind (zcfk a h1 h2) (Ev.pos c1 (Ev.bind (zcfk b h3 h4) (Ev.pos c2 (Ev.pos c3 (Ev.pos c4 (Ev.ret' ?_))))))) (fun q => rfl)⟩
     rw [if_pos (.inr c4)]; rfl
    ·obtain ⟨r, hr, hr2⟩ := zcfv a.Table.z a.Table.l a.Index a.State.Kind a.State.L.z a.State.L.l a.State.Sealed a.State.To a.Table.z a.Table.l b.Index b.State.Kind b.State.L.z b.State.L.l b.State.Sealed b.State.To b.Table.z b.Table.l h2 h4 a.Table.l.length 0 (by omega)
     rw [y41] at hr2
     have hr' : Ev (fun q => zkg q a.Table.z a.Table.l a.Index a.State.Kind a.State.L.z a.State.L.l a.State.Sealed a.State.To a.Table.z a.Table.l b.Index b.State.Kind b.State.L.z b.State.L.l b.State.Sealed b.State.To b.Table.z b.Table.l) r := Ev.succ hr (fun q => rfl)
     by_cases c5 : lacksB a.Table.l b.Table.l = true
     ·refine ⟨true, true, Ev.succ (Ev.bind (zcfk a h1 h2) (Ev.pos c1 (Ev.bind (zcfk b h3 h4) (Ev.pos c2 (Ev.pos c3 (Ev.neg c4 (Ev.bind hr' (Ev.pos (hr2.2 c5) (Ev.ret' ?_))))))))) (fun q => rfl)⟩
      rw [if_pos (.inl c5)]; rfl
     ·simp only [if_neg (show ¬ (lacksB a.Table.l b.Table.l = true ∨ b.Index < a.Index) from fun e => e.elim c5 c4)]
      obtain ⟨q1, q2, q3, q4⟩ := beN_le a.State.L.l b.State.L.l
      have hA := zcfr a.State.L b.State.L h1
      have hB := zcfu ⟨a.State.L.z, a.State.L.l.drop (com a.State.L.l b.State.L.l)⟩ ⟨b.State.L.z, b.State.L.l.drop (com a.State.L.l b.State.L.l)⟩ (by simp only [y16]; omega) (by simp only [y16]; omega)
      unfold ahN at q1 q2 q3 q4
      have w : wrp .i64 (((b.State.L.l.length - com a.State.L.l b.State.L.l : Nat) : Int) - (((beN a.State.L.l b.State.L.l : Nat) : Int))) = ((b.State.L.l.length - com a.State.L.l b.State.L.l - beN a.State.L.l b.State.L.l : Nat) : Int) := by rw [zccm (by omega) (by omega)]; omega
      obtain ⟨zm, hC⟩ := zcf4 ⟨b.State.L.z, (b.State.L.l.drop (com a.State.L.l b.State.L.l)).take (b.State.L.l.length - com a.State.L.l b.State.L.l - beN a.State.L.l b.State.L.l)⟩ (fun h => by simp only at h ⊢; rw [hz h]; simp) (by simp only [y23, y16]; omega)
      obtain ⟨zt, hD⟩ := zcf6 b.Table.z b.Table.l a.Index a.State.Kind a.State.L.z a.State.L.l a.State.Sealed a.State.To a.Table.z a.Table.l a.Index b.Index ((ahN a.State.L.l b.State.L.l : Nat) : Int) ((beN a.State.L.l b.State.L.l : Nat) : Int) b.State.Sealed b.State.To zm ((b.State.L.l.drop (com a.State.L.l b.State.L.l)).take (b.State.L.l.length - com a.State.L.l b.State.L.l - beN a.State.L.l b.State.L.l)) true h4 h2 b.Table.l.length 0 (by omega)
      rw [y41] at hD
      refine ⟨zm, zt, Ev.succ (Ev.bind (zcfk a h1 h2) (Ev.pos c1 (Ev.bind (zcfk b h3 h4) (Ev.pos c2 (Ev.pos c3 (Ev.neg c4 (Ev.bind hr' (Ev.neg (fun e => c5 (hr2.1 e)) (Ev.bind hA (Ev.po (Ev.po (Ev.pos (by omega) ?_)))))))))))) (fun q => rfl)⟩
      simp only [y31]
      refine Ev.bind hB ?_
      show Ev (fun q => if 0 ≤ (wrp .i64 (((b.State.L.l.length - com a.State.L.l b.State.L.l : Nat) : Int) - (((beN a.State.L.l b.State.L.l : Nat) : Int)))) then (if (wrp .i64 (((b.State.L.l.length - com a.State.L.l b.State.L.l : Nat) : Int) - (((beN a.State.L.l b.State.L.l : Nat) : Int)))).toNat ≤ (b.State.L.l.length - com a.State.L.l b.State.L.l) then ((zke q ⟨b.State.L.z, (List.take ((wrp .i64 (((b.State.L.l.length - com a.State.L.l b.State.L.l : Nat) : Int) - (((beN a.State.L.l b.State.L.l : Nat) : Int)))).toNat) (List.drop (com a.State.L.l b.State.L.l) b.State.L.l))⟩).bind fun r6 => (zki q b.Table.z b.Table.l (b.Table.l.length : Int) 0 a.Index a.State.Kind a.State.L.z a.State.L.l a.State.Sealed a.State.To a.Table.z a.Table.l a.Index b.Index ((com a.State.L.l b.State.L.l : Nat) : Int) ((beN a.State.L.l b.State.L.l : Nat) : Int) b.State.Sealed b.State.To r6.n r6.xs r6.x)) else none) else none) _
      rw [w]
      simp only [y31]
      refine Ev.po (Ev.po (Ev.bind hC (Ev.cast hD ?_)))
      unfold midL
      rw [y16]
   ·refine ⟨true, true, Ev.succ (Ev.bind (zcfk a h1 h2) (Ev.pos c1 (Ev.bind (zcfk b h3 h4) (Ev.pos c2 (Ev.neg c3 (Ev.ret' ?_)))))) (fun q => rfl)⟩
    rw [if_neg (fun e => c3 e.2.2)]; rfl
  ·refine ⟨true, true, Ev.succ (Ev.bind (zcfk a h1 h2) (Ev.pos c1 (Ev.bind (zcfk b h3 h4) (Ev.neg c2 (Ev.ret' ?_))))) (fun q => rfl)⟩
   rw [if_neg (fun e => c2 e.2.1)]; rfl
 ·refine ⟨true, true, Ev.succ (Ev.bind (zcfk a h1 h2) (Ev.neg c1 (Ev.ret' ?_))) (fun q => rfl)⟩
  rw [if_neg (fun e => c1 e.1)]; rfl
theorem mayA : mayN ⟨0, ⟨3, ⟨false, [1, 2]⟩, false, 0⟩, ⟨true, []⟩⟩ = true := by
 simp [mayN, mayS, kindOk, tabB, cutsB, cutI]
theorem mayB : ∀ z z2, mayN ⟨1, ⟨3, ⟨z, [1, 2, 9]⟩, false, 0⟩, ⟨z2, []⟩⟩ = true := by
 intro z z2; simp [mayN, mayS, kindOk, tabB, cutsB, cutI]
theorem zcf8 : Ev (fun q => zk7 q) true := by
 obtain ⟨zm, zt, hD⟩ := zcf7 ⟨0, ⟨3, ⟨false, [1, 2]⟩, false, 0⟩, ⟨true, []⟩⟩ ⟨1, ⟨3, ⟨false, [1, 2, 9]⟩, false, 0⟩, ⟨true, []⟩⟩ (by simp) (by simp) (by simp) (by simp) (fun h => by cases h)
 have hR : diffR ⟨0, ⟨3, ⟨false, [1, 2]⟩, false, 0⟩, ⟨true, []⟩⟩ ⟨1, ⟨3, ⟨false, [1, 2, 9]⟩, false, 0⟩, ⟨true, []⟩⟩ zm zt = (⟨0, 1, 2, 0, ⟨zm, [9]⟩, false, 0, ⟨zt, []⟩⟩, 0) := by
  unfold diffR
  rw [if_pos ⟨mayA, mayB _ _, rfl⟩, if_neg (by simp [lacksB])]
  simp [ahN, beN, midL, com, newT]
 rw [hR] at hD
 obtain ⟨zc, hC⟩ := zcfz ⟨false, [⟨false, [1, 2]⟩, ⟨zm, [9]⟩, ⟨false, []⟩]⟩ (by simp) (by simp [flat])
 have hM := zcfk ⟨1, ⟨3, ⟨zc, [1, 2, 9]⟩, false, 0⟩, ⟨true, []⟩⟩ (by simp) (by simp)
 rw [mayB] at hM
 have w1 : wrp .i64 (2 - 2) = 0 := by rw [zccm (by omega) (by omega)]; rfl
 have w2 : wrp .i64 (2 - 0) = 2 := by rw [zccm (by omega) (by omega)]; rfl
 have hA : Ev (fun q => zk0 q ⟨0, ⟨3, ⟨false, [1, 2]⟩, false, 0⟩, ⟨true, []⟩⟩ ⟨0, 1, 2, 0, ⟨zm, [9]⟩, false, 0, ⟨zt, []⟩⟩) (⟨1, ⟨3, ⟨zc, [1, 2, 9]⟩, false, 0⟩, ⟨true, []⟩⟩, 0) := by
  have h1 := zcfk ⟨0, ⟨3, ⟨false, [1, 2]⟩, false, 0⟩, ⟨true, []⟩⟩ (by simp) (by simp)
  rw [mayA] at h1
  refine Ev.succ (g := fun q => (zj6 q ⟨0, ⟨3, ⟨false, [1, 2]⟩, false, 0⟩, ⟨true, []⟩⟩).bind fun r1 => if r1 = true then (if (wrp .i64 (2 - 2)) < 0 then some (⟨0, ⟨0, ⟨true, []⟩, false, 0⟩, ⟨true, []⟩⟩, 1) else if 0 ≤ (wrp .i64 (2 - 0)) then (if (wrp .i64 (2 - 0)) ≤ 2 then ((zko q ⟨false, [⟨false, [1, 2]⟩, ⟨zm, [9]⟩, ⟨false, List.drop ((wrp .i64 (2 - 0)).toNat) [1, 2]⟩]⟩).bind fun r2 => zkz q zt [] 0 1 3 false 0 true [] r2.n r2.xs r2.x) else none) else none) else some (⟨0, ⟨0, ⟨true, []⟩, false, 0⟩, ⟨true, []⟩⟩, 1)) ?_ (fun q => rfl)
  refine Ev.bind h1 (Ev.pos rfl ?_)
  rw [w1, w2]
  refine Ev.ne (Ev.po (Ev.po (Ev.bind hC ?_)))
  refine Ev.succ (g := fun q => (zj6 q ⟨1, ⟨3, ⟨zc, [1, 2, 9]⟩, false, 0⟩, ⟨true, []⟩⟩).bind fun r5 => if r5 = true then some (⟨1, ⟨3, ⟨zc, [1, 2, 9]⟩, false, 0⟩, ⟨true, []⟩⟩, 0) else some (⟨0, ⟨0, ⟨true, []⟩, false, 0⟩, ⟨true, []⟩⟩, 1)) ?_ (fun q => rfl)
  exact Ev.bind hM (Ev.pos rfl (Ev.ret _))
 have hE := zcf1 ⟨false, [1, 2, 9]⟩ ⟨zc, [1, 2, 9]⟩ (by simp)
 have hObj : Ev (fun q => zk3 q ⟨3, ⟨false, [1, 2, 9]⟩, false, 0⟩ ⟨3, ⟨zc, [1, 2, 9]⟩, false, 0⟩) true := Ev.succ (g := fun q => (zk2 q ⟨false, [1, 2, 9]⟩ ⟨zc, [1, 2, 9]⟩).bind fun r1 => some r1) (Ev.bind hE (Ev.ret' (by simp))) (fun q => rfl)
 have hEnt : Ev (fun q => zk5 q ⟨true, []⟩ ⟨true, []⟩) true := Ev.succ (g := fun q => zk4 q true [] true [] 0 0) (Ev.succ (g := fun _ => some true) (Ev.ret _) (fun q => rfl)) (fun q => rfl)
 have hS : Ev (fun q => zk6 q ⟨1, ⟨3, ⟨false, [1, 2, 9]⟩, false, 0⟩, ⟨true, []⟩⟩ ⟨1, ⟨3, ⟨zc, [1, 2, 9]⟩, false, 0⟩, ⟨true, []⟩⟩) true :=
  Ev.succ (g := fun q => (zk3 q ⟨3, ⟨false, [1, 2, 9]⟩, false, 0⟩ ⟨3, ⟨zc, [1, 2, 9]⟩, false, 0⟩).bind fun r1 => if r1 = true then ((zk5 q ⟨true, []⟩ ⟨true, []⟩).bind fun r2 => some r2) else some false) (Ev.bind hObj (Ev.pos rfl (Ev.bind hEnt (Ev.ret _)))) (fun q => rfl)
 refine Ev.succ (Ev.bind hD (Ev.bind hA ?_)) (fun q => rfl)
 exact Ev.pos rfl (Ev.pos rfl (Ev.pos rfl (Ev.pos rfl (Ev.pos rfl (Ev.opt rfl (Ev.pos rfl (Ev.bind hS (Ev.ret _))))))))
theorem zcf9 {e : zjq} (h : entOk e = true) : 0 ≤ e.Proc ∧ e.Proc ≤ 64 ∧ 0 ≤ e.Seq ∧ e.Seq < 4611686018427387904 ∧ -1125899906842624 ≤ e.Resp ∧ e.Resp ≤ 1125899906842624 := by
 simpa only [entOk, y9, decide_eq_true_eq] using h
theorem zcga : ∀ {t : List zjq} {last : Int}, tabB last t = true → ∀ e ∈ t, entOk e = true
 | [], last, h, e, he => by cases he
 | a :: t, last, h, e, he => by
  simp only [tabB, y9] at h
  rcases List.mem_cons.1 he with r | r
  ·rw [r]; exact h.1
  ·exact zcga h.2.2 e r
/-- A table has at most 65 entries. -/
theorem zcgb : ∀ {t : List zjq} {last : Int}, tabB last t = true → -1 ≤ last → (t.length : Int) + last ≤ 64 ∨ t = []
 | [], last, h, h1 => .inr rfl
 | a :: t, last, h, h1 => by
  simp only [tabB, y9, decide_eq_true_eq] at h
  have ha := zcf9 h.1
  rcases zcgb h.2.2 (by omega) with e | e
  ·left; rw [y24]; omega
  ·left; rw [e]; simp only [y24, y28]; omega
def numsB (l : List Int) : List Int := l.flatMap putS
theorem zcgc (x : Int) (l : List Int) : numsB (x :: l) = putS x ++ numsB l := by simp [numsB]
def inT (l : List Int) : Prop := ∀ x ∈ l, -1099511627776 ≤ x ∧ x ≤ 1099511627776
theorem inT_R {l : List Int} (h : inT l) {x : Int} (hx : x ∈ l) : inR .i64 x := by have := h x hx; exact zcc3 (by omega) (by omega)
theorem zcgd (n : Int) : isB (putS n) := zcd1 _
def entB (e : zjq) : List Int := put e.Proc ++ (put e.Seq ++ putS e.Resp)
def tabE (l : List zjq) : List Int := l.flatMap entB
theorem zcge (e : zjq) (l : List zjq) : tabE (e :: l) = entB e ++ tabE l := by simp [tabE]
def entsOk (l : List zjq) : Prop := ∀ e ∈ l, entOk e = true
theorem zcgf {e : zjq} (h : entOk e = true) : inR .i64 e.Resp := by have := zcf9 h; exact zcc3 (by omega) (by omega)
theorem zcgg {e : zjq} (h : entOk e = true) : (entB e).length ≤ 30 := by
 have h1 := zccv e.Proc; have h2 := zccv e.Seq; have h3 := zcc2 (zcgf h)
 simp only [entB, y13]; omega
theorem zcgh {e : zjq} : isB (entB e) := zcd3.2 ⟨zcd2 _, zcd3.2 ⟨zcd2 _, zcgd _⟩⟩
theorem zcgi (l : List Int) : (encF l).length = (put (l.length : Int)).length + l.length + 4 := by
 simp only [encF, fix4, y13, y24, y28]; omega
theorem zcgj (z z2 : Bool) (A B : List zjq) (hl : A.length = B.length) (hL : A.length ≤ 1099511627776) : ∀ (k i : Nat), A.length = i + k → Ev (fun q => zk4 q z A z2 B (A.length : Int) (i : Int)) (decide (A.drop i = B.drop i))
 | 0, i, hk => by
  refine Ev.succ (Ev.ne (Ev.ret' ?_)) (fun q => rfl)
  rw [y15 (by omega), y15 (by omega)]; simp
 | k + 1, i, hk => by
  have hi : i < A.length := by omega
  have hi2 : i < B.length := by omega
  have hg : A[(i : Int).toNat]? = some A[i] := by simpa using y10 hi
  have hg2 : B[(i : Int).toNat]? = some B[i] := by simpa using y10 hi2
  have no : ¬ A[i] = B[i] → false = decide (A[i] :: A.drop (i + 1) = B[i] :: B.drop (i + 1)) := fun h => by
   symm; rw [decide_eq_false_iff_not]; intro e; exact h (List.cons.inj e).1
  rw [y12 hi, y12 hi2]
  refine Ev.succ (Ev.po (Ev.po (Ev.opt hg (Ev.opt hg2 (Ev.ite (fun c1 => Ev.ite (fun c2 => Ev.ite (fun c3 => ?_) fun c3 => Ev.ret' (no fun e => c3 (by rw [e]))) fun c2 => Ev.ret' (no fun e => c2 (by rw [e]))) fun c1 => Ev.ret' (no fun e => c1 (by rw [e]))))))) (fun q => rfl)
  rw [zccm (by omega) (by omega), show ((i : Int) + 1) = ((i + 1 : Nat) : Int) by omega]
  refine (zcgj z z2 A B hl hL k (i + 1) (by omega)).cast ?_
  rw [decide_eq_decide, List.cons.injEq]; simp only [zcfl c1 c2 c3, true_and]
theorem zcgk (a b : Sl zjq) (hL : a.l.length ≤ 1099511627776) : Ev (fun q => zk5 q a b) (decide (a.l = b.l)) := by
 refine Ev.succ (Ev.ite (fun h => ?_) fun h => Ev.ret' ?_) (fun q => rfl)
 ·have := zcgj a.z b.z a.l b.l (by omega) hL a.l.length 0 (by omega)
  rw [y41, y41] at this; exact this
 ·symm; rw [decide_eq_false_iff_not]; intro e; rw [e] at h; exact h rfl
theorem zcgl (n : Int) : 1 ≤ (putS n).length := zccs _
theorem zcgm {l : List Int} (hb : isB l) (h : (getN l).2 ≠ 0) : l.take (getN l).2.toNat = put (getN l).1 := by
 unfold getN at h ⊢
 cases e : rd 0 l with
 | none => simp [e] at h
 | some p =>
  simp only [e] at h ⊢
  split
  ·rename_i h2; rw [if_pos h2] at h; simp at h
  ·rename_i h2
   have := (rd_inv hb (show rd 0 l = some (p.1, p.2) from e)).1
   simp only [y31]
   rw [this, put_ok (by omega) (by omega), y31]
theorem zcgn {l : List Int} (hb : isB l) (h : (getS l).2 ≠ 0) : l.take (getS l).2.toNat = putS (getS l).1 := by
 unfold getS at h ⊢
 cases e : rd 0 l with
 | none => simp [e] at h
 | some p =>
  have := (rd_inv hb (show rd 0 l = some (p.1, p.2) from e)).1
  simp only [y31]
  rw [this, putS, zce3]
theorem zcgo {l : List Int} (hb : isB l) (h : 0 < (getN l).2) : l = put (getN l).1 ++ l.drop (getN l).2.toNat := by
 rw [← zcgm hb (by omega), List.take_append_drop]
theorem zcgp {l : List Int} (hb : isB l) (h : 0 < (getS l).2) : l = putS (getS l).1 ++ l.drop (getS l).2.toNat := by
 rw [← zcgn hb (by omega), List.take_append_drop]
theorem zcgq (z : Bool) {l : List Int} (hb : isB l) : Ev (fun q => zlj q ⟨z, l⟩) (getN l) := zcd8 ⟨z, l⟩ hb
theorem zcgr (z : Bool) {l : List Int} (hb : isB l) : Ev (fun q => zlz q ⟨z, l⟩) (getS l) := zce6 ⟨z, l⟩ hb
def idxOk (n : Int) : Bool := decide (0 ≤ n) && decide (n < 4611686018427387904)
theorem zcgs {n : Int} (h : idxOk n = true) : 0 ≤ n ∧ n < 4611686018427387904 := by simpa only [idxOk, y9, decide_eq_true_eq] using h
theorem zcgt (n : Int) : Ev (fun q => zm2 q n) (!(idxOk n)) := by
 unfold idxOk
 refine Ev.succ (Ev.ite (fun c => Ev.ret' ?_) fun c => Ev.ret' ?_) (fun q => rfl)
 ·rw [decide_eq_false (show ¬ 0 ≤ n by omega)]; rfl
 ·rw [decide_eq_true (show 0 ≤ n by omega)]
  by_cases h : n < 4611686018427387904
  ·rw [decide_eq_true h, decide_eq_false (by omega)]; rfl
  ·rw [decide_eq_false h, decide_eq_true (by omega)]; rfl
theorem zcgu (z : Bool) (L : List Int) (hL : L.length ≤ 1000000) : ∀ (k i : Nat), L.length = i + k →
  ∃ r, Ev (fun q => zm3 q z L (L.length : Int) (i : Int)) r ∧ ((L.drop i).all idxOk = !(decide (0 ≤ r)))
 | 0, i, hk => by
  refine ⟨-1, Ev.succ (Ev.ne (Ev.ret _)) (fun q => rfl), ?_⟩
  rw [y15 (by omega)]; rfl
 | k + 1, i, hk => by
  have hi : i < L.length := by omega
  have he : L[((i : Int)).toNat]? = some L[i] := by simp [hi]
  rw [y12 hi, List.all_cons]
  by_cases h : idxOk L[i] = true
  ·obtain ⟨r, hr, h2⟩ := zcgu z L hL k (i + 1) (by omega)
   rw [show ((i + 1 : Nat) : Int) = wrp .i64 ((i : Int) + 1) by rw [zccm (by omega) (by omega)]; omega] at hr
   refine ⟨r, Ev.succ (Ev.po (Ev.po (Ev.opt he (Ev.bind (zcgt _) (Ev.neg (by rw [h]; simp) hr))))) (fun q => rfl), ?_⟩
   rw [h, h2]; rfl
  ·refine ⟨i, Ev.succ (Ev.po (Ev.po (Ev.opt he (Ev.bind (zcgt _) (Ev.pos (by simp only [Bool.not_eq_true] at h; rw [h]; rfl) (Ev.ret _)))))) (fun q => rfl), ?_⟩
   simp only [Bool.not_eq_true] at h
   rw [h, decide_eq_true (by omega)]; rfl
theorem zcgv (s : Sl Int) (hL : s.l.length ≤ 1000000) : Ev (fun q => zm5 q s) (s.l.all idxOk) := by
 obtain ⟨r, h1, h2⟩ := zcgu s.z s.l hL s.l.length 0 (by omega)
 rw [y41] at h2
 rw [h2]
 exact Ev.succ (Ev.bind (Ev.succ h1 (fun q => rfl)) (Ev.ret _)) (fun q => rfl)
def midOk (n : Int) : Bool := decide (-1099511627776 ≤ n) && decide (n ≤ 1099511627776)
theorem zcgw {l : List Int} (h : l.all midOk = true) : inT l := fun x hx => by
 have := List.all_eq_true.1 h x hx
 simpa only [midOk, y9, decide_eq_true_eq] using this
theorem zcgx (n : Int) : Ev (fun q => zm6 q n) (!(midOk n)) := by
 unfold midOk
 refine Ev.succ (Ev.ite (fun c => Ev.ret' ?_) fun c => Ev.ret' ?_) (fun q => rfl)
 ·rw [decide_eq_false (show ¬ -1099511627776 ≤ n by omega)]; rfl
 ·rw [decide_eq_true (show -1099511627776 ≤ n by omega)]
  by_cases h : n ≤ 1099511627776
  ·rw [decide_eq_true h, decide_eq_false (by omega)]; rfl
  ·rw [decide_eq_false h, decide_eq_true (by omega)]; rfl
theorem zcgy (z : Bool) (L : List Int) (h0 h1 h2 h3 : Int) (h4z : Bool) (h4l : List Int) (h5 : Bool) (h6 : Int) (h7z : Bool) (h7l : List zjq) (h1l : List Int) (hL : L.length ≤ 1000000) : ∀ (k i : Nat), L.length = i + k →
  ∃ r, Ev (fun q => zm9 q z L (L.length : Int) (i : Int) h0 h1 h2 h3 h4z h4l h5 h6 h7z h7l h1l) r ∧ ((L.drop i).all midOk = !(decide (0 ≤ r)))
 | 0, i, hk => by
  refine ⟨-1, Ev.succ (Ev.ne (Ev.ret _)) (fun q => rfl), ?_⟩
  rw [y15 (by omega)]; rfl
 | k + 1, i, hk => by
  have hi : i < L.length := by omega
  have he : L[((i : Int)).toNat]? = some L[i] := by simp [hi]
  rw [y12 hi, List.all_cons]
  by_cases h : midOk L[i] = true
  ·obtain ⟨r, hr, hr2⟩ := zcgy z L h0 h1 h2 h3 h4z h4l h5 h6 h7z h7l h1l hL k (i + 1) (by omega)
   rw [show ((i + 1 : Nat) : Int) = wrp .i64 ((i : Int) + 1) by rw [zccm (by omega) (by omega)]; omega] at hr
   refine ⟨r, Ev.succ (Ev.po (Ev.po (Ev.opt he (Ev.bind (zcgx _) (Ev.neg (by rw [h]; simp) hr))))) (fun q => rfl), ?_⟩
   rw [h, hr2]; rfl
  ·refine ⟨i, Ev.succ (Ev.po (Ev.po (Ev.opt he (Ev.bind (zcgx _) (Ev.pos (by simp only [Bool.not_eq_true] at h; rw [h]; rfl) (Ev.ret _)))))) (fun q => rfl), ?_⟩
   simp only [Bool.not_eq_true] at h
   rw [h, decide_eq_true (by omega)]; rfl
theorem zcgz (z z2 : Bool) (L : List zjq) (hL : L.length ≤ 1000000) : ∀ (k i : Nat) (last : Int), L.length = i + k → (∀ e, 0 < i → L[i - 1]? = some e → e.Proc = last) → (i = 0 → last = -1) →
  Ev (fun q => zm7 q z L z2 L (L.length : Int) (i : Int)) (tabB last (L.drop i))
 | 0, i, last, hk, h1, h0 => by
  refine Ev.succ (Ev.ne (Ev.ret' ?_)) (fun q => rfl)
  rw [y15 (by omega)]; rfl
 | k + 1, i, last, hk, h1, h0 => by
  have hi : i < L.length := by omega
  have he : L[((i : Int)).toNat]? = some L[i] := by simp [hi]
  rw [y12 hi]
  simp only [tabB]
  have w1 : wrp .i64 ((i : Int) + 1) = ((i + 1 : Nat) : Int) := by rw [zccm (by omega) (by omega)]; omega
  have ih := zcgz z z2 L hL k (i + 1) L[i].Proc (by omega) (fun e _ hx => by
   rw [Nat.add_sub_cancel, y10 hi] at hx
   simp only [y7] at hx; rw [hx]) (by omega)
  have hx := zcgv ⟨false, [L[i].Proc, L[i].Seq]⟩ (by simp)
  have hxe : ([L[i].Proc, L[i].Seq].all idxOk = true) ↔ (0 ≤ L[i].Proc ∧ L[i].Proc < 4611686018427387904 ∧ 0 ≤ L[i].Seq ∧ L[i].Seq < 4611686018427387904) := by
   simp only [List.all_cons, List.all_nil, idxOk, y9, decide_eq_true_eq, and_true, and_assoc]
  have eok : entOk L[i] = true ↔ (0 ≤ L[i].Proc ∧ L[i].Proc ≤ 64 ∧ 0 ≤ L[i].Seq ∧ L[i].Seq < 4611686018427387904 ∧ -1125899906842624 ≤ L[i].Resp ∧ L[i].Resp ≤ 1125899906842624) := ⟨zcf9, fun h => by simpa only [entOk, y9, decide_eq_true_eq] using h⟩
  have no : ¬ entOk L[i] = true → false = (entOk L[i] && (decide (last < L[i].Proc) && tabB L[i].Proc (L.drop (i + 1)))) := fun h => by
   simp only [Bool.not_eq_true] at h; rw [h]; rfl
  refine Ev.succ (Ev.po (Ev.po (Ev.opt he (Ev.bind hx (Ev.ite (fun c1 => Ev.ite (fun c2 => Ev.ret' ?_) fun c2 => Ev.ite (fun c3 => Ev.ret' ?_) fun c3 => Ev.ite (fun c4 => Ev.ret' ?_) fun c4 => Ev.ite (fun c5 => ?_) fun c5 => ?_) fun c1 => Ev.ret' ?_))))) (fun q => rfl)
  ·exact no (fun h => by have := eok.1 h; omega)
  ·exact no (fun h => by have := eok.1 h; omega)
  ·exact no (fun h => by have := eok.1 h; omega)
  ·have c := hxe.1 c1
   have hk1 : entOk L[i] = true := eok.2 (by omega)
   have w3 : wrp .i64 ((i : Int) - 1) = ((i - 1 : Nat) : Int) := by rw [zccm (by omega) (by omega)]; omega
   have he3 : L[(wrp .i64 ((i : Int) - 1)).toNat]? = some L[i - 1] := by rw [w3, y31]; exact y10 (by omega)
   have hq := h1 L[i - 1] (by omega) (y10 (by omega))
   refine Ev.pos (by rw [w3]; omega) (Ev.opt he3 (Ev.ite (fun c6 => Ev.ret' ?_) fun c6 => ?_))
   ·rw [hk1, decide_eq_false (show ¬ last < L[i].Proc by omega)]; rfl
   ·rw [hk1, decide_eq_true (show last < L[i].Proc by omega), w1]; simpa using ih
  ·have c := hxe.1 c1
   have hk1 : entOk L[i] = true := eok.2 (by omega)
   have := h0 (by omega)
   rw [hk1, decide_eq_true (show last < L[i].Proc by omega), w1]; simpa using ih
  ·exact no (fun h => c1 (hxe.2 (by have := eok.1 h; omega)))
theorem zcg0 (s : Sl zjq) (hL : s.l.length ≤ 1000000) : Ev (fun q => zm8 q s) (tabB (-1) s.l) :=
 Ev.succ (zcgz s.z s.z s.l hL s.l.length 0 (-1) (by omega) (fun e h => by omega) (fun _ => rfl)) (fun q => rfl)
def mayL (d : zjs) : Bool := [d.From, d.To, d.Ahead, d.Behind].all idxOk && (decide (d.Mid.l.length ≤ 128) && (d.Mid.l.all midOk && (decide (0 ≤ d.Engine) && (decide (d.Engine < 3) && ((d.Sealed || decide (d.Engine = 0)) && tabB (-1) d.Table.l)))))
theorem zcg1 (d : zjs) (h1 : d.Mid.l.length ≤ 1000000) (h2 : d.Table.l.length ≤ 1000000) : Ev (fun q => znb q d) (mayL d) := by
 have hx := zcgv ⟨false, [d.From, d.To, d.Ahead, d.Behind]⟩ (by simp)
 obtain ⟨r, hr, hr2⟩ := zcgy d.Mid.z d.Mid.l d.From d.To d.Ahead d.Behind d.Mid.z d.Mid.l d.Sealed d.Engine d.Table.z d.Table.l [d.From, d.To, d.Ahead, d.Behind] h1 d.Mid.l.length 0 (by omega)
 rw [y41] at hr2
 have hr : Ev (fun q => zna q d.Mid.z d.Mid.l d.From d.To d.Ahead d.Behind d.Mid.z d.Mid.l d.Sealed d.Engine d.Table.z d.Table.l [d.From, d.To, d.Ahead, d.Behind]) r := Ev.succ hr (fun q => rfl)
 unfold mayL
 rw [hr2]
 refine Ev.succ (Ev.bind hx (Ev.ite (fun c1 => Ev.ite (fun c2 => Ev.bind hr (Ev.ite (fun c3 => Ev.ret' ?_) fun c3 => Ev.ite (fun c4 => Ev.ite (fun c5 => Ev.ite (fun c6 => Ev.bind (zcg0 _ h2) (Ev.ret' ?_)) fun c6 => Ev.ite (fun c7 => Ev.bind (zcg0 _ h2) (Ev.ret' ?_)) fun c7 => Ev.ret' ?_) fun c5 => Ev.ret' ?_) fun c4 => Ev.ret' ?_)) fun c2 => Ev.ret' ?_) fun c1 => Ev.ret' ?_)) (fun q => rfl)
 ·rw [decide_eq_true c3]; simp
 ·simp only at c1; rw [c1, decide_eq_true (show d.Mid.l.length ≤ 128 by omega), decide_eq_false c3, decide_eq_true c4, decide_eq_true c5, c6]; simp
 ·simp only at c1; rw [c1, decide_eq_true (show d.Mid.l.length ≤ 128 by omega), decide_eq_false c3, decide_eq_true c4, decide_eq_true c5, decide_eq_true c7]; simp
 ·simp only [Bool.not_eq_true] at c6; rw [c6, decide_eq_false c7]; simp
 ·rw [decide_eq_false c5]; simp
 ·rw [decide_eq_false c4]; simp
 ·rw [decide_eq_false (show ¬ d.Mid.l.length ≤ 128 by omega)]; simp
 ·simp only [Bool.not_eq_true] at c1; rw [c1]; rfl
theorem zcg2 (n : Int) : Ev (fun q => znv q n) (idxOk n) := by
 unfold idxOk
 refine Ev.succ (Ev.ite (fun c => Ev.ret' ?_) fun c => Ev.ret' ?_) (fun q => rfl)
 ·rw [decide_eq_true c]; rfl
 ·rw [decide_eq_false c]; rfl
theorem zcg3 (h0 h1 h2 h3 : Int) (z : Bool) (L : List Int) (h5 : Bool) (h6 : Int) (h7z : Bool) (h7l : List zjq) (hL : L.length ≤ 1000000) : ∀ (k i : Nat), L.length = i + k →
  Ev (fun q => znw q (i : Int) h0 h1 h2 h3 z L h5 h6 h7z h7l) ((L.drop i).all midOk)
 | 0, i, hk => by
  refine Ev.succ (Ev.ne (Ev.ret' ?_)) (fun q => rfl)
  rw [y15 (by omega)]; rfl
 | k + 1, i, hk => by
  have hi : i < L.length := by omega
  have he : L[((i : Int)).toNat]? = some L[i] := by simp [hi]
  have ih := zcg3 h0 h1 h2 h3 z L h5 h6 h7z h7l hL k (i + 1) (by omega)
  rw [show ((i + 1 : Nat) : Int) = wrp .i64 ((i : Int) + 1) by rw [zccm (by omega) (by omega)]; omega] at ih
  rw [y12 hi, List.all_cons]
  unfold midOk at ih ⊢
  refine Ev.succ (Ev.po (Ev.po (Ev.opt he (Ev.ite (fun c1 => Ev.ret' ?_) fun c1 => Ev.ite (fun c2 => Ev.ret' ?_) fun c2 => Ev.cast ih ?_)))) (fun q => rfl)
  ·rw [decide_eq_false (show ¬ -1099511627776 ≤ L[i] by omega)]; rfl
  ·rw [decide_eq_false (show ¬ L[i] ≤ 1099511627776 by omega)]; simp
  ·rw [decide_eq_true (show -1099511627776 ≤ L[i] by omega), decide_eq_true (show L[i] ≤ 1099511627776 by omega)]; simp
theorem zcg4 (d : zjs) (h1 : d.Mid.l.length ≤ 1000000) (h2 : d.Table.l.length ≤ 1000000) : Ev (fun q => znx q d) (mayL d) := by
 have hm := zcg3 d.From d.To d.Ahead d.Behind d.Mid.z d.Mid.l d.Sealed d.Engine d.Table.z d.Table.l h1 d.Mid.l.length 0 (by omega)
 rw [y41] at hm
 unfold mayL
 simp only [List.all_cons, List.all_nil, Bool.and_true]
 refine Ev.succ (Ev.bind (zcg2 _) (Ev.bind (zcg2 _) (Ev.bind (zcg2 _) (Ev.bind (zcg2 _) (Ev.bind (zcfj _ h2) (Ev.ite (fun a1 => Ev.ite (fun a2 => Ev.ite (fun a3 => Ev.ite (fun a4 => Ev.ite (fun a5 => Ev.ite (fun c1 => Ev.ret' ?_) fun c1 => Ev.ite (fun c2 => Ev.ret' ?_) fun c2 => Ev.ite (fun c3 => Ev.ret' ?_) fun c3 => Ev.ite (fun c4 => Ev.cast hm ?_) fun c4 => Ev.ite (fun c5 => Ev.cast hm ?_) fun c5 => Ev.ret' ?_) fun a5 => Ev.ret' ?_) fun a4 => Ev.ret' ?_) fun a3 => Ev.ret' ?_) fun a2 => Ev.ret' ?_) fun a1 => Ev.ret' ?_)))))) (fun q => rfl)
 ·rw [decide_eq_false (show ¬ d.Mid.l.length ≤ 128 by omega)]; simp
 ·rw [decide_eq_false (show ¬ 0 ≤ d.Engine by omega)]; simp
 ·rw [decide_eq_false (show ¬ d.Engine < 3 by omega)]; simp
 ·rw [a1, a2, a3, a4, a5, decide_eq_true (show d.Mid.l.length ≤ 128 by omega), decide_eq_true (show 0 ≤ d.Engine by omega), decide_eq_true (show d.Engine < 3 by omega), c4]; simp
 ·rw [a1, a2, a3, a4, a5, decide_eq_true (show d.Mid.l.length ≤ 128 by omega), decide_eq_true (show 0 ≤ d.Engine by omega), decide_eq_true (show d.Engine < 3 by omega), decide_eq_true c5]; simp
 ·simp only [Bool.not_eq_true] at c4; rw [c4, decide_eq_false c5]; simp
 ·simp only [Bool.not_eq_true] at a5; rw [a5]; simp
 ·simp only [Bool.not_eq_true] at a4; rw [a4]; simp
 ·simp only [Bool.not_eq_true] at a3; rw [a3]; simp
 ·simp only [Bool.not_eq_true] at a2; rw [a2]; simp
 ·simp only [Bool.not_eq_true] at a1; rw [a1]; simp
theorem zcg5 {d : zjs} (h : mayL d = true) : (0 ≤ d.From ∧ d.From < 4611686018427387904) ∧ (0 ≤ d.To ∧ d.To < 4611686018427387904) ∧ (0 ≤ d.Ahead ∧ d.Ahead < 4611686018427387904) ∧ (0 ≤ d.Behind ∧ d.Behind < 4611686018427387904) ∧ d.Mid.l.length ≤ 128 ∧ inT d.Mid.l ∧ 0 ≤ d.Engine ∧ d.Engine < 3 ∧ (d.Sealed = true ∨ d.Engine = 0) ∧ tabB (-1) d.Table.l = true := by
 simp only [mayL, List.all_cons, List.all_nil, Bool.and_true, y9, decide_eq_true_eq, y44] at h
 obtain ⟨⟨a, b, c, d1⟩, e, f, g, i, j, k⟩ := h
 exact ⟨zcgs a, zcgs b, zcgs c, zcgs d1, e, zcgw f, g, i, j, k⟩
def putsB (l : List Int) : List Int := l.flatMap put
theorem zcg6 (x : Int) (l : List Int) : putsB (x :: l) = put x ++ putsB l := by simp [putsB]
theorem zcg7 : ∀ l : List Int, (putsB l).length ≤ 10 * l.length
 | [] => by simp [putsB]
 | x :: l => by have := zcg7 l; have := zccv x; rw [zcg6, y13, y24]; omega
theorem zcg8 : ∀ {l : List Int}, isB (putsB l)
 | [] => fun c hc => by simp [putsB] at hc
 | x :: l => by rw [zcg6]; exact zcd3.2 ⟨zcd2 _, zcg8⟩
theorem zcg9 (z : Bool) (L : List Int) (hL : L.length ≤ 100) (ho : L.all idxOk = true) : ∀ (k i : Nat) (l : List Int) (x : Bool), L.length = i + k → l.length ≤ 1000000 + 10 * i →
  Ev (fun q => zng q z L (L.length : Int) (i : Int) false l x) ⟨false, x, l ++ putsB (L.drop i)⟩
 | 0, i, l, x, hk, hl => by
  refine Ev.succ (Ev.ne (Ev.ret' ?_)) (fun q => rfl)
  rw [y15 (by omega)]; simp [putsB]
 | k + 1, i, l, x, hk, hl => by
  have hi : i < L.length := by omega
  have he : L[((i : Int)).toNat]? = some L[i] := by simp [hi]
  have hr := zcgs (List.all_eq_true.1 ho L[i] (y29 hi))
  have hp := zccv L[i]
  have ih := zcg9 z L hL ho k (i + 1) (l ++ put L[i]) x (by omega) (by rw [y13]; omega)
  rw [show ((i + 1 : Nat) : Int) = wrp .i64 ((i : Int) + 1) by rw [zccm (by omega) (by omega)]; omega] at ih
  refine Ev.succ (Ev.po (Ev.po (Ev.opt he (Ev.bind (zccw ⟨false, x, l⟩ hr.1 hr.2 (by simp only; omega)) (Ev.cast ih ?_))))) (fun q => rfl)
  rw [y12 hi, zcg6, y36]
theorem zcha (b : Ow Int) (s : Sl Int) (h0 : s.l.length ≠ 0) (hL : s.l.length ≤ 100) (ho : s.l.all idxOk = true) (hl : b.xs.length ≤ 1000000) : Ev (fun q => zni q b s) ⟨false, b.x, b.xs ++ putsB s.l⟩ := by
 obtain ⟨a, ha⟩ : ∃ a, s.l[0]? = some a := ⟨s.l[0]'(by omega), y10 (by omega)⟩
 have hm : a ∈ s.l := y58 ha
 have hr := zcgs (List.all_eq_true.1 ho a hm)
 have hp := zccv a
 have ih := zcg9 s.z s.l hL ho (s.l.length - 1) 1 (b.xs ++ put a) b.x (by omega) (by rw [y13]; omega)
 rw [show ((1 : Nat) : Int) = wrp .i64 1 by rw [zccm (by omega) (by omega)]; rfl] at ih
 have h0 : Ev (fun q => znh q s.z s.l (s.l.length : Int) b.n b.xs b.x) ⟨false, b.x, b.xs ++ putsB s.l⟩ := by
  refine Ev.succ (Ev.po (Ev.opt ha (Ev.bind (zccw ⟨b.n, b.x, b.xs⟩ hr.1 hr.2 (by simp only; omega)) (Ev.cast ih ?_)))) (fun q => rfl)
  have : s.l = a :: s.l.drop 1 := by
   cases hs : s.l with
   | nil => rw [hs] at ha; cases ha
   | cons c t => rw [hs] at ha; simp only [y40, y7] at ha; rw [ha]; rfl
  rw [show putsB s.l = put a ++ putsB (s.l.drop 1) by rw [← zcg6, ← this], y36]
 exact Ev.succ h0 (fun q => rfl)
def sealL (d : zjs) : Int := if d.Sealed = true then 1 + d.Engine else 0
/-- The data of a delta's frame. -/
def delD (d : zjs) : List Int := ((putsB [d.From, d.To, d.Ahead, d.Behind, (d.Mid.l.length : Int)] ++ numsB d.Mid.l) ++ putsB [sealL d, (d.Table.l.length : Int)]) ++ tabE d.Table.l
theorem zchb (z : Bool) (L : List zjq) (hL : L.length ≤ 1000) (hT : entsOk L) : ∀ (k i : Nat) (l : List Int), L.length = i + k → l.length ≤ 10000 + 30 * i → isB l →
  ∃ z', Ev (fun q => znr q z L (L.length : Int) (i : Int) false l true) (⟨z', true, encF (l ++ tabE (L.drop i))⟩, 0)
 | 0, i, l, hk, hl, hb => by
  obtain ⟨z', hF⟩ := zcd4 ⟨false, l⟩ hb (by simp only; omega)
  refine ⟨z', Ev.succ (Ev.ne (Ev.bind hF (Ev.ret' ?_))) (fun q => rfl)⟩
  rw [y15 (by omega)]; simp [tabE]
 | k + 1, i, l, hk, hl, hb => by
  have hi : i < L.length := by omega
  have he : L[((i : Int)).toNat]? = some L[i] := by simp [hi]
  have hr := hT L[i] (y29 hi)
  have ho := zcf9 hr
  have hE : l ++ putsB [L[i].Proc, L[i].Seq] ++ putS L[i].Resp = l ++ entB L[i] := by simp [putsB, entB]
  have hp := zcg7 [L[i].Proc, L[i].Seq]; have p3 := zcc2 (zcgf hr); have p4 := zcgg hr
  obtain ⟨z', ih⟩ := zchb z L hL hT k (i + 1) (l ++ entB L[i]) (by omega) (by rw [y13]; omega) (zcd3.2 ⟨hb, zcgh⟩)
  rw [show ((i + 1 : Nat) : Int) = wrp .i64 ((i : Int) + 1) by rw [zccm (by omega) (by omega)]; omega] at ih
  refine ⟨z', Ev.succ (Ev.po (Ev.po (Ev.opt he (Ev.bind (zcha ⟨false, true, l⟩ ⟨false, [L[i].Proc, L[i].Seq]⟩ (by simp) (by simp) ?_ (by simp only; omega)) (Ev.bind (zcc0 _ (zcgf hr) (by simp only [y13, y24, y28] at hp ⊢; omega)) (Ev.cast (by rw [← hE] at ih; exact ih) ?_)))))) (fun q => rfl)⟩
  ·simp only [List.all_cons, List.all_nil, idxOk, y9, decide_eq_true_eq, and_true]; omega
  ·rw [y12 hi, zcge, hE, y36]
theorem zchc {d : zjs} (h : mayL d = true) : d.Mid.l.length ≤ 128 ∧ d.Table.l.length ≤ 65 ∧ 0 ≤ sealL d ∧ sealL d ≤ 3 := by
 have ho := zcg5 h
 have h3 := zcgb ho.2.2.2.2.2.2.2.2.2 (by omega)
 refine ⟨ho.2.2.2.2.1, ?_, ?_⟩
 ·rcases h3 with e | e
  ·omega
  ·rw [e]; simp
 ·unfold sealL; split <;> omega
theorem zchd {d : zjs} (hm : mayL d = true) : ∀ (k i : Nat) (l : List Int), d.Mid.l.length = i + k → l.length ≤ 1000 + 10 * i → isB l →
  ∃ z', Ev (fun q => zns q d.Mid.z d.Mid.l (d.Mid.l.length : Int) (i : Int) d.From d.To d.Ahead d.Behind d.Mid.z d.Mid.l d.Sealed d.Engine d.Table.z d.Table.l false l true) (⟨z', true, encF (((l ++ numsB (d.Mid.l.drop i)) ++ putsB [sealL d, (d.Table.l.length : Int)]) ++ tabE d.Table.l)⟩, 0)
 | 0, i, l, hk, hl, hb => by
  have ho := zcg5 hm
  have hn := zchc hm
  rw [y15 (by omega)]
  have hp := zcg7 [sealL d, (d.Table.l.length : Int)]
  simp only [y24, y28] at hp
  obtain ⟨z', h1⟩ := zchb d.Table.z d.Table.l (by omega) (zcga ho.2.2.2.2.2.2.2.2.2) d.Table.l.length 0 (l ++ putsB [sealL d, (d.Table.l.length : Int)]) (by omega) (by rw [y13]; omega) (zcd3.2 ⟨hb, zcg8⟩)
  rw [y41] at h1
  have hP := zcha ⟨false, true, l⟩ ⟨false, [sealL d, (d.Table.l.length : Int)]⟩ (by simp) (by simp) (by simp only [List.all_cons, List.all_nil, idxOk, y9, decide_eq_true_eq, and_true]; omega) (by simp only; omega)
  have e0 : numsB [] = [] := rfl
  rw [e0, List.append_nil]
  refine ⟨z', Ev.succ (Ev.ne (Ev.ite (fun c => ?_) fun c => ?_)) (fun q => rfl)⟩
  ·have e : wrp .i64 (1 + d.Engine) = sealL d := by unfold sealL; rw [if_pos c, zccm (by omega) (by omega)]
   rw [e]
   exact Ev.bind hP h1
  ·have e : sealL d = 0 := by unfold sealL; rw [if_neg c]
   have := Ev.bind (k := fun q r6 => (znr q d.Table.z d.Table.l (d.Table.l.length : Int) 0 r6.n r6.xs r6.x)) hP h1
   rw [e] at this ⊢
   exact this
 | k + 1, i, l, hk, hl, hb => by
  have ho := zcg5 hm
  have hn := zchc hm
  have hi : i < d.Mid.l.length := by omega
  have he : d.Mid.l[((i : Int)).toNat]? = some d.Mid.l[i] := by simp [hi]
  have hr := inT_R ho.2.2.2.2.2.1 (y29 hi)
  have hp := zcc2 hr
  obtain ⟨z', ih⟩ := zchd hm k (i + 1) (l ++ putS d.Mid.l[i]) (by omega) (by rw [y13]; omega) (zcd3.2 ⟨hb, zcgd _⟩)
  rw [show ((i + 1 : Nat) : Int) = wrp .i64 ((i : Int) + 1) by rw [zccm (by omega) (by omega)]; omega] at ih
  refine ⟨z', Ev.succ (Ev.po (Ev.po (Ev.opt he (Ev.bind (zcc0 ⟨false, true, l⟩ hr (by simp only; omega)) (Ev.cast ih ?_))))) (fun q => rfl)⟩
  rw [y12 hi, zcgc, y36 l]
theorem zche (d : zjs) (h1 : d.Mid.l.length ≤ 1000000) (h2 : d.Table.l.length ≤ 1000000) : ∃ z, Ev (fun q => znt q d) (if mayL d = true then (⟨z, true, encF (delD d)⟩, 0) else (⟨true, true, []⟩, 1)) := by
 by_cases h : mayL d = true
 ·have ho := zcg5 h
  have hn := zchc h
  have hp := zcg7 [d.From, d.To, d.Ahead, d.Behind, (d.Mid.l.length : Int)]
  simp only [y24, y28] at hp
  have hP := zcha ⟨true, true, []⟩ ⟨false, [d.From, d.To, d.Ahead, d.Behind, (d.Mid.l.length : Int)]⟩ (by simp) (by simp) (by simp only [List.all_cons, List.all_nil, idxOk, y9, decide_eq_true_eq, and_true]; omega) (by simp)
  obtain ⟨z, hE⟩ := zchd h d.Mid.l.length 0 (putsB [d.From, d.To, d.Ahead, d.Behind, (d.Mid.l.length : Int)]) (by omega) (by omega) zcg8
  rw [y41] at hE
  refine ⟨z, ?_⟩
  rw [if_pos h]
  exact Ev.succ (Ev.bind (zcg1 d h1 h2) (Ev.pos h (Ev.bind hP hE))) (fun q => rfl)
 ·refine ⟨true, ?_⟩
  rw [if_neg h]
  exact Ev.succ (Ev.bind (zcg1 d h1 h2) (Ev.neg h (Ev.ret _))) (fun q => rfl)
theorem zchf (h0 h1 h2 h3 : Int) (h4z : Bool) (h4l : List Int) (h5 : Bool) (h6 : Int) (z : Bool) (L : List zjq) (hL : L.length ≤ 1000) (hT : entsOk L) : ∀ (k i : Nat) (l : List Int), L.length = i + k → l.length ≤ 10000 + 30 * i → isB l →
  ∃ z', Ev (fun q => zob q (i : Int) h0 h1 h2 h3 h4z h4l h5 h6 z L false l true) (⟨z', true, encF (l ++ tabE (L.drop i))⟩, 0)
 | 0, i, l, hk, hl, hb => by
  obtain ⟨z', hF⟩ := zces ⟨false, l⟩ hb (by simp only; omega)
  refine ⟨z', Ev.succ (Ev.ne (Ev.bind hF (Ev.ret' ?_))) (fun q => rfl)⟩
  rw [y15 (by omega)]; simp [tabE]
 | k + 1, i, l, hk, hl, hb => by
  have hi : i < L.length := by omega
  have he : L[((i : Int)).toNat]? = some L[i] := by simp [hi]
  have hr := hT L[i] (y29 hi)
  have ho := zcf9 hr
  have hE : ((l ++ put L[i].Proc) ++ put L[i].Seq) ++ putS L[i].Resp = l ++ entB L[i] := by simp [entB]
  have p1 := zccv L[i].Proc; have p2 := zccv L[i].Seq; have p3 := zcc2 (zcgf hr); have p4 := zcgg hr
  obtain ⟨z', ih⟩ := zchf h0 h1 h2 h3 h4z h4l h5 h6 z L hL hT k (i + 1) (l ++ entB L[i]) (by omega) (by rw [y13]; omega) (zcd3.2 ⟨hb, zcgh⟩)
  rw [show ((i + 1 : Nat) : Int) = wrp .i64 ((i : Int) + 1) by rw [zccm (by omega) (by omega)]; omega] at ih
  refine ⟨z', Ev.succ (Ev.po (Ev.po (Ev.opt he (Ev.bind (zcc6 ⟨false, l⟩ (by omega) (by omega) (by simp only; omega)) (Ev.bind (zcc6 ⟨false, l ++ put L[i].Proc⟩ (by omega) (by omega) (by simp only [y13]; omega)) (Ev.bind (zcc8 ⟨false, (l ++ put L[i].Proc) ++ put L[i].Seq⟩ (zcgf hr) (by simp only [y13]; omega)) (Ev.cast (by rw [← hE] at ih; exact ih) ?_))))))) (fun q => rfl)⟩
  rw [y12 hi, zcge, hE, y36]
theorem zchg {d : zjs} (hm : mayL d = true) : ∀ (k i : Nat) (l : List Int), d.Mid.l.length = i + k → l.length ≤ 1000 + 10 * i → isB l →
  ∃ z', Ev (fun q => zoc q (i : Int) d.From d.To d.Ahead d.Behind d.Mid.z d.Mid.l d.Sealed d.Engine d.Table.z d.Table.l false l true) (⟨z', true, encF (((l ++ numsB (d.Mid.l.drop i)) ++ putsB [sealL d, (d.Table.l.length : Int)]) ++ tabE d.Table.l)⟩, 0)
 | 0, i, l, hk, hl, hb => by
  have ho := zcg5 hm
  have hn := zchc hm
  rw [y15 (by omega)]
  have q1 := zccv (sealL d); have q2 := zccv (d.Table.l.length : Int)
  have ep : putsB [sealL d, (d.Table.l.length : Int)] = put (sealL d) ++ put (d.Table.l.length : Int) := by simp [putsB]
  obtain ⟨z', h1⟩ := zchf d.From d.To d.Ahead d.Behind d.Mid.z d.Mid.l d.Sealed d.Engine d.Table.z d.Table.l (by omega) (zcga ho.2.2.2.2.2.2.2.2.2) d.Table.l.length 0 ((l ++ put (sealL d)) ++ put (d.Table.l.length : Int)) (by omega) (by simp only [y13]; omega) (zcd3.2 ⟨zcd3.2 ⟨hb, zcd2 _⟩, zcd2 _⟩)
  rw [y41] at h1
  have e0 : numsB [] = [] := rfl
  rw [e0, List.append_nil, ep]
  rw [show l ++ (put (sealL d) ++ put (d.Table.l.length : Int)) = (l ++ put (sealL d)) ++ put (d.Table.l.length : Int) by rw [y36]]
  refine ⟨z', Ev.succ (Ev.ne (Ev.ite (fun c => ?_) fun c => ?_)) (fun q => rfl)⟩
  ·have e : wrp .i64 (d.Engine + 1) = sealL d := by unfold sealL; rw [if_pos c, zccm (by omega) (by omega)]; omega
   rw [e]
   exact Ev.bind (zcc6 ⟨false, l⟩ (by omega) (by omega) (by simp only; omega)) (Ev.bind (zcc6 ⟨false, l ++ put (sealL d)⟩ (by omega) (by omega) (by simp only [y13]; omega)) h1)
  ·have e : sealL d = 0 := by unfold sealL; rw [if_neg c]
   have := Ev.bind (k := fun q r11 => ((zn0 q ⟨r11.n, r11.xs⟩ (d.Table.l.length : Int)).bind fun r12 => (zob q 0 d.From d.To d.Ahead d.Behind d.Mid.z d.Mid.l d.Sealed d.Engine d.Table.z d.Table.l r12.n r12.xs r12.x))) (zcc6 (n := sealL d) ⟨false, l⟩ (by omega) (by omega) (by simp only; omega)) (Ev.bind (zcc6 ⟨false, l ++ put (sealL d)⟩ (by omega) (by omega) (by simp only [y13]; omega)) h1)
   rw [e] at this ⊢
   exact this
 | k + 1, i, l, hk, hl, hb => by
  have ho := zcg5 hm
  have hn := zchc hm
  have hi : i < d.Mid.l.length := by omega
  have he : d.Mid.l[((i : Int)).toNat]? = some d.Mid.l[i] := by simp [hi]
  have hr := inT_R ho.2.2.2.2.2.1 (y29 hi)
  have hp := zcc2 hr
  obtain ⟨z', ih⟩ := zchg hm k (i + 1) (l ++ putS d.Mid.l[i]) (by omega) (by rw [y13]; omega) (zcd3.2 ⟨hb, zcgd _⟩)
  rw [show ((i + 1 : Nat) : Int) = wrp .i64 ((i : Int) + 1) by rw [zccm (by omega) (by omega)]; omega] at ih
  refine ⟨z', Ev.succ (Ev.po (Ev.po (Ev.opt he (Ev.bind (zcc8 ⟨false, l⟩ hr (by simp only; omega)) (Ev.cast ih ?_))))) (fun q => rfl)⟩
  rw [y12 hi, zcgc, y36 l]
theorem zchh (d : zjs) (h1 : d.Mid.l.length ≤ 1000000) (h2 : d.Table.l.length ≤ 1000000) : ∃ z, Ev (fun q => zod q d) (if mayL d = true then (⟨z, true, encF (delD d)⟩, 0) else (⟨true, true, []⟩, 1)) := by
 by_cases h : mayL d = true
 ·have ho := zcg5 h
  have hn := zchc h
  have q1 := zccv d.From; have q2 := zccv d.To; have q3 := zccv d.Ahead; have q4 := zccv d.Behind; have q5 := zccv (d.Mid.l.length : Int)
  have ep : putsB [d.From, d.To, d.Ahead, d.Behind, (d.Mid.l.length : Int)] = (((put d.From ++ put d.To) ++ put d.Ahead) ++ put d.Behind) ++ put (d.Mid.l.length : Int) := by simp [putsB]
  obtain ⟨z, hE⟩ := zchg h d.Mid.l.length 0 ((((put d.From ++ put d.To) ++ put d.Ahead) ++ put d.Behind) ++ put (d.Mid.l.length : Int)) (by omega) (by simp only [y13]; omega) (by rw [← ep]; exact zcg8)
  rw [y41] at hE
  refine ⟨z, ?_⟩
  rw [if_pos h]
  unfold delD
  rw [ep]
  exact Ev.succ (Ev.bind (zcg4 d h1 h2) (Ev.pos h (Ev.bind (zcc6 ⟨true, []⟩ (by omega) (by omega) (by simp)) (Ev.bind (zcc6 ⟨false, put d.From⟩ (by omega) (by omega) (by simp only [y13]; omega)) (Ev.bind (zcc6 ⟨false, put d.From ++ put d.To⟩ (by omega) (by omega) (by simp only [y13]; omega)) (Ev.bind (zcc6 ⟨false, (put d.From ++ put d.To) ++ put d.Ahead⟩ (by omega) (by omega) (by simp only [y13]; omega)) (Ev.bind (zcc6 ⟨false, ((put d.From ++ put d.To) ++ put d.Ahead) ++ put d.Behind⟩ (by omega) (by omega) (by simp only [y13]; omega)) hE))))))) (fun q => rfl)
 ·refine ⟨true, ?_⟩
  rw [if_neg h]
  exact Ev.succ (Ev.bind (zcg4 d h1 h2) (Ev.neg h (Ev.ret _))) (fun q => rfl)
/-- The same deltas. -/
def sameL (a b : zjs) : Bool := decide (a.From = b.From) && (decide (a.To = b.To) && (decide (a.Ahead = b.Ahead) && (decide (a.Behind = b.Behind) && (decide (a.Mid.l = b.Mid.l) && (decide (a.Sealed = b.Sealed) && (decide (a.Engine = b.Engine) && decide (a.Table.l = b.Table.l)))))))
theorem zchi (a : zjs) : sameL a a = true := by simp [sameL]
theorem zchj (a b : zjs) (hL : a.Mid.l.length ≤ 1099511627776) (hT : a.Table.l.length ≤ 1099511627776) : Ev (fun q => zow q a b) (sameL a b) := by
 unfold sameL
 refine Ev.succ (Ev.ite (fun c1 => Ev.ite (fun c2 => Ev.ite (fun c3 => Ev.ite (fun c4 => Ev.bind (zcf1 _ _ hL) (Ev.ite (fun c5 => Ev.ite (fun c6 => Ev.ite (fun c7 => Ev.bind (zcgk _ _ hT) (Ev.ret' ?_)) fun c7 => Ev.ret' ?_) fun c6 => Ev.ret' ?_) fun c5 => Ev.ret' ?_)) fun c4 => Ev.ret' ?_) fun c3 => Ev.ret' ?_) fun c2 => Ev.ret' ?_) fun c1 => Ev.ret' ?_) (fun q => rfl)
 ·rw [beq_iff_eq] at c6; simp only [decide_eq_true_eq] at c5; simp [c1, c2, c3, c4, c5, c6, c7]
 ·simp [c7]
 ·rw [beq_iff_eq] at c6; simp [c6]
 ·simp only [decide_eq_true_eq] at c5; simp [c5]
 ·simp [c4]
 ·simp [c3]
 ·simp [c2]
 ·simp [c1]
theorem zchk (x0 x1 x2 x3 : Int) (x4z : Bool) (x4l : List Int) (x5 : Bool) (x6 : Int) (xz : Bool) (A : List zjq) (y0 y1 y2 y3 : Int) (y4z : Bool) (y4l : List Int) (y5 : Bool) (y6 : Int) (yz : Bool) (B : List zjq) (hl : A.length = B.length) (hL : A.length ≤ 1099511627776) : ∀ (k i : Nat), A.length = i + k →
  Ev (fun q => zla q (i : Int) x0 x1 x2 x3 x4z x4l x5 x6 xz A y0 y1 y2 y3 y4z y4l y5 y6 yz B) (decide (A.drop i = B.drop i))
 | 0, i, hk => by
  refine Ev.succ (Ev.ne (Ev.ret' ?_)) (fun q => rfl)
  rw [y15 (by omega), y15 (by omega)]; simp
 | k + 1, i, hk => by
  have hi : i < A.length := by omega
  have hi2 : i < B.length := by omega
  have hg : A[(i : Int).toNat]? = some A[i] := by simpa using y10 hi
  have hg2 : B[(i : Int).toNat]? = some B[i] := by simpa using y10 hi2
  have no : ¬ A[i] = B[i] → false = decide (A[i] :: A.drop (i + 1) = B[i] :: B.drop (i + 1)) := fun h => by
   symm; rw [decide_eq_false_iff_not]; intro e; exact h (List.cons.inj e).1
  rw [y12 hi, y12 hi2]
  refine Ev.succ (Ev.po (Ev.po (Ev.opt hg (Ev.opt hg2 (Ev.ite (fun c1 => Ev.ite (fun c2 => Ev.ite (fun c3 => ?_) fun c3 => Ev.ret' (no fun e => c3 (by rw [e]))) fun c2 => Ev.ret' (no fun e => c2 (by rw [e]))) fun c1 => Ev.ret' (no fun e => c1 (by rw [e]))))))) (fun q => rfl)
  rw [zccm (by omega) (by omega), show ((i : Int) + 1) = ((i + 1 : Nat) : Int) by omega]
  refine (zchk x0 x1 x2 x3 x4z x4l x5 x6 xz A y0 y1 y2 y3 y4z y4l y5 y6 yz B hl hL k (i + 1) (by omega)).cast ?_
  rw [decide_eq_decide, List.cons.injEq]; simp only [zcfl c1 c2 c3, true_and]
theorem zchl (x0 x1 x2 x3 : Int) (x4z : Bool) (M : List Int) (x5 : Bool) (x6 : Int) (xz : Bool) (A : List zjq) (y0 y1 y2 y3 : Int) (y4z : Bool) (N : List Int) (y5 : Bool) (y6 : Int) (yz : Bool) (B : List zjq) (hm : M.length = N.length) (hM : M.length ≤ 1099511627776) (hl : A.length = B.length) (hL : A.length ≤ 1099511627776) : ∀ (k i : Nat), M.length = i + k →
  Ev (fun q => zlb q (i : Int) x0 x1 x2 x3 x4z M x5 x6 xz A y0 y1 y2 y3 y4z N y5 y6 yz B) (decide (M.drop i = N.drop i) && decide (A = B))
 | 0, i, hk => by
  refine Ev.succ (Ev.ne (Ev.cast (zchk x0 x1 x2 x3 x4z M x5 x6 xz A y0 y1 y2 y3 y4z N y5 y6 yz B hl hL A.length 0 (by omega)) ?_)) (fun q => rfl)
  rw [y15 (show M.length ≤ i by omega), y15 (show N.length ≤ i by omega)]; simp
 | k + 1, i, hk => by
  have hi : i < M.length := by omega
  have hi2 : i < N.length := by omega
  have hg : M[(i : Int).toNat]? = some M[i] := by simpa using y10 hi
  have hg2 : N[(i : Int).toNat]? = some N[i] := by simpa using y10 hi2
  have ih := zchl x0 x1 x2 x3 x4z M x5 x6 xz A y0 y1 y2 y3 y4z N y5 y6 yz B hm hM hl hL k (i + 1) (by omega)
  rw [show ((i + 1 : Nat) : Int) = wrp .i64 ((i : Int) + 1) by rw [zccm (by omega) (by omega)]; omega] at ih
  rw [y12 hi, y12 hi2]
  refine Ev.succ (Ev.po (Ev.po (Ev.opt hg (Ev.opt hg2 (Ev.ite (fun c => Ev.cast ih ?_) fun c => Ev.ret' ?_))))) (fun q => rfl)
  ·have e : decide (M[i] :: M.drop (i + 1) = N[i] :: N.drop (i + 1)) = decide (M.drop (i + 1) = N.drop (i + 1)) := by rw [decide_eq_decide, List.cons.injEq]; simp only [c, true_and]
   rw [e]
  ·rw [decide_eq_false (fun e => c (List.cons.inj e).1)]; rfl
theorem zchm (a b : zjs) (hL : a.Mid.l.length ≤ 1099511627776) (hT : a.Table.l.length ≤ 1099511627776) : Ev (fun q => zlc q a b) (sameL a b) := by
 unfold sameL
 refine Ev.succ (Ev.ite (fun c1 => Ev.ite (fun c2 => Ev.ite (fun c3 => Ev.ite (fun c4 => Ev.ite (fun c5 => Ev.ite (fun c6 => Ev.ite (fun c7 => Ev.ite (fun c8 => ?_) fun c8 => Ev.ret' ?_) fun c7 => Ev.ret' ?_) fun c6 => Ev.ret' ?_) fun c5 => Ev.ret' ?_) fun c4 => Ev.ret' ?_) fun c3 => Ev.ret' ?_) fun c2 => Ev.ret' ?_) fun c1 => Ev.ret' ?_) (fun q => rfl)
 ·rw [beq_iff_eq] at c5
  refine Ev.cast (zchl a.From a.To a.Ahead a.Behind a.Mid.z a.Mid.l a.Sealed a.Engine a.Table.z a.Table.l b.From b.To b.Ahead b.Behind b.Mid.z b.Mid.l b.Sealed b.Engine b.Table.z b.Table.l (by omega) hL (by omega) hT a.Mid.l.length 0 (by omega)) ?_
  simp [c1, c2, c3, c4, c5, c6]
 ·have : ¬ a.Table.l = b.Table.l := fun e => c8 (by rw [e])
  simp [this]
 ·have : ¬ a.Mid.l = b.Mid.l := fun e => c7 (by rw [e])
  simp [this]
 ·simp [c6]
 ·rw [beq_iff_eq] at c5; simp [c5]
 ·simp [c4]
 ·simp [c3]
 ·simp [c2]
 ·simp [c1]
def gN (r : List Int × Bool) : Int × List Int × Bool := ((getN r.1).1, r.1.drop (getN r.1).2.toNat, r.2 && decide (0 < (getN r.1).2))
def gS (r : List Int × Bool) : Int × List Int × Bool := ((getS r.1).1, r.1.drop (getS r.1).2.toNat, r.2 && decide (0 < (getS r.1).2))
theorem gN_isB {r : List Int × Bool} (h : isB r.1) : isB (gN r).2.1 := zceg h _
theorem gS_isB {r : List Int × Bool} (h : isB r.1) : isB (gS r).2.1 := zceg h _
section
variable {R : Type}
theorem getK (z : Bool) {b : List Int} (hb : isB b) (f : Bool) {K : Nat → Int → List Int → Bool → Option R} {r : R} (h : Ev (fun q => K q (gN (b, f)).1 (gN (b, f)).2.1 (gN (b, f)).2.2) r) :
  Ev (fun q => (zlj q ⟨z, b⟩).bind fun r2 => (if f = true then (if 0 ≤ r2.2 then (if r2.2 ≤ (b.length : Int) then K q r2.1 (List.drop r2.2.toNat b) (decide (0 < r2.2)) else none) else none) else (if 0 ≤ r2.2 then (if r2.2 ≤ (b.length : Int) then K q r2.1 (List.drop r2.2.toNat b) false else none) else none))) r := by
 have hl := zcd9 (l := b)
 refine Ev.bind (zcgq z hb) (Ev.ite (fun c => Ev.pos hl.1 (Ev.pos hl.2.1 ?_)) fun c => Ev.pos hl.1 (Ev.pos hl.2.1 ?_))
 ·rw [c] at h; simpa only [gN, y64] using h
 ·have c' : f = false := by simpa using c
  rw [c'] at h; simpa only [gN, Bool.false_and] using h
theorem getK0 (z : Bool) {b : List Int} (hb : isB b) {K : Nat → Int → List Int → Bool → Option R} {r : R} (h : Ev (fun q => K q (gN (b, true)).1 (gN (b, true)).2.1 (gN (b, true)).2.2) r) :
  Ev (fun q => (zlj q ⟨z, b⟩).bind fun r2 => (if 0 ≤ r2.2 then (if r2.2 ≤ (b.length : Int) then K q r2.1 (List.drop r2.2.toNat b) (decide (0 < r2.2)) else none) else none)) r := by
 have hl := zcd9 (l := b)
 refine Ev.bind (zcgq z hb) (Ev.pos hl.1 (Ev.pos hl.2.1 ?_))
 simpa only [gN, y64] using h
theorem getSK (z : Bool) {b : List Int} (hb : isB b) (f : Bool) {K : Nat → Int → List Int → Bool → Option R} {r : R} (h : Ev (fun q => K q (gS (b, f)).1 (gS (b, f)).2.1 (gS (b, f)).2.2) r) :
  Ev (fun q => (zlz q ⟨z, b⟩).bind fun r2 => (if f = true then (if 0 ≤ r2.2 then (if r2.2 ≤ (b.length : Int) then K q r2.1 (List.drop r2.2.toNat b) (decide (0 < r2.2)) else none) else none) else (if 0 ≤ r2.2 then (if r2.2 ≤ (b.length : Int) then K q r2.1 (List.drop r2.2.toNat b) false else none) else none))) r := by
 have hl := zce7 (l := b)
 refine Ev.bind (zcgr z hb) (Ev.ite (fun c => Ev.pos hl.1 (Ev.pos hl.2.1 ?_)) fun c => Ev.pos hl.1 (Ev.pos hl.2.1 ?_))
 ·rw [c] at h; simpa only [gS, y64] using h
 ·have c' : f = false := by simpa using c
  rw [c'] at h; simpa only [gS, Bool.false_and] using h
end
theorem zchn (h0_0 : Int) (h0_1 : Int) (h0_2 : Int) (h0_3 : Int) (h1_0z : Bool) (h1_0l : (List Int)) (h1_1 : Bool) (h2_0 : Int) : Ev (fun q => zl0 q h0_0 h0_1 h0_2 h0_3 h1_0z h1_0l h1_1 h2_0) (h0_0, h0_1, h0_2, h0_3, h1_0l, h1_1, h2_0) := Ev.succ (Ev.ret _) (fun q => rfl)
theorem zcho (h0_0 : Int) (h0_1 : Int) (h0_2 : Int) (h0_3 : Int) (h1_0z : Bool) (h1_0l : (List Int)) (h1_1 : Bool) (hb : isB h1_0l) : Ev (fun q => zl1 q h0_0 h0_1 h0_2 h0_3 h1_0z h1_0l h1_1) (h0_0, h0_1, h0_2, h0_3, (gN (h1_0l, h1_1)).2.1, (gN (h1_0l, h1_1)).2.2, (gN (h1_0l, h1_1)).1) := Ev.succ (getK h1_0z hb h1_1 (K := fun q v' b' f' => zl0 q h0_0 h0_1 h0_2 h0_3 h1_0z b' f' v') (zchn h0_0 h0_1 h0_2 h0_3 h1_0z (gN (h1_0l, h1_1)).2.1 (gN (h1_0l, h1_1)).2.2 (gN (h1_0l, h1_1)).1)) (fun q => rfl)
theorem zchp (h0_0 : Int) (h0_1 : Int) (h0_2 : Int) (h1_0z : Bool) (h1_0l : (List Int)) (h1_1 : Bool) (hb : isB h1_0l) : Ev (fun q => zl2 q h0_0 h0_1 h0_2 h1_0z h1_0l h1_1) (h0_0, h0_1, h0_2, (gN (h1_0l, h1_1)).1, (gN ((gN (h1_0l, h1_1)).2.1, (gN (h1_0l, h1_1)).2.2)).2.1, (gN ((gN (h1_0l, h1_1)).2.1, (gN (h1_0l, h1_1)).2.2)).2.2, (gN ((gN (h1_0l, h1_1)).2.1, (gN (h1_0l, h1_1)).2.2)).1) := Ev.succ (getK h1_0z hb h1_1 (K := fun q v' b' f' => zl1 q h0_0 h0_1 h0_2 v' h1_0z b' f') (zcho h0_0 h0_1 h0_2 (gN (h1_0l, h1_1)).1 h1_0z (gN (h1_0l, h1_1)).2.1 (gN (h1_0l, h1_1)).2.2 (gN_isB hb))) (fun q => rfl)
theorem zchq (h0_0 : Int) (h0_1 : Int) (h1_0z : Bool) (h1_0l : (List Int)) (h1_1 : Bool) (hb : isB h1_0l) : Ev (fun q => zl3 q h0_0 h0_1 h1_0z h1_0l h1_1) (h0_0, h0_1, (gN (h1_0l, h1_1)).1, (gN ((gN (h1_0l, h1_1)).2.1, (gN (h1_0l, h1_1)).2.2)).1, (gN ((gN ((gN (h1_0l, h1_1)).2.1, (gN (h1_0l, h1_1)).2.2)).2.1, (gN ((gN (h1_0l, h1_1)).2.1, (gN (h1_0l, h1_1)).2.2)).2.2)).2.1, (gN ((gN ((gN (h1_0l, h1_1)).2.1, (gN (h1_0l, h1_1)).2.2)).2.1, (gN ((gN (h1_0l, h1_1)).2.1, (gN (h1_0l, h1_1)).2.2)).2.2)).2.2, (gN ((gN ((gN (h1_0l, h1_1)).2.1, (gN (h1_0l, h1_1)).2.2)).2.1, (gN ((gN (h1_0l, h1_1)).2.1, (gN (h1_0l, h1_1)).2.2)).2.2)).1) := Ev.succ (getK h1_0z hb h1_1 (K := fun q v' b' f' => zl2 q h0_0 h0_1 v' h1_0z b' f') (zchp h0_0 h0_1 (gN (h1_0l, h1_1)).1 h1_0z (gN (h1_0l, h1_1)).2.1 (gN (h1_0l, h1_1)).2.2 (gN_isB hb))) (fun q => rfl)
theorem zchr (h0_0 : Int) (h1_0z : Bool) (h1_0l : (List Int)) (h1_1 : Bool) (hb : isB h1_0l) : Ev (fun q => zl4 q h0_0 h1_0z h1_0l h1_1) (h0_0, (gN (h1_0l, h1_1)).1, (gN ((gN (h1_0l, h1_1)).2.1, (gN (h1_0l, h1_1)).2.2)).1, (gN ((gN ((gN (h1_0l, h1_1)).2.1, (gN (h1_0l, h1_1)).2.2)).2.1, (gN ((gN (h1_0l, h1_1)).2.1, (gN (h1_0l, h1_1)).2.2)).2.2)).1, (gN ((gN ((gN ((gN (h1_0l, h1_1)).2.1, (gN (h1_0l, h1_1)).2.2)).2.1, (gN ((gN (h1_0l, h1_1)).2.1, (gN (h1_0l, h1_1)).2.2)).2.2)).2.1, (gN ((gN ((gN (h1_0l, h1_1)).2.1, (gN (h1_0l, h1_1)).2.2)).2.1, (gN ((gN (h1_0l, h1_1)).2.1, (gN (h1_0l, h1_1)).2.2)).2.2)).2.2)).2.1, (gN ((gN ((gN ((gN (h1_0l, h1_1)).2.1, (gN (h1_0l, h1_1)).2.2)).2.1, (gN ((gN (h1_0l, h1_1)).2.1, (gN (h1_0l, h1_1)).2.2)).2.2)).2.1, (gN ((gN ((gN (h1_0l, h1_1)).2.1, (gN (h1_0l, h1_1)).2.2)).2.1, (gN ((gN (h1_0l, h1_1)).2.1, (gN (h1_0l, h1_1)).2.2)).2.2)).2.2)).2.2, (gN ((gN ((gN ((gN (h1_0l, h1_1)).2.1, (gN (h1_0l, h1_1)).2.2)).2.1, (gN ((gN (h1_0l, h1_1)).2.1, (gN (h1_0l, h1_1)).2.2)).2.2)).2.1, (gN ((gN ((gN (h1_0l, h1_1)).2.1, (gN (h1_0l, h1_1)).2.2)).2.1, (gN ((gN (h1_0l, h1_1)).2.1, (gN (h1_0l, h1_1)).2.2)).2.2)).2.2)).1) := Ev.succ (getK h1_0z hb h1_1 (K := fun q v' b' f' => zl3 q h0_0 v' h1_0z b' f') (zchq h0_0 (gN (h1_0l, h1_1)).1 h1_0z (gN (h1_0l, h1_1)).2.1 (gN (h1_0l, h1_1)).2.2 (gN_isB hb))) (fun q => rfl)
theorem zchs (h1_0z : Bool) (h1_0l : (List Int)) (hb : isB h1_0l) : Ev (fun q => zl5 q h1_0z h1_0l) ((gN (h1_0l, true)).1, (gN ((gN (h1_0l, true)).2.1, (gN (h1_0l, true)).2.2)).1, (gN ((gN ((gN (h1_0l, true)).2.1, (gN (h1_0l, true)).2.2)).2.1, (gN ((gN (h1_0l, true)).2.1, (gN (h1_0l, true)).2.2)).2.2)).1, (gN ((gN ((gN ((gN (h1_0l, true)).2.1, (gN (h1_0l, true)).2.2)).2.1, (gN ((gN (h1_0l, true)).2.1, (gN (h1_0l, true)).2.2)).2.2)).2.1, (gN ((gN ((gN (h1_0l, true)).2.1, (gN (h1_0l, true)).2.2)).2.1, (gN ((gN (h1_0l, true)).2.1, (gN (h1_0l, true)).2.2)).2.2)).2.2)).1, (gN ((gN ((gN ((gN ((gN (h1_0l, true)).2.1, (gN (h1_0l, true)).2.2)).2.1, (gN ((gN (h1_0l, true)).2.1, (gN (h1_0l, true)).2.2)).2.2)).2.1, (gN ((gN ((gN (h1_0l, true)).2.1, (gN (h1_0l, true)).2.2)).2.1, (gN ((gN (h1_0l, true)).2.1, (gN (h1_0l, true)).2.2)).2.2)).2.2)).2.1, (gN ((gN ((gN ((gN (h1_0l, true)).2.1, (gN (h1_0l, true)).2.2)).2.1, (gN ((gN (h1_0l, true)).2.1, (gN (h1_0l, true)).2.2)).2.2)).2.1, (gN ((gN ((gN (h1_0l, true)).2.1, (gN (h1_0l, true)).2.2)).2.1, (gN ((gN (h1_0l, true)).2.1, (gN (h1_0l, true)).2.2)).2.2)).2.2)).2.2)).2.1, (gN ((gN ((gN ((gN ((gN (h1_0l, true)).2.1, (gN (h1_0l, true)).2.2)).2.1, (gN ((gN (h1_0l, true)).2.1, (gN (h1_0l, true)).2.2)).2.2)).2.1, (gN ((gN ((gN (h1_0l, true)).2.1, (gN (h1_0l, true)).2.2)).2.1, (gN ((gN (h1_0l, true)).2.1, (gN (h1_0l, true)).2.2)).2.2)).2.2)).2.1, (gN ((gN ((gN ((gN (h1_0l, true)).2.1, (gN (h1_0l, true)).2.2)).2.1, (gN ((gN (h1_0l, true)).2.1, (gN (h1_0l, true)).2.2)).2.2)).2.1, (gN ((gN ((gN (h1_0l, true)).2.1, (gN (h1_0l, true)).2.2)).2.1, (gN ((gN (h1_0l, true)).2.1, (gN (h1_0l, true)).2.2)).2.2)).2.2)).2.2)).2.2, (gN ((gN ((gN ((gN ((gN (h1_0l, true)).2.1, (gN (h1_0l, true)).2.2)).2.1, (gN ((gN (h1_0l, true)).2.1, (gN (h1_0l, true)).2.2)).2.2)).2.1, (gN ((gN ((gN (h1_0l, true)).2.1, (gN (h1_0l, true)).2.2)).2.1, (gN ((gN (h1_0l, true)).2.1, (gN (h1_0l, true)).2.2)).2.2)).2.2)).2.1, (gN ((gN ((gN ((gN (h1_0l, true)).2.1, (gN (h1_0l, true)).2.2)).2.1, (gN ((gN (h1_0l, true)).2.1, (gN (h1_0l, true)).2.2)).2.2)).2.1, (gN ((gN ((gN (h1_0l, true)).2.1, (gN (h1_0l, true)).2.2)).2.1, (gN ((gN (h1_0l, true)).2.1, (gN (h1_0l, true)).2.2)).2.2)).2.2)).2.2)).1) := Ev.succ (getK0 h1_0z hb (K := fun q v' b' f' => zl4 q v' h1_0z b' f') (zchr (gN (h1_0l, true)).1 h1_0z (gN (h1_0l, true)).2.1 (gN (h1_0l, true)).2.2 (gN_isB hb))) (fun q => rfl)
theorem s0_ev (h1_0z : Bool) (h1_0l : (List Int)) (hb : isB h1_0l) : Ev (fun q => zl6 q h1_0z h1_0l) ((gN (h1_0l, true)).1, (gN ((gN (h1_0l, true)).2.1, (gN (h1_0l, true)).2.2)).1, (gN ((gN ((gN (h1_0l, true)).2.1, (gN (h1_0l, true)).2.2)).2.1, (gN ((gN (h1_0l, true)).2.1, (gN (h1_0l, true)).2.2)).2.2)).1, (gN ((gN ((gN ((gN (h1_0l, true)).2.1, (gN (h1_0l, true)).2.2)).2.1, (gN ((gN (h1_0l, true)).2.1, (gN (h1_0l, true)).2.2)).2.2)).2.1, (gN ((gN ((gN (h1_0l, true)).2.1, (gN (h1_0l, true)).2.2)).2.1, (gN ((gN (h1_0l, true)).2.1, (gN (h1_0l, true)).2.2)).2.2)).2.2)).1, (gN ((gN ((gN ((gN ((gN (h1_0l, true)).2.1, (gN (h1_0l, true)).2.2)).2.1, (gN ((gN (h1_0l, true)).2.1, (gN (h1_0l, true)).2.2)).2.2)).2.1, (gN ((gN ((gN (h1_0l, true)).2.1, (gN (h1_0l, true)).2.2)).2.1, (gN ((gN (h1_0l, true)).2.1, (gN (h1_0l, true)).2.2)).2.2)).2.2)).2.1, (gN ((gN ((gN ((gN (h1_0l, true)).2.1, (gN (h1_0l, true)).2.2)).2.1, (gN ((gN (h1_0l, true)).2.1, (gN (h1_0l, true)).2.2)).2.2)).2.1, (gN ((gN ((gN (h1_0l, true)).2.1, (gN (h1_0l, true)).2.2)).2.1, (gN ((gN (h1_0l, true)).2.1, (gN (h1_0l, true)).2.2)).2.2)).2.2)).2.2)).2.1, (gN ((gN ((gN ((gN ((gN (h1_0l, true)).2.1, (gN (h1_0l, true)).2.2)).2.1, (gN ((gN (h1_0l, true)).2.1, (gN (h1_0l, true)).2.2)).2.2)).2.1, (gN ((gN ((gN (h1_0l, true)).2.1, (gN (h1_0l, true)).2.2)).2.1, (gN ((gN (h1_0l, true)).2.1, (gN (h1_0l, true)).2.2)).2.2)).2.2)).2.1, (gN ((gN ((gN ((gN (h1_0l, true)).2.1, (gN (h1_0l, true)).2.2)).2.1, (gN ((gN (h1_0l, true)).2.1, (gN (h1_0l, true)).2.2)).2.2)).2.1, (gN ((gN ((gN (h1_0l, true)).2.1, (gN (h1_0l, true)).2.2)).2.1, (gN ((gN (h1_0l, true)).2.1, (gN (h1_0l, true)).2.2)).2.2)).2.2)).2.2)).2.2, (gN ((gN ((gN ((gN ((gN (h1_0l, true)).2.1, (gN (h1_0l, true)).2.2)).2.1, (gN ((gN (h1_0l, true)).2.1, (gN (h1_0l, true)).2.2)).2.2)).2.1, (gN ((gN ((gN (h1_0l, true)).2.1, (gN (h1_0l, true)).2.2)).2.1, (gN ((gN (h1_0l, true)).2.1, (gN (h1_0l, true)).2.2)).2.2)).2.2)).2.1, (gN ((gN ((gN ((gN (h1_0l, true)).2.1, (gN (h1_0l, true)).2.2)).2.1, (gN ((gN (h1_0l, true)).2.1, (gN (h1_0l, true)).2.2)).2.2)).2.1, (gN ((gN ((gN (h1_0l, true)).2.1, (gN (h1_0l, true)).2.2)).2.1, (gN ((gN (h1_0l, true)).2.1, (gN (h1_0l, true)).2.2)).2.2)).2.2)).2.2)).1) := Ev.succ (zchs h1_0z h1_0l hb) (fun q => rfl)
theorem zcht (h0_0 : Int) (h0_1 : Int) (h0_2 : Int) (h0_3 : Int) (h1_0z : Bool) (h1_0l : (List Int)) (h1_1 : Bool) (h2_0 : Int) (h3_0 : Int) : Ev (fun q => zl7 q h0_0 h0_1 h0_2 h0_3 h1_0z h1_0l h1_1 h2_0 h3_0) (h1_0l, h1_1, h2_0, h3_0) := Ev.succ (Ev.ret _) (fun q => rfl)
theorem zchu (h0_0 : Int) (h0_1 : Int) (h0_2 : Int) (h0_3 : Int) (h1_0z : Bool) (h1_0l : (List Int)) (h1_1 : Bool) (h2_0 : Int) (hb : isB h1_0l) : Ev (fun q => zl8 q h0_0 h0_1 h0_2 h0_3 h1_0z h1_0l h1_1 h2_0) ((gN (h1_0l, h1_1)).2.1, (gN (h1_0l, h1_1)).2.2, h2_0, (gN (h1_0l, h1_1)).1) := Ev.succ (getK h1_0z hb h1_1 (K := fun q v' b' f' => zl7 q h0_0 h0_1 h0_2 h0_3 h1_0z b' f' h2_0 v') (zcht h0_0 h0_1 h0_2 h0_3 h1_0z (gN (h1_0l, h1_1)).2.1 (gN (h1_0l, h1_1)).2.2 h2_0 (gN (h1_0l, h1_1)).1)) (fun q => rfl)
theorem zchv (h0_0 : Int) (h0_1 : Int) (h0_2 : Int) (h0_3 : Int) (h1_0z : Bool) (h1_0l : (List Int)) (h1_1 : Bool) (hb : isB h1_0l) : Ev (fun q => zl9 q h0_0 h0_1 h0_2 h0_3 h1_0z h1_0l h1_1) ((gN ((gN (h1_0l, h1_1)).2.1, (gN (h1_0l, h1_1)).2.2)).2.1, (gN ((gN (h1_0l, h1_1)).2.1, (gN (h1_0l, h1_1)).2.2)).2.2, (gN (h1_0l, h1_1)).1, (gN ((gN (h1_0l, h1_1)).2.1, (gN (h1_0l, h1_1)).2.2)).1) := Ev.succ (getK h1_0z hb h1_1 (K := fun q v' b' f' => zl8 q h0_0 h0_1 h0_2 h0_3 h1_0z b' f' v') (zchu h0_0 h0_1 h0_2 h0_3 h1_0z (gN (h1_0l, h1_1)).2.1 (gN (h1_0l, h1_1)).2.2 (gN (h1_0l, h1_1)).1 (gN_isB hb))) (fun q => rfl)
theorem s1_ev (h0_0 : Int) (h0_1 : Int) (h0_2 : Int) (h0_3 : Int) (h1_0z : Bool) (h1_0l : (List Int)) (h1_1 : Bool) (hb : isB h1_0l) : Ev (fun q => zma q h0_0 h0_1 h0_2 h0_3 h1_0z h1_0l h1_1) ((gN ((gN (h1_0l, h1_1)).2.1, (gN (h1_0l, h1_1)).2.2)).2.1, (gN ((gN (h1_0l, h1_1)).2.1, (gN (h1_0l, h1_1)).2.2)).2.2, (gN (h1_0l, h1_1)).1, (gN ((gN (h1_0l, h1_1)).2.1, (gN (h1_0l, h1_1)).2.2)).1) := Ev.succ (zchv h0_0 h0_1 h0_2 h0_3 h1_0z h1_0l h1_1 hb) (fun q => rfl)
theorem zchw (h0_0 : Int) (h0_1 : Int) (h0_2 : Int) (h0_3 : Int) (h1_0z : Bool) (h1_0l : (List Int)) (h1_1 : Bool) (h2_0 : Int) (h3_0 : Int) (h4l : (List Int)) : Ev (fun q => zmb q h0_0 h0_1 h0_2 h0_3 h1_0z h1_0l h1_1 h2_0 h3_0 h4l) (h4l.length, h1_0l, h1_1, h2_0, h3_0) := Ev.succ (Ev.ret _) (fun q => rfl)
theorem zchx (h0_0 : Int) (h0_1 : Int) (h0_2 : Int) (h0_3 : Int) (h1_0z : Bool) (h1_0l : (List Int)) (h1_1 : Bool) (h2_0 : Int) (h4l : (List Int)) (hb : isB h1_0l) : Ev (fun q => zmc q h0_0 h0_1 h0_2 h0_3 h1_0z h1_0l h1_1 h2_0 h4l) (h4l.length, (gN (h1_0l, h1_1)).2.1, (gN (h1_0l, h1_1)).2.2, h2_0, (gN (h1_0l, h1_1)).1) := Ev.succ (getK h1_0z hb h1_1 (K := fun q v' b' f' => zmb q h0_0 h0_1 h0_2 h0_3 h1_0z b' f' h2_0 v' h4l) (zchw h0_0 h0_1 h0_2 h0_3 h1_0z (gN (h1_0l, h1_1)).2.1 (gN (h1_0l, h1_1)).2.2 h2_0 (gN (h1_0l, h1_1)).1 h4l)) (fun q => rfl)
theorem zchy (h0_0 : Int) (h0_1 : Int) (h0_2 : Int) (h0_3 : Int) (h1_0z : Bool) (h1_0l : (List Int)) (h1_1 : Bool) (h4l : (List Int)) (hb : isB h1_0l) : Ev (fun q => zmd q h0_0 h0_1 h0_2 h0_3 h1_0z h1_0l h1_1 h4l) (h4l.length, (gN ((gN (h1_0l, h1_1)).2.1, (gN (h1_0l, h1_1)).2.2)).2.1, (gN ((gN (h1_0l, h1_1)).2.1, (gN (h1_0l, h1_1)).2.2)).2.2, (gN (h1_0l, h1_1)).1, (gN ((gN (h1_0l, h1_1)).2.1, (gN (h1_0l, h1_1)).2.2)).1) := Ev.succ (getK h1_0z hb h1_1 (K := fun q v' b' f' => zmc q h0_0 h0_1 h0_2 h0_3 h1_0z b' f' v' h4l) (zchx h0_0 h0_1 h0_2 h0_3 h1_0z (gN (h1_0l, h1_1)).2.1 (gN (h1_0l, h1_1)).2.2 (gN (h1_0l, h1_1)).1 h4l (gN_isB hb))) (fun q => rfl)
theorem s2_ev (h0_0 : Int) (h0_1 : Int) (h0_2 : Int) (h0_3 : Int) (h1_0z : Bool) (h1_0l : (List Int)) (h1_1 : Bool) (h4l : (List Int)) (hb : isB h1_0l) : Ev (fun q => zme q h0_0 h0_1 h0_2 h0_3 h1_0z h1_0l h1_1 h4l) (h4l.length, (gN ((gN (h1_0l, h1_1)).2.1, (gN (h1_0l, h1_1)).2.2)).2.1, (gN ((gN (h1_0l, h1_1)).2.1, (gN (h1_0l, h1_1)).2.2)).2.2, (gN (h1_0l, h1_1)).1, (gN ((gN (h1_0l, h1_1)).2.1, (gN (h1_0l, h1_1)).2.2)).1) := Ev.succ (zchy h0_0 h0_1 h0_2 h0_3 h1_0z h1_0l h1_1 h4l hb) (fun q => rfl)
theorem zchz (h0_0 : Int) (h0_1 : Int) (h0_2 : Int) (h0_3 : Int) (h0_5 : Bool) (h0_6 : Int) (h1_0z : Bool) (h1_0l : (List Int)) (h1_1 : Bool) (h2_0 : Int) (h3_0 : Int) (h3_1 : Int) : Ev (fun q => zmf q h0_0 h0_1 h0_2 h0_3 h0_5 h0_6 h1_0z h1_0l h1_1 h2_0 h3_0 h3_1) (h1_0l, h1_1, h3_0, h3_1) := Ev.succ (Ev.ret _) (fun q => rfl)
theorem zch0 (h0_0 : Int) (h0_1 : Int) (h0_2 : Int) (h0_3 : Int) (h0_5 : Bool) (h0_6 : Int) (h1_0z : Bool) (h1_0l : (List Int)) (h1_1 : Bool) (h2_0 : Int) (h3_0 : Int) (hb : isB h1_0l) : Ev (fun q => zmg q h0_0 h0_1 h0_2 h0_3 h0_5 h0_6 h1_0z h1_0l h1_1 h2_0 h3_0) ((gN (h1_0l, h1_1)).2.1, (gN (h1_0l, h1_1)).2.2, h3_0, (gN (h1_0l, h1_1)).1) := Ev.succ (getK h1_0z hb h1_1 (K := fun q v' b' f' => zmf q h0_0 h0_1 h0_2 h0_3 h0_5 h0_6 h1_0z b' f' h2_0 h3_0 v') (zchz h0_0 h0_1 h0_2 h0_3 h0_5 h0_6 h1_0z (gN (h1_0l, h1_1)).2.1 (gN (h1_0l, h1_1)).2.2 h2_0 h3_0 (gN (h1_0l, h1_1)).1)) (fun q => rfl)
theorem zch1 (h0_0 : Int) (h0_1 : Int) (h0_2 : Int) (h0_3 : Int) (h0_5 : Bool) (h0_6 : Int) (h1_0z : Bool) (h1_0l : (List Int)) (h1_1 : Bool) (h2_0 : Int) (hb : isB h1_0l) : Ev (fun q => zmh q h0_0 h0_1 h0_2 h0_3 h0_5 h0_6 h1_0z h1_0l h1_1 h2_0) ((gN ((gN (h1_0l, h1_1)).2.1, (gN (h1_0l, h1_1)).2.2)).2.1, (gN ((gN (h1_0l, h1_1)).2.1, (gN (h1_0l, h1_1)).2.2)).2.2, (gN (h1_0l, h1_1)).1, (gN ((gN (h1_0l, h1_1)).2.1, (gN (h1_0l, h1_1)).2.2)).1) := Ev.succ (getK h1_0z hb h1_1 (K := fun q v' b' f' => zmg q h0_0 h0_1 h0_2 h0_3 h0_5 h0_6 h1_0z b' f' h2_0 v') (zch0 h0_0 h0_1 h0_2 h0_3 h0_5 h0_6 h1_0z (gN (h1_0l, h1_1)).2.1 (gN (h1_0l, h1_1)).2.2 h2_0 (gN (h1_0l, h1_1)).1 (gN_isB hb))) (fun q => rfl)
theorem s3_ev (h0_0 : Int) (h0_1 : Int) (h0_2 : Int) (h0_3 : Int) (h0_5 : Bool) (h0_6 : Int) (h1_0z : Bool) (h1_0l : (List Int)) (h1_1 : Bool) (h2_0 : Int) (hb : isB h1_0l) : Ev (fun q => zmi q h0_0 h0_1 h0_2 h0_3 h0_5 h0_6 h1_0z h1_0l h1_1 h2_0) ((gN ((gN (h1_0l, h1_1)).2.1, (gN (h1_0l, h1_1)).2.2)).2.1, (gN ((gN (h1_0l, h1_1)).2.1, (gN (h1_0l, h1_1)).2.2)).2.2, (gN (h1_0l, h1_1)).1, (gN ((gN (h1_0l, h1_1)).2.1, (gN (h1_0l, h1_1)).2.2)).1) := Ev.succ (zch1 h0_0 h0_1 h0_2 h0_3 h0_5 h0_6 h1_0z h1_0l h1_1 h2_0 hb) (fun q => rfl)
theorem zch2 (h0_0 : Int) (h0_1 : Int) (h0_2 : Int) (h0_3 : Int) (h0_4len : Nat) (h0_5 : Bool) (h0_6 : Int) (h1_0z : Bool) (h1_0l : (List Int)) (h1_1 : Bool) (h2_0 : Int) (h3l : (List Int)) (h4_0 : Int) (h4_1 : Int) : Ev (fun q => zmj q h0_0 h0_1 h0_2 h0_3 h0_4len h0_5 h0_6 h1_0z h1_0l h1_1 h2_0 h3l h4_0 h4_1) (h1_0l, h1_1, h4_0, h4_1) := Ev.succ (Ev.ret _) (fun q => rfl)
theorem zch3 (h0_0 : Int) (h0_1 : Int) (h0_2 : Int) (h0_3 : Int) (h0_4len : Nat) (h0_5 : Bool) (h0_6 : Int) (h1_0z : Bool) (h1_0l : (List Int)) (h1_1 : Bool) (h2_0 : Int) (h3l : (List Int)) (h4_0 : Int) (hb : isB h1_0l) : Ev (fun q => zmk q h0_0 h0_1 h0_2 h0_3 h0_4len h0_5 h0_6 h1_0z h1_0l h1_1 h2_0 h3l h4_0) ((gN (h1_0l, h1_1)).2.1, (gN (h1_0l, h1_1)).2.2, h4_0, (gN (h1_0l, h1_1)).1) := Ev.succ (getK h1_0z hb h1_1 (K := fun q v' b' f' => zmj q h0_0 h0_1 h0_2 h0_3 h0_4len h0_5 h0_6 h1_0z b' f' h2_0 h3l h4_0 v') (zch2 h0_0 h0_1 h0_2 h0_3 h0_4len h0_5 h0_6 h1_0z (gN (h1_0l, h1_1)).2.1 (gN (h1_0l, h1_1)).2.2 h2_0 h3l h4_0 (gN (h1_0l, h1_1)).1)) (fun q => rfl)
theorem zch4 (h0_0 : Int) (h0_1 : Int) (h0_2 : Int) (h0_3 : Int) (h0_4len : Nat) (h0_5 : Bool) (h0_6 : Int) (h1_0z : Bool) (h1_0l : (List Int)) (h1_1 : Bool) (h2_0 : Int) (h3l : (List Int)) (hb : isB h1_0l) : Ev (fun q => zml q h0_0 h0_1 h0_2 h0_3 h0_4len h0_5 h0_6 h1_0z h1_0l h1_1 h2_0 h3l) ((gN ((gN (h1_0l, h1_1)).2.1, (gN (h1_0l, h1_1)).2.2)).2.1, (gN ((gN (h1_0l, h1_1)).2.1, (gN (h1_0l, h1_1)).2.2)).2.2, (gN (h1_0l, h1_1)).1, (gN ((gN (h1_0l, h1_1)).2.1, (gN (h1_0l, h1_1)).2.2)).1) := Ev.succ (getK h1_0z hb h1_1 (K := fun q v' b' f' => zmk q h0_0 h0_1 h0_2 h0_3 h0_4len h0_5 h0_6 h1_0z b' f' h2_0 h3l v') (zch3 h0_0 h0_1 h0_2 h0_3 h0_4len h0_5 h0_6 h1_0z (gN (h1_0l, h1_1)).2.1 (gN (h1_0l, h1_1)).2.2 h2_0 h3l (gN (h1_0l, h1_1)).1 (gN_isB hb))) (fun q => rfl)
theorem s4_ev (h0_0 : Int) (h0_1 : Int) (h0_2 : Int) (h0_3 : Int) (h0_4len : Nat) (h0_5 : Bool) (h0_6 : Int) (h1_0z : Bool) (h1_0l : (List Int)) (h1_1 : Bool) (h2_0 : Int) (h3l : (List Int)) (hb : isB h1_0l) : Ev (fun q => zmm q h0_0 h0_1 h0_2 h0_3 h0_4len h0_5 h0_6 h1_0z h1_0l h1_1 h2_0 h3l) ((gN ((gN (h1_0l, h1_1)).2.1, (gN (h1_0l, h1_1)).2.2)).2.1, (gN ((gN (h1_0l, h1_1)).2.1, (gN (h1_0l, h1_1)).2.2)).2.2, (gN (h1_0l, h1_1)).1, (gN ((gN (h1_0l, h1_1)).2.1, (gN (h1_0l, h1_1)).2.2)).1) := Ev.succ (zch4 h0_0 h0_1 h0_2 h0_3 h0_4len h0_5 h0_6 h1_0z h1_0l h1_1 h2_0 h3l hb) (fun q => rfl)
theorem zch5 (h0_0 : Int) (h0_1 : Int) (h0_2 : Int) (h0_3 : Int) (h0_5 : Bool) (h0_6 : Int) (h1_0z : Bool) (h1_0l : (List Int)) (h1_1 : Bool) (h2_0 : Int) (h3l : (List zjq)) (h4_0 : Int) (h4_1 : Int) : Ev (fun q => zmn q h0_0 h0_1 h0_2 h0_3 h0_5 h0_6 h1_0z h1_0l h1_1 h2_0 h3l h4_0 h4_1) (h3l.length, h1_0l, h1_1, h4_0, h4_1) := Ev.succ (Ev.ret _) (fun q => rfl)
theorem zch6 (h0_0 : Int) (h0_1 : Int) (h0_2 : Int) (h0_3 : Int) (h0_5 : Bool) (h0_6 : Int) (h1_0z : Bool) (h1_0l : (List Int)) (h1_1 : Bool) (h2_0 : Int) (h3l : (List zjq)) (h4_0 : Int) (hb : isB h1_0l) : Ev (fun q => zmo q h0_0 h0_1 h0_2 h0_3 h0_5 h0_6 h1_0z h1_0l h1_1 h2_0 h3l h4_0) (h3l.length, (gN (h1_0l, h1_1)).2.1, (gN (h1_0l, h1_1)).2.2, h4_0, (gN (h1_0l, h1_1)).1) := Ev.succ (getK h1_0z hb h1_1 (K := fun q v' b' f' => zmn q h0_0 h0_1 h0_2 h0_3 h0_5 h0_6 h1_0z b' f' h2_0 h3l h4_0 v') (zch5 h0_0 h0_1 h0_2 h0_3 h0_5 h0_6 h1_0z (gN (h1_0l, h1_1)).2.1 (gN (h1_0l, h1_1)).2.2 h2_0 h3l h4_0 (gN (h1_0l, h1_1)).1)) (fun q => rfl)
theorem zch7 (h0_0 : Int) (h0_1 : Int) (h0_2 : Int) (h0_3 : Int) (h0_5 : Bool) (h0_6 : Int) (h1_0z : Bool) (h1_0l : (List Int)) (h1_1 : Bool) (h2_0 : Int) (h3l : (List zjq)) (hb : isB h1_0l) : Ev (fun q => zmp q h0_0 h0_1 h0_2 h0_3 h0_5 h0_6 h1_0z h1_0l h1_1 h2_0 h3l) (h3l.length, (gN ((gN (h1_0l, h1_1)).2.1, (gN (h1_0l, h1_1)).2.2)).2.1, (gN ((gN (h1_0l, h1_1)).2.1, (gN (h1_0l, h1_1)).2.2)).2.2, (gN (h1_0l, h1_1)).1, (gN ((gN (h1_0l, h1_1)).2.1, (gN (h1_0l, h1_1)).2.2)).1) := Ev.succ (getK h1_0z hb h1_1 (K := fun q v' b' f' => zmo q h0_0 h0_1 h0_2 h0_3 h0_5 h0_6 h1_0z b' f' h2_0 h3l v') (zch6 h0_0 h0_1 h0_2 h0_3 h0_5 h0_6 h1_0z (gN (h1_0l, h1_1)).2.1 (gN (h1_0l, h1_1)).2.2 h2_0 h3l (gN (h1_0l, h1_1)).1 (gN_isB hb))) (fun q => rfl)
theorem s5_ev (h0_0 : Int) (h0_1 : Int) (h0_2 : Int) (h0_3 : Int) (h0_5 : Bool) (h0_6 : Int) (h1_0z : Bool) (h1_0l : (List Int)) (h1_1 : Bool) (h2_0 : Int) (h3l : (List zjq)) (hb : isB h1_0l) : Ev (fun q => zmq q h0_0 h0_1 h0_2 h0_3 h0_5 h0_6 h1_0z h1_0l h1_1 h2_0 h3l) (h3l.length, (gN ((gN (h1_0l, h1_1)).2.1, (gN (h1_0l, h1_1)).2.2)).2.1, (gN ((gN (h1_0l, h1_1)).2.1, (gN (h1_0l, h1_1)).2.2)).2.2, (gN (h1_0l, h1_1)).1, (gN ((gN (h1_0l, h1_1)).2.1, (gN (h1_0l, h1_1)).2.2)).1) := Ev.succ (zch7 h0_0 h0_1 h0_2 h0_3 h0_5 h0_6 h1_0z h1_0l h1_1 h2_0 h3l hb) (fun q => rfl)
theorem zch8 (h0_0 : Int) (h0_1 : Int) (h0_2 : Int) (h0_3 : Int) (h0_4len : Nat) (h0_5 : Bool) (h0_6 : Int) (h1_0z : Bool) (h1_0l : (List Int)) (h1_1 : Bool) (h2_0 : Int) (h3l : (List Int)) (h4l : (List zjq)) (h5_0 : Int) (h5_1 : Int) : Ev (fun q => zmr q h0_0 h0_1 h0_2 h0_3 h0_4len h0_5 h0_6 h1_0z h1_0l h1_1 h2_0 h3l h4l h5_0 h5_1) (h4l.length, h1_0l, h1_1, h5_0, h5_1) := Ev.succ (Ev.ret _) (fun q => rfl)
theorem zch9 (h0_0 : Int) (h0_1 : Int) (h0_2 : Int) (h0_3 : Int) (h0_4len : Nat) (h0_5 : Bool) (h0_6 : Int) (h1_0z : Bool) (h1_0l : (List Int)) (h1_1 : Bool) (h2_0 : Int) (h3l : (List Int)) (h4l : (List zjq)) (h5_0 : Int) (hb : isB h1_0l) : Ev (fun q => zms q h0_0 h0_1 h0_2 h0_3 h0_4len h0_5 h0_6 h1_0z h1_0l h1_1 h2_0 h3l h4l h5_0) (h4l.length, (gN (h1_0l, h1_1)).2.1, (gN (h1_0l, h1_1)).2.2, h5_0, (gN (h1_0l, h1_1)).1) := Ev.succ (getK h1_0z hb h1_1 (K := fun q v' b' f' => zmr q h0_0 h0_1 h0_2 h0_3 h0_4len h0_5 h0_6 h1_0z b' f' h2_0 h3l h4l h5_0 v') (zch8 h0_0 h0_1 h0_2 h0_3 h0_4len h0_5 h0_6 h1_0z (gN (h1_0l, h1_1)).2.1 (gN (h1_0l, h1_1)).2.2 h2_0 h3l h4l h5_0 (gN (h1_0l, h1_1)).1)) (fun q => rfl)
theorem zcia (h0_0 : Int) (h0_1 : Int) (h0_2 : Int) (h0_3 : Int) (h0_4len : Nat) (h0_5 : Bool) (h0_6 : Int) (h1_0z : Bool) (h1_0l : (List Int)) (h1_1 : Bool) (h2_0 : Int) (h3l : (List Int)) (h4l : (List zjq)) (hb : isB h1_0l) : Ev (fun q => zmt q h0_0 h0_1 h0_2 h0_3 h0_4len h0_5 h0_6 h1_0z h1_0l h1_1 h2_0 h3l h4l) (h4l.length, (gN ((gN (h1_0l, h1_1)).2.1, (gN (h1_0l, h1_1)).2.2)).2.1, (gN ((gN (h1_0l, h1_1)).2.1, (gN (h1_0l, h1_1)).2.2)).2.2, (gN (h1_0l, h1_1)).1, (gN ((gN (h1_0l, h1_1)).2.1, (gN (h1_0l, h1_1)).2.2)).1) := Ev.succ (getK h1_0z hb h1_1 (K := fun q v' b' f' => zms q h0_0 h0_1 h0_2 h0_3 h0_4len h0_5 h0_6 h1_0z b' f' h2_0 h3l h4l v') (zch9 h0_0 h0_1 h0_2 h0_3 h0_4len h0_5 h0_6 h1_0z (gN (h1_0l, h1_1)).2.1 (gN (h1_0l, h1_1)).2.2 h2_0 h3l h4l (gN (h1_0l, h1_1)).1 (gN_isB hb))) (fun q => rfl)
theorem s6_ev (h0_0 : Int) (h0_1 : Int) (h0_2 : Int) (h0_3 : Int) (h0_4len : Nat) (h0_5 : Bool) (h0_6 : Int) (h1_0z : Bool) (h1_0l : (List Int)) (h1_1 : Bool) (h2_0 : Int) (h3l : (List Int)) (h4l : (List zjq)) (hb : isB h1_0l) : Ev (fun q => zmu q h0_0 h0_1 h0_2 h0_3 h0_4len h0_5 h0_6 h1_0z h1_0l h1_1 h2_0 h3l h4l) (h4l.length, (gN ((gN (h1_0l, h1_1)).2.1, (gN (h1_0l, h1_1)).2.2)).2.1, (gN ((gN (h1_0l, h1_1)).2.1, (gN (h1_0l, h1_1)).2.2)).2.2, (gN (h1_0l, h1_1)).1, (gN ((gN (h1_0l, h1_1)).2.1, (gN (h1_0l, h1_1)).2.2)).1) := Ev.succ (zcia h0_0 h0_1 h0_2 h0_3 h0_4len h0_5 h0_6 h1_0z h1_0l h1_1 h2_0 h3l h4l hb) (fun q => rfl)
def entsR : Nat → List Int × Bool → List zjq × List Int × Bool
 | 0, r => ([], r)
 | k + 1, r => if r.2 = true then (⟨(gN r).1, (gN (gN r).2).1, (gS (gN (gN r).2).2).1⟩ :: (entsR k (gS (gN (gN r).2).2).2).1, (entsR k (gS (gN (gN r).2).2).2).2) else ([], r)
theorem zcib (k : Nat) {r : List Int × Bool} (h : r.2 ≠ true) : entsR k r = ([], r) := by
 cases k with
 | zero => rfl
 | succ k => simp only [entsR]; rw [if_neg h]
theorem zcic (k : Nat) (b : List Int) : entsR (k + 1) (b, true) = (⟨(gN (b, true)).1, (gN (gN (b, true)).2).1, (gS (gN (gN (b, true)).2).2).1⟩ :: (entsR k (gS (gN (gN (b, true)).2).2).2).1, (entsR k (gS (gN (gN (b, true)).2).2).2).2) := by
 rw [entsR, if_pos rfl]
theorem zcid {r : List Int × Bool} (h : (gN r).2.2 = true) : r.2 = true ∧ 0 < (getN r.1).2 ∧ (gN r).2.1.length + 1 ≤ r.1.length := by
 have hl := zcd9 (l := r.1)
 simp only [gN, y9, decide_eq_true_eq, y16] at h ⊢
 exact ⟨h.1, h.2, by omega⟩
theorem zcie {r : List Int × Bool} (h : (gS r).2.2 = true) : r.2 = true ∧ 0 < (getS r.1).2 ∧ (gS r).2.1.length + 1 ≤ r.1.length := by
 have hl := zce7 (l := r.1)
 simp only [gS, y9, decide_eq_true_eq, y16] at h ⊢
 exact ⟨h.1, h.2, by omega⟩
/-- What follows the numbers. -/
def tlD (d0 d1 d2 d3 : Int) (mid : Sl Int) (r : List Int × Bool) : zjs × Bool :=
 if 3 < (gN r).1 then (⟨d0, d1, d2, d3, mid, false, 0, ⟨true, []⟩⟩, false) else
 (⟨d0, d1, d2, d3, mid, decide (0 < (gN r).1), if (gN r).1 - 1 < 0 then 0 else (gN r).1 - 1, ⟨(entsR (gN (gN r).2).1.toNat (gN (gN r).2).2).1.isEmpty, (entsR (gN (gN r).2).1.toNat (gN (gN r).2).2).1⟩⟩,
  (entsR (gN (gN r).2).1.toNat (gN (gN r).2).2).2.2 && decide (((entsR (gN (gN r).2).1.toNat (gN (gN r).2).2).2.1.length : Int) = 0))
theorem zcif (d0 d1 d2 d3 : Int) (len : Nat) (s5 : Bool) (s6 : Int) (z : Bool) (many : Nat) (hm : many < 4611686018427387904) (h3l : List Int) : ∀ (k i : Nat) (b : List Int) (f : Bool) (acc : List zjq), many = i + k → isB b → (f = true → acc.length + b.length ≤ 1000000) →
  Ev (fun q => zmv q (i : Int) d0 d1 d2 d3 len s5 s6 z b f (many : Int) h3l acc) ((⟨d0, d1, d2, d3, ⟨false, h3l⟩, s5, s6, ⟨false, acc ++ (entsR k (b, f)).1⟩⟩ : zjs), (entsR k (b, f)).2.2 && decide (((entsR k (b, f)).2.1.length : Int) = 0))
 | 0, i, b, f, acc, hk, hb, ha => by
  simp only [entsR, List.append_nil]
  refine Ev.succ (Ev.ne (Ev.ite (fun c => Ev.ret' ?_) fun c => Ev.ret' ?_)) (fun q => rfl)
  ·rw [c]; rfl
  ·rw [show f = false by simpa using c]; rfl
 | k + 1, i, b, f, acc, hk, hb, ha => by
  by_cases c : f = true
  ·have hS := s6_ev d0 d1 d2 d3 len s5 s6 z b f (many : Int) h3l acc hb
   rw [c] at hS ⊢
   have hb1 := gN_isB (r := (b, true)) hb
   have hb2 := gN_isB (r := (gN (b, true)).2) hb1
   have ih := zcif d0 d1 d2 d3 len s5 s6 z many hm h3l k (i + 1) (gS (gN (gN (b, true)).2).2).2.1 (gS (gN (gN (b, true)).2).2).2.2 (acc ++ [⟨(gN (b, true)).1, (gN (gN (b, true)).2).1, (gS (gN (gN (b, true)).2).2).1⟩]) (by omega) (gS_isB (r := (gN (gN (b, true)).2).2) hb2) (fun e => by
    have g3 := zcie e
    have g2 := zcid g3.1
    have g1 := zcid g2.1
    have := ha c
    simp only [y13, y24, y28] at g1 ⊢; omega)
   rw [show ((i + 1 : Nat) : Int) = wrp .i64 ((i : Int) + 1) by rw [zccm (by omega) (by omega)]; omega] at ih
   have hal := ha c
   have hK := getSK z hb2 (gN (gN (b, true)).2).2.2 (K := fun q v' b' f' => (if (acc.length + 1) ≤ 4294967296 then (zmv q (wrp .i64 ((i : Int) + 1)) d0 d1 d2 d3 len s5 s6 z b' f' (many : Int) h3l (acc ++ [(⟨(gN (b, true)).1, (gN (gN (b, true)).2).1, v'⟩ : zjq)])) else none)) (Ev.pos (by omega) ih)
   rw [zcic]
   refine Ev.succ (Ev.po (Ev.pos rfl (Ev.bind hS (Ev.cast hK ?_)))) (fun q => rfl)
   simp only [y36, List.singleton_append]
  ·rw [zcib _ (show (b, f).2 ≠ true from c), List.append_nil]
   have c' : f = false := by simpa using c
   refine Ev.succ (Ev.po (Ev.neg c (Ev.ret' ?_))) (fun q => rfl)
   rw [c']; rfl
theorem zcig (d0 d1 d2 d3 : Int) (len : Nat) (s5 : Bool) (s6 : Int) (z : Bool) (many : Nat) (hm : many < 4611686018427387904) (h3l : List Int) (b : List Int) (f : Bool) (hb : isB b) (hl : b.length ≤ 100000) :
  Ev (fun q => zmw q d0 d1 d2 d3 len s5 s6 z b f (many : Int) h3l) ((⟨d0, d1, d2, d3, ⟨false, h3l⟩, s5, s6, ⟨(entsR many (b, f)).1.isEmpty, (entsR many (b, f)).1⟩⟩ : zjs), (entsR many (b, f)).2.2 && decide (((entsR many (b, f)).2.1.length : Int) = 0)) := by
 by_cases h0 : many = 0
 ·have hn : entsR many (b, f) = ([], (b, f)) := by rw [h0]; rfl
  rw [hn]
  refine Ev.succ (Ev.ne (Ev.ite (fun c => Ev.ret' ?_) fun c => Ev.ret' ?_)) (fun q => rfl)
  ·rw [c]; rfl
  ·rw [show f = false by simpa using c]; rfl
 ·obtain ⟨k, hk⟩ : ∃ k, many = k + 1 := ⟨many - 1, by omega⟩
  by_cases c : f = true
  ·have hS := s4_ev d0 d1 d2 d3 len s5 s6 z b f (many : Int) h3l hb
   rw [c] at hS ⊢
   have hb1 := gN_isB (r := (b, true)) hb
   have hb2 := gN_isB (r := (gN (b, true)).2) hb1
   have ih := zcif d0 d1 d2 d3 len s5 s6 z many hm h3l k 1 (gS (gN (gN (b, true)).2).2).2.1 (gS (gN (gN (b, true)).2).2).2.2 [⟨(gN (b, true)).1, (gN (gN (b, true)).2).1, (gS (gN (gN (b, true)).2).2).1⟩] (by omega) (gS_isB (r := (gN (gN (b, true)).2).2) hb2) (fun e => by
    have g3 := zcie e
    have g2 := zcid g3.1
    have g1 := zcid g2.1
    simp only [y13, y24, y28] at g1 ⊢; omega)
   rw [show ((1 : Nat) : Int) = wrp .i64 1 by rw [zccm (by omega) (by omega)]; rfl] at ih
   have hK := getSK z hb2 (gN (gN (b, true)).2).2.2 (K := fun q v' b' f' => (zmv q (wrp .i64 1) d0 d1 d2 d3 len s5 s6 z b' f' (many : Int) h3l [(⟨(gN (b, true)).1, (gN (gN (b, true)).2).1, v'⟩ : zjq)])) ih
   have hE := zcic k b
   rw [← hk] at hE
   rw [hE]
   exact Ev.succ (Ev.po (Ev.pos rfl (Ev.bind hS hK))) (fun q => rfl)
  ·rw [zcib _ (show (b, f).2 ≠ true from c)]
   have c' : f = false := by simpa using c
   refine Ev.succ (Ev.po (Ev.neg c (Ev.ret' ?_))) (fun q => rfl)
   rw [c']; rfl
theorem zcih (d0 d1 d2 d3 : Int) (s5 : Bool) (s6 : Int) (z : Bool) (many : Nat) (hm : many < 4611686018427387904) : ∀ (k i : Nat) (b : List Int) (f : Bool) (acc : List zjq), many = i + k → isB b → (f = true → acc.length + b.length ≤ 1000000) →
  Ev (fun q => zmy q (i : Int) d0 d1 d2 d3 s5 s6 z b f (many : Int) acc) ((⟨d0, d1, d2, d3, ⟨true, []⟩, s5, s6, ⟨false, acc ++ (entsR k (b, f)).1⟩⟩ : zjs), (entsR k (b, f)).2.2 && decide (((entsR k (b, f)).2.1.length : Int) = 0))
 | 0, i, b, f, acc, hk, hb, ha => by
  simp only [entsR, List.append_nil]
  refine Ev.succ (Ev.ne (Ev.ite (fun c => Ev.ret' ?_) fun c => Ev.ret' ?_)) (fun q => rfl)
  ·rw [c]; rfl
  ·rw [show f = false by simpa using c]; rfl
 | k + 1, i, b, f, acc, hk, hb, ha => by
  by_cases c : f = true
  ·have hS := s5_ev d0 d1 d2 d3 s5 s6 z b f (many : Int) acc hb
   rw [c] at hS ⊢
   have hb1 := gN_isB (r := (b, true)) hb
   have hb2 := gN_isB (r := (gN (b, true)).2) hb1
   have ih := zcih d0 d1 d2 d3 s5 s6 z many hm k (i + 1) (gS (gN (gN (b, true)).2).2).2.1 (gS (gN (gN (b, true)).2).2).2.2 (acc ++ [⟨(gN (b, true)).1, (gN (gN (b, true)).2).1, (gS (gN (gN (b, true)).2).2).1⟩]) (by omega) (gS_isB (r := (gN (gN (b, true)).2).2) hb2) (fun e => by
    have g3 := zcie e
    have g2 := zcid g3.1
    have g1 := zcid g2.1
    have := ha c
    simp only [y13, y24, y28] at g1 ⊢; omega)
   rw [show ((i + 1 : Nat) : Int) = wrp .i64 ((i : Int) + 1) by rw [zccm (by omega) (by omega)]; omega] at ih
   have hal := ha c
   have hK := getSK z hb2 (gN (gN (b, true)).2).2.2 (K := fun q v' b' f' => (if (acc.length + 1) ≤ 4294967296 then (zmy q (wrp .i64 ((i : Int) + 1)) d0 d1 d2 d3 s5 s6 z b' f' (many : Int) (acc ++ [(⟨(gN (b, true)).1, (gN (gN (b, true)).2).1, v'⟩ : zjq)])) else none)) (Ev.pos (by omega) ih)
   rw [zcic]
   refine Ev.succ (Ev.po (Ev.pos rfl (Ev.bind hS (Ev.cast hK ?_)))) (fun q => rfl)
   simp only [y36, List.singleton_append]
  ·rw [zcib _ (show (b, f).2 ≠ true from c), List.append_nil]
   have c' : f = false := by simpa using c
   refine Ev.succ (Ev.po (Ev.neg c (Ev.ret' ?_))) (fun q => rfl)
   rw [c']; rfl
theorem zcii (d0 d1 d2 d3 : Int) (s5 : Bool) (s6 : Int) (z : Bool) (many : Nat) (hm : many < 4611686018427387904) (b : List Int) (f : Bool) (hb : isB b) (hl : b.length ≤ 100000) :
  Ev (fun q => zmz q d0 d1 d2 d3 s5 s6 z b f (many : Int)) ((⟨d0, d1, d2, d3, ⟨true, []⟩, s5, s6, ⟨(entsR many (b, f)).1.isEmpty, (entsR many (b, f)).1⟩⟩ : zjs), (entsR many (b, f)).2.2 && decide (((entsR many (b, f)).2.1.length : Int) = 0)) := by
 by_cases h0 : many = 0
 ·have hn : entsR many (b, f) = ([], (b, f)) := by rw [h0]; rfl
  rw [hn]
  refine Ev.succ (Ev.ne (Ev.ite (fun c => Ev.ret' ?_) fun c => Ev.ret' ?_)) (fun q => rfl)
  ·rw [c]; rfl
  ·rw [show f = false by simpa using c]; rfl
 ·obtain ⟨k, hk⟩ : ∃ k, many = k + 1 := ⟨many - 1, by omega⟩
  by_cases c : f = true
  ·have hS := s3_ev d0 d1 d2 d3 s5 s6 z b f (many : Int) hb
   rw [c] at hS ⊢
   have hb1 := gN_isB (r := (b, true)) hb
   have hb2 := gN_isB (r := (gN (b, true)).2) hb1
   have ih := zcih d0 d1 d2 d3 s5 s6 z many hm k 1 (gS (gN (gN (b, true)).2).2).2.1 (gS (gN (gN (b, true)).2).2).2.2 [⟨(gN (b, true)).1, (gN (gN (b, true)).2).1, (gS (gN (gN (b, true)).2).2).1⟩] (by omega) (gS_isB (r := (gN (gN (b, true)).2).2) hb2) (fun e => by
    have g3 := zcie e
    have g2 := zcid g3.1
    have g1 := zcid g2.1
    simp only [y13, y24, y28] at g1 ⊢; omega)
   rw [show ((1 : Nat) : Int) = wrp .i64 1 by rw [zccm (by omega) (by omega)]; rfl] at ih
   have hK := getSK z hb2 (gN (gN (b, true)).2).2.2 (K := fun q v' b' f' => (zmy q (wrp .i64 1) d0 d1 d2 d3 s5 s6 z b' f' (many : Int) [(⟨(gN (b, true)).1, (gN (gN (b, true)).2).1, v'⟩ : zjq)])) ih
   have hE := zcic k b
   rw [← hk] at hE
   rw [hE]
   exact Ev.succ (Ev.po (Ev.pos rfl (Ev.bind hS hK))) (fun q => rfl)
  ·rw [zcib _ (show (b, f).2 ≠ true from c)]
   have c' : f = false := by simpa using c
   refine Ev.succ (Ev.po (Ev.neg c (Ev.ret' ?_))) (fun q => rfl)
   rw [c']; rfl
def numsR : Nat → List Int × Bool → List Int × List Int × Bool
 | 0, r => ([], r)
 | k + 1, r => ((gS r).1 :: (numsR k (gS r).2).1, (numsR k (gS r).2).2)
theorem zcij : ∀ {k : Nat} {r : List Int × Bool}, isB r.1 → isB (numsR k r).2.1 ∧ (numsR k r).2.1.length ≤ r.1.length
 | 0, r, h => ⟨h, y17 _⟩
 | k + 1, r, h => by
  have := zcij (k := k) (gS_isB h)
  have hl : (gS r).2.1.length ≤ r.1.length := by simp only [gS, y16]; omega
  exact ⟨this.1, Nat.le_trans this.2 hl⟩
theorem gN_le (r : List Int × Bool) : (gN r).2.1.length ≤ r.1.length := by simp only [gN, y16]; omega
theorem sealW {n : Int} (h1 : 0 ≤ n) (h2 : n < 4611686018427387904) : (if (wrp .i64 (n - 1)) < 0 then 0 else (wrp .i64 (n - 1))) = (if n - 1 < 0 then 0 else n - 1) := by
 rw [zccm (by omega) (by omega)]
theorem gN_rng (r : List Int × Bool) : 0 ≤ (gN r).1 ∧ (gN r).1 < 4611686018427387904 := (zcd9 (l := r.1)).2.2.2
theorem zcik (d0 d1 d2 d3 : Int) (z : Bool) (m : Int) (i : Int) (b : List Int) (f : Bool) (acc : List Int) (hi : ¬ i < m) (hb : isB b) (hl : b.length ≤ 100000) : Ev (fun q => zmx q m i d0 d1 d2 d3 z b f acc) (tlD d0 d1 d2 d3 ⟨false, acc⟩ (b, f)) := by
 have hS := s2_ev d0 d1 d2 d3 z b f acc hb
 have hb1 := gN_isB (r := (b, f)) hb
 have hb2 := gN_isB (r := (gN (b, f)).2) hb1
 have l1 := gN_le (b, f); have l2 := gN_le (gN (b, f)).2
 have r1 := gN_rng (b, f); have r2 := gN_rng (gN (b, f)).2
 unfold tlD
 refine Ev.succ (Ev.neg hi (Ev.bind hS (Ev.ite (fun c => Ev.ret' ?_) fun c => ?_))) (fun q => rfl)
 ·rw [if_pos c]
 ·rw [if_neg c]
  have h3 := zcig d0 d1 d2 d3 acc.length (decide (0 < (gN (b, f)).1)) (if (gN (b, f)).1 - 1 < 0 then 0 else (gN (b, f)).1 - 1) z (gN (gN (b, f)).2).1.toNat (by omega) acc (gN (gN (b, f)).2).2.1 (gN (gN (b, f)).2).2.2 hb2 (by simp only at l1; omega)
  rw [← sealW r1.1 r1.2, show ((((gN (gN (b, f)).2).1.toNat : Nat)) : Int) = (gN (gN (b, f)).2).1 by omega] at h3
  refine Ev.cast h3 ?_
  rw [sealW r1.1 r1.2]
theorem zcil (d0 d1 d2 d3 : Int) (z : Bool) (m : Int) (b : List Int) (f : Bool) (hi : ¬ 0 < m) (hb : isB b) (hl : b.length ≤ 100000) : Ev (fun q => zm0 q m d0 d1 d2 d3 z b f) (tlD d0 d1 d2 d3 ⟨true, []⟩ (b, f)) := by
 have hS := s1_ev d0 d1 d2 d3 z b f hb
 have hb1 := gN_isB (r := (b, f)) hb
 have hb2 := gN_isB (r := (gN (b, f)).2) hb1
 have l1 := gN_le (b, f); have l2 := gN_le (gN (b, f)).2
 have r1 := gN_rng (b, f); have r2 := gN_rng (gN (b, f)).2
 unfold tlD
 refine Ev.succ (Ev.neg hi (Ev.bind hS (Ev.ite (fun c => Ev.ret' ?_) fun c => ?_))) (fun q => rfl)
 ·rw [if_pos c]
 ·rw [if_neg c]
  have h3 := zcii d0 d1 d2 d3 (decide (0 < (gN (b, f)).1)) (if (gN (b, f)).1 - 1 < 0 then 0 else (gN (b, f)).1 - 1) z (gN (gN (b, f)).2).1.toNat (by omega) (gN (gN (b, f)).2).2.1 (gN (gN (b, f)).2).2.2 hb2 (by simp only at l1; omega)
  rw [← sealW r1.1 r1.2, show ((((gN (gN (b, f)).2).1.toNat : Nat)) : Int) = (gN (gN (b, f)).2).1 by omega] at h3
  refine Ev.cast h3 ?_
  rw [sealW r1.1 r1.2]
theorem zcim (d0 d1 d2 d3 : Int) (z : Bool) (m : Nat) (hm : m ≤ 128) : ∀ (k i : Nat) (b : List Int) (f : Bool) (acc : List Int), m = i + k → acc.length = i → isB b → b.length ≤ 100000 →
  Ev (fun q => zmx q (m : Int) (i : Int) d0 d1 d2 d3 z b f acc) (tlD d0 d1 d2 d3 ⟨false, acc ++ (numsR k (b, f)).1⟩ (numsR k (b, f)).2)
 | 0, i, b, f, acc, hk, ha, hb, hl => by
  simp only [numsR, List.append_nil]
  exact zcik d0 d1 d2 d3 z (m : Int) (i : Int) b f acc (by omega) hb hl
 | k + 1, i, b, f, acc, hk, ha, hb, hl => by
  have hb1 := gS_isB (r := (b, f)) hb
  have hl1 : (gS (b, f)).2.1.length ≤ b.length := by simp only [gS, y16]; omega
  have ih := zcim d0 d1 d2 d3 z m hm k (i + 1) (gS (b, f)).2.1 (gS (b, f)).2.2 (acc ++ [(gS (b, f)).1]) (by omega) (by rw [y13, List.length_singleton]; omega) hb1 (by omega)
  rw [show ((i + 1 : Nat) : Int) = wrp .i64 ((i : Int) + 1) by rw [zccm (by omega) (by omega)]; omega] at ih
  have hK := getSK z hb f (K := fun q v' b' f' => (if (acc.length + 1) ≤ 4294967296 then (zmx q (m : Int) (wrp .i64 ((i : Int) + 1)) d0 d1 d2 d3 z b' f' (acc ++ [v'])) else none)) (Ev.pos (by omega) ih)
  refine Ev.succ (Ev.po (Ev.cast hK ?_)) (fun q => rfl)
  simp only [numsR, y36, List.singleton_append]
theorem zcin (d0 d1 d2 d3 : Int) (z : Bool) (m : Nat) (hm : m ≤ 128) (b : List Int) (f : Bool) (hb : isB b) (hl : b.length ≤ 100000) :
  Ev (fun q => zm0 q (m : Int) d0 d1 d2 d3 z b f) (tlD d0 d1 d2 d3 ⟨(numsR m (b, f)).1.isEmpty, (numsR m (b, f)).1⟩ (numsR m (b, f)).2) := by
 by_cases h0 : m = 0
 ·have hn : numsR m (b, f) = ([], (b, f)) := by rw [h0]; rfl
  rw [hn]
  exact zcil d0 d1 d2 d3 z (m : Int) b f (by omega) hb hl
 ·obtain ⟨k, hk⟩ : ∃ k, m = k + 1 := ⟨m - 1, by omega⟩
  have hb1 := gS_isB (r := (b, f)) hb
  have hl1 : (gS (b, f)).2.1.length ≤ b.length := by simp only [gS, y16]; omega
  have ih := zcim d0 d1 d2 d3 z m hm k 1 (gS (b, f)).2.1 (gS (b, f)).2.2 [(gS (b, f)).1] (by omega) rfl hb1 (by omega)
  rw [show ((1 : Nat) : Int) = wrp .i64 1 by rw [zccm (by omega) (by omega)]; rfl] at ih
  have hK := getSK z hb f (K := fun q v' b' f' => (zmx q (m : Int) (wrp .i64 1) d0 d1 d2 d3 z b' f' [v'])) ih
  have hE : numsR m (b, f) = ((gS (b, f)).1 :: (numsR k (gS (b, f)).2).1, (numsR k (gS (b, f)).2).2) := by rw [hk]; rfl
  rw [hE]
  exact Ev.succ (Ev.pos (by omega) hK) (fun q => rfl)
def n1 (b : List Int) : Int × List Int × Bool := gN (b, true)
def n2 (b : List Int) : Int × List Int × Bool := gN (n1 b).2
def n3 (b : List Int) : Int × List Int × Bool := gN (n2 b).2
def n4 (b : List Int) : Int × List Int × Bool := gN (n3 b).2
def n5 (b : List Int) : Int × List Int × Bool := gN (n4 b).2
/-- The delta of data, and whether they are one. -/
def rdD (b : List Int) : zjs × Bool :=
 if 128 < (n5 b).1 then (⟨(n1 b).1, (n2 b).1, (n3 b).1, (n4 b).1, ⟨true, []⟩, false, 0, ⟨true, []⟩⟩, false) else
 tlD (n1 b).1 (n2 b).1 (n3 b).1 (n4 b).1 ⟨(numsR (n5 b).1.toNat (n5 b).2).1.isEmpty, (numsR (n5 b).1.toNat (n5 b).2).1⟩ (numsR (n5 b).1.toNat (n5 b).2).2
theorem zcio (s : Sl Int) (hb : isB s.l) (hl : s.l.length ≤ 100000) : Ev (fun q => zm1 q s) (rdD s.l) := by
 have hS : Ev (fun q => zl6 q s.z s.l) ((n1 s.l).1, (n2 s.l).1, (n3 s.l).1, (n4 s.l).1, (n5 s.l).2.1, (n5 s.l).2.2, (n5 s.l).1) := s0_ev s.z s.l hb
 have b1 := gN_isB (r := (s.l, true)) hb
 have b2 := gN_isB (r := (n1 s.l).2) b1
 have b3 := gN_isB (r := (n2 s.l).2) b2
 have b4 := gN_isB (r := (n3 s.l).2) b3
 have b5 : isB (n5 s.l).2.1 := gN_isB (r := (n4 s.l).2) b4
 have l1 := gN_le (s.l, true); have l2 := gN_le (n1 s.l).2; have l3 := gN_le (n2 s.l).2; have l4 := gN_le (n3 s.l).2; have l5 := gN_le (n4 s.l).2
 have hlen : (n5 s.l).2.1.length ≤ 100000 := by
  change (n1 s.l).2.1.length ≤ s.l.length at l1
  change (n2 s.l).2.1.length ≤ (n1 s.l).2.1.length at l2
  change (n3 s.l).2.1.length ≤ (n2 s.l).2.1.length at l3
  change (n4 s.l).2.1.length ≤ (n3 s.l).2.1.length at l4
  change (n5 s.l).2.1.length ≤ (n4 s.l).2.1.length at l5
  omega
 have r5 : 0 ≤ (n5 s.l).1 ∧ (n5 s.l).1 < 4611686018427387904 := gN_rng (n4 s.l).2
 unfold rdD
 refine Ev.succ (Ev.bind hS (Ev.ite (fun c => Ev.ret' ?_) fun c => ?_)) (fun q => rfl)
 ·rw [if_pos c]
 ·rw [if_neg c]
  simp only at c
  have h0 := zcin (n1 s.l).1 (n2 s.l).1 (n3 s.l).1 (n4 s.l).1 s.z (n5 s.l).1.toNat (by omega) (n5 s.l).2.1 (n5 s.l).2.2 b5 hlen
  rw [show ((((n5 s.l).1.toNat : Nat)) : Int) = (n5 s.l).1 by omega] at h0
  exact h0
theorem gN_app {r : List Int × Bool} (hb : isB r.1) (h : (gN r).2.2 = true) : r.2 = true ∧ r.1 = put (gN r).1 ++ (gN r).2.1 := by
 have g := zcid h
 exact ⟨g.1, zcgo hb g.2.1⟩
theorem gS_app {r : List Int × Bool} (hb : isB r.1) (h : (gS r).2.2 = true) : r.2 = true ∧ r.1 = putS (gS r).1 ++ (gS r).2.1 := by
 have g := zcie h
 exact ⟨g.1, zcgp hb g.2.1⟩
theorem zcip : ∀ (k : Nat) (r : List Int × Bool), isB r.1 → (entsR k r).2.2 = true → r.2 = true ∧ r.1 = tabE (entsR k r).1 ++ (entsR k r).2.1 ∧ (entsR k r).1.length = k
 | 0, r, hb, h => ⟨h, by simp [entsR, tabE], rfl⟩
 | k + 1, r, hb, h => by
  by_cases c : r.2 = true
  ·simp only [entsR, if_pos c] at h ⊢
   have b1 := gN_isB hb
   have b2 := gN_isB b1
   have b3 := gS_isB b2
   obtain ⟨h3, e3, l3⟩ := zcip k (gS (gN (gN r).2).2).2 b3 h
   obtain ⟨h2, e2⟩ := gS_app b2 h3
   obtain ⟨h1, e1⟩ := gN_app b1 h2
   obtain ⟨h0, e0⟩ := gN_app hb h1
   refine ⟨h0, ?_, by rw [y24, l3]⟩
   rw [zcge]
   simp only [entB, y36]
   rw [← e3, ← e2, ← e1]
   exact e0
  ·rw [zcib _ c] at h
   exact absurd h c
theorem zciq : ∀ (k : Nat) (r : List Int × Bool), isB r.1 → (numsR k r).2.2 = true → r.2 = true ∧ r.1 = numsB (numsR k r).1 ++ (numsR k r).2.1 ∧ (numsR k r).1.length = k
 | 0, r, hb, h => ⟨h, by simp [numsR, numsB], rfl⟩
 | k + 1, r, hb, h => by
  simp only [numsR] at h ⊢
  obtain ⟨h1, e1, l1⟩ := zciq k (gS r).2 (gS_isB hb) h
  obtain ⟨h0, e0⟩ := gS_app hb h1
  refine ⟨h0, ?_, by rw [y24, l1]⟩
  rw [zcgc, y36, ← e1]
  exact e0
theorem zcir {d0 d1 d2 d3 : Int} {mid : Sl Int} {r : List Int × Bool} (hb : isB r.1) (h : (tlD d0 d1 d2 d3 mid r).2 = true) : r.2 = true ∧ (tlD d0 d1 d2 d3 mid r).1.From = d0 ∧ (tlD d0 d1 d2 d3 mid r).1.To = d1 ∧ (tlD d0 d1 d2 d3 mid r).1.Ahead = d2 ∧ (tlD d0 d1 d2 d3 mid r).1.Behind = d3 ∧ (tlD d0 d1 d2 d3 mid r).1.Mid = mid ∧
  r.1 = putsB [sealL (tlD d0 d1 d2 d3 mid r).1, ((tlD d0 d1 d2 d3 mid r).1.Table.l.length : Int)] ++ tabE (tlD d0 d1 d2 d3 mid r).1.Table.l := by
 unfold tlD at h ⊢
 split at h
 ·cases h
 ·rename_i c
  rw [if_neg c]
  simp only [y9, decide_eq_true_eq] at h
  have b1 := gN_isB hb
  have b2 := gN_isB b1
  have r0 := gN_rng r
  have r1 := gN_rng (gN r).2
  obtain ⟨h2, e2, l2⟩ := zcip _ _ b2 h.1
  obtain ⟨h1, e1⟩ := gN_app b1 h2
  obtain ⟨h0, e0⟩ := gN_app hb h1
  have hnil : (entsR (gN (gN r).2).1.toNat (gN (gN r).2).2).2.1 = [] := y38 (by omega)
  rw [hnil, List.append_nil] at e2
  refine ⟨h0, rfl, rfl, rfl, rfl, rfl, ?_⟩
  have hs : ∀ (m : Sl Int) (t : Sl zjq), sealL ⟨d0, d1, d2, d3, m, decide (0 < (gN r).1), if (gN r).1 - 1 < 0 then 0 else (gN r).1 - 1, t⟩ = (gN r).1 := fun m t => by
   unfold sealL
   simp only [decide_eq_true_eq]
   split <;> (try split) <;> omega
  rw [hs]
  simp only [zcg6, l2, Int.toNat_of_nonneg r1.1]
  rw [show putsB [] = [] from rfl, List.append_nil, y36, ← e2, ← e1]
  exact e0
theorem zcis {b : List Int} (hb : isB b) (h : (rdD b).2 = true) : delD (rdD b).1 = b := by
 have b1 : isB (n1 b).2.1 := gN_isB (r := (b, true)) hb
 have b2 : isB (n2 b).2.1 := gN_isB (r := (n1 b).2) b1
 have b3 : isB (n3 b).2.1 := gN_isB (r := (n2 b).2) b2
 have b4 : isB (n4 b).2.1 := gN_isB (r := (n3 b).2) b3
 have b5 : isB (n5 b).2.1 := gN_isB (r := (n4 b).2) b4
 have r5 : 0 ≤ (n5 b).1 ∧ (n5 b).1 < 4611686018427387904 := gN_rng (n4 b).2
 unfold rdD at h ⊢
 split at h
 ·cases h
 ·rename_i c
  rw [if_neg c]
  obtain ⟨t1, t2, t3, t4, t5, t6, t7⟩ := zcir (zcij b5).1 h
  obtain ⟨h5, e5, l5⟩ := zciq _ _ b5 t1
  obtain ⟨h4, e4⟩ := gN_app (r := (n4 b).2) b4 h5
  obtain ⟨h3, e3⟩ := gN_app (r := (n3 b).2) b3 h4
  obtain ⟨h2, e2⟩ := gN_app (r := (n2 b).2) b2 h3
  obtain ⟨h1, e1⟩ := gN_app (r := (n1 b).2) b1 h2
  obtain ⟨h0, e0⟩ := gN_app (r := (b, true)) hb h1
  unfold delD
  rw [t2, t3, t4, t5, t6, y36, ← t7]
  simp only [zcg6, l5, Int.toNat_of_nonneg r5.1, y36]
  rw [show putsB [] = [] from rfl, y50, ← e5]
  change put (n1 b).1 ++ (put (n2 b).1 ++ (put (n3 b).1 ++ (put (n4 b).1 ++ (put (n5 b).1 ++ (n5 b).2.1)))) = b
  change (n4 b).2.1 = put (n5 b).1 ++ (n5 b).2.1 at e4
  change (n3 b).2.1 = put (n4 b).1 ++ (n4 b).2.1 at e3
  change (n2 b).2.1 = put (n3 b).1 ++ (n3 b).2.1 at e2
  change (n1 b).2.1 = put (n2 b).1 ++ (n2 b).2.1 at e1
  change b = put (n1 b).1 ++ (n1 b).2.1 at e0
  rw [← e4, ← e3, ← e2, ← e1, ← e0]
theorem zcit : ∀ l : List zjq, l.length ≤ (tabE l).length
 | [] => by simp [tabE]
 | e :: l => by have := zcit l; have := zcgl e.Resp; rw [zcge, y13, y24]; simp only [entB, y13]; omega
theorem zciu : ∀ l : List Int, l.length ≤ (numsB l).length
 | [] => by simp [numsB]
 | e :: l => by have := zciu l; have := zcgl e; rw [zcgc, y13, y24]; omega
theorem zciv (d : zjs) : d.Mid.l.length ≤ (delD d).length ∧ d.Table.l.length ≤ (delD d).length := by
 have := zcit d.Table.l
 have := zciu d.Mid.l
 simp only [delD, y13]; omega
def noDl : zjs := ⟨0, 0, 0, 0, ⟨true, []⟩, false, 0, ⟨true, []⟩⟩
/-- The delta of bytes. -/
def dcD (b : List Int) : zjs × Int :=
 if (decF b).2.2 = 0 then if (decF b).2.1 = (b.length : Int) then if (rdD (decF b).1).2 = true then if mayL (rdD (decF b).1).1 = true then ((rdD (decF b).1).1, 0) else (noDl, 1) else (noDl, 3) else (noDl, 16) else (noDl, (decF b).2.2)
theorem zciw {b : List Int} (hb : isB b) (hl : b.length ≤ 90000) : (decF b).1.length ≤ 90000 := by
 by_cases h : (decF b).2.2 = 0
 ·have := zcei (x := (decF b).1) (n := (decF b).2.1) hb (by rw [← h])
  have e := congrArg List.length this.2.2.2.2
  have := zcgi (decF b).1
  rw [y23] at e; omega
 ·have := zcej (l := b) (x := (decF b).1) (n := (decF b).2.1) (e := (decF b).2.2) rfl h
  rw [this.1]; simp
theorem zcix (s : Sl Int) (z : Bool) (F : List Int × Int × Int) (R : zjs × Bool) (hF : Ev (fun q => zlx q s) (⟨z, true, F.1⟩, F.2.1, F.2.2)) (hR : Ev (fun q => zm1 q ⟨z, F.1⟩) R) (h1 : R.2 = true → R.1.Mid.l.length ≤ 1000000 ∧ R.1.Table.l.length ≤ 1000000) :
  Ev (fun q => znc q s) (if F.2.2 = 0 then if F.2.1 = (s.l.length : Int) then if R.2 = true then if mayL R.1 = true then (R.1, 0) else (noDl, 1) else (noDl, 3) else (noDl, 16) else (noDl, F.2.2)) := by
 refine Ev.succ (Ev.bind hF (Ev.ite (fun c1 => Ev.ite (fun c2 => Ev.bind hR (Ev.ite (fun c3 => ?_) fun c3 => Ev.ret' ?_)) fun c2 => Ev.ret' ?_) fun c1 => Ev.ret' ?_)) (fun q => rfl)
 ·simp only at c1 c2
  have hb := h1 c3
  refine Ev.bind (zcg1 _ hb.1 hb.2) (Ev.ite (fun c4 => Ev.ret' ?_) fun c4 => Ev.ret' ?_)
  ·rw [if_pos c1, if_pos c2, if_pos c3, if_pos c4]
  ·rw [if_pos c1, if_pos c2, if_pos c3, if_neg c4]; rfl
 ·simp only at c1 c2; rw [if_pos c1, if_pos c2, if_neg c3]; rfl
 ·simp only at c1 c2; rw [if_pos c1, if_neg c2]; rfl
 ·simp only at c1; rw [if_neg c1]; rfl
theorem zciy (s : Sl Int) (hz : s.z = true → s.l = []) (hb : isB s.l) (hl : s.l.length ≤ 90000) : Ev (fun q => znc q s) (dcD s.l) := by
 obtain ⟨z, hF⟩ := zceh s hz hb (by omega)
 have hbd := zcek (l := s.l) hb
 have hsh := zciw hb hl
 exact zcix s z (decF s.l) (rdD (decF s.l).1) hF (zcio ⟨z, (decF s.l).1⟩ hbd (by simp only; omega)) fun c3 => by
  have hi := zcis hbd c3
  have hlg := zciv (rdD (decF s.l).1).1
  rw [hi] at hlg
  omega
theorem zciz {b : List Int} (hb : isB b) (h : (dcD b).2 = 0) : mayL (dcD b).1 = true ∧ encF (delD (dcD b).1) = b := by
 unfold dcD at h ⊢
 split at h
 ·rename_i c1
  split at h
  ·rename_i c2
   split at h
   ·rename_i c3
    split at h
    ·rename_i c4
     rw [if_pos c1, if_pos c2, if_pos c3, if_pos c4]
     refine ⟨c4, ?_⟩
     have hk := zcei (x := (decF b).1) (n := (decF b).2.1) hb (by rw [← c1])
     simp only
     rw [zcis (zcek hb) c3, hk.2.2.2.2, c2, y31, List.take_length]
    ·cases h
   ·cases h
  ·cases h
 ·rename_i c; exact absurd h c
theorem zci0 {b : List Int} (hb : isB b) (hl : b.length ≤ 90000) : (dcD b).1.Mid.l.length ≤ 90000 ∧ (dcD b).1.Table.l.length ≤ 90000 := by
 by_cases h : (dcD b).2 = 0
 ·have := zciz hb h
  have h1 := zciv (dcD b).1
  have h2 := zcgi (delD (dcD b).1)
  rw [this.2] at h2
  omega
 ·have : (dcD b).1 = noDl := by
   unfold dcD at h ⊢
   split at h
   ·split at h
    ·split at h
     ·split at h
      ·exact absurd rfl h
      ·rename_i c1 c2 c3 c4; rw [if_pos c1, if_pos c2, if_pos c3, if_neg c4]
     ·rename_i c1 c2 c3; rw [if_pos c1, if_pos c2, if_neg c3]
    ·rename_i c1 c2; rw [if_pos c1, if_neg c2]
   ·rename_i c1; rw [if_neg c1]
  rw [this]; simp [noDl]
theorem zci1 {u : Nat} (h : u < 18446744073709551616) : Ev (fun q => zom q (u : Int)) (zag u) := by
 have e1 : Int.tmod (u : Int) 2 = ((u % 2 : Nat) : Int) := by rw [y62 (by omega)]; omega
 have e2 : Int.tdiv (u : Int) 2 = ((u / 2 : Nat) : Int) := by rw [Int.tdiv_eq_ediv_of_nonneg (by omega)]; omega
 have e3 : wrp .i64 (wrp .u64 ((u / 2 : Nat) : Int)) = ((u / 2 : Nat) : Int) := by rw [zccn (by omega) (by omega), zccm (by omega) (by omega)]
 refine Ev.succ (g := fun _ => if (Int.tmod (u : Int) 2) = 0 then (some (wrp .i64 (wrp .u64 (Int.tdiv (u : Int) 2)))) else (some (wrp .i64 ((wrp .i64 (0 - (wrp .i64 (wrp .u64 (Int.tdiv (u : Int) 2))))) - 1)))) ?_ (fun q => rfl)
 simp only [e1, e2, e3]
 unfold zag
 refine Ev.ite (fun h => Ev.ret' ?_) fun h => Ev.ret' ?_
 ·rw [if_pos (by omega)]
 ·rw [if_neg (by omega), zccm (x := 0 - ((u / 2 : Nat) : Int)) (by omega) (by omega), zccm (by omega) (by omega)]; omega
theorem zci2 (s : Sl Int) (hb : isB s.l) (hL : s.l.length ≤ 1099511627776) : Ev (fun q => zon q s) (getS s.l) := by
 refine Ev.succ (Ev.bind (zcew s hb hL) ?_) (fun q => rfl)
 unfold getS
 cases h : rd 0 s.l with
 | none => exact Ev.pos (by simp [resN]) (Ev.ret _)
 | some p =>
  have h1 := rd_len h
  have h2 := rd_lt hb (by omega) h
  simp only [resN]
  exact Ev.neg (by simp; omega) (Ev.bind (zci1 (by simpa using h2)) (Ev.ret _))
theorem rGet (z : Bool) {l : List Int} (hb : isB l) (hl : l.length ≤ 1000000) : Ev (fun q => zoi q ⟨z, l⟩) (getN l) := zcex ⟨z, l⟩ hb (by simp only; omega)
theorem rGetS (z : Bool) {l : List Int} (hb : isB l) (hl : l.length ≤ 1000000) : Ev (fun q => zon q ⟨z, l⟩) (getS l) := zci2 ⟨z, l⟩ hb (by simp only; omega)
section
variable {R : Type}
theorem r1S (z : Bool) {b : List Int} (hb : isB b) (hlb : b.length ≤ 1000000) (f : Bool) {K : Nat → Int → List Int → Bool → Option R} {r : R} (h : Ev (fun q => K q (gS (b, f)).1 (gS (b, f)).2.1 (gS (b, f)).2.2) r) :
  Ev (fun q => (zon q ⟨z, b⟩).bind fun r2 => (if f = true then (if 0 ≤ r2.2 then (if r2.2 ≤ (b.length : Int) then K q r2.1 (List.drop r2.2.toNat b) (decide (0 < r2.2)) else none) else none) else (if 0 ≤ r2.2 then (if r2.2 ≤ (b.length : Int) then K q r2.1 (List.drop r2.2.toNat b) false else none) else none))) r := by
 have hl := zce7 (l := b)
 refine Ev.bind (rGetS z hb hlb) (Ev.ite (fun c => Ev.pos hl.1 (Ev.pos hl.2.1 ?_)) fun c => Ev.pos hl.1 (Ev.pos hl.2.1 ?_))
 ·rw [c] at h; simpa only [gS, y64] using h
 ·have c' : f = false := by simpa using c
  rw [c'] at h; simpa only [gS, Bool.false_and] using h
theorem r2N (z : Bool) {b : List Int} (hb : isB b) (hlb : b.length ≤ 1000000) (f : Bool) {S : R} {K : Nat → Int → List Int → Bool → Bool → Int → Option R} {r : R}
  (hs : 3 < (gN (b, f)).1 → r = S) (h : ¬ 3 < (gN (b, f)).1 → Ev (fun q => K q (gN (gN (b, f)).2).1 (gN (gN (b, f)).2).2.1 (gN (gN (b, f)).2).2.2 (decide (0 < (gN (b, f)).1)) (if 0 < (gN (b, f)).1 then wrp .i64 ((gN (b, f)).1 - 1) else 0)) r) :
  Ev (fun q => (zoi q ⟨z, b⟩).bind fun r1 => (if f = true then (if 0 ≤ r1.2 then (if r1.2 ≤ (b.length : Int) then (if 3 < r1.1 then (some S) else (if 0 < r1.1 then ((zoi q ⟨z, (List.drop r1.2.toNat b)⟩).bind fun r2 => (if 0 < r1.2 then (if 0 ≤ r2.2 then (if r2.2 ≤ (((b.length - r1.2.toNat) : Nat) : Int) then (K q r2.1 (List.drop r2.2.toNat (List.drop r1.2.toNat b)) (decide (0 < r2.2)) true (wrp .i64 (r1.1 - 1))) else none) else none) else (if 0 ≤ r2.2 then (if r2.2 ≤ (((b.length - r1.2.toNat) : Nat) : Int) then (K q r2.1 (List.drop r2.2.toNat (List.drop r1.2.toNat b)) false true (wrp .i64 (r1.1 - 1))) else none) else none))) else ((zoi q ⟨z, (List.drop r1.2.toNat b)⟩).bind fun r2 => (if 0 < r1.2 then (if 0 ≤ r2.2 then (if r2.2 ≤ (((b.length - r1.2.toNat) : Nat) : Int) then (K q r2.1 (List.drop r2.2.toNat (List.drop r1.2.toNat b)) (decide (0 < r2.2)) false 0) else none) else none) else (if 0 ≤ r2.2 then (if r2.2 ≤ (((b.length - r1.2.toNat) : Nat) : Int) then (K q r2.1 (List.drop r2.2.toNat (List.drop r1.2.toNat b)) false false 0) else none) else none))))) else none) else none) else (if 0 ≤ r1.2 then (if r1.2 ≤ (b.length : Int) then (if 3 < r1.1 then (some S) else (if 0 < r1.1 then ((zoi q ⟨z, (List.drop r1.2.toNat b)⟩).bind fun r2 => (if 0 ≤ r2.2 then (if r2.2 ≤ (((b.length - r1.2.toNat) : Nat) : Int) then (K q r2.1 (List.drop r2.2.toNat (List.drop r1.2.toNat b)) false true (wrp .i64 (r1.1 - 1))) else none) else none)) else ((zoi q ⟨z, (List.drop r1.2.toNat b)⟩).bind fun r2 => (if 0 ≤ r2.2 then (if r2.2 ≤ (((b.length - r1.2.toNat) : Nat) : Int) then (K q r2.1 (List.drop r2.2.toNat (List.drop r1.2.toNat b)) false false 0) else none) else none)))) else none) else none))) r := by
 have hl := zcd9 (l := b)
 have hb2 := zceg hb (getN b).2.toNat
 have hlb2 : (b.drop (getN b).2.toNat).length ≤ 1000000 := by rw [y16]; omega
 have hl2 := zcd9 (l := b.drop (getN b).2.toNat)
 have hle : (getN (b.drop (getN b).2.toNat)).2 ≤ (((b.length - (getN b).2.toNat) : Nat) : Int) := by have := hl2.2.1; rw [y16] at this; exact this
 refine Ev.bind (rGet z hb hlb) ?_
 by_cases c : f = true
 ·rw [c] at h hs
  refine Ev.pos c (Ev.pos hl.1 (Ev.pos hl.2.1 ?_))
  by_cases s : 3 < (getN b).1
  ·exact Ev.pos s (Ev.ret' (hs s).symm)
  ·refine Ev.neg s ?_
   replace h := h s
   simp only [gN, y64] at h
   by_cases p : 0 < (getN b).1
   ·simp only [if_pos p, decide_eq_true p] at h
    refine Ev.pos p (Ev.bind (rGet z hb2 hlb2) ?_)
    by_cases e : 0 < (getN b).2
    ·simp only [decide_eq_true e, y64] at h
     exact Ev.pos e (Ev.pos hl2.1 (Ev.pos hle h))
    ·simp only [decide_eq_false e, Bool.false_and] at h
     exact Ev.neg e (Ev.pos hl2.1 (Ev.pos hle h))
   ·simp only [if_neg p, decide_eq_false p] at h
    refine Ev.neg p (Ev.bind (rGet z hb2 hlb2) ?_)
    by_cases e : 0 < (getN b).2
    ·simp only [decide_eq_true e, y64] at h
     exact Ev.pos e (Ev.pos hl2.1 (Ev.pos hle h))
    ·simp only [decide_eq_false e, Bool.false_and] at h
     exact Ev.neg e (Ev.pos hl2.1 (Ev.pos hle h))
 ·have c' : f = false := by simpa using c
  rw [c'] at h hs
  refine Ev.neg c (Ev.pos hl.1 (Ev.pos hl.2.1 ?_))
  by_cases s : 3 < (getN b).1
  ·exact Ev.pos s (Ev.ret' (hs s).symm)
  ·refine Ev.neg s ?_
   replace h := h s
   simp only [gN, Bool.false_and] at h
   by_cases p : 0 < (getN b).1
   ·simp only [if_pos p, decide_eq_true p] at h
    exact Ev.pos p (Ev.bind (rGet z hb2 hlb2) (Ev.pos hl2.1 (Ev.pos hle h)))
   ·simp only [if_neg p, decide_eq_false p] at h
    exact Ev.neg p (Ev.bind (rGet z hb2 hlb2) (Ev.pos hl2.1 (Ev.pos hle h)))
theorem r3E (z : Bool) {b : List Int} (hb : isB b) (hlb : b.length ≤ 1000000) {K : Nat → Int → Int → Int → List Int → Bool → Option R} {r : R}
  (h : Ev (fun q => K q (gN (b, true)).1 (gN (gN (b, true)).2).1 (gS (gN (gN (b, true)).2).2).1 (gS (gN (gN (b, true)).2).2).2.1 (gS (gN (gN (b, true)).2).2).2.2) r) :
  Ev (fun q => (zoi q ⟨z, b⟩).bind fun r1 => (if 0 ≤ r1.2 then (if r1.2 ≤ (b.length : Int) then ((zoi q ⟨z, (List.drop r1.2.toNat b)⟩).bind fun r2 => (if 0 < r1.2 then (if 0 ≤ r2.2 then (if r2.2 ≤ (((b.length - r1.2.toNat) : Nat) : Int) then ((zon q ⟨z, (List.drop r2.2.toNat (List.drop r1.2.toNat b))⟩).bind fun r3 => (if 0 < r2.2 then (if 0 ≤ r3.2 then (if r3.2 ≤ ((((b.length - r1.2.toNat) - r2.2.toNat) : Nat) : Int) then (K q r1.1 r2.1 r3.1 (List.drop r3.2.toNat (List.drop r2.2.toNat (List.drop r1.2.toNat b))) (decide (0 < r3.2))) else none) else none) else (if 0 ≤ r3.2 then (if r3.2 ≤ ((((b.length - r1.2.toNat) - r2.2.toNat) : Nat) : Int) then (K q r1.1 r2.1 r3.1 (List.drop r3.2.toNat (List.drop r2.2.toNat (List.drop r1.2.toNat b))) false) else none) else none))) else none) else none) else (if 0 ≤ r2.2 then (if r2.2 ≤ (((b.length - r1.2.toNat) : Nat) : Int) then ((zon q ⟨z, (List.drop r2.2.toNat (List.drop r1.2.toNat b))⟩).bind fun r3 => (if 0 ≤ r3.2 then (if r3.2 ≤ ((((b.length - r1.2.toNat) - r2.2.toNat) : Nat) : Int) then (K q r1.1 r2.1 r3.1 (List.drop r3.2.toNat (List.drop r2.2.toNat (List.drop r1.2.toNat b))) false) else none) else none)) else none) else none))) else none) else none)) r := by
 have hl := zcd9 (l := b)
 have hb2 := zceg hb (getN b).2.toNat
 have hlb2 : (b.drop (getN b).2.toNat).length ≤ 1000000 := by rw [y16]; omega
 have hl2 := zcd9 (l := b.drop (getN b).2.toNat)
 have hle : (getN (b.drop (getN b).2.toNat)).2 ≤ (((b.length - (getN b).2.toNat) : Nat) : Int) := by have := hl2.2.1; rw [y16] at this; exact this
 have hb3 := zceg hb2 (getN (b.drop (getN b).2.toNat)).2.toNat
 have hlb3 : ((b.drop (getN b).2.toNat).drop (getN (b.drop (getN b).2.toNat)).2.toNat).length ≤ 1000000 := by rw [y16]; omega
 have hl3 := zce7 (l := (b.drop (getN b).2.toNat).drop (getN (b.drop (getN b).2.toNat)).2.toNat)
 have hle3 : (getS ((b.drop (getN b).2.toNat).drop (getN (b.drop (getN b).2.toNat)).2.toNat)).2 ≤ ((((b.length - (getN b).2.toNat) - (getN (b.drop (getN b).2.toNat)).2.toNat) : Nat) : Int) := by have := hl3.2.1; rw [y16, y16] at this; exact this
 simp only [gN, gS, y64] at h
 refine Ev.bind (rGet z hb hlb) (Ev.pos hl.1 (Ev.pos hl.2.1 (Ev.bind (rGet z hb2 hlb2) ?_)))
 by_cases e1 : 0 < (getN b).2
 ·simp only [decide_eq_true e1, y64] at h
  refine Ev.pos e1 (Ev.pos hl2.1 (Ev.pos hle (Ev.bind (rGetS z hb3 hlb3) ?_)))
  by_cases e2 : 0 < (getN (b.drop (getN b).2.toNat)).2
  ·simp only [decide_eq_true e2, y64] at h
   exact Ev.pos e2 (Ev.pos hl3.1 (Ev.pos hle3 h))
  ·simp only [decide_eq_false e2, Bool.false_and] at h
   exact Ev.neg e2 (Ev.pos hl3.1 (Ev.pos hle3 h))
 ·simp only [decide_eq_false e1, Bool.false_and] at h
  exact Ev.neg e1 (Ev.pos hl2.1 (Ev.pos hle (Ev.bind (rGetS z hb3 hlb3) (Ev.pos hl3.1 (Ev.pos hle3 h)))))
end
theorem gS_le (r : List Int × Bool) : (gS r).2.1.length ≤ r.1.length := by simp only [gS, y16]; omega
theorem rl5_ev (d0 d1 d2 d3 : Int) (s5 : Bool) (s6 : Int) (z : Bool) (many : Nat) (hm : many < 4611686018427387904) (h3l : List Int) : ∀ (k i : Nat) (b : List Int) (f : Bool) (acc : List zjq), many = i + k → isB b → b.length ≤ 1000000 → (f = true → acc.length + b.length ≤ 1000000) →
  Ev (fun q => zoo q (many : Int) (i : Int) z b f d0 d1 d2 d3 s5 s6 h3l acc) ((⟨d0, d1, d2, d3, ⟨false, h3l⟩, s5, s6, ⟨false, acc ++ (entsR k (b, f)).1⟩⟩ : zjs), (entsR k (b, f)).2.2 && decide (((entsR k (b, f)).2.1.length : Int) = 0))
 | 0, i, b, f, acc, hk, hb, hlb, ha => by
  simp only [entsR, List.append_nil]
  refine Ev.succ (Ev.ne (Ev.ite (fun c => Ev.ret' ?_) fun c => Ev.ret' ?_)) (fun q => rfl)
  ·rw [c]; rfl
  ·rw [show f = false by simpa using c]; rfl
 | k + 1, i, b, f, acc, hk, hb, hlb, ha => by
  by_cases c : f = true
  ·rw [c]
   have hb1 := gN_isB (r := (b, true)) hb
   have hb2 := gN_isB (r := (gN (b, true)).2) hb1
   have l1 := gN_le (b, true); have l2 := gN_le (gN (b, true)).2; have l3 := gS_le (gN (gN (b, true)).2).2
   have ih := rl5_ev d0 d1 d2 d3 s5 s6 z many hm h3l k (i + 1) (gS (gN (gN (b, true)).2).2).2.1 (gS (gN (gN (b, true)).2).2).2.2 (acc ++ [⟨(gN (b, true)).1, (gN (gN (b, true)).2).1, (gS (gN (gN (b, true)).2).2).1⟩]) (by omega) (gS_isB (r := (gN (gN (b, true)).2).2) hb2) (by simp only at l1; omega) (fun e => by
    have g3 := zcie e
    have g2 := zcid g3.1
    have g1 := zcid g2.1
    have := ha c
    simp only [y13, y24, y28] at g1 ⊢; omega)
   rw [show ((i + 1 : Nat) : Int) = wrp .i64 ((i : Int) + 1) by rw [zccm (by omega) (by omega)]; omega] at ih
   have hal := ha c
   have hK := r3E z hb hlb (K := fun q p1 p2 p3 b' f' => (if (acc.length + 1) ≤ 4294967296 then (zoo q (many : Int) (wrp .i64 ((i : Int) + 1)) z b' f' d0 d1 d2 d3 s5 s6 h3l (acc ++ [(⟨p1, p2, p3⟩ : zjq)])) else none)) (Ev.pos (by omega) ih)
   rw [zcic]
   refine Ev.succ (Ev.po (Ev.pos rfl (Ev.cast hK ?_))) (fun q => rfl)
   simp only [y36, List.singleton_append]
  ·rw [zcib _ (show (b, f).2 ≠ true from c), List.append_nil]
   have c' : f = false := by simpa using c
   refine Ev.succ (Ev.po (Ev.neg c (Ev.ret' ?_))) (fun q => rfl)
   rw [c']; rfl
theorem rl3_ev (d0 d1 d2 d3 : Int) (s5 : Bool) (s6 : Int) (z : Bool) (many : Nat) (hm : many < 4611686018427387904) (h3l : List Int) (b : List Int) (f : Bool) (hb : isB b) (hlb : b.length ≤ 100000) :
  Ev (fun q => zop q (many : Int) z b f d0 d1 d2 d3 s5 s6 h3l) ((⟨d0, d1, d2, d3, ⟨false, h3l⟩, s5, s6, ⟨(entsR many (b, f)).1.isEmpty, (entsR many (b, f)).1⟩⟩ : zjs), (entsR many (b, f)).2.2 && decide (((entsR many (b, f)).2.1.length : Int) = 0)) := by
 by_cases h0 : many = 0
 ·have hn : entsR many (b, f) = ([], (b, f)) := by rw [h0]; rfl
  rw [hn]
  refine Ev.succ (Ev.ne (Ev.ite (fun c => Ev.ret' ?_) fun c => Ev.ret' ?_)) (fun q => rfl)
  ·rw [c]; rfl
  ·rw [show f = false by simpa using c]; rfl
 ·obtain ⟨k, hk⟩ : ∃ k, many = k + 1 := ⟨many - 1, by omega⟩
  by_cases c : f = true
  ·rw [c]
   have hb1 := gN_isB (r := (b, true)) hb
   have hb2 := gN_isB (r := (gN (b, true)).2) hb1
   have l1 := gN_le (b, true); have l2 := gN_le (gN (b, true)).2; have l3 := gS_le (gN (gN (b, true)).2).2
   have ih := rl5_ev d0 d1 d2 d3 s5 s6 z many hm h3l k 1 (gS (gN (gN (b, true)).2).2).2.1 (gS (gN (gN (b, true)).2).2).2.2 [⟨(gN (b, true)).1, (gN (gN (b, true)).2).1, (gS (gN (gN (b, true)).2).2).1⟩] (by omega) (gS_isB (r := (gN (gN (b, true)).2).2) hb2) (by simp only at l1; omega) (fun e => by
    simp only [y24, y28] at l1 ⊢; omega)
   rw [show ((1 : Nat) : Int) = wrp .i64 1 by rw [zccm (by omega) (by omega)]; rfl] at ih
   have hK := r3E z hb (by omega) (K := fun q p1 p2 p3 b' f' => (zoo q (many : Int) (wrp .i64 1) z b' f' d0 d1 d2 d3 s5 s6 h3l [(⟨p1, p2, p3⟩ : zjq)])) ih
   have hE := zcic k b
   rw [← hk] at hE
   rw [hE]
   exact Ev.succ (Ev.po (Ev.pos rfl hK)) (fun q => rfl)
  ·rw [zcib _ (show (b, f).2 ≠ true from c)]
   have c' : f = false := by simpa using c
   refine Ev.succ (Ev.po (Ev.neg c (Ev.ret' ?_))) (fun q => rfl)
   rw [c']; rfl
theorem rl4_ev (d0 d1 d2 d3 : Int) (s5 : Bool) (s6 : Int) (z : Bool) (many : Nat) (hm : many < 4611686018427387904) : ∀ (k i : Nat) (b : List Int) (f : Bool) (acc : List zjq), many = i + k → isB b → b.length ≤ 1000000 → (f = true → acc.length + b.length ≤ 1000000) →
  Ev (fun q => zor q (many : Int) (i : Int) z b f d0 d1 d2 d3 s5 s6 acc) ((⟨d0, d1, d2, d3, ⟨true, []⟩, s5, s6, ⟨false, acc ++ (entsR k (b, f)).1⟩⟩ : zjs), (entsR k (b, f)).2.2 && decide (((entsR k (b, f)).2.1.length : Int) = 0))
 | 0, i, b, f, acc, hk, hb, hlb, ha => by
  simp only [entsR, List.append_nil]
  refine Ev.succ (Ev.ne (Ev.ite (fun c => Ev.ret' ?_) fun c => Ev.ret' ?_)) (fun q => rfl)
  ·rw [c]; rfl
  ·rw [show f = false by simpa using c]; rfl
 | k + 1, i, b, f, acc, hk, hb, hlb, ha => by
  by_cases c : f = true
  ·rw [c]
   have hb1 := gN_isB (r := (b, true)) hb
   have hb2 := gN_isB (r := (gN (b, true)).2) hb1
   have l1 := gN_le (b, true); have l2 := gN_le (gN (b, true)).2; have l3 := gS_le (gN (gN (b, true)).2).2
   have ih := rl4_ev d0 d1 d2 d3 s5 s6 z many hm k (i + 1) (gS (gN (gN (b, true)).2).2).2.1 (gS (gN (gN (b, true)).2).2).2.2 (acc ++ [⟨(gN (b, true)).1, (gN (gN (b, true)).2).1, (gS (gN (gN (b, true)).2).2).1⟩]) (by omega) (gS_isB (r := (gN (gN (b, true)).2).2) hb2) (by simp only at l1; omega) (fun e => by
    have g3 := zcie e
    have g2 := zcid g3.1
    have g1 := zcid g2.1
    have := ha c
    simp only [y13, y24, y28] at g1 ⊢; omega)
   rw [show ((i + 1 : Nat) : Int) = wrp .i64 ((i : Int) + 1) by rw [zccm (by omega) (by omega)]; omega] at ih
   have hal := ha c
   have hK := r3E z hb hlb (K := fun q p1 p2 p3 b' f' => (if (acc.length + 1) ≤ 4294967296 then (zor q (many : Int) (wrp .i64 ((i : Int) + 1)) z b' f' d0 d1 d2 d3 s5 s6 (acc ++ [(⟨p1, p2, p3⟩ : zjq)])) else none)) (Ev.pos (by omega) ih)
   rw [zcic]
   refine Ev.succ (Ev.po (Ev.pos rfl (Ev.cast hK ?_))) (fun q => rfl)
   simp only [y36, List.singleton_append]
  ·rw [zcib _ (show (b, f).2 ≠ true from c), List.append_nil]
   have c' : f = false := by simpa using c
   refine Ev.succ (Ev.po (Ev.neg c (Ev.ret' ?_))) (fun q => rfl)
   rw [c']; rfl
theorem rl2_ev (d0 d1 d2 d3 : Int) (s5 : Bool) (s6 : Int) (z : Bool) (many : Nat) (hm : many < 4611686018427387904) (b : List Int) (f : Bool) (hb : isB b) (hlb : b.length ≤ 100000) :
  Ev (fun q => zos q (many : Int) z b f d0 d1 d2 d3 s5 s6) ((⟨d0, d1, d2, d3, ⟨true, []⟩, s5, s6, ⟨(entsR many (b, f)).1.isEmpty, (entsR many (b, f)).1⟩⟩ : zjs), (entsR many (b, f)).2.2 && decide (((entsR many (b, f)).2.1.length : Int) = 0)) := by
 by_cases h0 : many = 0
 ·have hn : entsR many (b, f) = ([], (b, f)) := by rw [h0]; rfl
  rw [hn]
  refine Ev.succ (Ev.ne (Ev.ite (fun c => Ev.ret' ?_) fun c => Ev.ret' ?_)) (fun q => rfl)
  ·rw [c]; rfl
  ·rw [show f = false by simpa using c]; rfl
 ·obtain ⟨k, hk⟩ : ∃ k, many = k + 1 := ⟨many - 1, by omega⟩
  by_cases c : f = true
  ·rw [c]
   have hb1 := gN_isB (r := (b, true)) hb
   have hb2 := gN_isB (r := (gN (b, true)).2) hb1
   have l1 := gN_le (b, true); have l2 := gN_le (gN (b, true)).2; have l3 := gS_le (gN (gN (b, true)).2).2
   have ih := rl4_ev d0 d1 d2 d3 s5 s6 z many hm k 1 (gS (gN (gN (b, true)).2).2).2.1 (gS (gN (gN (b, true)).2).2).2.2 [⟨(gN (b, true)).1, (gN (gN (b, true)).2).1, (gS (gN (gN (b, true)).2).2).1⟩] (by omega) (gS_isB (r := (gN (gN (b, true)).2).2) hb2) (by simp only at l1; omega) (fun e => by
    simp only [y24, y28] at l1 ⊢; omega)
   rw [show ((1 : Nat) : Int) = wrp .i64 1 by rw [zccm (by omega) (by omega)]; rfl] at ih
   have hK := r3E z hb (by omega) (K := fun q p1 p2 p3 b' f' => (zor q (many : Int) (wrp .i64 1) z b' f' d0 d1 d2 d3 s5 s6 [(⟨p1, p2, p3⟩ : zjq)])) ih
   have hE := zcic k b
   rw [← hk] at hE
   rw [hE]
   exact Ev.succ (Ev.po (Ev.pos rfl hK)) (fun q => rfl)
  ·rw [zcib _ (show (b, f).2 ≠ true from c)]
   have c' : f = false := by simpa using c
   refine Ev.succ (Ev.po (Ev.neg c (Ev.ret' ?_))) (fun q => rfl)
   rw [c']; rfl
theorem zci3 (d0 d1 d2 d3 : Int) (z : Bool) (m i : Int) (acc : List Int) (b : List Int) (f : Bool) (hi : ¬ i < m) (hb : isB b) (hl : b.length ≤ 100000) : Ev (fun q => zoq q m i z b f d0 d1 d2 d3 acc) (tlD d0 d1 d2 d3 ⟨false, acc⟩ (b, f)) := by
 have hb1 := gN_isB (r := (b, f)) hb
 have hb2 := gN_isB (r := (gN (b, f)).2) hb1
 have l1 := gN_le (b, f); have l2 := gN_le (gN (b, f)).2
 have r1 := gN_rng (b, f); have r2 := gN_rng (gN (b, f)).2
 have h2 := r2N z hb (by omega) f (S := ((⟨d0, d1, d2, d3, ⟨false, acc⟩, false, 0, ⟨true, []⟩⟩ : zjs), false)) (K := fun q v b' f' s5 s6 => zop q v z b' f' d0 d1 d2 d3 s5 s6 acc) (r := tlD d0 d1 d2 d3 ⟨false, acc⟩ (b, f)) (fun c => by unfold tlD; rw [if_pos c]) (fun c => by
   unfold tlD
   rw [if_neg c]
   have h3 := rl3_ev d0 d1 d2 d3 (decide (0 < (gN (b, f)).1)) (if (gN (b, f)).1 - 1 < 0 then 0 else (gN (b, f)).1 - 1) z (gN (gN (b, f)).2).1.toNat (by omega) acc (gN (gN (b, f)).2).2.1 (gN (gN (b, f)).2).2.2 hb2 (by simp only at l1; omega)
   have e : (if 0 < (gN (b, f)).1 then wrp .i64 ((gN (b, f)).1 - 1) else 0) = (if (gN (b, f)).1 - 1 < 0 then 0 else (gN (b, f)).1 - 1) := by
    rw [zccm (by omega) (by omega)]; split <;> split <;> omega
   rw [← e, show ((((gN (gN (b, f)).2).1.toNat : Nat)) : Int) = (gN (gN (b, f)).2).1 by omega] at h3
   refine Ev.cast h3 ?_
   rw [e])
 exact Ev.succ (Ev.neg hi h2) (fun q => rfl)
theorem zci4 (d0 d1 d2 d3 : Int) (z : Bool) (m : Int) (b : List Int) (f : Bool) (hi : ¬ 0 < m) (hb : isB b) (hl : b.length ≤ 100000) : Ev (fun q => zot q m z b f d0 d1 d2 d3) (tlD d0 d1 d2 d3 ⟨true, []⟩ (b, f)) := by
 have hb1 := gN_isB (r := (b, f)) hb
 have hb2 := gN_isB (r := (gN (b, f)).2) hb1
 have l1 := gN_le (b, f); have l2 := gN_le (gN (b, f)).2
 have r1 := gN_rng (b, f); have r2 := gN_rng (gN (b, f)).2
 have h2 := r2N z hb (by omega) f (S := ((⟨d0, d1, d2, d3, ⟨true, []⟩, false, 0, ⟨true, []⟩⟩ : zjs), false)) (K := fun q v b' f' s5 s6 => zos q v z b' f' d0 d1 d2 d3 s5 s6) (r := tlD d0 d1 d2 d3 ⟨true, []⟩ (b, f)) (fun c => by unfold tlD; rw [if_pos c]) (fun c => by
   unfold tlD
   rw [if_neg c]
   have h3 := rl2_ev d0 d1 d2 d3 (decide (0 < (gN (b, f)).1)) (if (gN (b, f)).1 - 1 < 0 then 0 else (gN (b, f)).1 - 1) z (gN (gN (b, f)).2).1.toNat (by omega) (gN (gN (b, f)).2).2.1 (gN (gN (b, f)).2).2.2 hb2 (by simp only at l1; omega)
   have e : (if 0 < (gN (b, f)).1 then wrp .i64 ((gN (b, f)).1 - 1) else 0) = (if (gN (b, f)).1 - 1 < 0 then 0 else (gN (b, f)).1 - 1) := by
    rw [zccm (by omega) (by omega)]; split <;> split <;> omega
   rw [← e, show ((((gN (gN (b, f)).2).1.toNat : Nat)) : Int) = (gN (gN (b, f)).2).1 by omega] at h3
   refine Ev.cast h3 ?_
   rw [e])
 exact Ev.succ (Ev.neg hi h2) (fun q => rfl)
theorem zci5 (d0 d1 d2 d3 : Int) (z : Bool) (m : Nat) (hm : m ≤ 128) : ∀ (k i : Nat) (b : List Int) (f : Bool) (acc : List Int), m = i + k → acc.length = i → isB b → b.length ≤ 100000 →
  Ev (fun q => zoq q (m : Int) (i : Int) z b f d0 d1 d2 d3 acc) (tlD d0 d1 d2 d3 ⟨false, acc ++ (numsR k (b, f)).1⟩ (numsR k (b, f)).2)
 | 0, i, b, f, acc, hk, ha, hb, hl => by
  simp only [numsR, List.append_nil]
  exact zci3 d0 d1 d2 d3 z (m : Int) (i : Int) acc b f (by omega) hb hl
 | k + 1, i, b, f, acc, hk, ha, hb, hl => by
  have hb1 := gS_isB (r := (b, f)) hb
  have hl1 : (gS (b, f)).2.1.length ≤ b.length := by simp only [gS, y16]; omega
  have ih := zci5 d0 d1 d2 d3 z m hm k (i + 1) (gS (b, f)).2.1 (gS (b, f)).2.2 (acc ++ [(gS (b, f)).1]) (by omega) (by rw [y13, List.length_singleton]; omega) hb1 (by omega)
  rw [show ((i + 1 : Nat) : Int) = wrp .i64 ((i : Int) + 1) by rw [zccm (by omega) (by omega)]; omega] at ih
  have hK := r1S z hb (by omega) f (K := fun q v' b' f' => (if (acc.length + 1) ≤ 4294967296 then (zoq q (m : Int) (wrp .i64 ((i : Int) + 1)) z b' f' d0 d1 d2 d3 (acc ++ [v'])) else none)) (Ev.pos (by omega) ih)
  refine Ev.succ (Ev.po (Ev.cast hK ?_)) (fun q => rfl)
  simp only [numsR, y36, List.singleton_append]
theorem zci6 (d0 d1 d2 d3 : Int) (z : Bool) (m : Nat) (hm : m ≤ 128) (b : List Int) (f : Bool) (hb : isB b) (hl : b.length ≤ 100000) :
  Ev (fun q => zot q (m : Int) z b f d0 d1 d2 d3) (tlD d0 d1 d2 d3 ⟨(numsR m (b, f)).1.isEmpty, (numsR m (b, f)).1⟩ (numsR m (b, f)).2) := by
 by_cases h0 : m = 0
 ·have hn : numsR m (b, f) = ([], (b, f)) := by rw [h0]; rfl
  rw [hn]
  exact zci4 d0 d1 d2 d3 z (m : Int) b f (by omega) hb hl
 ·obtain ⟨k, hk⟩ : ∃ k, m = k + 1 := ⟨m - 1, by omega⟩
  have hb1 := gS_isB (r := (b, f)) hb
  have hl1 : (gS (b, f)).2.1.length ≤ b.length := by simp only [gS, y16]; omega
  have ih := zci5 d0 d1 d2 d3 z m hm k 1 (gS (b, f)).2.1 (gS (b, f)).2.2 [(gS (b, f)).1] (by omega) rfl hb1 (by omega)
  rw [show ((1 : Nat) : Int) = wrp .i64 1 by rw [zccm (by omega) (by omega)]; rfl] at ih
  have hK := r1S z hb (by omega) f (K := fun q v' b' f' => (zoq q (m : Int) (wrp .i64 1) z b' f' d0 d1 d2 d3 [v'])) ih
  have hE : numsR m (b, f) = ((gS (b, f)).1 :: (numsR k (gS (b, f)).2).1, (numsR k (gS (b, f)).2).2) := by rw [hk]; rfl
  rw [hE]
  exact Ev.succ (Ev.pos (by omega) hK) (fun q => rfl)
theorem zci7 {b : List Int} (hb : isB b) (h : (rdD b).2 = true) : (n1 b).2.2 = true ∧ (n2 b).2.2 = true ∧ (n3 b).2.2 = true ∧ (n4 b).2.2 = true ∧ (n5 b).2.2 = true := by
 have b1 : isB (n1 b).2.1 := gN_isB (r := (b, true)) hb
 have b2 : isB (n2 b).2.1 := gN_isB (r := (n1 b).2) b1
 have b3 : isB (n3 b).2.1 := gN_isB (r := (n2 b).2) b2
 have b4 : isB (n4 b).2.1 := gN_isB (r := (n3 b).2) b3
 have b5 : isB (n5 b).2.1 := gN_isB (r := (n4 b).2) b4
 unfold rdD at h
 split at h
 ·cases h
 ·obtain ⟨t1, _⟩ := zcir (zcij b5).1 h
  obtain ⟨h5, _⟩ := zciq _ _ b5 t1
  obtain ⟨h4, _⟩ := gN_app (r := (n4 b).2) b4 h5
  obtain ⟨h3, _⟩ := gN_app (r := (n3 b).2) b3 h4
  obtain ⟨h2, _⟩ := gN_app (r := (n2 b).2) b2 h3
  obtain ⟨h1, _⟩ := gN_app (r := (n1 b).2) b1 h2
  exact ⟨h1, h2, h3, h4, h5⟩
theorem zci8 (z : Bool) (b : List Int) (hb : isB b) (hl : b.length ≤ 100000) : ∃ d, Ev (fun q => zou q ⟨z, b⟩) (d, (rdD b).2) ∧ ((rdD b).2 = true → d = (rdD b).1) := by
 obtain ⟨x1, hx1⟩ : ∃ x, x = getN b := ⟨_, rfl⟩
 have kn10 := zcd9 (l := b)
 rw [← hx1] at kn10
 have kn1 : 0 ≤ x1.2 ∧ x1.2 ≤ ((b.length : Nat) : Int) := by have := kn10.2.1; exact ⟨kn10.1, this⟩
 have kz1 : b.length ≤ 100000 := by exact hl
 have kg1 : Ev (fun q => zoi q ⟨z, b⟩) x1 := by rw [hx1]; exact rGet z hb (by omega)
 have kb1 : isB (List.drop x1.2.toNat b) := zceg hb _
 obtain ⟨x2, hx2⟩ : ∃ x, x = getN (List.drop x1.2.toNat b) := ⟨_, rfl⟩
 have kn20 := zcd9 (l := (List.drop x1.2.toNat b))
 rw [← hx2] at kn20
 have kn2 : 0 ≤ x2.2 ∧ x2.2 ≤ (((b.length - x1.2.toNat) : Nat) : Int) := by have := kn20.2.1; simp only [y16] at this; exact ⟨kn20.1, this⟩
 have kz2 : (List.drop x1.2.toNat b).length ≤ 100000 := by simp only [y16]; omega
 have kg2 : Ev (fun q => zoi q ⟨z, (List.drop x1.2.toNat b)⟩) x2 := by rw [hx2]; exact rGet z kb1 (by omega)
 have kb2 : isB (List.drop x2.2.toNat (List.drop x1.2.toNat b)) := zceg kb1 _
 obtain ⟨x3, hx3⟩ : ∃ x, x = getN (List.drop x2.2.toNat (List.drop x1.2.toNat b)) := ⟨_, rfl⟩
 have kn30 := zcd9 (l := (List.drop x2.2.toNat (List.drop x1.2.toNat b)))
 rw [← hx3] at kn30
 have kn3 : 0 ≤ x3.2 ∧ x3.2 ≤ ((((b.length - x1.2.toNat) - x2.2.toNat) : Nat) : Int) := by have := kn30.2.1; simp only [y16] at this; exact ⟨kn30.1, this⟩
 have kz3 : (List.drop x2.2.toNat (List.drop x1.2.toNat b)).length ≤ 100000 := by simp only [y16]; omega
 have kg3 : Ev (fun q => zoi q ⟨z, (List.drop x2.2.toNat (List.drop x1.2.toNat b))⟩) x3 := by rw [hx3]; exact rGet z kb2 (by omega)
 have kb3 : isB (List.drop x3.2.toNat (List.drop x2.2.toNat (List.drop x1.2.toNat b))) := zceg kb2 _
 obtain ⟨x4, hx4⟩ : ∃ x, x = getN (List.drop x3.2.toNat (List.drop x2.2.toNat (List.drop x1.2.toNat b))) := ⟨_, rfl⟩
 have kn40 := zcd9 (l := (List.drop x3.2.toNat (List.drop x2.2.toNat (List.drop x1.2.toNat b))))
 rw [← hx4] at kn40
 have kn4 : 0 ≤ x4.2 ∧ x4.2 ≤ (((((b.length - x1.2.toNat) - x2.2.toNat) - x3.2.toNat) : Nat) : Int) := by have := kn40.2.1; simp only [y16] at this; exact ⟨kn40.1, this⟩
 have kz4 : (List.drop x3.2.toNat (List.drop x2.2.toNat (List.drop x1.2.toNat b))).length ≤ 100000 := by simp only [y16]; omega
 have kg4 : Ev (fun q => zoi q ⟨z, (List.drop x3.2.toNat (List.drop x2.2.toNat (List.drop x1.2.toNat b)))⟩) x4 := by rw [hx4]; exact rGet z kb3 (by omega)
 have kb4 : isB (List.drop x4.2.toNat (List.drop x3.2.toNat (List.drop x2.2.toNat (List.drop x1.2.toNat b)))) := zceg kb3 _
 obtain ⟨x5, hx5⟩ : ∃ x, x = getN (List.drop x4.2.toNat (List.drop x3.2.toNat (List.drop x2.2.toNat (List.drop x1.2.toNat b)))) := ⟨_, rfl⟩
 have kn50 := zcd9 (l := (List.drop x4.2.toNat (List.drop x3.2.toNat (List.drop x2.2.toNat (List.drop x1.2.toNat b)))))
 rw [← hx5] at kn50
 have kn5 : 0 ≤ x5.2 ∧ x5.2 ≤ ((((((b.length - x1.2.toNat) - x2.2.toNat) - x3.2.toNat) - x4.2.toNat) : Nat) : Int) := by have := kn50.2.1; simp only [y16] at this; exact ⟨kn50.1, this⟩
 have kz5 : (List.drop x4.2.toNat (List.drop x3.2.toNat (List.drop x2.2.toNat (List.drop x1.2.toNat b)))).length ≤ 100000 := by simp only [y16]; omega
 have kg5 : Ev (fun q => zoi q ⟨z, (List.drop x4.2.toNat (List.drop x3.2.toNat (List.drop x2.2.toNat (List.drop x1.2.toNat b))))⟩) x5 := by rw [hx5]; exact rGet z kb4 (by omega)
 have kb5 : isB (List.drop x5.2.toNat (List.drop x4.2.toNat (List.drop x3.2.toNat (List.drop x2.2.toNat (List.drop x1.2.toNat b))))) := zceg kb4 _
 have kz6 : (List.drop x5.2.toNat (List.drop x4.2.toNat (List.drop x3.2.toNat (List.drop x2.2.toNat (List.drop x1.2.toNat b))))).length ≤ 100000 := by simp only [y16]; omega
 obtain ⟨f1, hf1⟩ : ∃ y, y = (true && decide (0 < x1.2)) := ⟨_, rfl⟩
 have en1 : n1 b = (x1.1, (List.drop x1.2.toNat b), f1) := by unfold n1 gN; simp only; rw [← hx1, ← hf1]
 obtain ⟨f2, hf2⟩ : ∃ y, y = (f1 && decide (0 < x2.2)) := ⟨_, rfl⟩
 have en2 : n2 b = (x2.1, (List.drop x2.2.toNat (List.drop x1.2.toNat b)), f2) := by unfold n2; rw [en1]; unfold gN; simp only; rw [← hx2, ← hf2]
 obtain ⟨f3, hf3⟩ : ∃ y, y = (f2 && decide (0 < x3.2)) := ⟨_, rfl⟩
 have en3 : n3 b = (x3.1, (List.drop x3.2.toNat (List.drop x2.2.toNat (List.drop x1.2.toNat b))), f3) := by unfold n3; rw [en2]; unfold gN; simp only; rw [← hx3, ← hf3]
 obtain ⟨f4, hf4⟩ : ∃ y, y = (f3 && decide (0 < x4.2)) := ⟨_, rfl⟩
 have en4 : n4 b = (x4.1, (List.drop x4.2.toNat (List.drop x3.2.toNat (List.drop x2.2.toNat (List.drop x1.2.toNat b)))), f4) := by unfold n4; rw [en3]; unfold gN; simp only; rw [← hx4, ← hf4]
 obtain ⟨f5, hf5⟩ : ∃ y, y = (f4 && decide (0 < x5.2)) := ⟨_, rfl⟩
 have en5 : n5 b = (x5.1, (List.drop x5.2.toNat (List.drop x4.2.toNat (List.drop x3.2.toNat (List.drop x2.2.toNat (List.drop x1.2.toNat b))))), f5) := by unfold n5; rw [en4]; unfold gN; simp only; rw [← hx5, ← hf5]
 have dead : f5 = false → (rdD b).2 = false := fun e => by
  cases hr : (rdD b).2 with
  | false => rfl
  | true => have := (zci7 hb hr).2.2.2.2; rw [en5, e] at this; cases this
 by_cases c1 : 0 < x1.2
 rotate_left
 ·have e : (rdD b).2 = false := dead (by subst hf5 hf4 hf3 hf2 hf1; simp [decide_eq_false c1])
  rw [e]
  exact ⟨(⟨x1.1, x2.1, x3.1, x4.1, ⟨true, []⟩, false, 0, ⟨true, []⟩⟩ : zjs), Ev.succ (Ev.bind kg1 (Ev.pos kn1.1 (Ev.pos kn1.2 (Ev.bind kg2 (Ev.neg c1 (Ev.pos kn2.1 (Ev.pos kn2.2 (Ev.bind kg3 (Ev.pos kn3.1 (Ev.pos kn3.2 (Ev.bind kg4 (Ev.pos kn4.1 (Ev.pos kn4.2 (Ev.bind kg5 (Ev.pos kn5.1 (Ev.pos kn5.2 (Ev.ret _))))))))))))))))) (fun q => rfl), fun h => by cases h⟩
 by_cases c2 : 0 < x2.2
 rotate_left
 ·have e : (rdD b).2 = false := dead (by subst hf5 hf4 hf3 hf2 hf1; simp [decide_eq_false c2])
  rw [e]
  exact ⟨(⟨x1.1, x2.1, x3.1, x4.1, ⟨true, []⟩, false, 0, ⟨true, []⟩⟩ : zjs), Ev.succ (Ev.bind kg1 (Ev.pos kn1.1 (Ev.pos kn1.2 (Ev.bind kg2 (Ev.pos c1 (Ev.pos kn2.1 (Ev.pos kn2.2 (Ev.bind kg3 (Ev.neg c2 (Ev.pos kn3.1 (Ev.pos kn3.2 (Ev.bind kg4 (Ev.pos kn4.1 (Ev.pos kn4.2 (Ev.bind kg5 (Ev.pos kn5.1 (Ev.pos kn5.2 (Ev.ret _)))))))))))))))))) (fun q => rfl), fun h => by cases h⟩
 by_cases c3 : 0 < x3.2
 rotate_left
 ·have e : (rdD b).2 = false := dead (by subst hf5 hf4 hf3 hf2 hf1; simp [decide_eq_false c3])
  rw [e]
  exact ⟨(⟨x1.1, x2.1, x3.1, x4.1, ⟨true, []⟩, false, 0, ⟨true, []⟩⟩ : zjs), Ev.succ (Ev.bind kg1 (Ev.pos kn1.1 (Ev.pos kn1.2 (Ev.bind kg2 (Ev.pos c1 (Ev.pos kn2.1 (Ev.pos kn2.2 (Ev.bind kg3 (Ev.pos c2 (Ev.pos kn3.1 (Ev.pos kn3.2 (Ev.bind kg4 (Ev.neg c3 (Ev.pos kn4.1 (Ev.pos kn4.2 (Ev.bind kg5 (Ev.pos kn5.1 (Ev.pos kn5.2 (Ev.ret _))))))))))))))))))) (fun q => rfl), fun h => by cases h⟩
 by_cases c4 : 0 < x4.2
 rotate_left
 ·have e : (rdD b).2 = false := dead (by subst hf5 hf4 hf3 hf2 hf1; simp [decide_eq_false c4])
  rw [e]
  exact ⟨(⟨x1.1, x2.1, x3.1, x4.1, ⟨true, []⟩, false, 0, ⟨true, []⟩⟩ : zjs), Ev.succ (Ev.bind kg1 (Ev.pos kn1.1 (Ev.pos kn1.2 (Ev.bind kg2 (Ev.pos c1 (Ev.pos kn2.1 (Ev.pos kn2.2 (Ev.bind kg3 (Ev.pos c2 (Ev.pos kn3.1 (Ev.pos kn3.2 (Ev.bind kg4 (Ev.pos c3 (Ev.pos kn4.1 (Ev.pos kn4.2 (Ev.bind kg5 (Ev.neg c4 (Ev.pos kn5.1 (Ev.pos kn5.2 (Ev.ret _)))))))))))))))))))) (fun q => rfl), fun h => by cases h⟩
 by_cases c5 : 0 < x5.2
 rotate_left
 ·have e : (rdD b).2 = false := dead (by subst hf5; simp [decide_eq_false c5])
  rw [e]
  exact ⟨(⟨x1.1, x2.1, x3.1, x4.1, ⟨true, []⟩, false, 0, ⟨true, []⟩⟩ : zjs), Ev.succ (Ev.bind kg1 (Ev.pos kn1.1 (Ev.pos kn1.2 (Ev.bind kg2 (Ev.pos c1 (Ev.pos kn2.1 (Ev.pos kn2.2 (Ev.bind kg3 (Ev.pos c2 (Ev.pos kn3.1 (Ev.pos kn3.2 (Ev.bind kg4 (Ev.pos c3 (Ev.pos kn4.1 (Ev.pos kn4.2 (Ev.bind kg5 (Ev.pos c4 (Ev.pos kn5.1 (Ev.pos kn5.2 (Ev.neg c5 (Ev.ret _))))))))))))))))))))) (fun q => rfl), fun h => by cases h⟩
 have f5t : f5 = true := by subst hf5 hf4 hf3 hf2 hf1; simp [c1, c2, c3, c4, c5]
 have h0 := zci6 x1.1 x2.1 x3.1 x4.1 z x5.1.toNat
 unfold rdD
 rw [en1, en2, en3, en4, en5, f5t]
 by_cases s : 128 < x5.1
 ·simp only [if_pos s]
  exact ⟨(⟨x1.1, x2.1, x3.1, x4.1, ⟨true, []⟩, false, 0, ⟨true, []⟩⟩ : zjs), Ev.succ (Ev.bind kg1 (Ev.pos kn1.1 (Ev.pos kn1.2 (Ev.bind kg2 (Ev.pos c1 (Ev.pos kn2.1 (Ev.pos kn2.2 (Ev.bind kg3 (Ev.pos c2 (Ev.pos kn3.1 (Ev.pos kn3.2 (Ev.bind kg4 (Ev.pos c3 (Ev.pos kn4.1 (Ev.pos kn4.2 (Ev.bind kg5 (Ev.pos c4 (Ev.pos kn5.1 (Ev.pos kn5.2 (Ev.pos c5 (Ev.pos s (Ev.ret _)))))))))))))))))))))) (fun q => rfl), fun h => by cases h⟩
 ·simp only [if_neg s]
  replace h0 := h0 (by omega) (List.drop x5.2.toNat (List.drop x4.2.toNat (List.drop x3.2.toNat (List.drop x2.2.toNat (List.drop x1.2.toNat b))))) true kb5 kz6
  rw [show ((x5.1.toNat : Nat) : Int) = x5.1 by omega] at h0
  have h9 : ∀ {r}, Ev (fun q => zot q x5.1 z (List.drop x5.2.toNat (List.drop x4.2.toNat (List.drop x3.2.toNat (List.drop x2.2.toNat (List.drop x1.2.toNat b))))) true x1.1 x2.1 x3.1 x4.1) r → Ev (fun q => zot q x5.1 z (List.drop x5.2.toNat (List.drop x4.2.toNat (List.drop x3.2.toNat (List.drop x2.2.toNat (List.drop x1.2.toNat b))))) (decide (0 < x5.2)) x1.1 x2.1 x3.1 x4.1) r := fun h => by rw [decide_eq_true c5]; exact h
  exact ⟨_, Ev.succ (Ev.bind kg1 (Ev.pos kn1.1 (Ev.pos kn1.2 (Ev.bind kg2 (Ev.pos c1 (Ev.pos kn2.1 (Ev.pos kn2.2 (Ev.bind kg3 (Ev.pos c2 (Ev.pos kn3.1 (Ev.pos kn3.2 (Ev.bind kg4 (Ev.pos c3 (Ev.pos kn4.1 (Ev.pos kn4.2 (Ev.bind kg5 (Ev.pos c4 (Ev.pos kn5.1 (Ev.pos kn5.2 (Ev.pos c5 (Ev.neg s (h9 h0)))))))))))))))))))))) (fun q => rfl), fun _ => rfl⟩
theorem zci9 (s : Sl Int) (z : Bool) (F : List Int × Int × Int) (R : zjs × Bool) (d : zjs) (hF : Ev (fun q => zol q s) (⟨z, true, F.1⟩, F.2.1, F.2.2)) (hR : Ev (fun q => zou q ⟨z, F.1⟩) (d, R.2)) (hd : R.2 = true → d = R.1) (h1 : R.2 = true → R.1.Mid.l.length ≤ 1000000 ∧ R.1.Table.l.length ≤ 1000000) :
  Ev (fun q => zov q s) (if F.2.2 = 0 then if F.2.1 = (s.l.length : Int) then if R.2 = true then if mayL R.1 = true then (R.1, 0) else (noDl, 1) else (noDl, 3) else (noDl, 16) else (noDl, F.2.2)) := by
 refine Ev.succ (Ev.bind hF (Ev.ite (fun c1 => Ev.ite (fun c2 => Ev.bind hR (Ev.ite (fun c3 => ?_) fun c3 => Ev.ret' ?_)) fun c2 => Ev.ret' ?_) fun c1 => Ev.ret' ?_)) (fun q => rfl)
 ·simp only at c1 c2 c3
  have hb := h1 c3
  have hd := hd c3
  subst hd
  refine Ev.bind (zcg4 _ hb.1 hb.2) (Ev.ite (fun c4 => Ev.ret' ?_) fun c4 => Ev.ret' ?_)
  ·rw [if_pos c1, if_pos c2, if_pos c3, if_pos c4]
  ·rw [if_pos c1, if_pos c2, if_pos c3, if_neg c4]; rfl
 ·simp only at c1 c2 c3; rw [if_pos c1, if_pos c2, if_neg c3]; rfl
 ·simp only at c1 c2; rw [if_pos c1, if_neg c2]; rfl
 ·simp only at c1; rw [if_neg c1]; rfl
theorem zcja (s : Sl Int) (hb : isB s.l) (hl : s.l.length ≤ 90000) : Ev (fun q => zov q s) (dcD s.l) := by
 obtain ⟨z, hF⟩ := zce2 s hb (by omega)
 have hbd := zcek (l := s.l) hb
 have hsh := zciw hb hl
 obtain ⟨d, hR, hd⟩ := zci8 z (decF s.l).1 hbd (by omega)
 exact zci9 s z (decF s.l) (rdD (decF s.l).1) d hF hR hd fun c3 => by
  have hi := zcis hbd c3
  have hlg := zciv (rdD (decF s.l).1).1
  rw [hi] at hlg
  omega
theorem zcjb : ∀ (a0 : zjs) (a1 : (Sl Int)), zjs.ok a0 → okSl (fun x => inR .u8 x) a1 → ∃ q, zox q a0 a1 = some true := by
 intro d s hd hs
 have hb := isB_of hs
 have hfew : Ev (fun q => znu q d) (decide (d.Mid.l.length ≤ 300 ∧ d.Table.l.length ≤ 100)) := by
  refine Ev.succ (Ev.ite (fun c => Ev.ret' ?_) fun c => Ev.ret' ?_) (fun q => rfl)
  ·rw [decide_eq_decide]; omega
  ·symm; rw [decide_eq_false_iff_not]; omega
 refine Ev.get (Ev.succ (Ev.bind zcf8 (Ev.bind hfew (Ev.pos rfl (Ev.ite (fun h1 => Ev.ite (fun h2 => Ev.ret _) fun h2 => ?_) fun h1 => Ev.ret _)))) (fun q => rfl))
 simp only [decide_eq_true_eq] at h1
 obtain ⟨z1, e1⟩ := zche d (by omega) (by omega)
 obtain ⟨z2, e2⟩ := zchh d (by omega) (by omega)
 have e3 := zciy s hs.1 hb (by omega)
 have e4 := zcja s hb (by omega)
 have hn := zci0 hb (by omega)
 have e5 := zchm (dcD s.l).1 (dcD s.l).1 (by omega) (by omega)
 have e6 := zchj (dcD s.l).1 (dcD s.l).1 (by omega) (by omega)
 have e7 := zchj d (dcD s.l).1 (by omega) (by omega)
 have e8 := zchm d (dcD s.l).1 (by omega) (by omega)
 rw [zchi] at e5 e6
 generalize dcD s.l = D at e3 e4 e5 e6 e7 e8
 have last : Ev (fun q => (zow q D.1 D.1).bind fun r8 => (if r8 = true then ((zow q d D.1).bind fun r9 => ((zlc q d D.1).bind fun r10 => (some (r9 == r10)))) else (some false))) true := by
  refine Ev.bind e6 (Ev.pos rfl (Ev.bind e7 (Ev.bind e8 ?_)))
  exact Ev.ret' (by simp)
 by_cases m : mayL d = true
 ·rw [if_pos m] at e1 e2
  refine Ev.bind e1 (Ev.bind e2 (Ev.bind e3 (Ev.bind e4 (Ev.bind e5 (Ev.pos rfl (Ev.pos rfl (Ev.pos rfl (Ev.pos rfl ?_))))))))
  exact last
 ·rw [if_neg m] at e1 e2
  refine Ev.bind e1 (Ev.bind e2 (Ev.bind e3 (Ev.bind e4 (Ev.bind e5 (Ev.pos rfl (Ev.pos rfl (Ev.pos rfl (Ev.pos rfl ?_))))))))
  exact last
end Go.Dvm.I
