/- Plain laws of the functions: part 1. -/
import Derived.Test.YtngajodhbioheaaQi
set_option linter.all false
set_option maxRecDepth 100000
namespace Go.Dvm.I
open Go Go.Dvm
/-- With enough rounds. -/
def Ev {R : Type} (g : Nat → Option R) (r : R) : Prop := ∃ N, ∀ q, N ≤ q → g q = some r
section
variable {R S : Type}
theorem Ev.ret (r : R) : Ev (fun _ => some r) r := ⟨0, fun _ _ => rfl⟩
theorem Ev.ret' {r r' : R} (h : r = r') : Ev (fun _ => some r) r' := ⟨0, fun _ _ => by rw [h]⟩
theorem Ev.succ {f g : Nat → Option R} {r : R} (h : Ev g r) (e : ∀ q, f (q + 1) = g q) : Ev f r := by
 obtain ⟨N, h⟩ := h
 refine ⟨N + 1, fun q hq => ?_⟩
 obtain ⟨q, rfl⟩ : ∃ p, q = p + 1 := ⟨q - 1, by omega⟩
 rw [e]; exact h q (by omega)
theorem Ev.bind {g : Nat → Option S} {k : Nat → S → Option R} {s : S} {r : R} (h : Ev g s) (h2 : Ev (fun q => k q s) r) : Ev (fun q => (g q).bind (k q)) r := by
 obtain ⟨N, h⟩ := h
 obtain ⟨M, h2⟩ := h2
 exact ⟨N + M, fun q hq => by show (g q).bind (k q) = some r; rw [h q (by omega), y5]; exact h2 q (by omega)⟩
theorem Ev.opt {o : Option S} {k : Nat → S → Option R} {s : S} {r : R} (h : o = some s) (h2 : Ev (fun q => k q s) r) : Ev (fun q => o.bind (k q)) r := by
 subst h; exact h2
theorem Ev.pos {c : Prop} [Decidable c] {a b : Nat → Option R} {r : R} (hc : c) (h : Ev a r) : Ev (fun q => if c then a q else b q) r := by
 obtain ⟨N, h⟩ := h
 exact ⟨N, fun q hq => by show (if c then a q else b q) = some r; rw [if_pos hc]; exact h q hq⟩
theorem Ev.neg {c : Prop} [Decidable c] {a b : Nat → Option R} {r : R} (hc : ¬ c) (h : Ev b r) : Ev (fun q => if c then a q else b q) r := by
 obtain ⟨N, h⟩ := h
 exact ⟨N, fun q hq => by show (if c then a q else b q) = some r; rw [if_neg hc]; exact h q hq⟩
theorem Ev.po {c : Prop} [Decidable c] {a b : Nat → Option R} {r : R} (h : Ev a r) (hc : c := by omega) : Ev (fun q => if c then a q else b q) r := Ev.pos hc h
theorem Ev.ne {c : Prop} [Decidable c] {a b : Nat → Option R} {r : R} (h : Ev b r) (hc : ¬ c := by omega) : Ev (fun q => if c then a q else b q) r := Ev.neg hc h
theorem Ev.ite {c : Prop} [Decidable c] {a b : Nat → Option R} {r : R} (h1 : c → Ev a r) (h2 : ¬ c → Ev b r) : Ev (fun q => if c then a q else b q) r := by
 by_cases hc : c
 ·exact .pos hc (h1 hc)
 ·exact .neg hc (h2 hc)
theorem Ev.get {f : Nat → Option R} {r : R} (h : Ev f r) : ∃ q, f q = some r := by
 obtain ⟨N, h⟩ := h; exact ⟨N, h N (y14 _)⟩
theorem Ev.cast {f : Nat → Option R} {r r' : R} (h : Ev f r) (e : r = r') : Ev f r' := e ▸ h
end
theorem zbt3 {x : Int} (h1 : -9223372036854775808 ≤ x) (h2 : x ≤ 9223372036854775807) : wrp .i64 x = x := by
 unfold wrp; simp [IntKind.wrap, IntKind.min, IntKind.max, IntKind.signed, IntKind.bits] <;> omega
theorem zbt4 {x : Int} (h1 : 0 ≤ x) (h2 : x ≤ 18446744073709551615) : wrp .u64 x = x := by
 unfold wrp; simp [IntKind.wrap, IntKind.min, IntKind.max, IntKind.signed, IntKind.bits] <;> omega
theorem zbt5 {x : Int} (h1 : 0 ≤ x) (h2 : x ≤ 4294967295) : wrp .u32 x = x := by
 unfold wrp; simp [IntKind.wrap, IntKind.min, IntKind.max, IntKind.signed, IntKind.bits] <;> omega
theorem wrp_u8 (x : Int) : wrp .u8 x = x % 256 := by
 unfold wrp; simp [IntKind.wrap, IntKind.min, IntKind.max, IntKind.signed, IntKind.bits] <;> omega
theorem zbt6 {x : Int} (h1 : 0 ≤ x) : ishr .u64 x 7 = x / 128 := by
 unfold ishr; simp [IntKind.bits]
 rw [y53]; omega
theorem or128 {x : Int} (h1 : 0 ≤ x) (h2 : x < 256) : ibits .or .u8 x 128 = x % 128 + 128 := by
 obtain ⟨n, rfl⟩ := Int.eq_ofNat_of_zero_le h1
 have hn : n < 256 := by omega
 have : ∀ m : Fin 256, ibits .or .u8 (m.val : Int) 128 = (m.val : Int) % 128 + 128 := by unfold ibits; decide +kernel
 exact this ⟨n, hn⟩
/-- A number's groups. -/
def grp (n : Nat) : List Int := if h : n < 128 then [(n : Int)] else ((n % 128 + 128 : Nat) : Int) :: grp (n / 128)
theorem grp_lt {n : Nat} (h : n < 128) : grp n = [(n : Int)] := by rw [grp, dif_pos h]
theorem grp_ge {n : Nat} (h : ¬ n < 128) : grp n = ((n % 128 + 128 : Nat) : Int) :: grp (n / 128) := by rw [grp, dif_neg h]
theorem zbt7 : ∀ (k : Nat) {n : Nat}, n < 128 ^ (k + 1) → (grp n).length ≤ k + 1
 | 0, n, h => by rw [grp_lt (by simpa using h)]; simp
 | k + 1, n, h => by
  by_cases hn : n < 128
  ·rw [grp_lt hn]; simp
  ·rw [grp_ge hn]
   have := zbt7 k (n := n / 128) (by rw [Nat.div_lt_iff_lt_mul (by omega)]; rw [Nat.pow_succ] at h; exact h)
   simp; omega
theorem zbt8 {n : Nat} (h : n < 18446744073709551616) : (grp n).length ≤ 10 := zbt7 9 (by omega)
theorem zbt9 (n : Nat) : 1 ≤ (grp n).length := by
 by_cases hn : n < 128
 ·rw [grp_lt hn]; simp
 ·rw [grp_ge hn]; simp
theorem zbua : ∀ (n : Nat) (z : Bool) (l : List Int) (x : Bool), l.length + (grp n).length ≤ 4294967296 → Ev (fun q => zlf q (n : Int) z l x) ⟨false, x, l ++ grp n⟩ := by
 intro n
 induction n using Nat.strongRecOn with
 | ind n ih =>
  intro z l x hl
  refine Ev.succ ?_ (fun q => rfl)
  by_cases hn : n < 128
  ·rw [grp_lt hn] at hl ⊢
   refine Ev.ne (Ev.pos (by simpa using hl) (Ev.ret' ?_))
   rw [wrp_u8]; congr 3; omega
  ·rw [grp_ge hn] at hl ⊢
   simp only [y21] at hl
   refine Ev.po (Ev.pos (by omega) ?_)
   rw [zbt6 (by omega), wrp_u8, or128 (by omega) (by omega)]
   have := ih (n / 128) (by omega) false (l ++ [((n % 128 + 128 : Nat) : Int)]) x (by simp; omega)
   rw [show ((n : Int) % 256 % 128 + 128) = ((n % 128 + 128 : Nat) : Int) by omega, show ((n : Int) / 128) = ((n / 128 : Nat) : Int) by omega]
   simpa using this
theorem zbub {u : Int} (h1 : 0 ≤ u) (b : Ow Int) (hl : b.xs.length + (grp u.toNat).length ≤ 4294967296) : Ev (fun q => zlg q b u) ⟨false, b.x, b.xs ++ grp u.toNat⟩ := by
 have := zbua u.toNat b.n b.xs b.x hl
 rw [Int.toNat_of_nonneg h1] at this
 exact Ev.succ this (fun q => rfl)
/-- What a number puts behind bytes. -/
def put (n : Int) : List Int := if n < 0 then [] else if 4611686018427387904 ≤ n then [] else grp n.toNat
theorem put_ok {n : Int} (h1 : 0 ≤ n) (h2 : n < 4611686018427387904) : put n = grp n.toNat := by
 unfold put; rw [if_neg (by omega), if_neg (by omega)]
theorem zbuc (n : Int) : (put n).length ≤ 10 := by
 unfold put; split
 ·simp
 ·split
  ·simp
  ·exact zbt8 (by omega)
theorem zbud {n : Int} (b : Ow Int) (h1 : 0 ≤ n) (h2 : n < 4611686018427387904) (hl : b.xs.length + 10 ≤ 4294967296) : Ev (fun q => zlh q b n) ⟨false, b.x, b.xs ++ put n⟩ := by
 refine Ev.succ ?_ (fun q => rfl)
 rw [put_ok h1 h2]
 have hg := zbt8 (n := n.toNat) (by omega)
 refine Ev.ne (Ev.neg (by omega) ?_)
 rw [zbt4 h1 (by omega)]
 exact Ev.bind (zbub h1 b (by omega)) (Ev.ret _)
/-- Zigzag. -/
def zig (n : Int) : Nat := if 0 ≤ n then 2 * n.toNat else 2 * (-n).toNat - 1
theorem zig_lt {n : Int} (h : inR .i64 n) : zig n < 18446744073709551616 := by
 simp [inR, IntKind.min, IntKind.max, IntKind.signed, IntKind.bits] at h
 unfold zig; split <;> omega
def putS (n : Int) : List Int := grp (zig n)
theorem zbue (k : IntKind) (n : Int) : k.wrap n = wrp k n := by unfold wrp; rfl
theorem xor0 {x : Int} (h1 : 0 ≤ x) (h2 : x < 18446744073709551616) : ibits .xor .u64 x 0 = x := by
 have e : ibits .xor .u64 x 0 = IntKind.wrap .u64 (((BitVec.ofInt 64 x ^^^ 0#64 : BitVec 64).toNat : Nat) : Int) := by unfold ibits; rfl
 rw [e, BitVec.xor_zero, y49, zbue, zbt4] <;> omega
theorem xor1 {x : Int} (h1 : 0 ≤ x) (h2 : x < 18446744073709551616) : ibits .xor .u64 x 18446744073709551615 = 18446744073709551615 - x := by
 have e : ibits .xor .u64 x 18446744073709551615 = IntKind.wrap .u64 (((BitVec.ofInt 64 x ^^^ BitVec.allOnes 64 : BitVec 64).toNat : Nat) : Int) := by unfold ibits; rfl
 rw [e, BitVec.xor_allOnes, BitVec.toNat_not, y49, zbue, zbt4] <;> omega
theorem ishl1 {x : Int} (h1 : 0 ≤ x) : ishl .u64 x 1 = (2 * x) % 18446744073709551616 := by
 unfold ishl
 simp [IntKind.wrap, IntKind.signed, IntKind.bits]
 omega
theorem zbuf (x : Int) : wrp .u64 x = x % 18446744073709551616 := by
 unfold wrp; simp [IntKind.wrap, IntKind.signed, IntKind.bits]
theorem ishr63 {x : Int} (h : inR .i64 x) : ishr .i64 x 63 = if 0 ≤ x then 0 else -1 := by
 simp [inR, IntKind.min, IntKind.max, IntKind.signed, IntKind.bits] at h
 unfold ishr; simp [IntKind.bits]
 rw [y53 _ (by omega)]
 split <;> omega
theorem zbug {n : Int} (h : inR .i64 n) : Ev (fun q => zli q n) ((zig n : Nat) : Int) := by
 refine Ev.succ (Ev.ret' ?_) (fun q => rfl)
 have hr := h
 simp [inR, IntKind.min, IntKind.max, IntKind.signed, IntKind.bits] at hr
 rw [ishr63 h]
 by_cases h0 : 0 ≤ n
 ·rw [if_pos h0, zbt4 h0 (by omega), ishl1 h0, zbt4 (by omega) (by omega), xor0 (by omega) (by omega)]
  unfold zig; rw [if_pos h0]; omega
 ·rw [if_neg h0, zbuf n, ishl1 (by omega), show wrp .u64 (-1) = 18446744073709551615 by rw [zbuf]; rfl, xor1 (by omega) (by omega)]
  unfold zig; rw [if_neg h0]; omega
theorem zbuh {n : Int} (b : Ow Int) (h : inR .i64 n) (hl : b.xs.length + 10 ≤ 4294967296) : Ev (fun q => zlj q b n) ⟨false, b.x, b.xs ++ putS n⟩ := by
 refine Ev.succ ?_ (fun q => rfl)
 have hg := zbt8 (zig_lt h)
 have := zbub (u := (zig n : Nat)) (by omega) b (by simpa using (by omega : b.xs.length + (grp (zig n)).length ≤ 4294967296))
 rw [y28] at this
 exact Ev.bind (zbug h) (Ev.bind this (Ev.ret _))
theorem inR64 {x : Int} (h : inR .i64 x) : -9223372036854775808 ≤ x ∧ x ≤ 9223372036854775807 := by
 simp [inR, IntKind.min, IntKind.max, IntKind.signed, IntKind.bits] at h; omega
def cutI (n : Int) : Int := if n < -1099511627776 then -1099511627776 else if 1099511627776 < n then 1099511627776 else n
theorem zbui (n : Int) : Ev (fun q => zjp q n) (cutI n) := by
 refine Ev.succ (Ev.ret' ?_) (fun q => rfl)
 unfold cutI; split <;> split <;> split <;> (try split) <;> omega
theorem zbuj (n : Int) : Ev (fun q => zkk q n) (cutI n) := by
 refine Ev.succ ?_ (fun q => rfl)
 unfold cutI
 refine Ev.ite (fun h => ?_) fun h => Ev.ite (fun h1 => ?_) fun h1 => ?_
 ·rw [if_pos h]; exact Ev.ret _
 ·rw [if_neg h, if_pos h1]; exact Ev.ret _
 ·rw [if_neg h, if_neg h1]; exact Ev.ret _
def fitsOp (o : zjm) : Bool := decide (0 ≤ o.Code) && (decide (o.Code ≤ 10) && (decide (o.A = cutI o.A) && decide (o.B = cutI o.B)))
theorem zbuk (o : zjm) : Ev (fun q => zkq q o) (fitsOp o) := by
 refine Ev.succ ?_ (fun q => rfl)
 unfold fitsOp
 refine Ev.ite (fun h => Ev.ite (fun h1 => Ev.bind (zbui _) (Ev.ite (fun h2 => Ev.bind (zbui _) (Ev.ret' ?_)) fun h2 => Ev.ret' ?_)) fun h1 => Ev.ret' ?_) fun h => Ev.ret' ?_
 ·rw [decide_eq_true h, decide_eq_true h1, decide_eq_true h2]; rfl
 ·rw [decide_eq_true h, decide_eq_true h1, decide_eq_false h2]; rfl
 ·rw [decide_eq_true h, decide_eq_false h1]; rfl
 ·rw [decide_eq_false h]; rfl
theorem zbul {n : Int} : n = cutI n ↔ -1099511627776 ≤ n ∧ n ≤ 1099511627776 := by
 unfold cutI
 by_cases h1 : n < -1099511627776
 ·rw [if_pos h1]; omega
 ·rw [if_neg h1]
  by_cases h2 : 1099511627776 < n
  ·rw [if_pos h2]; omega
  ·rw [if_neg h2]; omega
def FitsR (r : zjn) : Prop := 0 ≤ r.Index ∧ r.Index < 4611686018427387904 ∧ 0 ≤ r.Proc ∧ r.Proc ≤ 64 ∧ 0 ≤ r.Seq ∧ r.Seq < 4611686018427387904 ∧ fitsOp r.Op = true ∧ -1125899906842624 ≤ r.Resp ∧ r.Resp ≤ 1125899906842624
instance (r : zjn) : Decidable (FitsR r) := by unfold FitsR; infer_instance
theorem zbum (r : zjn) : Ev (fun q => zkr q r) (decide (FitsR r)) := by
 refine Ev.succ ?_ (fun q => rfl)
 refine Ev.ite (fun h1 => Ev.ite (fun h2 => Ev.ite (fun h3 => Ev.ite (fun h4 => Ev.ite (fun h5 => Ev.ite (fun h6 => Ev.bind (zbuk _) (Ev.ite (fun h7 => Ev.ite (fun h8 => Ev.ret' ?_) fun h8 => Ev.ret' ?_) fun h7 => Ev.ret' ?_)) fun h6 => Ev.ret' ?_) fun h5 => Ev.ret' ?_) fun h4 => Ev.ret' ?_) fun h3 => Ev.ret' ?_) fun h2 => Ev.ret' ?_) fun h1 => Ev.ret' ?_ <;> simp only [FitsR, *] <;> simp
theorem zbun {n : Int} (h : inR .i64 n) : (putS n).length ≤ 10 := zbt8 (zig_lt h)
theorem zbuo {n : Int} (h1 : -9223372036854775808 ≤ n) (h2 : n ≤ 9223372036854775807) : inR .i64 n := by
 simp [inR, IntKind.min, IntKind.max, IntKind.signed, IntKind.bits]; omega
theorem zbup : ∀ (n : Nat) (z : Bool) (l : List Int), n < 18446744073709551616 → l.length + (grp n).length ≤ 4294967296 → Ev (fun q => zl4 q (n : Int) z l) ⟨false, true, l ++ grp n⟩ := by
 intro n
 induction n using Nat.strongRecOn with
 | ind n ih =>
  intro z l hb hl
  refine Ev.succ ?_ (fun q => rfl)
  by_cases hn : n < 128
  ·rw [grp_lt hn] at hl ⊢
   refine Ev.ne (Ev.pos (by simpa using hl) (Ev.ret' ?_))
   rw [wrp_u8]; congr 3; omega
  ·rw [grp_ge hn] at hl ⊢
   simp only [y21] at hl
   refine Ev.po (Ev.pos (by omega) ?_)
   have e1 : Int.tdiv (n : Int) 128 = ((n / 128 : Nat) : Int) := by rw [Int.tdiv_eq_ediv_of_nonneg (by omega)]; omega
   have e2 : Int.tmod (n : Int) 128 = ((n % 128 : Nat) : Int) := by rw [y59 (by omega)]; omega
   rw [e1, e2, zbt4 (by omega) (by omega), zbt4 (by omega) (by omega), wrp_u8]
   have := ih (n / 128) (by omega) false (l ++ [((n % 128 + 128 : Nat) : Int)]) (by omega) (by simp; omega)
   rw [show (((n % 128 : Nat) : Int) + 128) % 256 = ((n % 128 + 128 : Nat) : Int) by omega]
   simpa using this
theorem zbuq {u : Int} (h1 : 0 ≤ u) (h2 : u < 18446744073709551616) : Ev (fun q => zl5 q u) ⟨false, true, grp u.toNat⟩ := by
 have hg := zbt8 (n := u.toNat) (by omega)
 have := zbup u.toNat true [] (by omega) (by simp; omega)
 rw [Int.toNat_of_nonneg h1] at this
 exact Ev.succ this (fun q => rfl)
theorem grp_ne (n : Nat) : decide ((grp n).length = 0) = false := by have := zbt9 n; simp; intro h; rw [h] at this; simp at this
theorem zbur {n : Int} (s : Sl Int) (h1 : 0 ≤ n) (h2 : n < 4611686018427387904) (hl : s.l.length + 10 ≤ 4294967296) : Ev (fun q => zl6 q s n) ⟨false, true, s.l ++ put n⟩ := by
 have hg := zbt8 (n := n.toNat) (by omega)
 refine Ev.succ (Ev.po (Ev.ne (Ev.neg (by omega) ?_))) (fun q => rfl)
 rw [zbt4 h1 (by omega), put_ok h1 h2]
 refine Ev.bind (zbuq h1 (by omega)) (Ev.pos (by simp only; omega) (Ev.ret' ?_))
 simp only [grp_ne, Bool.and_false]
theorem zbus {n : Int} (h : inR .i64 n) : Ev (fun q => zl7 q n) ((zig n : Nat) : Int) := by
 have hr := inR64 h
 refine Ev.succ (Ev.ite (fun h0 => Ev.ret' ?_) fun h0 => Ev.ret' ?_) (fun q => rfl)
 ·rw [zbt4 h0 (by omega), zbt4 (by omega) (by omega)]
  unfold zig; rw [if_pos h0]; omega
 ·rw [zbt3 (x := n + 1) (by omega) (by omega), zbt3 (by omega) (by omega), zbt4 (x := 0 - (n + 1)) (by omega) (by omega), zbt4 (x := (0 - (n + 1)) * 2) (by omega) (by omega), zbt4 (by omega) (by omega)]
  unfold zig; rw [if_neg h0]; omega
theorem zbut {n : Int} (s : Sl Int) (h : inR .i64 n) (hl : s.l.length + 10 ≤ 4294967296) : Ev (fun q => zl8 q s n) ⟨false, true, s.l ++ putS n⟩ := by
 have hz := zig_lt h
 have hg := zbt8 hz
 refine Ev.succ (Ev.po (Ev.bind (zbus h) (Ev.bind (zbuq (by omega) (by omega)) (Ev.pos ?_ (Ev.ret' ?_))))) (fun q => rfl)
 ·simp only [y28]; omega
 ·simp only [grp_ne, Bool.and_false, y28]; rfl
abbrev B32 := BitVec 32
def u (a : B32) : Int := (a.toNat : Int)
theorem u_nn (a : B32) : 0 ≤ u a := Int.natCast_nonneg _
theorem u_lt (a : B32) : u a < 4294967296 := by unfold u; have := a.isLt; omega
theorem zbuu (a : B32) : BitVec.ofInt 32 (u a) = a := by
 apply BitVec.eq_of_toNat_eq; rw [y49]; unfold u; have := a.isLt; omega
theorem wrp_u (a : B32) : IntKind.wrap .u32 ((a.toNat : Nat) : Int) = u a := by
 have := a.isLt
 rw [zbue, zbt5 (by omega) (by omega)]; rfl
theorem xor_u (a b : B32) : ibits .xor .u32 (u a) (u b) = u (a ^^^ b) := by
 have e : ibits .xor .u32 (u a) (u b) = IntKind.wrap .u32 (((BitVec.ofInt 32 (u a) ^^^ BitVec.ofInt 32 (u b) : B32).toNat : Nat) : Int) := by unfold ibits; rfl
 rw [e, zbuu, zbuu, wrp_u]
theorem and_u (a b : B32) : ibits .and .u32 (u a) (u b) = u (a &&& b) := by
 have e : ibits .and .u32 (u a) (u b) = IntKind.wrap .u32 (((BitVec.ofInt 32 (u a) &&& BitVec.ofInt 32 (u b) : B32).toNat : Nat) : Int) := by unfold ibits; rfl
 rw [e, zbuu, zbuu, wrp_u]
theorem u_lit (n : Nat) (h : n < 4294967296) : u (BitVec.ofNat 32 n) = (n : Int) := by
 unfold u; rw [BitVec.toNat_ofNat]; omega
theorem zbuv (x : Int) : wrp .u32 x = x % 4294967296 := by
 unfold wrp; simp [IntKind.wrap, IntKind.signed, IntKind.bits]
theorem ishr_u (a : B32) (k : Nat) (hk : k ≤ 32) : ishr .u32 (u a) (k : Int) = u (a >>> k) := by
 unfold ishr u
 simp only [IntKind.bits, y28, Nat.min_eq_left hk]
 rw [y53 _ (by exact_mod_cast Nat.zero_le _), BitVec.toNat_ushiftRight, Nat.shiftRight_eq_div_pow]
 simp
theorem zbuw (a : B32) : ishr .u32 (u a) 1 = u (a >>> 1) := ishr_u a 1 (by omega)
theorem zbux (a : B32) : ishr .u32 (u a) 8 = u (a >>> 8) := ishr_u a 8 (by omega)
def poly : B32 := 2197175160#32
def bstep (a : B32) : B32 := if a &&& 1#32 = 1#32 then (a >>> 1) ^^^ poly else a >>> 1
theorem and1 (a : B32) : a &&& 1#32 = 0#32 ∨ a &&& 1#32 = 1#32 := by
 have : (a &&& 1#32).toNat = a.toNat % 2 := by rw [BitVec.toNat_and]; exact Nat.and_one_is_mod _
 rcases Nat.mod_two_eq_zero_or_one a.toNat with h | h
 ·left; exact BitVec.eq_of_toNat_eq (by rw [this, h]; rfl)
 ·right; exact BitVec.eq_of_toNat_eq (by rw [this, h]; rfl)
theorem zbuy (a : B32) : a &&& 1#32 = 1#32 ↔ u a % 2 = 1 := by
 have h : (a &&& 1#32).toNat = a.toNat % 2 := by rw [BitVec.toNat_and]; exact Nat.and_one_is_mod _
 unfold u
 constructor
 ·intro e; rw [e] at h; simp at h; omega
 ·intro e; exact BitVec.eq_of_toNat_eq (by rw [h]; simp; omega)
/-- The program's step. -/
theorem zbuz (a : B32) : ibits .xor .u32 (ishr .u32 (u a) 1) (ibits .and .u32 2197175160 (wrp .u32 (0 - (ibits .and .u32 (u a) 1)))) = u (bstep a) := by
 have e1 : (1 : Int) = u 1#32 := rfl
 have e2 : (2197175160 : Int) = u poly := by unfold poly; rw [u_lit _ (by omega)]; rfl
 rw [zbuw]
 conv => lhs; arg 4; rw [e2]; arg 4; rw [e1, and_u]
 unfold bstep
 rcases and1 a with h | h
 ·rw [h, if_neg (by decide)]
  have : wrp .u32 (0 - u 0#32) = u 0#32 := by rw [zbuv]; rfl
  rw [this, and_u, BitVec.and_zero, xor_u, BitVec.xor_zero]
 ·rw [h, if_pos rfl]
  have : wrp .u32 (0 - u 1#32) = u (BitVec.allOnes 32) := by rw [zbuv]; rfl
  rw [this, and_u, BitVec.and_allOnes, xor_u]
def biter : Nat → B32 → B32
 | 0, a => a
 | n + 1, a => biter n (bstep a)
def bentry (a : B32) : B32 := biter 8 a
theorem zbu0 (v2 v5 : Int) (t0 t1 : List Int) (r : List Int) : ∀ (k : Nat) (a : B32) (v10 : Int), v10 = 8 - k → k ≤ 8 → 0 ≤ v2 → v2.toNat < 256 → v2.toNat + 1 ≤ t1.length →
  Ev (fun q => zk5 q (wrp .i64 (v5 + 1)) t0 (List.set t1 v2.toNat (u (biter k a)))) r → Ev (fun q => zk6 q v2 (u a) v5 v10 t0 t1) r
 | 0, a, v10, h1, h2, h3, h4, h5, h => Ev.succ (Ev.ne (Ev.pos h3 (Ev.pos h4 (Ev.pos h5 h)))) (fun q => rfl)
 | k + 1, a, v10, h1, h2, h3, h4, h5, h => by
  refine Ev.succ (Ev.pos (by omega) ?_) (fun q => rfl)
  rw [zbuz, zbt3 (by omega) (by omega)]
  exact zbu0 v2 v5 t0 t1 r k (bstep a) (v10 + 1) (by omega) (by omega) h3 h4 h5 h
/-- The table. -/
def tabN (n : Nat) : List Int := (List.range n).map fun i => u (bentry (BitVec.ofNat 32 i))
theorem zbu1 {n i : Nat} (h : i < n) : (tabN n)[i]? = some (u (bentry (BitVec.ofNat 32 i))) := by
 unfold tabN; rw [y42, List.getElem?_range h]; rfl
theorem zbu2 (n : Nat) : (tabN n).length = n := by simp [tabN]
theorem zbu3 : ∀ (k i : Nat) (t1 : List Int), i + k = 256 → t1.length = 256 → (∀ j, j < i → t1[j]? = (tabN 256)[j]?) → Ev (fun q => zk5 q (i : Int) (List.replicate 256 0) t1) (tabN 256)
 | 0, i, t1, hk, hl, ht => by
  refine Ev.succ (Ev.ne (Ev.po (Ev.po (Ev.pos (by simp) (Ev.pos (by simp) (Ev.ret' ?_)))))) (fun q => rfl)
  have e : t1 = tabN 256 := by
   apply List.ext_getElem?
   intro j
   by_cases hj : j < 256
   ·exact ht j (by omega)
   ·rw [y50 (by omega), y50 (by rw [zbu2]; omega)]
  have h2 := zbu2 256
  rw [e, List.take_of_length_le (i := 256) (by omega : (tabN 256).length ≤ 256), y12 (by simp), List.append_nil, List.take_of_length_le (by omega)]
 | k + 1, i, t1, hk, hl, ht => by
  refine Ev.succ (Ev.pos (by omega) ?_) (fun q => rfl)
  have e : wrp .u32 (i : Int) = u (BitVec.ofNat 32 i) := by rw [u_lit _ (by omega), zbt5] <;> omega
  rw [e]
  refine zbu0 _ _ _ _ _ 8 _ 0 (by omega) (by omega) (by omega) (by omega) (by omega) ?_
  rw [zbt3 (by omega) (by omega), show ((i : Int) + 1) = ((i + 1 : Nat) : Int) by omega, y28]
  refine zbu3 k (i + 1) _ (by omega) (by simpa using hl) fun j hj => ?_
  by_cases e : i = j
  ·subst e; rw [y23 (by omega), zbu1 (by omega)]; rfl
  ·rw [y29 e]; exact ht j (by omega)
theorem zbu4 : Ev (fun q => zk7 q) (tabN 256) :=
 Ev.succ (zbu3 256 0 (List.replicate 256 0) (by omega) (by simp) (fun j hj => by omega)) (fun q => rfl)
/-- What a byte makes of a sum. -/
def bbyte (x : B32) (c : Int) : B32 := bentry ((x ^^^ BitVec.ofInt 32 c) &&& 255#32) ^^^ (x >>> 8)
def bmore (x : B32) (l : List Int) : B32 := l.foldl bbyte x
def isB (l : List Int) : Prop := ∀ c ∈ l, 0 ≤ c ∧ c < 256
theorem xor8 {x : B32} {c : Int} (h1 : 0 ≤ c) (h2 : c < 256) : ibits .xor .u8 (wrp .u8 (u x)) c = u ((x ^^^ BitVec.ofInt 32 c) &&& 255#32) := by
 have e : ibits .xor .u8 (wrp .u8 (u x)) c = IntKind.wrap .u8 (((BitVec.ofInt 8 (wrp .u8 (u x)) ^^^ BitVec.ofInt 8 c : BitVec 8).toNat : Nat) : Int) := by unfold ibits; rfl
 rw [e, zbue, wrp_u8, wrp_u8]
 unfold u
 rw [BitVec.toNat_and, BitVec.toNat_xor, BitVec.toNat_xor, y49, y49, y49]
 obtain ⟨n, rfl⟩ := Int.eq_ofNat_of_zero_le h1
 have hn : n < 256 := by omega
 have e1 : (((x.toNat : Int) % 256 % ((2 ^ 8 : Nat) : Int)).toNat) = x.toNat % 256 := by omega
 have e2 : (((n : Int) % ((2 ^ 8 : Nat) : Int)).toNat) = n := by omega
 have e3 : (((n : Int) % ((2 ^ 32 : Nat) : Int)).toNat) = n := by omega
 rw [e1, e2, e3, show (255#32).toNat = 2 ^ 8 - 1 from rfl, Nat.and_two_pow_sub_one_eq_mod]
 have h3 : (x.toNat ^^^ n) % 2 ^ 8 = (x.toNat % 2 ^ 8) ^^^ (n % 2 ^ 8) := Nat.xor_mod_two_pow
 rw [h3, Nat.mod_eq_of_lt (show n < 2 ^ 8 by omega)]
 have h4 : (x.toNat % 2 ^ 8) ^^^ n < 2 ^ 8 := Nat.xor_lt_two_pow (Nat.mod_lt _ (by omega)) (by omega)
 simp only [Nat.reducePow] at h4 ⊢
 omega
theorem and255 (x : B32) : u (x &&& 255#32) < 256 := by
 unfold u
 rw [BitVec.toNat_and, show (255#32).toNat = 2 ^ 8 - 1 from rfl, Nat.and_two_pow_sub_one_eq_mod]; omega
theorem zbu5 (a : B32) : (u a).toNat = a.toNat := by unfold u; omega
theorem ones : (4294967295 : Int) = u (BitVec.allOnes 32) := rfl
theorem zbu6 (z : Bool) (l : List Int) (hb : isB l) (hl : l.length ≤ 1099511627776) : ∀ (k i : Nat) (x : B32), l.length = i + k → Ev (fun q => zk8 q (u x) z l (l.length : Int) (i : Int) (tabN 256)) (u (~~~ bmore x (l.drop i)))
 | 0, i, x, hk => by
  refine Ev.succ (Ev.ne (Ev.ret' ?_)) (fun q => rfl)
  rw [y12 (by omega), ones, xor_u]
  simp only [bmore, List.foldl_nil, BitVec.allOnes_xor]
 | k + 1, i, x, hk => by
  have hi : i < l.length := by omega
  have hg : l[(i : Int).toNat]? = some l[i] := by simpa using y7 hi
  obtain ⟨b1, b2⟩ := hb l[i] (y26 hi)
  refine Ev.succ (Ev.po (Ev.po (Ev.opt hg ?_))) (fun q => rfl)
  rw [xor8 b1 b2]
  have h255 := and255 (x ^^^ BitVec.ofInt 32 l[i])
  have hnn := u_nn ((x ^^^ BitVec.ofInt 32 l[i]) &&& 255#32)
  refine Ev.pos hnn (Ev.po (Ev.opt (zbu1 (by omega)) ?_))
  rw [zbux, xor_u, zbt3 (by omega) (by omega), show ((i : Int) + 1) = ((i + 1 : Nat) : Int) by omega, zbu5]
  have := zbu6 z l hb hl k (i + 1) (bentry ((x ^^^ BitVec.ofInt 32 l[i]) &&& 255#32) ^^^ (x >>> 8)) (by omega)
  rw [y9 hi]
  simp only [bmore, List.foldl_cons, bbyte, BitVec.ofNat_toNat, BitVec.setWidth_eq] at this ⊢
  exact this
theorem zbu7 (x : B32) (s : Sl Int) (hb : isB s.l) (hl : s.l.length ≤ 1099511627776) : Ev (fun q => zk9 q (u x) s) (u (~~~ bmore (~~~ x) s.l)) := by
 refine Ev.succ (Ev.bind zbu4 (Ev.pos (zbu2 256) ?_)) (fun q => rfl)
 rw [ones, xor_u, BitVec.allOnes_xor]
 have := zbu6 s.z s.l hb hl s.l.length 0 (~~~ x) (by omega)
 rw [y38] at this
 exact this
/-- The sum of bytes. -/
def bsum (l : List Int) : B32 := ~~~ bmore (BitVec.allOnes 32) l
theorem zbu8 (s : Sl Int) (hb : isB s.l) (hl : s.l.length ≤ 1099511627776) : Ev (fun q => zla q s) (u (bsum s.l)) := by
 have := zbu7 0#32 s hb hl
 exact Ev.succ (Ev.bind this (Ev.ret' (by simp [bsum]))) (fun q => rfl)
theorem zbu9 (x : B32) (a b : List Int) : bmore (bmore x a) b = bmore x (a ++ b) := by simp [bmore]
theorem zbva {x : Int} (h : 0 ≤ x) (k : Nat) (hk : k ≤ 64) : ishr .u64 x (k : Int) = x / ((2 ^ k : Nat) : Int) := by
 unfold ishr
 simp only [IntKind.bits, y28, Nat.min_eq_left hk]
 rw [y53 _ (by exact_mod_cast Nat.zero_le _)]
 simp
/-- A number in four bytes. -/
def fix4 (v : Nat) : List Int := [((v % 256 : Nat) : Int), ((v / 256 % 256 : Nat) : Int), ((v / 65536 % 256 : Nat) : Int), ((v / 16777216 % 256 : Nat) : Int)]
theorem zbvb (v k : Nat) (hk : k ≤ 8) : wrp .u8 (ishr .u64 (v : Int) (wrp .i64 (8 * (k : Int)))) = ((v / 2 ^ (8 * k) % 256 : Nat) : Int) := by
 rw [zbt3 (by omega) (by omega), show (8 * (k : Int)) = ((8 * k : Nat) : Int) by omega, zbva (by omega) _ (by omega), wrp_u8]
 exact_mod_cast rfl
def bytesFrom (v : Nat) : Nat → Nat → List Int
 | _, 0 => []
 | i, k + 1 => ((v / 2 ^ (8 * i) % 256 : Nat) : Int) :: bytesFrom v (i + 1) k
theorem zbvc {v m : Nat} (hm : m ≤ 8) : ∀ (k i : Nat) (l : List Int), m = i + k → l.length + k ≤ 4294967296 → Ev (fun q => zlb q (v : Int) (m : Int) (i : Int) false l) ⟨false, true, l ++ bytesFrom v i k⟩
 | 0, i, l, hk, hl => Ev.succ (Ev.ne (Ev.ret' (by simp [bytesFrom]))) (fun q => rfl)
 | k + 1, i, l, hk, hl => by
  have w : wrp .i64 (8 * (i : Int)) = 8 * (i : Int) := zbt3 (by omega) (by omega)
  refine Ev.succ (Ev.po (Ev.neg (by rw [w]; omega) (Ev.pos (by omega) ?_))) (fun q => rfl)
  rw [zbvb v i (by omega), zbt3 (x := (i : Int) + 1) (by omega) (by omega), show ((i : Int) + 1) = ((i + 1 : Nat) : Int) by omega]
  refine (zbvc hm k (i + 1) _ (by omega) (by simp; omega)).cast ?_
  simp [bytesFrom]
theorem zbvd {v m : Nat} (h0 : 0 < m) (hm : m ≤ 8) : Ev (fun q => zlc q (v : Int) (m : Int)) ⟨false, true, bytesFrom v 0 m⟩ := by
 obtain ⟨k, rfl⟩ : ∃ k, m = k + 1 := ⟨m - 1, by omega⟩
 have w : wrp .i64 (8 * ((0 : Nat) : Int)) = 0 := zbt3 (by omega) (by omega)
 have key : ∀ i : Int, i = ((0 : Nat) : Int) → Ev (fun q => zlb q (v : Int) ((k + 1 : Nat) : Int) i true []) ⟨false, true, bytesFrom v 0 (k + 1)⟩ := by
  intro i hi
  refine Ev.succ (Ev.po (Ev.neg (by rw [hi, w]; omega) (Ev.pos (by simp) ?_))) (fun q => rfl)
  rw [hi, zbvb v 0 (by omega), zbt3 (x := ((0 : Nat) : Int) + 1) (by omega) (by omega), show (((0 : Nat) : Int) + 1) = ((0 + 1 : Nat) : Int) by omega]
  refine (zbvc hm k 1 _ (by omega) (by simp; omega)).cast ?_
  simp [bytesFrom]
 exact Ev.succ (key 0 rfl) (fun q => rfl)
theorem bytes4 (v : Nat) : bytesFrom v 0 4 = fix4 v := by simp [bytesFrom, fix4]
theorem zbve {v : Nat} (h : v < 18446744073709551616) : Ev (fun q => zlc q (v : Int) 4) ⟨false, true, fix4 v⟩ := by
 have := zbvd (v := v) (m := 4) (by omega) (by omega)
 rw [bytes4] at this; exact this
theorem zbvf (a : B32) : Ev (fun q => zld q (u a)) ⟨false, true, fix4 a.toNat⟩ := by
 have h1 := u_nn a; have h2 := u_lt a
 have e : wrp .u64 (u a) = ((a.toNat : Nat) : Int) := by rw [zbt4 h1 (by omega)]; rfl
 exact Ev.succ (Ev.bind (by rw [e]; exact zbve (by have := a.isLt; omega)) (Ev.ret _)) (fun q => rfl)
theorem zbvg (a b : Sl Int) (ha : isB a.l) (hb : isB b.l) (la : a.l.length ≤ 1099511627776) (lb : b.l.length ≤ 1099511627776) : Ev (fun q => zle q a b) ⟨false, true, fix4 (bsum (a.l ++ b.l)).toNat⟩ := by
 have h2 := zbu7 (bsum a.l) b hb lb
 have e : ~~~ bmore (~~~ bsum a.l) b.l = bsum (a.l ++ b.l) := by
  unfold bsum; rw [BitVec.not_not, zbu9]
 rw [e] at h2
 exact Ev.succ (Ev.bind (zbu8 a ha la) (Ev.bind h2 (Ev.bind (zbvf _) (Ev.ret _)))) (fun q => rfl)
def flat (l : List (Sl Int)) : List Int := l.flatMap (·.l)
theorem zbvh (a : Sl Int) (b : List (Sl Int)) : flat (a :: b) = a.l ++ flat b := by simp [flat]
theorem zbvi (z0 : Bool) (L : List (Sl Int)) (z : Bool) (hL : L.length ≤ 1099511627776) : ∀ (k i : Nat) (m : Nat) (l : List Int), L.length = i + k → m + (flat (L.drop i)).length ≤ l.length →
  Ev (fun q => zlk q m z0 L (L.length : Int) (i : Int) z l) ⟨z, true, l.take m ++ flat (L.drop i)⟩
 | 0, i, m, l, hk, hl => by
  refine Ev.succ (Ev.ne (Ev.ret' ?_)) (fun q => rfl)
  rw [y12 (by omega)]; simp [flat]
 | k + 1, i, m, l, hk, hl => by
  have hi : i < L.length := by omega
  have hg : L[(i : Int).toNat]? = some L[i] := by simpa using y7 hi
  rw [y9 hi, zbvh, y10] at hl
  refine Ev.succ (Ev.po (Ev.po (Ev.opt hg (Ev.pos (by omega) ?_)))) (fun q => rfl)
  rw [zbt3 (by omega) (by omega), show ((i : Int) + 1) = ((i + 1 : Nat) : Int) by omega]
  refine (zbvi z0 L z hL k (i + 1) (m + L[i].l.length) _ (by omega) ?_).cast ?_
  ·simp only [y10, y20, y13]; omega
  ·congr 1
   rw [y9 hi, zbvh, ← y33]
   congr 1
   rw [List.take_append_of_le_length (by simp only [y10, y20]; omega), List.take_of_length_le (by simp only [y10, y20]; omega)]
theorem zbvj (z0 : Bool) (L : List (Sl Int)) (hL : L.length ≤ 1099511627776) : ∀ (k i : Nat) (z : Bool) (l : List Int), L.length = i + k → l.length + (flat (L.drop i)).length ≤ 4294967296 →
  ∃ z', Ev (fun q => zll q z0 L (L.length : Int) (i : Int) z l) ⟨z', true, l ++ flat (L.drop i)⟩
 | 0, i, z, l, hk, hl => ⟨z, by
  refine Ev.succ (Ev.ne (Ev.ret' ?_)) (fun q => rfl)
  rw [y12 (by omega)]; simp [flat]⟩
 | k + 1, i, z, l, hk, hl => by
  have hi : i < L.length := by omega
  have hg : L[(i : Int).toNat]? = some L[i] := by simpa using y7 hi
  rw [y9 hi, zbvh, y10] at hl
  obtain ⟨z', h⟩ := zbvj z0 L hL k (i + 1) (z && (decide (L[i].l.length = 0))) (l ++ L[i].l) (by omega) (by simp only [y10]; omega)
  refine ⟨z', Ev.succ (Ev.po (Ev.po (Ev.opt hg (Ev.pos (by omega) ?_)))) (fun q => rfl)⟩
  rw [zbt3 (by omega) (by omega), show ((i : Int) + 1) = ((i + 1 : Nat) : Int) by omega]
  refine h.cast ?_
  rw [y9 hi, zbvh]; simp
theorem zbvk (z0 z9 : Bool) (L : List (Sl Int)) (hL : L.length ≤ 1099511627776) (hf : (flat L).length ≤ 4294967296) : ∀ (k i : Nat) (m : Nat), L.length = i + k → m + (flat (L.drop i)).length = (flat L).length →
  ∃ z', Ev (fun q => zln q z0 L (m : Int) z9 L (L.length : Int) (i : Int)) ⟨z', true, flat L⟩
 | 0, i, m, hk, hm => by
  rw [y12 (by omega)] at hm
  have hm2 : m = (flat L).length := by simpa [flat] using hm
  have w : wrp .i64 ((m : Int) - wrp .i64 0) = (m : Int) := by rw [zbt3 (x := 0) (by omega) (by omega), zbt3 (by omega) (by omega)]; omega
  by_cases h0 : 0 < m
  ·refine ⟨decide (wrp .i64 ((m : Int) - wrp .i64 0) = 0), Ev.succ (Ev.ne (Ev.ne (Ev.pos (by rw [w]; omega) (Ev.pos (by rw [w]; omega) (Ev.pos (by rw [w]; omega) (Ev.neg (by rw [w]; omega) ?_)))))) (fun q => rfl)⟩
   rw [w]
   have := zbvi z0 L (decide ((m : Int) = 0)) hL L.length 0 0 (List.replicate (m : Int).toNat 0) (by omega) (by simp; omega)
   rw [y38] at this
   exact this
  ·have hnil : flat L = [] := y35 (by omega)
   match L, hk with
   | [], _ =>
    refine ⟨true, Ev.succ (Ev.neg (by simp) (Ev.neg (by omega) ?_)) (fun q => rfl)⟩
    rw [w]
    refine Ev.neg (by omega) ?_
    exact Ev.succ (g := fun _ => some ⟨true, true, []⟩) (Ev.ret' (by simp [flat])) (fun q => rfl)
   | a :: L', hk =>
    rw [zbvh] at hnil
    obtain ⟨z', h⟩ := zbvj z0 (a :: L') hL L'.length 1 (decide (a.l.length = 0)) a.l (by simp; omega) (by
     have : flat (List.drop 1 (a :: L')) = flat L' := rfl
     rw [this, ← y10, hnil]; simp)
    refine ⟨z', Ev.succ (Ev.ne (Ev.neg (by omega) ?_)) (fun q => rfl)⟩
    rw [w]
    refine Ev.ne (Ev.succ (Ev.pos (by simp) (Ev.opt (s := a) rfl (Ev.pos ?_ ?_))) (fun q => rfl))
    ·have : a.l.length ≤ (a.l ++ flat L').length := by simp
     rw [hnil] at this; simp at this; simp [this]
    ·rw [zbt3 (by omega) (by omega)]
     refine h.cast ?_
     rw [zbvh]; rfl
 | k + 1, i, m, hk, hm => by
  have hi : i < L.length := by omega
  have hg : L[(i : Int).toNat]? = some L[i] := by simpa using y7 hi
  rw [y9 hi, zbvh, y10] at hm
  obtain ⟨z', h⟩ := zbvk z0 z9 L hL hf k (i + 1) (m + L[i].l.length) (by omega) (by omega)
  refine ⟨z', Ev.succ (Ev.po (Ev.po (Ev.opt hg ?_))) (fun q => rfl)⟩
  have w : wrp .i64 ((m : Int) + (L[i].l.length : Int)) = ((m + L[i].l.length : Nat) : Int) := by rw [zbt3 (by omega) (by omega)]; omega
  rw [w, zbt3 (by omega) (by omega), show ((i : Int) + 1) = ((i + 1 : Nat) : Int) by omega]
  exact Ev.neg (by omega) h
theorem zbvl (s : Sl (Sl Int)) (hL : s.l.length ≤ 1099511627776) (hf : (flat s.l).length ≤ 4294967296) : ∃ z', Ev (fun q => zlo q s) ⟨z', true, flat s.l⟩ := by
 obtain ⟨z', h⟩ := zbvk s.z s.z s.l hL hf s.l.length 0 0 (by omega) (by simp)
 exact ⟨z', Ev.succ h (fun q => rfl)⟩
theorem zbvm : ∀ n, isB (grp n) := by
 intro n
 induction n using Nat.strongRecOn with
 | ind n ih =>
  by_cases h : n < 128
  ·rw [grp_lt h]; intro c hc; simp at hc; omega
  ·rw [grp_ge h]; intro c hc
   rcases List.mem_cons.1 hc with rfl | hc
   ·omega
   ·exact ih (n / 128) (by omega) c hc
theorem zbvn (n : Int) : isB (put n) := by
 unfold put; split
 ·intro c hc; simp at hc
 ·split
  ·intro c hc; simp at hc
  ·exact zbvm _
theorem zbvo {a b : List Int} : isB (a ++ b) ↔ isB a ∧ isB b := by
 constructor
 ·intro h; exact ⟨fun c hc => h c (List.mem_append.2 (.inl hc)), fun c hc => h c (List.mem_append.2 (.inr hc))⟩
 ·rintro ⟨h1, h2⟩ c hc
  rcases List.mem_append.1 hc with h | h
  ·exact h1 c h
  ·exact h2 c h
/-- A frame. -/
def encF (l : List Int) : List Int := put (l.length : Int) ++ (l ++ fix4 (bsum (put (l.length : Int) ++ l)).toNat)
theorem zbvp (s : Sl Int) (hb : isB s.l) (hl : s.l.length ≤ 1048576) : ∃ z, Ev (fun q => zlp q s) (⟨z, true, encF s.l⟩, 0) := by
 have hp := zbuc (s.l.length : Int)
 obtain ⟨z, h⟩ := zbvl ⟨false, [⟨false, put (s.l.length : Int)⟩, s, ⟨false, fix4 (bsum (put (s.l.length : Int) ++ s.l)).toNat⟩]⟩ (by simp) (by simp [flat, fix4]; omega)
 refine ⟨z, Ev.succ (Ev.neg (by omega) ?_) (fun q => rfl)⟩
 refine Ev.bind (zbud ⟨true, true, []⟩ (by omega) (by omega) (by simp)) ?_
 refine Ev.bind (zbvg ⟨false, put (s.l.length : Int)⟩ s (zbvn (s.l.length : Int)) hb (by simp only; omega) (by omega)) ?_
 refine Ev.bind h ?_
 exact Ev.ret' (by simp [encF, flat])
theorem zbvq {l : List Int} (h : isB l) (n : Nat) : isB (l.take n) := fun c hc => h c (y44 hc)
theorem zbvr {l : List Int} (h : isB l) (n : Nat) : isB (l.drop n) := fun c hc => h c (y52 hc)
theorem tdiv_u (a : B32) (k : Nat) : Int.tdiv (u a) ((2 ^ k : Nat) : Int) = u (a >>> k) := by
 rw [Int.tdiv_eq_ediv_of_nonneg (u_nn a)]
 unfold u
 rw [BitVec.toNat_ushiftRight, Nat.shiftRight_eq_div_pow]
 exact (Int.natCast_ediv _ _).symm
theorem wrp_uu (a : B32) : wrp .u32 (u a) = u a := zbt5 (u_nn a) (by have := u_lt a; omega)
theorem zbvs : ∀ (k : Nat) (a : B32) (i : Int), i = 8 - k → k ≤ 8 → Ev (fun q => zl9 q (u a) i) (u (biter k a))
 | 0, a, i, h1, h2 => Ev.succ (Ev.ne (Ev.ret _)) (fun q => rfl)
 | k + 1, a, i, h1, h2 => by
  have e1 : Int.tdiv (u a) 2 = u (a >>> 1) := tdiv_u a 1
  have e2 : Int.tmod (u a) 2 = u a % 2 := y59 (u_nn a)
  have hp : (2197175160 : Int) = u poly := by unfold poly; rw [u_lit _ (by omega)]; rfl
  have wi : wrp .i64 (i + 1) = i + 1 := zbt3 (by omega) (by omega)
  have ih := zbvs k (bstep a) (i + 1) (by omega) (by omega)
  refine Ev.succ (Ev.pos (by omega) ?_) (fun q => rfl)
  simp only [biter]
  rw [e1, wrp_uu, hp, xor_u, wi, e2]
  unfold bstep at ih ⊢
  refine Ev.ite (fun h => ?_) fun h => ?_
  ·rw [if_pos ((zbuy a).2 h)] at ih ⊢; exact ih
  ·rw [if_neg (fun e => h ((zbuy a).1 e))] at ih ⊢; exact ih
theorem zbvt (a : B32) : Ev (fun q => zma q (u a)) (u (bentry a)) := by
 have := zbvs 8 a 0 (by omega) (by omega)
 refine Ev.succ (g := fun q => zl9 q (wrp .u32 (u a)) 0) ?_ (fun q => rfl)
 rw [wrp_uu]; exact this
theorem zbvu (z : Bool) (l : List Int) (hb : isB l) (hl : l.length ≤ 1099511627776) : ∀ (k i : Nat) (x : B32), l.length = i + k → Ev (fun q => zmb q z l (u x) (i : Int)) (u (~~~ bmore x (l.drop i)))
 | 0, i, x, hk => by
  refine Ev.succ (Ev.ne (Ev.ret' ?_)) (fun q => rfl)
  rw [y12 (by omega), ones, xor_u]
  simp only [bmore, List.foldl_nil, BitVec.allOnes_xor]
 | k + 1, i, x, hk => by
  have hi : i < l.length := by omega
  have hg : l[(i : Int).toNat]? = some l[i] := by simpa using y7 hi
  obtain ⟨b1, b2⟩ := hb l[i] (y26 hi)
  have e8 : Int.tdiv (u x) 256 = u (x >>> 8) := tdiv_u x 8
  have wi : wrp .i64 ((i : Int) + 1) = ((i + 1 : Nat) : Int) := by rw [zbt3 (by omega) (by omega)]; omega
  refine Ev.succ (Ev.po (Ev.po (Ev.opt hg (Ev.bind (by rw [xor8 b1 b2]; exact zbvt _) ?_)))) (fun q => rfl)
  rw [e8, wrp_uu, xor_u, wi]
  have := zbvu z l hb hl k (i + 1) (bentry ((x ^^^ BitVec.ofInt 32 l[i]) &&& 255#32) ^^^ (x >>> 8)) (by omega)
  rw [y9 hi]
  simp only [bmore, List.foldl_cons, bbyte] at this ⊢
  exact this
theorem zbvv (x : B32) (s : Sl Int) (hb : isB s.l) (hl : s.l.length ≤ 1099511627776) : Ev (fun q => zmc q (u x) s) (u (~~~ bmore (~~~ x) s.l)) := by
 have := zbvu s.z s.l hb hl s.l.length 0 (~~~ x) (by omega)
 rw [y38] at this
 refine Ev.succ (g := fun q => zmb q s.z s.l (ibits .xor .u32 4294967295 (u x)) 0) ?_ (fun q => rfl)
 rw [ones, xor_u, BitVec.allOnes_xor]
 exact this
theorem zbvw (s : Sl Int) (hb : isB s.l) (hl : s.l.length ≤ 1099511627776) : Ev (fun q => zmd q s) (u (bsum s.l)) := by
 have := zbvv 0#32 s hb hl
 exact Ev.succ (Ev.bind this (Ev.ret' (by simp [bsum]))) (fun q => rfl)
theorem zbvx (v m : Nat) (hm : m ≤ 8) (hv : v < 18446744073709551616) : ∀ (k i : Nat) (z : Bool) (l : List Int), m = i + k → 0 < k → l.length + k ≤ 4294967296 → Ev (fun q => zme q ((v / 2 ^ (8 * i) : Nat) : Int) (m : Int) (i : Int) z l) ⟨false, true, l ++ bytesFrom v i k⟩
 | 0, i, z, l, hk, h0, hl => by omega
 | k + 1, i, z, l, hk, h0, hl => by
  have hle : v / 2 ^ (8 * i) ≤ v := Nat.div_le_self _ _
  have e1 : Int.tdiv ((v / 2 ^ (8 * i) : Nat) : Int) 256 = ((v / 2 ^ (8 * (i + 1)) : Nat) : Int) := by
   rw [Int.tdiv_eq_ediv_of_nonneg (Int.natCast_nonneg _), show 8 * (i + 1) = 8 * i + 8 by omega, Nat.pow_add, ← Nat.div_div_eq_div_mul]
   exact (Int.natCast_ediv _ _).symm
  have e2 : Int.tmod ((v / 2 ^ (8 * i) : Nat) : Int) 256 = ((v / 2 ^ (8 * i) % 256 : Nat) : Int) := by
   rw [y59 (Int.natCast_nonneg _)]; exact (Int.natCast_emod _ _).symm
  have hle2 : v / 2 ^ (8 * (i + 1)) ≤ v := Nat.div_le_self _ _
  have wi : wrp .i64 ((i : Int) + 1) = ((i + 1 : Nat) : Int) := by rw [zbt3 (by omega) (by omega)]; omega
  refine Ev.succ (Ev.po (Ev.pos (by omega) ?_)) (fun q => rfl)
  have w1 : wrp .u64 ((v / 2 ^ (8 * (i + 1)) : Nat) : Int) = ((v / 2 ^ (8 * (i + 1)) : Nat) : Int) := by
   generalize v / 2 ^ (8 * (i + 1)) = B at hle2
   exact zbt4 (by omega) (by omega)
  have w2 : ((v / 2 ^ (8 * i) % 256 : Nat) : Int) % 256 = ((v / 2 ^ (8 * i) % 256 : Nat) : Int) := by
   generalize v / 2 ^ (8 * i) = B
   omega
  rw [e1, e2, w1, wrp_u8, wi, w2]
  by_cases hk0 : k = 0
  ·subst hk0
   exact Ev.succ (Ev.ne (Ev.ret' (by simp [bytesFrom]))) (fun q => rfl)
  ·refine (zbvx v m hm hv k (i + 1) false _ (by omega) (by omega) (by simp; omega)).cast ?_
   simp [bytesFrom]
theorem zbvy (a : B32) : Ev (fun q => zmf q (wrp .u64 (u a)) 4) ⟨false, true, fix4 a.toNat⟩ := by
 have h1 := u_nn a; have h2 := u_lt a
 have := zbvx a.toNat 4 (by omega) (by omega) 4 0 true [] (by omega) (by omega) (by simp)
 rw [bytes4] at this
 refine Ev.succ (g := fun q => zme q (wrp .u64 (u a)) 4 0 true []) ?_ (fun q => rfl)
 rw [zbt4 h1 (by omega)]
 simpa [u] using this
theorem zbvz (s : Sl Int) (hb : isB s.l) (hl : s.l.length ≤ 1048576) : ∃ z, Ev (fun q => zmg q s) (⟨z, true, encF s.l⟩, 0) := by
 have hp := zbuc (s.l.length : Int)
 have h2 := zbvv (bsum (put (s.l.length : Int))) s hb (by omega)
 have e : ~~~ bmore (~~~ bsum (put (s.l.length : Int))) s.l = bsum (put (s.l.length : Int) ++ s.l) := by
  unfold bsum; rw [BitVec.not_not, zbu9]
 rw [e] at h2
 refine ⟨(((decide ((put (s.l.length : Int)).length = 0)) && (decide (s.l.length = 0))) && (decide ((fix4 (bsum (put (s.l.length : Int) ++ s.l)).toNat).length = 0))), Ev.succ (Ev.ne (Ev.bind (zbur ⟨true, []⟩ (by omega) (by omega) (by simp)) (Ev.bind (zbvw ⟨false, put (s.l.length : Int)⟩ (zbvn (s.l.length : Int)) (by simp only; omega)) (Ev.bind h2 ?_)))) (fun q => rfl)⟩
 ·simp only [y47]
  refine Ev.po (Ev.po (Ev.bind (zbvy _) (Ev.pos (by simp [fix4]; omega) (Ev.ret' ?_))))
  simp [encF]
def cutsB (l : List Int) : Prop := ∀ n ∈ l, n = cutI n
instance (l : List Int) : Decidable (cutsB l) := by unfold cutsB; infer_instance
theorem zbv0 (n : Int) : Ev (fun q => zjq q n) (!(decide (n = cutI n))) := Ev.succ (Ev.bind (zbui n) (Ev.ret _)) (fun q => rfl)
theorem zbv1 (z : Bool) (L : List Int) (h0 : Int) (h1z : Bool) (h1l : List Int) (h2 : Bool) (h3 : Int) (hL : L.length ≤ 1000000) : ∀ (k i : Nat), L.length = i + k →
  ∃ r, Ev (fun q => zjt q z L (L.length : Int) (i : Int) h0 h1z h1l h2 h3) r ∧ (0 ≤ r ↔ ¬ cutsB (L.drop i))
 | 0, i, hk => by
  refine ⟨-1, Ev.succ (Ev.ne (Ev.ret _)) (fun q => rfl), ?_⟩
  rw [y12 (by omega)]; simp [cutsB]
 | k + 1, i, hk => by
  have hi : i < L.length := by omega
  have he : L[((i : Int)).toNat]? = some L[i] := by simp [hi]
  have hd := y9 hi
  by_cases h : L[i] = cutI L[i]
  ·obtain ⟨r, hr, hi2⟩ := zbv1 z L h0 h1z h1l h2 h3 hL k (i + 1) (by omega)
   rw [show ((i + 1 : Nat) : Int) = wrp .i64 ((i : Int) + 1) by rw [zbt3 (by omega) (by omega)]; omega] at hr
   refine ⟨r, Ev.succ (Ev.po (Ev.po (Ev.opt he (Ev.bind (zbv0 _) (Ev.neg (by simpa using h) hr))))) (fun q => rfl), ?_⟩
   rw [hi2, hd]; unfold cutsB; simp only [List.mem_cons, forall_eq_or_imp]
   exact ⟨fun a b => a b.2, fun a b => a ⟨h, b⟩⟩
  ·refine ⟨i, Ev.succ (Ev.po (Ev.po (Ev.opt he (Ev.bind (zbv0 _) (Ev.pos (by simpa using h) (Ev.ret _)))))) (fun q => rfl), ?_⟩
   rw [hd]; unfold cutsB; simp only [List.mem_cons, forall_eq_or_imp]
   exact ⟨fun _ b => h b.1, fun _ => by omega⟩
theorem zbv2 (z : Bool) (L : List Int) (h0 : Int) (h1z : Bool) (h1l : List Int) (h2 : Bool) (h3 : Int) (hL : L.length ≤ 1000000) : ∃ r, Ev (fun q => zju q z L h0 h1z h1l h2 h3) r ∧ (0 ≤ r ↔ ¬ cutsB L) := by
 obtain ⟨r, h, h4⟩ := zbv1 z L h0 h1z h1l h2 h3 hL L.length 0 (by omega)
 exact ⟨r, Ev.succ h (fun q => rfl), by simpa using h4⟩
def prs (least : Int) : Int → List Int → Bool
 | last, a :: b :: t => decide (last < a) && (decide (a ≤ 255) && (decide (least ≤ b) && (decide (b ≤ 1099511627776) && prs least a t)))
 | _, _ => true
def pairsOk (least : Int) (l : List Int) : Bool := prs least (-1) l && (decide (l.length % 2 = 0) && decide (l.length ≤ 128))
theorem zbv3 (z : Bool) (L : List Int) (least : Int) (hL : L.length ≤ 1000000) : ∀ (k i : Nat) (last : Int), L.length ≤ i + 2 * k → i ≤ 2000000 →
  Ev (fun q => zjr q z L least last (i : Int)) (prs least last (L.drop i) && (decide (L.length % 2 = 0) && decide (L.length ≤ 128)))
 | k, i, last, hk, hi9 => by
  have w1 : wrp .i64 ((i : Int) + 1) = ((i + 1 : Nat) : Int) := by rw [zbt3 (by omega) (by omega)]; omega
  have w2 : wrp .i64 ((i : Int) + 2) = ((i + 2 : Nat) : Int) := by rw [zbt3 (by omega) (by omega)]; omega
  by_cases h : i + 1 < L.length
  ·cases k with
   | zero => omega
   | succ k =>
    have he : L[((i : Int)).toNat]? = some L[i] := by rw [y28]; exact y7 (by omega)
    have he2 : L[(wrp .i64 ((i : Int) + 1)).toNat]? = some L[i + 1] := by rw [w1, y28]; exact y7 h
    have hd : L.drop i = L[i] :: L[i + 1] :: L.drop (i + 2) := by rw [y9 (by omega), y9 h]
    rw [hd]
    simp only [prs]
    refine Ev.succ (Ev.pos (by rw [w1]; omega) (Ev.po (Ev.opt he (Ev.ite (fun c => Ev.ret' ?_) fun c => Ev.ite (fun c2 => Ev.ret' ?_) fun c2 => Ev.pos (by rw [w1]; omega) (Ev.opt he2 (Ev.ite (fun c3 => Ev.ret' ?_) fun c3 => Ev.ite (fun c4 => Ev.ret' ?_) fun c4 => ?_)))))) (fun q => rfl)
    ·rw [decide_eq_false (show ¬ last < L[i] by omega)]; rfl
    ·rw [decide_eq_false (show ¬ L[i] ≤ 255 by omega)]; simp
    ·rw [decide_eq_false (show ¬ least ≤ L[i + 1] by omega)]; simp
    ·rw [decide_eq_false (show ¬ L[i + 1] ≤ 1099511627776 by omega)]; simp
    ·rw [decide_eq_true (show last < L[i] by omega), decide_eq_true (show L[i] ≤ 255 by omega), decide_eq_true (show least ≤ L[i + 1] by omega), decide_eq_true (show L[i + 1] ≤ 1099511627776 by omega), w2]
     simp only [y61]
     exact zbv3 z L least hL k (i + 2) L[i] (by omega) (by omega)
  ·have hp : prs least last (L.drop i) = true := by
    have hl : (L.drop i).length ≤ 1 := by rw [y13]; omega
    generalize L.drop i = X at hl
    match X, hl with
    | [], _ => rfl
    | [a], _ => rfl
   rw [hp, y61]
   have ht : Int.tmod (L.length : Int) 2 = ((L.length % 2 : Nat) : Int) := by rw [y59 (by omega)]; omega
   refine Ev.succ (Ev.neg (by rw [w1]; omega) (Ev.ite (fun c => Ev.ret' ?_) fun c => Ev.ret' ?_)) (fun q => rfl)
   ·rw [ht] at c
    rw [decide_eq_true (show L.length % 2 = 0 by omega), y61]
    by_cases h4 : L.length ≤ 128
    ·rw [decide_eq_true h4, decide_eq_true (by omega)]
    ·rw [decide_eq_false h4, decide_eq_false (by omega)]
   ·rw [ht] at c
    rw [decide_eq_false (show ¬ L.length % 2 = 0 by omega)]; rfl
theorem zbv4 (s : Sl Int) (least : Int) (hL : s.l.length ≤ 1000000) : Ev (fun q => zjs q s least) (pairsOk least s.l) := by
 have := zbv3 s.z s.l least hL s.l.length 0 (-1) (by omega) (by omega)
 exact Ev.succ this (fun q => rfl)
theorem zbv5 (z : Bool) (L : List Int) (least : Int) (hL : L.length ≤ 1000000) (h2 : L.length % 2 = 0) : ∀ (k i : Nat) (last : Int), L.length ≤ i + 2 * k → i ≤ 2000000 → i % 2 = 0 → (∀ e, 0 < i → L[i - 2]? = some e → e = last ∧ 0 ≤ last) → (i = 0 → last = -1) →
  Ev (fun q => zki q z L least (i : Int)) (prs least last (L.drop i))
 | k, i, last, hk, hi9, hi2, hla, hl0 => by
  have w1 : wrp .i64 ((i : Int) + 1) = ((i + 1 : Nat) : Int) := by rw [zbt3 (by omega) (by omega)]; omega
  have w2 : wrp .i64 ((i : Int) + 2) = ((i + 2 : Nat) : Int) := by rw [zbt3 (by omega) (by omega)]; omega
  by_cases h : i < L.length
  ·have h' : i + 1 < L.length := by omega
   cases k with
   | zero => omega
   | succ k =>
    have he : L[((i : Int)).toNat]? = some L[i] := by rw [y28]; exact y7 (by omega)
    have he2 : L[(wrp .i64 ((i : Int) + 1)).toNat]? = some L[i + 1] := by rw [w1, y28]; exact y7 h'
    have hd : L.drop i = L[i] :: L[i + 1] :: L.drop (i + 2) := by rw [y9 (by omega), y9 h']
    rw [hd]
    simp only [prs]
    have tail : last < L[i] → ¬ L[i] < 0 → ¬ 255 < L[i] → Ev (fun q => if 0 ≤ (wrp .i64 ((i : Int) + 1)) then ((L[(wrp .i64 ((i : Int) + 1)).toNat]?).bind fun e4 => (if e4 < least then (some false) else (if 1099511627776 < e4 then (some false) else (zki q z L least (wrp .i64 ((i : Int) + 2)))))) else none) (decide (last < L[i]) && (decide (L[i] ≤ 255) && (decide (least ≤ L[i + 1]) && (decide (L[i + 1] ≤ 1099511627776) && prs least L[i] (L.drop (i + 2)))))) := fun c0 c1 c2 => by
     rw [decide_eq_true c0, decide_eq_true (show L[i] ≤ 255 by omega)]
     refine Ev.pos (by rw [w1]; omega) (Ev.opt he2 (Ev.ite (fun c3 => Ev.ret' ?_) fun c3 => Ev.ite (fun c4 => Ev.ret' ?_) fun c4 => ?_))
     ·rw [decide_eq_false (show ¬ least ≤ L[i + 1] by omega)]; simp
     ·rw [decide_eq_false (show ¬ L[i + 1] ≤ 1099511627776 by omega)]; simp
     ·rw [decide_eq_true (show least ≤ L[i + 1] by omega), decide_eq_true (show L[i + 1] ≤ 1099511627776 by omega), w2]
      simp only [y61]
      refine zbv5 z L least hL h2 k (i + 2) L[i] (by omega) (by omega) (by omega) (fun e _ hx => ?_) (by omega)
      rw [Nat.add_sub_cancel, y7 h] at hx
      simp only [y4] at hx
      exact ⟨hx.symm, by omega⟩
    refine Ev.succ (Ev.po (Ev.po (Ev.opt he (Ev.ite (fun c => Ev.ret' ?_) fun c => Ev.ite (fun c2 => Ev.ret' ?_) fun c2 => Ev.ite (fun c3 => ?_) fun c3 => ?_)))) (fun q => rfl)
    ·by_cases h0 : 0 < i
     ·have := (hla L[i - 2] h0 (y7 (by omega))).2
      rw [decide_eq_false (show ¬ last < L[i] by omega)]; rfl
     ·rw [decide_eq_false (show ¬ last < L[i] by have := hl0 (by omega); omega)]; rfl
    ·rw [decide_eq_false (show ¬ L[i] ≤ 255 by omega)]; simp
    ·have w3 : wrp .i64 ((i : Int) - 2) = ((i - 2 : Nat) : Int) := by rw [zbt3 (by omega) (by omega)]; omega
     have he3 : L[(wrp .i64 ((i : Int) - 2)).toNat]? = some L[i - 2] := by rw [w3, y28]; exact y7 (by omega)
     have hq := hla L[i - 2] (by omega) (y7 (by omega))
     refine Ev.pos (by rw [w3]; omega) (Ev.opt he3 (Ev.ite (fun c4 => Ev.ret' ?_) fun c4 => tail (by omega) c c2))
     rw [decide_eq_false (show ¬ last < L[i] by omega)]; rfl
    ·exact tail (by have := hl0 (by omega); omega) c c2
  ·rw [y12 (by omega)]
   exact Ev.succ (Ev.ne (Ev.ret _)) (fun q => rfl)
theorem zbv6 (s : Sl Int) (least : Int) (hL : s.l.length ≤ 1000000) : Ev (fun q => zkj q s least) (pairsOk least s.l) := by
 have ht : Int.tmod (s.l.length : Int) 2 = ((s.l.length % 2 : Nat) : Int) := by rw [y59 (by omega)]; omega
 unfold pairsOk
 refine Ev.succ (Ev.ite (fun c => Ev.ite (fun c2 => Ev.ret' ?_) fun c2 => ?_) fun c => Ev.ret' ?_) (fun q => rfl)
 ·rw [decide_eq_false (show ¬ s.l.length ≤ 128 by omega)]; simp
 ·rw [ht] at c
  rw [decide_eq_true (show s.l.length ≤ 128 by omega), decide_eq_true (show s.l.length % 2 = 0 by omega)]
  have := zbv5 s.z s.l least hL (by omega) s.l.length 0 (-1) (by omega) (by omega) (by omega) (fun e h => by omega) (fun _ => rfl)
  refine Ev.cast this ?_
  simp
 ·rw [ht] at c
  rw [decide_eq_false (show ¬ s.l.length % 2 = 0 by omega)]; simp
def kindOk (k : Int) (l : List Int) : Bool :=
 if k = 0 ∨ k = 1 then decide (l.length = 1 ∧ cutsB l) else if k = 2 ∨ k = 3 then decide (l.length ≤ 64 ∧ cutsB l) else if k = 4 then pairsOk (-1099511627776) l else if k = 5 then pairsOk 0 l else false
def mayS (s : zji) : Bool := if s.To < 0 then false else if 3 ≤ s.To then false else if s.Sealed = true then kindOk s.Kind s.L.l else if s.To = 0 then kindOk s.Kind s.L.l else false
theorem zbv7 (s : zji) (hL : s.L.l.length ≤ 1000000) : Ev (fun q => ((zju q s.L.z s.L.l s.Kind s.L.z s.L.l s.Sealed s.To).bind fun r1 => (if s.Kind = 0 then (if (s.L.l.length : Int) = 1 then (some (!(decide (0 ≤ r1)))) else (some false)) else (if s.Kind = 1 then (if (s.L.l.length : Int) = 1 then (some (!(decide (0 ≤ r1)))) else (some false)) else (if s.Kind = 2 then (if (s.L.l.length : Int) ≤ 64 then (some (!(decide (0 ≤ r1)))) else (some false)) else (if s.Kind = 3 then (if (s.L.l.length : Int) ≤ 64 then (some (!(decide (0 ≤ r1)))) else (some false)) else (if s.Kind = 4 then ((zjs q s.L (-1099511627776)).bind fun r2 => (some r2)) else (if s.Kind = 5 then ((zjs q s.L 0).bind fun r3 => (some r3)) else (some false))))))))) (kindOk s.Kind s.L.l) := by
 obtain ⟨r, h, hr⟩ := zbv2 s.L.z s.L.l s.Kind s.L.z s.L.l s.Sealed s.To hL
 have one : ∀ {P : Prop} [Decidable P], P → Ev (fun _ : Nat => (some (!(decide (0 ≤ r))) : Option Bool)) (decide (P ∧ cutsB s.L.l)) := fun {P} _ hp => Ev.ret' (by
  by_cases hc : cutsB s.L.l
  ·rw [decide_eq_false (fun e => hr.1 e hc)]; symm; simp only [Bool.not_false, decide_eq_true_eq]; exact ⟨hp, hc⟩
  ·rw [decide_eq_true (hr.2 hc)]; symm; simp only [Bool.not_true, decide_eq_false_iff_not]; exact fun e => hc e.2)
 have no : ∀ {P : Prop} [Decidable P], ¬ P → Ev (fun _ : Nat => (some false : Option Bool)) (decide (P ∧ cutsB s.L.l)) := fun {P} _ hp => Ev.ret' (by
  symm; simp only [decide_eq_false_iff_not]; exact fun e => hp e.1)
 refine Ev.bind h ?_
 unfold kindOk
 by_cases k0 : s.Kind = 0
 ·rw [if_pos (show s.Kind = 0 ∨ s.Kind = 1 from .inl k0)]
  by_cases hl : s.L.l.length = 1
  ·exact Ev.pos k0 (Ev.po (one hl))
  ·exact Ev.pos k0 (Ev.ne (no hl))
 by_cases k1 : s.Kind = 1
 ·rw [if_pos (show s.Kind = 0 ∨ s.Kind = 1 from .inr k1)]
  by_cases hl : s.L.l.length = 1
  ·exact Ev.neg k0 (Ev.pos k1 (Ev.po (one hl)))
  ·exact Ev.neg k0 (Ev.pos k1 (Ev.ne (no hl)))
 rw [if_neg (show ¬ (s.Kind = 0 ∨ s.Kind = 1) by omega)]
 by_cases k2 : s.Kind = 2
 ·rw [if_pos (show s.Kind = 2 ∨ s.Kind = 3 from .inl k2)]
  by_cases hl : s.L.l.length ≤ 64
  ·exact Ev.neg k0 (Ev.neg k1 (Ev.pos k2 (Ev.po (one hl))))
  ·exact Ev.neg k0 (Ev.neg k1 (Ev.pos k2 (Ev.ne (no hl))))
 by_cases k3 : s.Kind = 3
 ·rw [if_pos (show s.Kind = 2 ∨ s.Kind = 3 from .inr k3)]
  by_cases hl : s.L.l.length ≤ 64
  ·exact Ev.neg k0 (Ev.neg k1 (Ev.neg k2 (Ev.pos k3 (Ev.po (one hl)))))
  ·exact Ev.neg k0 (Ev.neg k1 (Ev.neg k2 (Ev.pos k3 (Ev.ne (no hl)))))
 rw [if_neg (show ¬ (s.Kind = 2 ∨ s.Kind = 3) by omega)]
 refine Ev.neg k0 (Ev.neg k1 (Ev.neg k2 (Ev.neg k3 (Ev.ite (fun k4 => ?_) fun k4 => Ev.ite (fun k5 => ?_) fun k5 => ?_))))
 ·rw [if_pos k4]; exact Ev.bind (zbv4 _ _ hL) (Ev.ret _)
 ·rw [if_neg k4, if_pos k5]; exact Ev.bind (zbv4 _ _ hL) (Ev.ret _)
 ·rw [if_neg k4, if_neg k5]; exact Ev.ret _
theorem zbv8 (s : zji) (hL : s.L.l.length ≤ 1000000) : Ev (fun q => zjv q s) (mayS s) := by
 have hb := zbv7 s hL
 unfold mayS
 refine Ev.succ (Ev.ite (fun h => ?_) fun h => Ev.ite (fun h2 => ?_) fun h2 => Ev.ite (fun h3 => ?_) fun h3 => Ev.ite (fun h4 => ?_) fun h4 => ?_) (fun q => rfl)
 ·rw [if_pos h]; exact Ev.ret _
 ·rw [if_neg h, if_pos h2]; exact Ev.ret _
 ·rw [if_neg h, if_neg h2, if_pos h3]; exact hb
 ·rw [if_neg h, if_neg h2, if_neg h3, if_pos h4]; exact hb
 ·rw [if_neg h, if_neg h2, if_neg h3, if_neg h4]; exact Ev.ret _
theorem zbv9 (h0 : Int) (z : Bool) (L : List Int) (h2 : Bool) (h3 : Int) (hL : L.length ≤ 1000000) : ∀ (k i : Nat), L.length = i + k →
  ∃ r, Ev (fun q => zkl q (i : Int) h0 z L h2 h3) r ∧ (r = true ↔ cutsB (L.drop i))
 | 0, i, hk => by
  refine ⟨true, Ev.succ (Ev.ne (Ev.ret _)) (fun q => rfl), ?_⟩
  rw [y12 (by omega)]; simp [cutsB]
 | k + 1, i, hk => by
  have hi : i < L.length := by omega
  have he : L[((i : Int)).toNat]? = some L[i] := by simp [hi]
  have hd := y9 hi
  by_cases h : L[i] = cutI L[i]
  ·obtain ⟨r, hr, hi2⟩ := zbv9 h0 z L h2 h3 hL k (i + 1) (by omega)
   rw [show ((i + 1 : Nat) : Int) = wrp .i64 ((i : Int) + 1) by rw [zbt3 (by omega) (by omega)]; omega] at hr
   refine ⟨r, Ev.succ (Ev.po (Ev.po (Ev.opt he (Ev.bind (zbuj _) (Ev.pos h hr))))) (fun q => rfl), ?_⟩
   rw [hi2, hd]; unfold cutsB; simp only [List.mem_cons, forall_eq_or_imp]
   exact ⟨fun a => ⟨h, a⟩, fun a => a.2⟩
  ·refine ⟨false, Ev.succ (Ev.po (Ev.po (Ev.opt he (Ev.bind (zbuj _) (Ev.neg h (Ev.ret _)))))) (fun q => rfl), ?_⟩
   rw [hd]
   exact ⟨fun e => (by cases e), fun a => absurd (a _ y32) h⟩
theorem zbwa (s : zji) (hL : s.L.l.length ≤ 1000000) : Ev (fun q => (if s.Kind < 0 then (some false) else (if 6 ≤ s.Kind then (some false) else (if s.Kind = 4 then ((zkj q s.L (-1099511627776)).bind fun r1 => (some r1)) else (if s.Kind = 5 then ((zkj q s.L 0).bind fun r2 => (some r2)) else (if 64 < (s.L.l.length : Int) then (some false) else (if (s.L.l.length : Int) = 1 then (zkl q 0 s.Kind s.L.z s.L.l s.Sealed s.To) else (if s.Kind ≤ 1 then (some false) else (zkl q 0 s.Kind s.L.z s.L.l s.Sealed s.To))))))))) (kindOk s.Kind s.L.l) := by
 obtain ⟨r, h, hr⟩ := zbv9 s.Kind s.L.z s.L.l s.Sealed s.To hL s.L.l.length 0 (by omega)
 rw [y38] at hr
 have one : ∀ {P : Prop} [Decidable P], P → r = (decide (P ∧ cutsB s.L.l)) := fun {P} _ hp => by
  by_cases hc : cutsB s.L.l
  ·rw [hr.2 hc]; symm; simp only [decide_eq_true_eq]; exact ⟨hp, hc⟩
  ·have : r = false := by cases r; rfl; exact absurd (hr.1 rfl) hc
   rw [this]; symm; simp only [decide_eq_false_iff_not]; exact fun e => hc e.2
 have no : ∀ {P : Prop} [Decidable P], ¬ P → false = (decide (P ∧ cutsB s.L.l)) := fun {P} _ hp => by
  symm; simp only [decide_eq_false_iff_not]; exact fun e => hp e.1
 unfold kindOk
 refine Ev.ite (fun c => Ev.ret' ?_) fun c => Ev.ite (fun c2 => Ev.ret' ?_) fun c2 => Ev.ite (fun k4 => ?_) fun k4 => Ev.ite (fun k5 => ?_) fun k5 => ?_
 ·rw [if_neg (show ¬ (s.Kind = 0 ∨ s.Kind = 1) by omega), if_neg (show ¬ (s.Kind = 2 ∨ s.Kind = 3) by omega), if_neg (show ¬ s.Kind = 4 by omega), if_neg (show ¬ s.Kind = 5 by omega)]
 ·rw [if_neg (show ¬ (s.Kind = 0 ∨ s.Kind = 1) by omega), if_neg (show ¬ (s.Kind = 2 ∨ s.Kind = 3) by omega), if_neg (show ¬ s.Kind = 4 by omega), if_neg (show ¬ s.Kind = 5 by omega)]
 ·rw [if_neg (show ¬ (s.Kind = 0 ∨ s.Kind = 1) by omega), if_neg (show ¬ (s.Kind = 2 ∨ s.Kind = 3) by omega), if_pos k4]; exact Ev.bind (zbv6 _ _ hL) (Ev.ret _)
 ·rw [if_neg (show ¬ (s.Kind = 0 ∨ s.Kind = 1) by omega), if_neg (show ¬ (s.Kind = 2 ∨ s.Kind = 3) by omega), if_neg k4, if_pos k5]; exact Ev.bind (zbv6 _ _ hL) (Ev.ret _)
 ·by_cases k01 : s.Kind = 0 ∨ s.Kind = 1
  ·rw [if_pos k01]
   refine Ev.ite (fun c3 => Ev.ret' ?_) fun c3 => Ev.ite (fun c4 => Ev.cast h ?_) fun c4 => Ev.po (Ev.ret' ?_)
   ·exact no (by omega)
   ·exact one (by omega)
   ·exact no (by omega)
  ·rw [if_neg k01, if_pos (show s.Kind = 2 ∨ s.Kind = 3 by omega)]
   refine Ev.ite (fun c3 => Ev.ret' ?_) fun c3 => Ev.ite (fun c4 => Ev.cast h ?_) fun c4 => Ev.ne (Ev.cast h ?_)
   ·exact no (by omega)
   ·exact one (by omega)
   ·exact one (by omega)
theorem zbwb (s : zji) (hL : s.L.l.length ≤ 1000000) : Ev (fun q => zkm q s) (mayS s) := by
 have hb := zbwa s hL
 unfold mayS
 refine Ev.succ (Ev.ite (fun h => ?_) fun h => Ev.ite (fun h2 => ?_) fun h2 => Ev.ite (fun h3 => ?_) fun h3 => Ev.ite (fun h4 => ?_) fun h4 => ?_) (fun q => rfl)
 ·rw [if_pos h]; exact Ev.ret _
 ·rw [if_neg h, if_pos (by omega)]; exact Ev.ret _
 ·rw [if_neg h, if_neg (by omega), if_pos h3]; exact hb
 ·rw [if_neg h, if_neg (by omega), if_neg h3, if_pos h4]; exact hb
 ·rw [if_neg h, if_neg (by omega), if_neg h3, if_neg h4]; exact Ev.ret _
def entOk (e : zjj) : Bool := decide (0 ≤ e.Proc) && (decide (e.Proc ≤ 64) && (decide (0 ≤ e.Seq) && (decide (e.Seq < 4611686018427387904) && (decide (-1125899906842624 ≤ e.Resp) && decide (e.Resp ≤ 1125899906842624)))))
theorem zbwc (e : zjj) : Ev (fun q => zjw q e) (entOk e) := by
 unfold entOk
 exact Ev.succ (Ev.ite (fun h1 => Ev.ite (fun h2 => Ev.ite (fun h3 => Ev.ite (fun h4 => Ev.ite (fun h5 => Ev.ret' (by simp [*])) fun h5 => Ev.ret' (by simp [*])) fun h4 => Ev.ret' (by simp [*])) fun h3 => Ev.ret' (by simp [*])) fun h2 => Ev.ret' (by simp [*])) fun h1 => Ev.ret' (by simp [*])) (fun q => rfl)
def tabB : Int → List zjj → Bool
 | _, [] => true
 | last, e :: t => entOk e && (decide (last < e.Proc) && tabB e.Proc t)
theorem zbwd (z z2 : Bool) (L : List zjj) (hL : L.length ≤ 1000000) : ∀ (k i : Nat) (last : Int), L.length = i + k → (∀ e, 0 < i → L[i - 1]? = some e → e.Proc = last) → (i = 0 → last = -1) →
  Ev (fun q => zjx q z L z2 L (L.length : Int) (i : Int)) (tabB last (L.drop i))
 | 0, i, last, hk, h1, h0 => by
  refine Ev.succ (Ev.ne (Ev.ret' ?_)) (fun q => rfl)
  rw [y12 (by omega)]; rfl
 | k + 1, i, last, hk, h1, h0 => by
  have hi : i < L.length := by omega
  have he : L[((i : Int)).toNat]? = some L[i] := by simp [hi]
  rw [y9 hi]
  simp only [tabB]
  have w1 : wrp .i64 ((i : Int) + 1) = ((i + 1 : Nat) : Int) := by rw [zbt3 (by omega) (by omega)]; omega
  have ih := zbwd z z2 L hL k (i + 1) L[i].Proc (by omega) (fun e _ hx => by
   rw [Nat.add_sub_cancel, y7 hi] at hx
   simp only [y4] at hx; rw [hx]) (by omega)
  refine Ev.succ (Ev.po (Ev.po (Ev.opt he (Ev.bind (zbwc _) (Ev.ite (fun c => Ev.ite (fun c2 => ?_) fun c2 => ?_) fun c => Ev.ret' ?_))))) (fun q => rfl)
  ·have w3 : wrp .i64 ((i : Int) - 1) = ((i - 1 : Nat) : Int) := by rw [zbt3 (by omega) (by omega)]; omega
   have he3 : L[(wrp .i64 ((i : Int) - 1)).toNat]? = some L[i - 1] := by rw [w3, y28]; exact y7 (by omega)
   have hq := h1 L[i - 1] (by omega) (y7 (by omega))
   refine Ev.pos (by rw [w3]; omega) (Ev.opt he3 (Ev.ite (fun c4 => Ev.ret' ?_) fun c4 => ?_))
   ·rw [c, decide_eq_false (show ¬ last < L[i].Proc by omega)]; rfl
   ·rw [c, decide_eq_true (show last < L[i].Proc by omega), w1]; simpa using ih
  ·have := h0 (by omega)
   have hp : 0 ≤ L[i].Proc := by unfold entOk at c; simp only [y6, decide_eq_true_eq] at c; exact c.1
   rw [c, decide_eq_true (show last < L[i].Proc by omega), w1]; simpa using ih
  ·simp only [Bool.not_eq_true] at c; rw [c]; rfl
theorem zbwe (s : Sl zjj) (hL : s.l.length ≤ 1000000) : Ev (fun q => zjy q s) (tabB (-1) s.l) :=
 Ev.succ (zbwd s.z s.z s.l hL s.l.length 0 (-1) (by omega) (fun e h => by omega) (fun _ => rfl)) (fun q => rfl)
theorem zbwf (z : Bool) (L : List zjj) (hL : L.length ≤ 1000000) : ∀ (k i : Nat) (last : Int), L.length = i + k → (∀ e, 0 < i → L[i - 1]? = some e → e.Proc = last) → (i = 0 → last = -1) →
  Ev (fun q => zkn q z L (i : Int)) (tabB last (L.drop i))
 | 0, i, last, hk, h1, h0 => by
  refine Ev.succ (Ev.ne (Ev.ret' ?_)) (fun q => rfl)
  rw [y12 (by omega)]; rfl
 | k + 1, i, last, hk, h1, h0 => by
  have hi : i < L.length := by omega
  have he : L[((i : Int)).toNat]? = some L[i] := by simp [hi]
  rw [y9 hi]
  simp only [tabB]
  have w1 : wrp .i64 ((i : Int) + 1) = ((i + 1 : Nat) : Int) := by rw [zbt3 (by omega) (by omega)]; omega
  have ih := zbwf z L hL k (i + 1) L[i].Proc (by omega) (fun e _ hx => by
   rw [Nat.add_sub_cancel, y7 hi] at hx
   simp only [y4] at hx; rw [hx]) (by omega)
  refine Ev.succ (Ev.po (Ev.po (Ev.opt he (Ev.ite (fun c1 => Ev.ret' ?_) fun c1 => Ev.ite (fun c2 => Ev.ret' ?_) fun c2 => Ev.ite (fun c3 => Ev.ret' ?_) fun c3 => Ev.ite (fun c4 => Ev.ret' ?_) fun c4 => Ev.ite (fun c5 => Ev.ret' ?_) fun c5 => Ev.ite (fun c6 => Ev.ret' ?_) fun c6 => Ev.ite (fun c7 => ?_) fun c7 => ?_)))) (fun q => rfl)
  ·unfold entOk; rw [decide_eq_false (show ¬ 0 ≤ L[i].Proc by omega)]; simp
  ·unfold entOk; rw [decide_eq_false (show ¬ L[i].Proc ≤ 64 by omega)]; simp
  ·unfold entOk; rw [decide_eq_false (show ¬ 0 ≤ L[i].Seq by omega)]; simp
  ·unfold entOk; rw [decide_eq_false (show ¬ L[i].Seq < 4611686018427387904 by omega)]; simp
  ·unfold entOk; rw [decide_eq_false (show ¬ -1125899906842624 ≤ L[i].Resp by omega)]; simp
  ·unfold entOk; rw [decide_eq_false (show ¬ L[i].Resp ≤ 1125899906842624 by omega)]; simp
  ·have c : entOk L[i] = true := by unfold entOk; simp only [y6, decide_eq_true_eq]; omega
   have w3 : wrp .i64 ((i : Int) - 1) = ((i - 1 : Nat) : Int) := by rw [zbt3 (by omega) (by omega)]; omega
   have he3 : L[(wrp .i64 ((i : Int) - 1)).toNat]? = some L[i - 1] := by rw [w3, y28]; exact y7 (by omega)
   have hq := h1 L[i - 1] (by omega) (y7 (by omega))
   refine Ev.pos (by rw [w3]; omega) (Ev.opt he3 (Ev.ite (fun c4 => Ev.ret' ?_) fun c4 => ?_))
   ·rw [c, decide_eq_false (show ¬ last < L[i].Proc by omega)]; rfl
   ·rw [c, decide_eq_true (show last < L[i].Proc by omega), w1]; simpa using ih
  ·have c : entOk L[i] = true := by unfold entOk; simp only [y6, decide_eq_true_eq]; omega
   have := h0 (by omega)
   rw [c, decide_eq_true (show last < L[i].Proc by omega), w1]; simpa using ih
theorem zbwg (s : Sl zjj) (hL : s.l.length ≤ 1000000) : Ev (fun q => zko q s) (tabB (-1) s.l) :=
 Ev.succ (zbwf s.z s.l hL s.l.length 0 (-1) (by omega) (fun e h => by omega) (fun _ => rfl)) (fun q => rfl)
def mayN (s : zjk) : Bool := decide (0 ≤ s.Index) && (decide (s.Index < 4611686018427387904) && (mayS s.State && tabB (-1) s.Table.l))
theorem zbwh (s : zjk) (h1 : s.State.L.l.length ≤ 1000000) (h2 : s.Table.l.length ≤ 1000000) : Ev (fun q => zjz q s) (mayN s) := by
 unfold mayN
 refine Ev.succ (Ev.ite (fun c1 => Ev.ite (fun c2 => Ev.bind (zbv8 _ h1) (Ev.ite (fun c3 => Ev.bind (zbwe _ h2) (Ev.ret' ?_)) fun c3 => Ev.ret' ?_)) fun c2 => Ev.ret' ?_) fun c1 => Ev.ret' ?_) (fun q => rfl)
 ·simp [c1, c2, c3]
 ·simp [c3]
 ·simp [c2]
 ·simp [c1]
theorem zbwi (s : zjk) (h1 : s.State.L.l.length ≤ 1000000) (h2 : s.Table.l.length ≤ 1000000) : Ev (fun q => zkp q s) (mayN s) := by
 unfold mayN
 refine Ev.succ (Ev.bind (zbwb _ h1) (Ev.bind (zbwg _ h2) (Ev.ite (fun c1 => Ev.ite (fun c2 => Ev.ite (fun c3 => Ev.ret' ?_) fun c3 => Ev.ret' ?_) fun c2 => Ev.ret' ?_) fun c1 => Ev.ret' ?_))) (fun q => rfl)
 ·simp [c1, c2, c3]
 ·simp [c3]
 ·simp only [Bool.not_eq_true] at c2; simp [c2]
 ·simp only [Bool.not_eq_true] at c1; simp [c1]
instance : DecidableEq zjj := fun a b => if h : a.Proc = b.Proc ∧ a.Seq = b.Seq ∧ a.Resp = b.Resp then isTrue (by cases a; cases b; simp_all) else isFalse (fun e => h (by rw [e]; exact ⟨rfl, rfl, rfl⟩))
theorem zbwj {a b : zjj} (h1 : a.Proc = b.Proc) (h2 : a.Seq = b.Seq) (h3 : a.Resp = b.Resp) : a = b := by cases a; cases b; simp_all
theorem zbwk (z z2 : Bool) (A B : List Int) (hl : A.length = B.length) (hL : A.length ≤ 1099511627776) : ∀ (k i : Nat), A.length = i + k → Ev (fun q => zka q z A z2 B (A.length : Int) (i : Int)) (decide (A.drop i = B.drop i))
 | 0, i, hk => by
  refine Ev.succ (Ev.ne (Ev.ret' ?_)) (fun q => rfl)
  rw [y12 (by omega), y12 (by omega)]; simp
 | k + 1, i, hk => by
  have hi : i < A.length := by omega
  have hi2 : i < B.length := by omega
  have hg : A[(i : Int).toNat]? = some A[i] := by simpa using y7 hi
  have hg2 : B[(i : Int).toNat]? = some B[i] := by simpa using y7 hi2
  refine Ev.succ (Ev.po (Ev.po (Ev.opt hg (Ev.opt hg2 ?_)))) (fun q => rfl)
  rw [y9 hi, y9 hi2]
  refine Ev.ite (fun h => ?_) fun h => Ev.ret' (by symm; rw [decide_eq_false_iff_not]; intro e; exact h (List.cons.inj e).1)
  rw [zbt3 (by omega) (by omega), show ((i : Int) + 1) = ((i + 1 : Nat) : Int) by omega]
  refine (zbwk z z2 A B hl hL k (i + 1) (by omega)).cast ?_
  rw [decide_eq_decide, List.cons.injEq]; simp only [h, true_and]
theorem zbwl (a b : Sl Int) (hL : a.l.length ≤ 1099511627776) : Ev (fun q => zkb q a b) (decide (a.l = b.l)) := by
 refine Ev.succ (Ev.ite (fun h => ?_) fun h => Ev.ret' ?_) (fun q => rfl)
 ·have := zbwk a.z b.z a.l b.l (by omega) hL a.l.length 0 (by omega)
  rw [y38, y38] at this; exact this
 ·symm; rw [decide_eq_false_iff_not]; intro e; rw [e] at h; exact h rfl
theorem Few_ev (s : zjk) : Ev (fun q => zkh q s) (decide (s.State.L.l.length ≤ 300 ∧ s.Table.l.length ≤ 100)) := by
 have h4 : Ev (fun q => zkg q s.State) (decide ((s.State.L.l.length : Int) ≤ 300)) := Ev.succ (g := fun _ => some (decide ((s.State.L.l.length : Int) ≤ 300))) (Ev.ret _) (fun q => rfl)
 refine Ev.succ (Ev.bind h4 (Ev.ite (fun h => Ev.ret' ?_) fun h => Ev.ret' ?_)) (fun q => rfl)
 ·simp only [decide_eq_true_eq] at h
  by_cases c : s.Table.l.length ≤ 100
  ·rw [decide_eq_true (by omega), decide_eq_true ⟨by omega, c⟩]
  ·rw [decide_eq_false (by omega), decide_eq_false (fun e => c e.2)]
 ·simp only [decide_eq_true_eq] at h
  rw [decide_eq_false (fun e => h (by omega))]
theorem zbwm {least : Int} : ∀ {l : List Int} {last : Int}, prs least last l = true → l.length % 2 = 0 → -1 ≤ last → -1099511627776 ≤ least → ∀ x ∈ l, -1099511627776 ≤ x ∧ x ≤ 1099511627776
 | [], last, h, h2, h3, h4, x, hx => by cases hx
 | [a], last, h, h2, h3, h4, x, hx => by simp at h2
 | a :: b :: t, last, h, h2, h3, h4, x, hx => by
  simp only [prs, y6, decide_eq_true_eq] at h
  simp only [y21] at h2
  rcases List.mem_cons.1 hx with e | e
  ·omega
  ·rcases List.mem_cons.1 e with e | e
   ·omega
   ·exact zbwm h.2.2.2.2 (by omega) (by omega) h4 x e
theorem zbwn {l : List Int} (h : cutsB l) : ∀ x ∈ l, -1099511627776 ≤ x ∧ x ≤ 1099511627776 := fun x hx => zbul.1 (h x hx)
theorem zbwo {k : Int} {l : List Int} (h : kindOk k l = true) : 0 ≤ k ∧ k ≤ 5 ∧ l.length ≤ 128 ∧ ∀ x ∈ l, -1099511627776 ≤ x ∧ x ≤ 1099511627776 := by
 unfold kindOk at h
 split at h
 ·simp only [decide_eq_true_eq] at h; exact ⟨by omega, by omega, by omega, zbwn h.2⟩
 ·split at h
  ·simp only [decide_eq_true_eq] at h; exact ⟨by omega, by omega, by omega, zbwn h.2⟩
  ·split at h
   ·simp only [pairsOk, y6, decide_eq_true_eq] at h; exact ⟨by omega, by omega, by omega, zbwm h.1 h.2.1 (by omega) (by omega)⟩
   ·split at h
    ·simp only [pairsOk, y6, decide_eq_true_eq] at h; exact ⟨by omega, by omega, by omega, zbwm h.1 h.2.1 (by omega) (by omega)⟩
    ·cases h
theorem zbwp {s : zji} (h : mayS s = true) : 0 ≤ s.To ∧ s.To ≤ 2 ∧ (s.Sealed = false → s.To = 0) ∧ kindOk s.Kind s.L.l = true := by
 unfold mayS at h
 split at h
 ·cases h
 ·split at h
  ·cases h
  ·split at h
   ·rename_i h1 h2 h3; exact ⟨by omega, by omega, fun e => (by rw [e] at h3; cases h3), h⟩
   ·split at h
    ·rename_i h1 h2 h3 h4; exact ⟨by omega, by omega, fun _ => h4, h⟩
    ·cases h
theorem zbwq {e : zjj} (h : entOk e = true) : 0 ≤ e.Proc ∧ e.Proc ≤ 64 ∧ 0 ≤ e.Seq ∧ e.Seq < 4611686018427387904 ∧ -1125899906842624 ≤ e.Resp ∧ e.Resp ≤ 1125899906842624 := by
 simpa only [entOk, y6, decide_eq_true_eq] using h
theorem zbwr : ∀ {t : List zjj} {last : Int}, tabB last t = true → ∀ e ∈ t, entOk e = true
 | [], last, h, e, he => by cases he
 | a :: t, last, h, e, he => by
  simp only [tabB, y6] at h
  rcases List.mem_cons.1 he with r | r
  ·rw [r]; exact h.1
  ·exact zbwr h.2.2 e r
theorem zbws {s : zjk} (h : mayN s = true) : 0 ≤ s.Index ∧ s.Index < 4611686018427387904 ∧ mayS s.State = true ∧ tabB (-1) s.Table.l = true := by
 simpa only [mayN, y6, decide_eq_true_eq] using h
/-- A table has at most 65 entries. -/
theorem zbwt : ∀ {t : List zjj} {last : Int}, tabB last t = true → -1 ≤ last → (t.length : Int) + last ≤ 64 ∨ t = []
 | [], last, h, h1 => .inr rfl
 | a :: t, last, h, h1 => by
  simp only [tabB, y6, decide_eq_true_eq] at h
  have ha := zbwq h.1
  rcases zbwt h.2.2 (by omega) with e | e
  ·left; rw [y21]; omega
  ·left; rw [e]; simp only [y21, y25]; omega
def sealN (s : zji) : Int := if s.Sealed = true then s.To + 1 else 0
def numsB (l : List Int) : List Int := l.flatMap putS
theorem zbwu (x : Int) (l : List Int) : numsB (x :: l) = putS x ++ numsB l := by simp [numsB]
def inT (l : List Int) : Prop := ∀ x ∈ l, -1099511627776 ≤ x ∧ x ≤ 1099511627776
theorem inT_R {l : List Int} (h : inT l) {x : Int} (hx : x ∈ l) : inR .i64 x := by have := h x hx; exact zbuo (by omega) (by omega)
theorem zbwv {x : Int} {l : List Int} (h : inT (x :: l)) : inR .i64 x ∧ inT l := ⟨inT_R h y32, fun y hy => h y (y36 _ hy)⟩
theorem zbww : ∀ {l : List Int}, inT l → (numsB l).length ≤ 10 * l.length
 | [], h => by simp [numsB]
 | x :: l, h => by
  have h2 := zbww (zbwv h).2
  have h1 := zbun (zbwv h).1
  rw [zbwu, y10, y21]; omega
theorem zbwx (n : Int) : isB (putS n) := zbvm _
theorem zbwy : ∀ {l : List Int}, isB (numsB l)
 | [] => fun c hc => by simp [numsB] at hc
 | x :: l => by rw [zbwu]; exact zbvo.2 ⟨zbwx _, zbwy⟩
def stateB (s : zji) : List Int := ((put s.Kind ++ put (sealN s)) ++ put (s.L.l.length : Int)) ++ numsB s.L.l
theorem zbwz {s : zji} (h : inT s.L.l) : (stateB s).length ≤ 30 + 10 * s.L.l.length := by
 have h1 := zbuc s.Kind; have h2 := zbuc (sealN s); have h3 := zbuc (s.L.l.length : Int); have h4 := zbww h
 simp only [stateB, y10]; omega
theorem zbw0 {s : zji} : isB (stateB s) := zbvo.2 ⟨zbvo.2 ⟨zbvo.2 ⟨zbvn _, zbvn _⟩, zbvn _⟩, zbwy⟩
theorem zbw1 (z : Bool) (L : List Int) (hL : L.length ≤ 1000000) (hT : inT L) : ∀ (k i : Nat) (l : List Int), L.length = i + k → l.length ≤ 1000 + 10 * i →
  Ev (fun q => zlr q z L (L.length : Int) (i : Int) false l true) (⟨false, true, l ++ numsB (L.drop i)⟩, 0)
 | 0, i, l, hk, hl => by
  refine Ev.succ (Ev.ne (Ev.ret' ?_)) (fun q => rfl)
  rw [y12 (by omega)]; simp [numsB]
 | k + 1, i, l, hk, hl => by
  have hi : i < L.length := by omega
  have he : L[((i : Int)).toNat]? = some L[i] := by simp [hi]
  have hr := inT_R hT (y26 hi)
  have hp := zbun hr
  have ih := zbw1 z L hL hT k (i + 1) (l ++ putS L[i]) (by omega) (by rw [y10]; omega)
  rw [show ((i + 1 : Nat) : Int) = wrp .i64 ((i : Int) + 1) by rw [zbt3 (by omega) (by omega)]; omega] at ih
  refine Ev.succ (Ev.po (Ev.po (Ev.opt he (Ev.bind (zbuh ⟨false, true, l⟩ hr (by simp only; omega)) (Ev.cast ih ?_))))) (fun q => rfl)
  rw [y9 hi, zbwu, y33]
theorem zbw2 (h0 : Int) (z : Bool) (L : List Int) (h2 : Bool) (h3 : Int) (hL : L.length ≤ 1000000) (hT : inT L) : ∀ (k i : Nat) (l : List Int), L.length = i + k → l.length ≤ 1000 + 10 * i →
  Ev (fun q => zmh q (i : Int) h0 z L h2 h3 false l true) (⟨false, true, l ++ numsB (L.drop i)⟩, 0)
 | 0, i, l, hk, hl => by
  refine Ev.succ (Ev.ne (Ev.ret' ?_)) (fun q => rfl)
  rw [y12 (by omega)]; simp [numsB]
 | k + 1, i, l, hk, hl => by
  have hi : i < L.length := by omega
  have he : L[((i : Int)).toNat]? = some L[i] := by simp [hi]
  have hr := inT_R hT (y26 hi)
  have hp := zbun hr
  have ih := zbw2 h0 z L h2 h3 hL hT k (i + 1) (l ++ putS L[i]) (by omega) (by rw [y10]; omega)
  rw [show ((i + 1 : Nat) : Int) = wrp .i64 ((i : Int) + 1) by rw [zbt3 (by omega) (by omega)]; omega] at ih
  refine Ev.succ (Ev.po (Ev.po (Ev.opt he (Ev.bind (zbut ⟨false, l⟩ hr (by simp only; omega)) (Ev.cast ih ?_))))) (fun q => rfl)
  rw [y9 hi, zbwu, y33]
theorem zbw3 {s : zji} (h : mayS s = true) : 0 ≤ sealN s ∧ sealN s ≤ 3 := by
 have := zbwp h; unfold sealN; split <;> omega
theorem zbw4 {s : zji} (h : mayS s = true) : Ev (fun q => zlq q s) (sealN s) := by
 have hm := zbwp h
 unfold sealN
 refine Ev.succ (Ev.ite (fun c => Ev.ret' ?_) fun c => Ev.ret' ?_) (fun q => rfl)
 ·rw [if_pos c, zbt3 (by omega) (by omega)]
 ·rw [if_neg c]
theorem zbw5 {s : zji} (h : mayS s = true) : Ev (fun q => zls q s) (⟨false, true, stateB s⟩, 0) := by
 have hm := zbwp h
 have hk := zbwo hm.2.2.2
 have hs := zbw3 h
 have hM := zbv8 s (by omega)
 rw [h] at hM
 have p1 := zbuc s.Kind; have p2 := zbuc (sealN s); have p3 := zbuc (s.L.l.length : Int)
 have hl := zbw1 s.L.z s.L.l (by omega) hk.2.2.2 s.L.l.length 0 ((put s.Kind ++ put (sealN s)) ++ put (s.L.l.length : Int)) (by omega) (by simp only [y10]; omega)
 rw [y38] at hl
 exact Ev.succ (Ev.bind hM (Ev.pos rfl (Ev.bind (zbud ⟨true, true, []⟩ (by omega) (by omega) (by simp)) (Ev.bind (zbw4 h) (Ev.bind (zbud _ (by omega) (by omega) (by simp only [y47]; omega)) (Ev.bind (zbud _ (by omega) (by omega) (by simp only [y47, y10]; omega)) hl)))))) (fun q => rfl)
theorem zbw6 {s : zji} (h : mayS s = true) : Ev (fun q => zmi q s) (⟨false, true, stateB s⟩, 0) := by
 have hm := zbwp h
 have hk := zbwo hm.2.2.2
 have hs := zbw3 h
 have hM := zbwb s (by omega)
 rw [h] at hM
 have p1 := zbuc s.Kind; have p2 := zbuc (sealN s); have p3 := zbuc (s.L.l.length : Int)
 have hl := zbw2 s.Kind s.L.z s.L.l s.Sealed s.To (by omega) hk.2.2.2 s.L.l.length 0 ((put s.Kind ++ put (sealN s)) ++ put (s.L.l.length : Int)) (by omega) (by simp only [y10]; omega)
 rw [y38] at hl
 refine Ev.succ (Ev.bind hM (Ev.pos rfl (Ev.bind (zbur ⟨true, []⟩ (by omega) (by omega) (by simp)) (Ev.ite (fun c => ?_) fun c => ?_)))) (fun q => rfl)
 ·have e : wrp .i64 (s.To + 1) = sealN s := by unfold sealN; rw [if_pos c, zbt3 (by omega) (by omega)]
  rw [e]
  exact Ev.bind (zbur ⟨false, [] ++ put s.Kind⟩ (by omega) (by omega) (by simp only [y47]; omega)) (Ev.bind (zbur ⟨false, ([] ++ put s.Kind) ++ put (sealN s)⟩ (by omega) (by omega) (by simp only [y47, y10]; omega)) hl)
 ·have e : 0 = sealN s := by unfold sealN; rw [if_neg c]
  have := Ev.bind (k := fun q r5 => ((zl6 q ⟨r5.n, r5.xs⟩ (s.L.l.length : Int)).bind fun r6 => (zmh q 0 s.Kind s.L.z s.L.l s.Sealed s.To r6.n r6.xs r6.x))) (zbur ⟨false, [] ++ put s.Kind⟩ hs.1 (by omega) (by simp only [y47]; omega)) (Ev.bind (zbur ⟨false, ([] ++ put s.Kind) ++ put (sealN s)⟩ (by omega) (by omega) (by simp only [y47, y10]; omega)) hl)
  rw [← e] at this
  refine Ev.cast this ?_
  unfold stateB; rw [← e]
def entB (e : zjj) : List Int := put e.Proc ++ (put e.Seq ++ putS e.Resp)
def tabE (l : List zjj) : List Int := l.flatMap entB
theorem zbw7 (e : zjj) (l : List zjj) : tabE (e :: l) = entB e ++ tabE l := by simp [tabE]
def entsOk (l : List zjj) : Prop := ∀ e ∈ l, entOk e = true
theorem zbw8 {e : zjj} (h : entOk e = true) : inR .i64 e.Resp := by have := zbwq h; exact zbuo (by omega) (by omega)
theorem zbw9 {e : zjj} (h : entOk e = true) : (entB e).length ≤ 30 := by
 have h1 := zbuc e.Proc; have h2 := zbuc e.Seq; have h3 := zbun (zbw8 h)
 simp only [entB, y10]; omega
theorem zbxa {e : zjj} : isB (entB e) := zbvo.2 ⟨zbvn _, zbvo.2 ⟨zbvn _, zbwx _⟩⟩
theorem zbxb : ∀ {l : List zjj}, entsOk l → (tabE l).length ≤ 30 * l.length
 | [], h => by simp [tabE]
 | e :: l, h => by
  have h1 := zbw9 (h e y32)
  have h2 := zbxb (l := l) fun x hx => h x (y36 _ hx)
  rw [zbw7, y10, y21]; omega
theorem zbxc : ∀ {l : List zjj}, isB (tabE l)
 | [] => fun c hc => by simp [tabE] at hc
 | e :: l => by rw [zbw7]; exact zbvo.2 ⟨zbxa, zbxc⟩
def wholeB (s : zjk) : List Int := ((put ((stateB s.State).length : Int) ++ stateB s.State) ++ put (s.Table.l.length : Int)) ++ tabE s.Table.l
theorem zbxd (z : Bool) (L : List zjj) (hL : L.length ≤ 1000000) (hT : entsOk L) : ∀ (k i : Nat) (l : List Int), L.length = i + k → l.length ≤ 10000 + 30 * i →
  Ev (fun q => zlt q z L (L.length : Int) (i : Int) false l true) ⟨false, true, l ++ tabE (L.drop i)⟩
 | 0, i, l, hk, hl => by
  refine Ev.succ (Ev.ne (Ev.ret' ?_)) (fun q => rfl)
  rw [y12 (by omega)]; simp [tabE]
 | k + 1, i, l, hk, hl => by
  have hi : i < L.length := by omega
  have he : L[((i : Int)).toNat]? = some L[i] := by simp [hi]
  have hr := hT L[i] (y26 hi)
  have ho := zbwq hr
  have p1 := zbuc L[i].Proc; have p2 := zbuc L[i].Seq; have p3 := zbun (zbw8 hr)
  have ih := zbxd z L hL hT k (i + 1) (((l ++ put L[i].Proc) ++ put L[i].Seq) ++ putS L[i].Resp) (by omega) (by simp only [y10]; omega)
  rw [show ((i + 1 : Nat) : Int) = wrp .i64 ((i : Int) + 1) by rw [zbt3 (by omega) (by omega)]; omega] at ih
  refine Ev.succ (Ev.po (Ev.po (Ev.opt he (Ev.bind (zbud ⟨false, true, l⟩ (by omega) (by omega) (by simp only; omega)) (Ev.bind (zbud _ (by omega) (by omega) (by simp only [y10]; omega)) (Ev.bind (zbuh _ (zbw8 hr) (by simp only [y10]; omega)) (Ev.cast ih ?_))))))) (fun q => rfl)
  rw [y9 hi, zbw7, entB]; simp only [y33]
theorem zbxe (h0 h1 : Int) (h2z : Bool) (h2l : List Int) (h3 : Bool) (h4 : Int) (z : Bool) (L : List zjj) (hL : L.length ≤ 1000000) (hT : entsOk L) : ∀ (k i : Nat) (l : List Int), L.length = i + k → l.length ≤ 10000 + 30 * i →
  Ev (fun q => zmj q (i : Int) h0 h1 h2z h2l h3 h4 z L false l true) ⟨false, true, l ++ tabE (L.drop i)⟩
 | 0, i, l, hk, hl => by
  refine Ev.succ (Ev.ne (Ev.ret' ?_)) (fun q => rfl)
  rw [y12 (by omega)]; simp [tabE]
 | k + 1, i, l, hk, hl => by
  have hi : i < L.length := by omega
  have he : L[((i : Int)).toNat]? = some L[i] := by simp [hi]
  have hr := hT L[i] (y26 hi)
  have ho := zbwq hr
  have p1 := zbuc L[i].Proc; have p2 := zbuc L[i].Seq; have p3 := zbun (zbw8 hr)
  have ih := zbxe h0 h1 h2z h2l h3 h4 z L hL hT k (i + 1) (((l ++ put L[i].Proc) ++ put L[i].Seq) ++ putS L[i].Resp) (by omega) (by simp only [y10]; omega)
  rw [show ((i + 1 : Nat) : Int) = wrp .i64 ((i : Int) + 1) by rw [zbt3 (by omega) (by omega)]; omega] at ih
  refine Ev.succ (Ev.po (Ev.po (Ev.opt he (Ev.bind (zbur ⟨false, l⟩ (by omega) (by omega) (by simp only; omega)) (Ev.bind (zbur ⟨false, l ++ put L[i].Proc⟩ (by omega) (by omega) (by simp only [y10]; omega)) (Ev.bind (zbut ⟨false, (l ++ put L[i].Proc) ++ put L[i].Seq⟩ (zbw8 hr) (by simp only [y10]; omega)) (Ev.cast ih ?_))))))) (fun q => rfl)
  rw [y9 hi, zbw7, entB]; simp only [y33]
theorem zbxf {s : zjk} (h : mayN s = true) : (wholeB s).length ≤ 5000 ∧ (stateB s.State).length ≤ 1310 ∧ s.Table.l.length ≤ 65 := by
 have hm := zbws h
 have hk := zbwo (zbwp hm.2.2.1).2.2.2
 have h1 := zbwz (s := s.State) hk.2.2.2
 have h2 := zbxb (zbwr hm.2.2.2)
 have h3 := zbwt hm.2.2.2 (by omega)
 have h4 : s.Table.l.length ≤ 65 := by
  rcases h3 with e | e
  ·omega
  ·rw [e]; simp
 have p1 := zbuc ((stateB s.State).length : Int); have p2 := zbuc (s.Table.l.length : Int)
 simp only [wholeB, y10]; omega
theorem zbxg {s : zjk} : isB (wholeB s) := zbvo.2 ⟨zbvo.2 ⟨zbvo.2 ⟨zbvn _, zbw0⟩, zbvn _⟩, zbxc⟩
theorem zbxh {s : zjk} (h : mayN s = true) : Ev (fun q => zlu q s) ⟨false, true, wholeB s⟩ := by
 have hm := zbws h
 have hl := zbxf h
 have p1 := zbuc ((stateB s.State).length : Int); have p2 := zbuc (s.Table.l.length : Int)
 have hw := zbxd s.Table.z s.Table.l (by omega) (zbwr hm.2.2.2) s.Table.l.length 0 ((put ((stateB s.State).length : Int) ++ stateB s.State) ++ put (s.Table.l.length : Int)) (by omega) (by simp only [y10]; omega)
 rw [y38] at hw
 exact Ev.succ (Ev.bind (zbw5 hm.2.2.1) (Ev.bind (zbud ⟨true, true, []⟩ (by omega) (by simp only; omega) (by simp)) (Ev.pos (by simp only [y47]; omega) (Ev.bind (zbud _ (by omega) (by omega) (by simp only [y47, y10]; omega)) hw)))) (fun q => rfl)
theorem zbxi {s : zjk} (h : mayN s = true) : Ev (fun q => zmk q s) ⟨false, true, wholeB s⟩ := by
 have hm := zbws h
 have hl := zbxf h
 have p1 := zbuc ((stateB s.State).length : Int); have p2 := zbuc (s.Table.l.length : Int)
 have hw := zbxe s.Index s.State.Kind s.State.L.z s.State.L.l s.State.Sealed s.State.To s.Table.z s.Table.l (by omega) (zbwr hm.2.2.2) s.Table.l.length 0 ((put ((stateB s.State).length : Int) ++ stateB s.State) ++ put (s.Table.l.length : Int)) (by omega) (by simp only [y10]; omega)
 rw [y38] at hw
 exact Ev.succ (Ev.bind (zbw6 hm.2.2.1) (Ev.bind (zbur ⟨true, []⟩ (by omega) (by simp only; omega) (by simp)) (Ev.pos (by simp only [y47]; omega) (Ev.bind (zbur ⟨_, put ((stateB s.State).length : Int) ++ stateB s.State⟩ (by omega) (by omega) (by simp only [y10]; omega)) hw)))) (fun q => rfl)
/-- Pieces of 64 bytes. -/
def chks : Nat → List Int → List (List Int)
 | 0, _ => []
 | k + 1, l => if l.length = 0 then [] else l.take 64 :: chks k (l.drop 64)
def frsB (F : List (List Int)) : List Int := (F.map encF).flatten
theorem zbxj (f : List Int) (F : List (List Int)) : frsB (f :: F) = encF f ++ frsB F := by simp [frsB]
theorem zbxk (l : List Int) : (encF l).length = (put (l.length : Int)).length + l.length + 4 := by
 simp only [encF, fix4, y10, y21, y25]; omega
theorem zbxl (s : Sl Int) (hb : isB s.l) (hl : s.l.length ≤ 1048576) : ∃ z, Ev (fun q => zlv q s) ⟨z, true, encF s.l⟩ := by
 obtain ⟨z, h⟩ := zbvp s hb hl
 exact ⟨z, Ev.succ (Ev.bind h (Ev.ret _)) (fun q => rfl)⟩
theorem min64 (n : Nat) : (if 64 < (n : Int) then 64 else (n : Int)) = ((min 64 n : Nat) : Int) := by
 split <;> omega
theorem zbxm (z : Bool) (L : List Int) (hL : L.length ≤ 1000000) (hb : isB L) : ∀ (k i n : Nat) (hz : Bool) (l : List Int), L.length = i + n → n ≤ k → l.length ≤ 1000 + 20 * i →
  ∃ z', Ev (fun q => zlw q i n z L hz l true) (⟨z', true, l ++ frsB (chks k (L.drop i))⟩, 0)
 | 0, i, n, hz, l, hk, hn, hl => by
  refine ⟨hz, Ev.succ (Ev.ne (Ev.ret' ?_)) (fun q => rfl)⟩
  simp [chks, frsB]
 | k + 1, i, n, hz, l, hk, hn, hl => by
  by_cases h0 : n = 0
  ·refine ⟨hz, Ev.succ (Ev.ne (Ev.ret' ?_)) (fun q => rfl)⟩
   rw [y12 (by omega)]; simp [chks, frsB]
  ·have ht : ((L.drop i).take (min 64 n)).length = min 64 n := by rw [y20, y13]; omega
   have p := zbuc (((L.drop i).take (min 64 n)).length : Int)
   have he := zbxk ((L.drop i).take (min 64 n))
   obtain ⟨z1, hF⟩ := zbxl ⟨z, (L.drop i).take (min 64 n)⟩ (zbvq (zbvr hb _) _) (by simp only; omega)
   obtain ⟨z', ih⟩ := zbxm z L hL hb k (i + min 64 n) (n - min 64 n) (hz && (decide ((encF ((L.drop i).take (min 64 n))).length = 0))) (l ++ encF ((L.drop i).take (min 64 n))) (by omega) (by omega) (by simp only [y10]; omega)
   refine ⟨z', Ev.succ (Ev.pos (by omega) ?_) (fun q => rfl)⟩
   rw [min64 n, y28]
   refine Ev.po (Ev.po (Ev.po (Ev.bind hF (Ev.pos (by simp only; omega) (Ev.po (Ev.cast ih ?_))))))
   simp only [chks]
   rw [if_neg (by rw [y13]; omega), zbxj, y33, List.drop_drop]
   by_cases hn : n ≤ 64
   ·rw [Nat.min_eq_right hn, List.take_of_length_le (by rw [y13]; omega), List.take_of_length_le (by rw [y13]; omega), y12 (l := L) (i := i + n) (by omega), y12 (l := L) (i := i + 64) (by omega)]
   ·rw [Nat.min_eq_left (by omega)]
theorem zbxn (z x : Bool) (L : List Int) (hL : L.length ≤ 1000000) (hb : isB L) (hz : Bool) (l : List Int) (hl : l.length ≤ 900) :
  ∃ z', Ev (fun q => zlx q z L x hz l true) (⟨z', true, l ++ frsB (chks L.length L)⟩, 0) := by
 by_cases h0 : L.length = 0
 ·refine ⟨hz, Ev.succ (Ev.ne (Ev.ret' ?_)) (fun q => rfl)⟩
  rw [h0]; simp [chks, frsB]
 ·have ht : (L.take (min 64 L.length)).length = min 64 L.length := by rw [y20]; omega
  have p := zbuc ((L.take (min 64 L.length)).length : Int)
  have he := zbxk (L.take (min 64 L.length))
  obtain ⟨z1, hF⟩ := zbxl ⟨z, L.take (min 64 L.length)⟩ (zbvq hb _) (by simp only; omega)
  obtain ⟨z', ih⟩ := zbxm z L hL hb (L.length - 1) (min 64 L.length) (L.length - min 64 L.length) (hz && (decide ((encF (L.take (min 64 L.length))).length = 0))) (l ++ encF (L.take (min 64 L.length))) (by omega) (by omega) (by simp only [y10]; omega)
  refine ⟨z', Ev.succ (Ev.pos (by omega) ?_) (fun q => rfl)⟩
  rw [min64 L.length, y28]
  refine Ev.po (Ev.po (Ev.po (Ev.bind hF (Ev.pos (by simp only; omega) (Ev.cast ih ?_)))))
  obtain ⟨m, hm⟩ : ∃ m, L.length = m + 1 := ⟨L.length - 1, by omega⟩
  have hc : chks L.length L = L.take 64 :: chks (L.length - 1) (L.drop 64) := by rw [hm]; simp only [chks]; rw [if_neg (by omega)]; rfl
  rw [hc, zbxj, y33]
  by_cases hn : L.length ≤ 64
  ·rw [Nat.min_eq_right hn, List.take_of_length_le (by omega), List.take_of_length_le hn, y12 (by omega), y12 (by omega)]
  ·rw [Nat.min_eq_left (by omega)]
theorem zbxo (z : Bool) (L : List Int) (hL : L.length ≤ 1000000) (hz0 : z = true → L = []) (hb : isB L) : ∀ (k i : Nat) (x hz : Bool) (l : List Int), L.length ≤ i + k → i ≤ 1000100 → l.length ≤ 1000 + 20 * i →
  ∃ z', Ev (fun q => zml q (i : Int) z L x hz l true) (⟨z', true, l ++ frsB (chks k (L.drop i))⟩, 0)
 | 0, i, x, hz, l, hk, hi9, hl => by
  refine ⟨hz, Ev.succ (Ev.ne (Ev.ret' ?_)) (fun q => rfl)⟩
  simp [chks, frsB]
 | k + 1, i, x, hz, l, hk, hi9, hl => by
  by_cases h0 : L.length ≤ i
  ·refine ⟨hz, Ev.succ (Ev.ne (Ev.ret' ?_)) (fun q => rfl)⟩
   rw [y12 h0]; simp [chks, frsB]
  ·have hzf : ¬ z = true := fun e => h0 (by rw [hz0 e]; simp)
   have ht : ((L.drop i).take 64).length = min 64 (L.length - i) := by rw [y20, y13]
   have p := zbuc (((L.drop i).take 64).length : Int)
   have he := zbxk ((L.drop i).take 64)
   obtain ⟨z1, hF⟩ := zbvz ⟨z, (L.drop i).take 64⟩ (zbvq (zbvr hb _) _) (by simp only; omega)
   obtain ⟨z', ih⟩ := zbxo z L hL hz0 hb k (i + 64) false (hz && (decide ((encF ((L.drop i).take 64)).length = 0))) (l ++ encF ((L.drop i).take 64)) (by omega) (by omega) (by simp only [y10]; omega)
   have hw : wrp .i64 ((i : Int) + 64) = ((i + 64 : Nat) : Int) := by rw [zbt3 (by omega) (by omega)]; omega
   have hc : chks (k + 1) (L.drop i) = (L.drop i).take 64 :: chks k (L.drop (i + 64)) := by
    simp only [chks]; rw [if_neg (by rw [y13]; omega), List.drop_drop]
   rw [hc, zbxj, ← y33]
   refine ⟨z', Ev.succ (Ev.pos (by omega) ?_) (fun q => rfl)⟩
   rw [hw, y28, y28]
   refine Ev.ite (fun c => Ev.po (Ev.po (Ev.neg hzf ?_))) fun c => Ev.po (Ev.po (Ev.po (Ev.neg hzf ?_)))
   ·have e : (L.drop i).take (L.length - i) = (L.drop i).take 64 := by rw [List.take_of_length_le (by rw [y13]; omega), List.take_of_length_le (by rw [y13]; omega)]
    rw [e]
    exact Ev.bind hF (Ev.pos (by simp only; omega) ih)
   ·rw [show i + 64 - i = 64 by omega]
    exact Ev.bind hF (Ev.pos (by simp only; omega) ih)
/-- What the first frame tells. -/
def manB (i : Int) (w : List Int) : List Int := ((([115] ++ put 3) ++ put i) ++ put (w.length : Int)) ++ fix4 (bsum w).toNat
def snapB (s : zjk) : List Int := encF (manB s.Index (wholeB s)) ++ frsB (chks (wholeB s).length (wholeB s))
theorem zbxp (i : Int) (w : List Int) : (manB i w).length ≤ 35 := by
 have h1 := zbuc 3; have h2 := zbuc i; have h3 := zbuc (w.length : Int)
 simp only [manB, fix4, y10, y21, y25]; omega
theorem zbxq (v : Nat) : isB (fix4 v) := by
 intro c hc; simp only [fix4, List.mem_cons, List.not_mem_nil, or_false] at hc; omega
theorem zbxr (i : Int) (w : List Int) : isB (manB i w) := by
 refine zbvo.2 ⟨zbvo.2 ⟨zbvo.2 ⟨zbvo.2 ⟨?_, zbvn _⟩, zbvn _⟩, zbvn _⟩, zbxq _⟩
 intro c hc; simp only [List.mem_cons, List.not_mem_nil, or_false] at hc; omega
theorem zbxs (s : zjk) (h1 : s.State.L.l.length ≤ 1000000) (h2 : s.Table.l.length ≤ 1000000) : ∃ z, Ev (fun q => zly q s) (if mayN s = true then (⟨z, true, snapB s⟩, 0) else (⟨true, true, []⟩, 1)) := by
 by_cases h : mayN s = true
 ·have hm := zbws h
  have hl := zbxf h
  have q1 := zbuc 3; have q2 := zbuc s.Index; have q3 := zbuc ((wholeB s).length : Int)
  have hml := zbxp s.Index (wholeB s)
  obtain ⟨z1, hF⟩ := zbxl ⟨false && (decide ((fix4 (bsum (wholeB s)).toNat).length = 0)), manB s.Index (wholeB s)⟩ (zbxr _ _) (by simp only; omega)
  have he := zbxk (manB s.Index (wholeB s)); have p := zbuc ((manB s.Index (wholeB s)).length : Int)
  obtain ⟨z, hE⟩ := zbxn false true (wholeB s) (by omega) zbxg z1 (encF (manB s.Index (wholeB s))) (by omega)
  refine ⟨z, ?_⟩
  rw [if_pos h]
  refine Ev.succ (Ev.bind (zbwh s h1 h2) (Ev.pos h (Ev.bind (zbxh h) (Ev.bind (zbud ⟨false, true, [115]⟩ (by omega) (by omega) (by simp)) (Ev.bind (zbud _ (by omega) (by omega) (by simp only [y10, y21, y25]; omega)) (Ev.bind (zbud _ (by omega) (by simp only; omega) (by simp only [y10, y21, y25]; omega)) (Ev.bind (zbu8 ⟨false, wholeB s⟩ zbxg (by simp only; omega)) (Ev.bind (zbvf _) (Ev.pos ?_ (Ev.bind hF hE))))))))) ) (fun q => rfl)
  simp only [fix4, y10, y21, y25]; omega
 ·refine ⟨true, ?_⟩
  rw [if_neg h]
  exact Ev.succ (Ev.bind (zbwh s h1 h2) (Ev.neg h (Ev.ret _))) (fun q => rfl)
theorem zbxt (s : zjk) (h1 : s.State.L.l.length ≤ 1000000) (h2 : s.Table.l.length ≤ 1000000) : ∃ z, Ev (fun q => zmm q s) (if mayN s = true then (⟨z, true, snapB s⟩, 0) else (⟨true, true, []⟩, 1)) := by
 by_cases h : mayN s = true
 ·have hm := zbws h
  have hl := zbxf h
  have q1 := zbuc 3; have q2 := zbuc s.Index; have q3 := zbuc ((wholeB s).length : Int)
  have hml := zbxp s.Index (wholeB s)
  obtain ⟨z1, hF⟩ := zbvz ⟨false && (decide ((fix4 (bsum (wholeB s)).toNat).length = 0)), manB s.Index (wholeB s)⟩ (zbxr _ _) (by simp only; omega)
  have he := zbxk (manB s.Index (wholeB s)); have p := zbuc ((manB s.Index (wholeB s)).length : Int)
  obtain ⟨z, hE⟩ := zbxo false (wholeB s) (by omega) (fun e => by cases e) zbxg (wholeB s).length 0 true z1 (encF (manB s.Index (wholeB s))) (by omega) (by omega) (by omega)
  rw [y38] at hE
  refine ⟨z, ?_⟩
  rw [if_pos h]
  refine Ev.succ (Ev.bind (zbwi s h1 h2) (Ev.pos h (Ev.bind (zbxi h) (Ev.bind (zbur ⟨false, [115]⟩ (by omega) (by omega) (by simp)) (Ev.bind (zbur ⟨false, [115] ++ put 3⟩ (by omega) (by omega) (by simp only [y10, y21, y25]; omega)) (Ev.bind (zbur ⟨false, ([115] ++ put 3) ++ put s.Index⟩ (by omega) (by simp only; omega) (by simp only [y10, y21, y25]; omega)) (Ev.bind (zbvw ⟨false, wholeB s⟩ zbxg (by simp only; omega)) (Ev.bind (zbvy _) (Ev.pos ?_ (Ev.bind hF hE))))))))) ) (fun q => rfl)
  simp only [fix4, y10, y21, y25]; omega
 ·refine ⟨true, ?_⟩
  rw [if_neg h]
  exact Ev.succ (Ev.bind (zbwi s h1 h2) (Ev.neg h (Ev.ret _))) (fun q => rfl)
theorem zbxu (z z2 : Bool) (A B : List zjj) (hl : A.length = B.length) (hL : A.length ≤ 1099511627776) : ∀ (k i : Nat), A.length = i + k → Ev (fun q => zkd q z A z2 B (A.length : Int) (i : Int)) (decide (A.drop i = B.drop i))
 | 0, i, hk => by
  refine Ev.succ (Ev.ne (Ev.ret' ?_)) (fun q => rfl)
  rw [y12 (by omega), y12 (by omega)]; simp
 | k + 1, i, hk => by
  have hi : i < A.length := by omega
  have hi2 : i < B.length := by omega
  have hg : A[(i : Int).toNat]? = some A[i] := by simpa using y7 hi
  have hg2 : B[(i : Int).toNat]? = some B[i] := by simpa using y7 hi2
  have no : ¬ A[i] = B[i] → false = decide (A[i] :: A.drop (i + 1) = B[i] :: B.drop (i + 1)) := fun h => by
   symm; rw [decide_eq_false_iff_not]; intro e; exact h (List.cons.inj e).1
  rw [y9 hi, y9 hi2]
  refine Ev.succ (Ev.po (Ev.po (Ev.opt hg (Ev.opt hg2 (Ev.ite (fun c1 => Ev.ite (fun c2 => Ev.ite (fun c3 => ?_) fun c3 => Ev.ret' (no fun e => c3 (by rw [e]))) fun c2 => Ev.ret' (no fun e => c2 (by rw [e]))) fun c1 => Ev.ret' (no fun e => c1 (by rw [e]))))))) (fun q => rfl)
  rw [zbt3 (by omega) (by omega), show ((i : Int) + 1) = ((i + 1 : Nat) : Int) by omega]
  refine (zbxu z z2 A B hl hL k (i + 1) (by omega)).cast ?_
  rw [decide_eq_decide, List.cons.injEq]; simp only [zbwj c1 c2 c3, true_and]
theorem zbxv (a b : Sl zjj) (hL : a.l.length ≤ 1099511627776) : Ev (fun q => zke q a b) (decide (a.l = b.l)) := by
 refine Ev.succ (Ev.ite (fun h => ?_) fun h => Ev.ret' ?_) (fun q => rfl)
 ·have := zbxu a.z b.z a.l b.l (by omega) hL a.l.length 0 (by omega)
  rw [y38, y38] at this; exact this
 ·symm; rw [decide_eq_false_iff_not]; intro e; rw [e] at h; exact h rfl
/-- The same states, the same snapshots. -/
def sameS (a b : zji) : Bool := decide (a.Kind = b.Kind) && (decide (a.Sealed = b.Sealed) && (decide (a.To = b.To) && decide (a.L.l = b.L.l)))
def sameN (a b : zjk) : Bool := decide (a.Index = b.Index) && (sameS a.State b.State && decide (a.Table.l = b.Table.l))
theorem zbxw (a b : zji) (hL : a.L.l.length ≤ 1099511627776) : Ev (fun q => zkc q a b) (sameS a b) := by
 unfold sameS
 refine Ev.succ (Ev.ite (fun c1 => Ev.ite (fun c2 => Ev.ite (fun c3 => Ev.bind (zbwl _ _ hL) (Ev.ret' ?_)) fun c3 => Ev.ret' ?_) fun c2 => Ev.ret' ?_) fun c1 => Ev.ret' ?_) (fun q => rfl)
 ·rw [beq_iff_eq] at c2; simp [c1, c2, c3]
 ·simp [c3]
 ·rw [beq_iff_eq] at c2; simp [c2]
 ·simp [c1]
theorem zbxx (a b : zjk) (hL : a.State.L.l.length ≤ 1099511627776) (hT : a.Table.l.length ≤ 1099511627776) : Ev (fun q => zkf q a b) (sameN a b) := by
 unfold sameN
 refine Ev.succ (Ev.ite (fun c1 => Ev.bind (zbxw _ _ hL) (Ev.ite (fun c2 => Ev.bind (zbxv _ _ hT) (Ev.ret' ?_)) fun c2 => Ev.ret' ?_)) fun c1 => Ev.ret' ?_) (fun q => rfl)
 ·simp [c1, c2]
 ·simp only [Bool.not_eq_true] at c2; simp [c2]
 ·simp [c1]
theorem zbxy (x0 : Int) (xz : Bool) (A : List Int) (x2 : Bool) (x3 y0 : Int) (yz : Bool) (B : List Int) (y2 : Bool) (y3 : Int) (hl : A.length = B.length) (hL : A.length ≤ 1099511627776) : ∀ (k i : Nat), A.length = i + k → Ev (fun q => zl0 q (i : Int) x0 xz A x2 x3 y0 yz B y2 y3) (decide (A.drop i = B.drop i))
 | 0, i, hk => by
  refine Ev.succ (Ev.ne (Ev.ret' ?_)) (fun q => rfl)
  rw [y12 (by omega), y12 (by omega)]; simp
 | k + 1, i, hk => by
  have hi : i < A.length := by omega
  have hi2 : i < B.length := by omega
  have hg : A[(i : Int).toNat]? = some A[i] := by simpa using y7 hi
  have hg2 : B[(i : Int).toNat]? = some B[i] := by simpa using y7 hi2
  refine Ev.succ (Ev.po (Ev.po (Ev.opt hg (Ev.opt hg2 ?_)))) (fun q => rfl)
  rw [y9 hi, y9 hi2]
  refine Ev.ite (fun h => ?_) fun h => Ev.ret' (by symm; rw [decide_eq_false_iff_not]; intro e; exact h (List.cons.inj e).1)
  rw [zbt3 (by omega) (by omega), show ((i : Int) + 1) = ((i + 1 : Nat) : Int) by omega]
  refine (zbxy x0 xz A x2 x3 y0 yz B y2 y3 hl hL k (i + 1) (by omega)).cast ?_
  rw [decide_eq_decide, List.cons.injEq]; simp only [h, true_and]
theorem zbxz (a b : zji) (hL : a.L.l.length ≤ 1099511627776) : Ev (fun q => zl1 q a b) (sameS a b) := by
 unfold sameS
 refine Ev.succ (Ev.ite (fun c1 => Ev.ite (fun c2 => Ev.ite (fun c3 => Ev.ite (fun c4 => ?_) fun c4 => Ev.ret' ?_) fun c3 => Ev.ret' ?_) fun c2 => Ev.ret' ?_) fun c1 => Ev.ret' ?_) (fun q => rfl)
 ·rw [beq_iff_eq] at c2
  refine Ev.cast (zbxy a.Kind a.L.z a.L.l a.Sealed a.To b.Kind b.L.z b.L.l b.Sealed b.To (by omega) hL a.L.l.length 0 (by omega)) ?_
  simp [c1, c2, c3]
 ·have : ¬ a.L.l = b.L.l := fun e => c4 (by rw [e])
  simp [this]
 ·simp [c3]
 ·rw [beq_iff_eq] at c2; simp [c2]
 ·simp [c1]
theorem zbx0 (x0 x1 : Int) (xz : Bool) (xl : List Int) (x2 : Bool) (x3 : Int) (z : Bool) (A : List zjj) (y0 y1 : Int) (yz : Bool) (yl : List Int) (y2 : Bool) (y3 : Int) (z2 : Bool) (B : List zjj) (hl : A.length = B.length) (hL : A.length ≤ 1099511627776) : ∀ (k i : Nat), A.length = i + k → Ev (fun q => zl2 q (i : Int) x0 x1 xz xl x2 x3 z A y0 y1 yz yl y2 y3 z2 B) (decide (A.drop i = B.drop i))
 | 0, i, hk => by
  refine Ev.succ (Ev.ne (Ev.ret' ?_)) (fun q => rfl)
  rw [y12 (by omega), y12 (by omega)]; simp
 | k + 1, i, hk => by
  have hi : i < A.length := by omega
  have hi2 : i < B.length := by omega
  have hg : A[(i : Int).toNat]? = some A[i] := by simpa using y7 hi
  have hg2 : B[(i : Int).toNat]? = some B[i] := by simpa using y7 hi2
  have no : ¬ A[i] = B[i] → false = decide (A[i] :: A.drop (i + 1) = B[i] :: B.drop (i + 1)) := fun h => by
   symm; rw [decide_eq_false_iff_not]; intro e; exact h (List.cons.inj e).1
  rw [y9 hi, y9 hi2]
  refine Ev.succ (Ev.po (Ev.po (Ev.opt hg (Ev.opt hg2 (Ev.ite (fun c1 => Ev.ite (fun c2 => Ev.ite (fun c3 => ?_) fun c3 => Ev.ret' (no fun e => c3 (by rw [e]))) fun c2 => Ev.ret' (no fun e => c2 (by rw [e]))) fun c1 => Ev.ret' (no fun e => c1 (by rw [e]))))))) (fun q => rfl)
  rw [zbt3 (by omega) (by omega), show ((i : Int) + 1) = ((i + 1 : Nat) : Int) by omega]
  refine (zbx0 x0 x1 xz xl x2 x3 z A y0 y1 yz yl y2 y3 z2 B hl hL k (i + 1) (by omega)).cast ?_
  rw [decide_eq_decide, List.cons.injEq]; simp only [zbwj c1 c2 c3, true_and]
theorem zbx1 (a b : zjk) (hL : a.State.L.l.length ≤ 1099511627776) (hT : a.Table.l.length ≤ 1099511627776) : Ev (fun q => zl3 q a b) (sameN a b) := by
 unfold sameN
 refine Ev.succ (Ev.bind (zbxz _ _ hL) (Ev.ite (fun c1 => Ev.ite (fun c2 => Ev.ite (fun c3 => ?_) fun c3 => Ev.ret' ?_) fun c2 => Ev.ret' ?_) fun c1 => Ev.ret' ?_)) (fun q => rfl)
 ·refine Ev.cast (zbx0 a.Index a.State.Kind a.State.L.z a.State.L.l a.State.Sealed a.State.To a.Table.z a.Table.l b.Index b.State.Kind b.State.L.z b.State.L.l b.State.Sealed b.State.To b.Table.z b.Table.l (by omega) hT a.Table.l.length 0 (by omega)) ?_
  simp [c1, c2]
 ·have : ¬ a.Table.l = b.Table.l := fun e => c3 (by rw [e])
  simp [this]
 ·simp [c2]
 ·simp only [Bool.not_eq_true] at c1; simp [c1]
theorem zbx2 (a : zjk) : sameN a a = true := by simp [sameN, sameS]
theorem mayC : mayS ⟨0, ⟨false, [0]⟩, false, 0⟩ = true := by
 simp [mayS, kindOk, cutsB, cutI]
theorem mayD (z z2 : Bool) : mayN ⟨1, ⟨0, ⟨z, [5]⟩, false, 0⟩, ⟨z2, [⟨2, 1, 0⟩]⟩⟩ = true := by
 simp [mayN, mayS, kindOk, cutsB, cutI, tabB, entOk]
theorem zbx3 (z : Bool) : ∃ z', Ev (fun q => zj9 q ⟨true, []⟩ ⟨0, 2, 1, ⟨1, 5, 0⟩, 0⟩) ⟨z', true, [⟨2, 1, 0⟩]⟩ := by
 have h68 : Ev (fun q => zj1 q ⟨true, []⟩) ⟨true, true, []⟩ := Ev.succ (g := fun _ => some ⟨true, true, []⟩) (Ev.ret _) (fun q => rfl)
 have hs00 : Ev (fun q => zj3 q 0 0 0 2 1 1 5 0 0 true [] true) (-1) := Ev.succ (g := fun _ => some (-1)) (Ev.ret _) (fun q => rfl)
 have hs0 : Ev (fun q => zj4 q 0 2 1 1 5 0 0 true [] true) (-1) := Ev.succ hs00 (fun q => rfl)
 have h0 : Ev (fun q => zj6 q 0 2 1 1 5 0 0 true [] true) (0, [], true) := Ev.succ (Ev.bind hs0 (Ev.pos rfl (Ev.ret _))) (fun q => rfl)
 have hs10 : Ev (fun q => zj7 q 0 0 0 0 2 1 1 5 0 0 true [] true) (-1) := Ev.succ (g := fun _ => some (-1)) (Ev.ret _) (fun q => rfl)
 have h1 : Ev (fun q => zj8 q 0 0 2 1 1 5 0 0 true [] true) (-1) := Ev.succ hs10 (fun q => rfl)
 have h72 : Ev (fun q => zj2 q ⟨true, true, []⟩ 0 ⟨false, [⟨2, 1, 0⟩]⟩) ⟨false, true, [⟨2, 1, 0⟩]⟩ := by
  refine Ev.succ (g := fun _ => some ⟨false, true, [⟨2, 1, 0⟩]⟩) (Ev.ret _) (fun q => rfl)
 exact ⟨false, Ev.succ (Ev.bind h68 (Ev.bind h0 (Ev.bind h1 (Ev.po (Ev.pos rfl (Ev.bind h72 (Ev.ret _))))))) (fun q => rfl)⟩
theorem zbx4 {s : zji} {o : zjm} {n : Int} (h : s.L.l[0]? = some n) (hk : s.Kind = 0) (hc : o.Code = 1) : Ev (fun q => zks q s o) (⟨s.Kind, ⟨false, [cutI (wrp .i64 (n + cutI o.A))]⟩, s.Sealed, s.To⟩, n) := by
 refine Ev.succ (Ev.opt h (Ev.ne (Ev.pos hk (Ev.pos hc ?_)))) (fun q => rfl)
 exact Ev.bind (zbui _) (Ev.bind (zbui _) (Ev.ret _))
theorem zbx5 {s : zji} {o : zjm} {n : Int} (hm : mayS s = true) (hL : s.L.l.length ≤ 1000000) (hs : s.Sealed = false) (h : s.L.l[0]? = some n) (hk : s.Kind = 0) (hc : o.Code = 1) : Ev (fun q => zk1 q s o) (⟨s.Kind, ⟨false, [cutI (wrp .i64 (n + cutI o.A))]⟩, s.Sealed, s.To⟩, n) := by
 have hM := zbv8 s hL
 exact Ev.succ (Ev.bind hM (Ev.pos hm (Ev.neg (by rw [hs]; simp) (Ev.ne (Ev.pos hk (Ev.bind (zbx4 h hk hc) (Ev.ret _))))))) (fun q => rfl)
theorem zbx6 : Ev (fun q => zk1 q ⟨0, ⟨false, [0]⟩, false, 0⟩ ⟨1, 5, 0⟩) (⟨0, ⟨false, [5]⟩, false, 0⟩, 0) := by
 have := zbx5 (s := ⟨0, ⟨false, [0]⟩, false, 0⟩) (o := ⟨1, 5, 0⟩) (n := 0) mayC (by simp) rfl rfl rfl rfl
 have e : cutI (wrp .i64 (0 + cutI 5)) = 5 := by rw [show cutI 5 = 5 by simp [cutI], zbt3 (by omega) (by omega)]; simp [cutI]
 simp only [e] at this
 exact this
theorem zbx7 {s : zjk} {r : Sl zjn} {e : zjn} {t : zji} {n : Int} {z : Bool} {T : List zjj} (h1 : r.l[0]? = some e) (h2 : r.l.length = 1) (hi : e.Index = s.Index) (hf : FitsR e)
  (hS : Ev (fun q => zk1 q s.State e.Op) (t, n)) (hN : Ev (fun q => zj9 q s.Table ⟨e.Index, e.Proc, e.Seq, e.Op, n⟩) ⟨z, true, T⟩) : Ev (fun q => zk4 q s r) (⟨wrp .i64 (s.Index + 1), t, ⟨z, T⟩⟩, 0) := by
 have w1 : wrp .i64 1 = 1 := zbt3 (by omega) (by omega)
 have hl : ∀ a : Int, a = 1 → Ev (fun q => zk2 q r.z r.l (r.l.length : Int) a (wrp .i64 (s.Index + 1)) t.Kind t.L.z t.L.l t.Sealed t.To z T true) (⟨wrp .i64 (s.Index + 1), t, ⟨z, T⟩⟩, 0) := fun a ha =>
  Ev.succ (Ev.ne (Ev.ret _)) (fun q => rfl)
 have h0 : Ev (fun q => zk3 q r.z r.l (r.l.length : Int) s.Index s.State.Kind s.State.L.z s.State.L.l s.State.Sealed s.State.To s.Table.z s.Table.l) (⟨wrp .i64 (s.Index + 1), t, ⟨z, T⟩⟩, 0) :=
  Ev.succ (Ev.po (Ev.opt h1 (Ev.pos hi (Ev.bind (zbum e) (Ev.pos (by simpa using hf) (Ev.bind hS (Ev.bind hN (hl _ w1)))))))) (fun q => rfl)
 exact Ev.succ h0 (fun q => rfl)
theorem zbx8 : ∃ z z', Ev (fun q => zk4 q ⟨0, ⟨0, ⟨false, [0]⟩, false, 0⟩, ⟨true, []⟩⟩ ⟨false, [⟨0, 2, 1, ⟨1, 5, 0⟩, 0⟩]⟩) (⟨1, ⟨0, ⟨z, [5]⟩, false, 0⟩, ⟨z', [⟨2, 1, 0⟩]⟩⟩, 0) := by
 obtain ⟨z', hN⟩ := zbx3 true
 have w2 : wrp .i64 (0 + 1) = 1 := zbt3 (by omega) (by omega)
 have := zbx7 (s := ⟨0, ⟨0, ⟨false, [0]⟩, false, 0⟩, ⟨true, []⟩⟩) (r := ⟨false, [⟨0, 2, 1, ⟨1, 5, 0⟩, 0⟩]⟩) rfl rfl rfl (by simp [FitsR, fitsOp, cutI]) zbx6 hN
 simp only [w2] at this
 exact ⟨false, z', this⟩
theorem zbx9 (s : zjk) : 10 < (snapB s).length := by
 have h := zbxk (manB s.Index (wholeB s))
 have g : ∀ n : Int, (put n).length = 0 ∨ 1 ≤ (put n).length := fun n => by omega
 have p3 : 1 ≤ (put 3).length := by rw [put_ok (by omega) (by omega)]; exact zbt9 _
 have p4 : 1 ≤ (put ((manB s.Index (wholeB s)).length : Int)).length := by
  have := zbxp s.Index (wholeB s)
  rw [put_ok (by omega) (by omega)]; exact zbt9 _
 have p5 : 1 + 1 + 4 ≤ (manB s.Index (wholeB s)).length := by simp only [manB, fix4, y10, y21, y25]; omega
 simp only [snapB, y10]; omega
theorem zbya : Ev (fun q => zlz q) true := by
 obtain ⟨z, z', hT⟩ := zbx8
 obtain ⟨z2, hE⟩ := zbxs ⟨1, ⟨0, ⟨z, [5]⟩, false, 0⟩, ⟨z', [⟨2, 1, 0⟩]⟩⟩ (by simp) (by simp)
 rw [if_pos (mayD z z')] at hE
 have hl := zbx9 ⟨1, ⟨0, ⟨z, [5]⟩, false, 0⟩, ⟨z', [⟨2, 1, 0⟩]⟩⟩
 generalize snapB ⟨1, ⟨0, ⟨z, [5]⟩, false, 0⟩, ⟨z', [⟨2, 1, 0⟩]⟩⟩ = B at hE hl
 have e1 : (⟨1, ⟨0, ⟨z, [5]⟩, false, 0⟩, ⟨z', [⟨2, 1, 0⟩]⟩⟩ : zjk).Index = 1 := rfl
 have e2 : (⟨1, ⟨0, ⟨z, [5]⟩, false, 0⟩, ⟨z', [⟨2, 1, 0⟩]⟩⟩ : zjk).Table.l = [⟨2, 1, 0⟩] := rfl
 have e3 : (⟨1, ⟨0, ⟨z, [5]⟩, false, 0⟩, ⟨z', [⟨2, 1, 0⟩]⟩⟩ : zjk).State.L.l = [5] := rfl
 generalize (⟨1, ⟨0, ⟨z, [5]⟩, false, 0⟩, ⟨z', [⟨2, 1, 0⟩]⟩⟩ : zjk) = x at hT hE e1 e2 e3
 have e4 : x.Table.l[0]? = some ⟨2, 1, 0⟩ := by rw [e2]; rfl
 have e5 : x.State.L.l[0]? = some 5 := by rw [e3]; rfl
 refine Ev.succ (Ev.bind hT (Ev.bind hE ?_)) (fun q => rfl)
 refine Ev.pos rfl (Ev.pos rfl (Ev.pos (by simp only; omega) (Ev.pos e1 (Ev.pos (by simp only [e2]; rfl) (Ev.opt e4 (Ev.pos rfl (Ev.pos rfl (Ev.pos rfl (Ev.pos (by simp only [e3]; rfl) (Ev.opt e5 (Ev.ret' (by simp))))))))))))
theorem zbyb : ∀ (a0 : zjk) (a1 : zjk), zjk.ok a0 → zjk.ok a1 → ∃ q, zmn q a0 a1 = some true := by
 intro a b ha hb
 refine Ev.get (Ev.succ (Ev.bind zbya (Ev.bind (Few_ev a) (Ev.bind (Few_ev b) (Ev.pos rfl (Ev.ite (fun h1 => Ev.ite (fun h2 => ?_) fun h2 => Ev.ret _) fun h1 => Ev.ret _))))) (fun q => rfl))
 simp only [decide_eq_true_eq] at h1 h2
 obtain ⟨z1, hE⟩ := zbxs a (by omega) (by omega)
 obtain ⟨z2, hR⟩ := zbxt a (by omega) (by omega)
 have g := zbx2 a
 have hS := zbxx a a (by omega) (by omega)
 rw [g] at hS
 refine Ev.bind hE (Ev.bind hR (Ev.pos ?_ (Ev.pos ?_ (Ev.bind (zbwh a (by omega) (by omega)) (Ev.bind (zbwi a (by omega) (by omega)) (Ev.pos (by simp) (Ev.bind (zbxx a b (by omega) (by omega)) (Ev.bind (zbx1 a b (by omega) (by omega)) (Ev.pos (by simp) (Ev.bind hS (Ev.ret _)))))))))))
 ·split <;> rfl
 ·split <;> rfl
end Go.Dvm.I
