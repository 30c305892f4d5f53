/- Plain laws of the functions: part 1. -/
import Derived.Test.YtngajodhbioheaaQi
set_option linter.all false
set_option maxRecDepth 100000
namespace Go.Dvm.I
open Go Go.Dvm
/-- With enough rounds. -/
def Ev {R : Type} (g : Nat → Option R) (r : R) : Prop := ∃ N, ∀ q, N ≤ q → g q = some r
section
variable {R S : Type}
theorem Ev.ret (r : R) : Ev (fun _ => some r) r := ⟨0, fun _ _ => rfl⟩
theorem Ev.ret' {r r' : R} (h : r = r') : Ev (fun _ => some r) r' := ⟨0, fun _ _ => by rw [h]⟩
theorem Ev.succ {f g : Nat → Option R} {r : R} (h : Ev g r) (e : ∀ q, f (q + 1) = g q) : Ev f r := by
 obtain ⟨N, h⟩ := h
 refine ⟨N + 1, fun q hq => ?_⟩
 obtain ⟨q, rfl⟩ : ∃ p, q = p + 1 := ⟨q - 1, by omega⟩
 rw [e]; exact h q (by omega)
theorem Ev.bind {g : Nat → Option S} {k : Nat → S → Option R} {s : S} {r : R} (h : Ev g s) (h2 : Ev (fun q => k q s) r) : Ev (fun q => (g q).bind (k q)) r := by
 obtain ⟨N, h⟩ := h
 obtain ⟨M, h2⟩ := h2
 exact ⟨N + M, fun q hq => by show (g q).bind (k q) = some r; rw [h q (by omega), y6]; exact h2 q (by omega)⟩
theorem Ev.opt {o : Option S} {k : Nat → S → Option R} {s : S} {r : R} (h : o = some s) (h2 : Ev (fun q => k q s) r) : Ev (fun q => o.bind (k q)) r := by
 subst h; exact h2
theorem Ev.pos {c : Prop} [Decidable c] {a b : Nat → Option R} {r : R} (hc : c) (h : Ev a r) : Ev (fun q => if c then a q else b q) r := by
 obtain ⟨N, h⟩ := h
 exact ⟨N, fun q hq => by show (if c then a q else b q) = some r; rw [if_pos hc]; exact h q hq⟩
theorem Ev.neg {c : Prop} [Decidable c] {a b : Nat → Option R} {r : R} (hc : ¬ c) (h : Ev b r) : Ev (fun q => if c then a q else b q) r := by
 obtain ⟨N, h⟩ := h
 exact ⟨N, fun q hq => by show (if c then a q else b q) = some r; rw [if_neg hc]; exact h q hq⟩
theorem Ev.po {c : Prop} [Decidable c] {a b : Nat → Option R} {r : R} (h : Ev a r) (hc : c := by omega) : Ev (fun q => if c then a q else b q) r := Ev.pos hc h
theorem Ev.ne {c : Prop} [Decidable c] {a b : Nat → Option R} {r : R} (h : Ev b r) (hc : ¬ c := by omega) : Ev (fun q => if c then a q else b q) r := Ev.neg hc h
theorem Ev.ite {c : Prop} [Decidable c] {a b : Nat → Option R} {r : R} (h1 : c → Ev a r) (h2 : ¬ c → Ev b r) : Ev (fun q => if c then a q else b q) r := by
 by_cases hc : c
 ·exact .pos hc (h1 hc)
 ·exact .neg hc (h2 hc)
theorem Ev.get {f : Nat → Option R} {r : R} (h : Ev f r) : ∃ q, f q = some r := by
 obtain ⟨N, h⟩ := h; exact ⟨N, h N (y15 _)⟩
theorem Ev.cast {f : Nat → Option R} {r r' : R} (h : Ev f r) (e : r = r') : Ev f r' := e ▸ h
end
theorem zbte {x : Int} (h1 : -9223372036854775808 ≤ x) (h2 : x ≤ 9223372036854775807) : wrp .i64 x = x := by
 unfold wrp; simp [IntKind.wrap, IntKind.min, IntKind.max, IntKind.signed, IntKind.bits] <;> omega
theorem zbtf {x : Int} (h1 : 0 ≤ x) (h2 : x ≤ 18446744073709551615) : wrp .u64 x = x := by
 unfold wrp; simp [IntKind.wrap, IntKind.min, IntKind.max, IntKind.signed, IntKind.bits] <;> omega
theorem zbtg {x : Int} (h1 : 0 ≤ x) (h2 : x ≤ 4294967295) : wrp .u32 x = x := by
 unfold wrp; simp [IntKind.wrap, IntKind.min, IntKind.max, IntKind.signed, IntKind.bits] <;> omega
theorem wrp_u8 (x : Int) : wrp .u8 x = x % 256 := by
 unfold wrp; simp [IntKind.wrap, IntKind.min, IntKind.max, IntKind.signed, IntKind.bits] <;> omega
theorem zbth {x : Int} (h1 : 0 ≤ x) : ishr .u64 x 7 = x / 128 := by
 unfold ishr; simp [IntKind.bits]
 rw [y54]; omega
theorem or128 {x : Int} (h1 : 0 ≤ x) (h2 : x < 256) : ibits .or .u8 x 128 = x % 128 + 128 := by
 obtain ⟨n, rfl⟩ := Int.eq_ofNat_of_zero_le h1
 have hn : n < 256 := by omega
 have : ∀ m : Fin 256, ibits .or .u8 (m.val : Int) 128 = (m.val : Int) % 128 + 128 := by unfold ibits; decide +kernel
 exact this ⟨n, hn⟩
/-- A number's groups. -/
def grp (n : Nat) : List Int := if h : n < 128 then [(n : Int)] else ((n % 128 + 128 : Nat) : Int) :: grp (n / 128)
theorem grp_lt {n : Nat} (h : n < 128) : grp n = [(n : Int)] := by rw [grp, dif_pos h]
theorem grp_ge {n : Nat} (h : ¬ n < 128) : grp n = ((n % 128 + 128 : Nat) : Int) :: grp (n / 128) := by rw [grp, dif_neg h]
theorem zbti : ∀ (k : Nat) {n : Nat}, n < 128 ^ (k + 1) → (grp n).length ≤ k + 1
 | 0, n, h => by rw [grp_lt (by simpa using h)]; simp
 | k + 1, n, h => by
  by_cases hn : n < 128
  ·rw [grp_lt hn]; simp
  ·rw [grp_ge hn]
   have := zbti k (n := n / 128) (by rw [Nat.div_lt_iff_lt_mul (by omega)]; rw [Nat.pow_succ] at h; exact h)
   simp; omega
theorem zbtj {n : Nat} (h : n < 18446744073709551616) : (grp n).length ≤ 10 := zbti 9 (by omega)
theorem zbtk (n : Nat) : 1 ≤ (grp n).length := by
 by_cases hn : n < 128
 ·rw [grp_lt hn]; simp
 ·rw [grp_ge hn]; simp
theorem zbtl : ∀ (n : Nat) (z : Bool) (l : List Int) (x : Bool), l.length + (grp n).length ≤ 4294967296 → Ev (fun q => zna q (n : Int) z l x) ⟨false, x, l ++ grp n⟩ := by
 intro n
 induction n using Nat.strongRecOn with
 | ind n ih =>
  intro z l x hl
  refine Ev.succ ?_ (fun q => rfl)
  by_cases hn : n < 128
  ·rw [grp_lt hn] at hl ⊢
   refine Ev.ne (Ev.pos (by simpa using hl) (Ev.ret' ?_))
   rw [wrp_u8]; congr 3; omega
  ·rw [grp_ge hn] at hl ⊢
   simp only [y22] at hl
   refine Ev.po (Ev.pos (by omega) ?_)
   rw [zbth (by omega), wrp_u8, or128 (by omega) (by omega)]
   have := ih (n / 128) (by omega) false (l ++ [((n % 128 + 128 : Nat) : Int)]) x (by simp; omega)
   rw [show ((n : Int) % 256 % 128 + 128) = ((n % 128 + 128 : Nat) : Int) by omega, show ((n : Int) / 128) = ((n / 128 : Nat) : Int) by omega]
   simpa using this
theorem zbtm {u : Int} (h1 : 0 ≤ u) (b : Ow Int) (hl : b.xs.length + (grp u.toNat).length ≤ 4294967296) : Ev (fun q => znb q b u) ⟨false, b.x, b.xs ++ grp u.toNat⟩ := by
 have := zbtl u.toNat b.n b.xs b.x hl
 rw [Int.toNat_of_nonneg h1] at this
 exact Ev.succ this (fun q => rfl)
/-- What a number puts behind bytes. -/
def put (n : Int) : List Int := if n < 0 then [] else if 4611686018427387904 ≤ n then [] else grp n.toNat
theorem put_ok {n : Int} (h1 : 0 ≤ n) (h2 : n < 4611686018427387904) : put n = grp n.toNat := by
 unfold put; rw [if_neg (by omega), if_neg (by omega)]
theorem zbtn (n : Int) : (put n).length ≤ 10 := by
 unfold put; split
 ·simp
 ·split
  ·simp
  ·exact zbtj (by omega)
theorem zbto {n : Int} (b : Ow Int) (h1 : 0 ≤ n) (h2 : n < 4611686018427387904) (hl : b.xs.length + 10 ≤ 4294967296) : Ev (fun q => znc q b n) ⟨false, b.x, b.xs ++ put n⟩ := by
 refine Ev.succ ?_ (fun q => rfl)
 rw [put_ok h1 h2]
 have hg := zbtj (n := n.toNat) (by omega)
 refine Ev.ne (Ev.neg (by omega) ?_)
 rw [zbtf h1 (by omega)]
 exact Ev.bind (zbtm h1 b (by omega)) (Ev.ret _)
/-- Zigzag. -/
def zig (n : Int) : Nat := if 0 ≤ n then 2 * n.toNat else 2 * (-n).toNat - 1
theorem zig_lt {n : Int} (h : inR .i64 n) : zig n < 18446744073709551616 := by
 simp [inR, IntKind.min, IntKind.max, IntKind.signed, IntKind.bits] at h
 unfold zig; split <;> omega
def putS (n : Int) : List Int := grp (zig n)
theorem zbtp (k : IntKind) (n : Int) : k.wrap n = wrp k n := by unfold wrp; rfl
theorem xor0 {x : Int} (h1 : 0 ≤ x) (h2 : x < 18446744073709551616) : ibits .xor .u64 x 0 = x := by
 have e : ibits .xor .u64 x 0 = IntKind.wrap .u64 (((BitVec.ofInt 64 x ^^^ 0#64 : BitVec 64).toNat : Nat) : Int) := by unfold ibits; rfl
 rw [e, BitVec.xor_zero, y50, zbtp, zbtf] <;> omega
theorem xor1 {x : Int} (h1 : 0 ≤ x) (h2 : x < 18446744073709551616) : ibits .xor .u64 x 18446744073709551615 = 18446744073709551615 - x := by
 have e : ibits .xor .u64 x 18446744073709551615 = IntKind.wrap .u64 (((BitVec.ofInt 64 x ^^^ BitVec.allOnes 64 : BitVec 64).toNat : Nat) : Int) := by unfold ibits; rfl
 rw [e, BitVec.xor_allOnes, BitVec.toNat_not, y50, zbtp, zbtf] <;> omega
theorem ishl1 {x : Int} (h1 : 0 ≤ x) : ishl .u64 x 1 = (2 * x) % 18446744073709551616 := by
 unfold ishl
 simp [IntKind.wrap, IntKind.signed, IntKind.bits]
 omega
theorem zbtq (x : Int) : wrp .u64 x = x % 18446744073709551616 := by
 unfold wrp; simp [IntKind.wrap, IntKind.signed, IntKind.bits]
theorem ishr63 {x : Int} (h : inR .i64 x) : ishr .i64 x 63 = if 0 ≤ x then 0 else -1 := by
 simp [inR, IntKind.min, IntKind.max, IntKind.signed, IntKind.bits] at h
 unfold ishr; simp [IntKind.bits]
 rw [y54 _ (by omega)]
 split <;> omega
theorem zbtr {n : Int} (h : inR .i64 n) : Ev (fun q => zng q n) ((zig n : Nat) : Int) := by
 refine Ev.succ (Ev.ret' ?_) (fun q => rfl)
 have hr := h
 simp [inR, IntKind.min, IntKind.max, IntKind.signed, IntKind.bits] at hr
 rw [ishr63 h]
 by_cases h0 : 0 ≤ n
 ·rw [if_pos h0, zbtf h0 (by omega), ishl1 h0, zbtf (by omega) (by omega), xor0 (by omega) (by omega)]
  unfold zig; rw [if_pos h0]; omega
 ·rw [if_neg h0, zbtq n, ishl1 (by omega), show wrp .u64 (-1) = 18446744073709551615 by rw [zbtq]; rfl, xor1 (by omega) (by omega)]
  unfold zig; rw [if_neg h0]; omega
theorem zbts {n : Int} (b : Ow Int) (h : inR .i64 n) (hl : b.xs.length + 10 ≤ 4294967296) : Ev (fun q => znh q b n) ⟨false, b.x, b.xs ++ putS n⟩ := by
 refine Ev.succ ?_ (fun q => rfl)
 have hg := zbtj (zig_lt h)
 have := zbtm (u := (zig n : Nat)) (by omega) b (by simpa using (by omega : b.xs.length + (grp (zig n)).length ≤ 4294967296))
 rw [y29] at this
 exact Ev.bind (zbtr h) (Ev.bind this (Ev.ret _))
def cutI (n : Int) : Int := if n < -1099511627776 then -1099511627776 else if 1099511627776 < n then 1099511627776 else n
theorem zbtt (n : Int) : Ev (fun q => zjw q n) (cutI n) := by
 refine Ev.succ (Ev.ret' ?_) (fun q => rfl)
 unfold cutI; split <;> split <;> split <;> (try split) <;> omega
theorem zbtu {n : Int} : n = cutI n ↔ -1099511627776 ≤ n ∧ n ≤ 1099511627776 := by
 unfold cutI
 by_cases h1 : n < -1099511627776
 ·rw [if_pos h1]; omega
 ·rw [if_neg h1]
  by_cases h2 : 1099511627776 < n
  ·rw [if_pos h2]; omega
  ·rw [if_neg h2]; omega
theorem zbtv {n : Int} (h : inR .i64 n) : (putS n).length ≤ 10 := zbtj (zig_lt h)
theorem zbtw {n : Int} (h1 : -9223372036854775808 ≤ n) (h2 : n ≤ 9223372036854775807) : inR .i64 n := by
 simp [inR, IntKind.min, IntKind.max, IntKind.signed, IntKind.bits]; omega
abbrev B32 := BitVec 32
def u (a : B32) : Int := (a.toNat : Int)
theorem u_nn (a : B32) : 0 ≤ u a := Int.natCast_nonneg _
theorem u_lt (a : B32) : u a < 4294967296 := by unfold u; have := a.isLt; omega
theorem zbtx (a : B32) : BitVec.ofInt 32 (u a) = a := by
 apply BitVec.eq_of_toNat_eq; rw [y50]; unfold u; have := a.isLt; omega
theorem wrp_u (a : B32) : IntKind.wrap .u32 ((a.toNat : Nat) : Int) = u a := by
 have := a.isLt
 rw [zbtp, zbtg (by omega) (by omega)]; rfl
theorem xor_u (a b : B32) : ibits .xor .u32 (u a) (u b) = u (a ^^^ b) := by
 have e : ibits .xor .u32 (u a) (u b) = IntKind.wrap .u32 (((BitVec.ofInt 32 (u a) ^^^ BitVec.ofInt 32 (u b) : B32).toNat : Nat) : Int) := by unfold ibits; rfl
 rw [e, zbtx, zbtx, wrp_u]
theorem and_u (a b : B32) : ibits .and .u32 (u a) (u b) = u (a &&& b) := by
 have e : ibits .and .u32 (u a) (u b) = IntKind.wrap .u32 (((BitVec.ofInt 32 (u a) &&& BitVec.ofInt 32 (u b) : B32).toNat : Nat) : Int) := by unfold ibits; rfl
 rw [e, zbtx, zbtx, wrp_u]
theorem u_lit (n : Nat) (h : n < 4294967296) : u (BitVec.ofNat 32 n) = (n : Int) := by
 unfold u; rw [BitVec.toNat_ofNat]; omega
theorem zbty (x : Int) : wrp .u32 x = x % 4294967296 := by
 unfold wrp; simp [IntKind.wrap, IntKind.signed, IntKind.bits]
theorem ishr_u (a : B32) (k : Nat) (hk : k ≤ 32) : ishr .u32 (u a) (k : Int) = u (a >>> k) := by
 unfold ishr u
 simp only [IntKind.bits, y29, Nat.min_eq_left hk]
 rw [y54 _ (by exact_mod_cast Nat.zero_le _), BitVec.toNat_ushiftRight, Nat.shiftRight_eq_div_pow]
 simp
theorem zbtz (a : B32) : ishr .u32 (u a) 1 = u (a >>> 1) := ishr_u a 1 (by omega)
theorem zbt0 (a : B32) : ishr .u32 (u a) 8 = u (a >>> 8) := ishr_u a 8 (by omega)
def poly : B32 := 2197175160#32
def bstep (a : B32) : B32 := if a &&& 1#32 = 1#32 then (a >>> 1) ^^^ poly else a >>> 1
theorem and1 (a : B32) : a &&& 1#32 = 0#32 ∨ a &&& 1#32 = 1#32 := by
 have : (a &&& 1#32).toNat = a.toNat % 2 := by rw [BitVec.toNat_and]; exact Nat.and_one_is_mod _
 rcases Nat.mod_two_eq_zero_or_one a.toNat with h | h
 ·left; exact BitVec.eq_of_toNat_eq (by rw [this, h]; rfl)
 ·right; exact BitVec.eq_of_toNat_eq (by rw [this, h]; rfl)
/-- The program's step. -/
theorem zbt1 (a : B32) : ibits .xor .u32 (ishr .u32 (u a) 1) (ibits .and .u32 2197175160 (wrp .u32 (0 - (ibits .and .u32 (u a) 1)))) = u (bstep a) := by
 have e1 : (1 : Int) = u 1#32 := rfl
 have e2 : (2197175160 : Int) = u poly := by unfold poly; rw [u_lit _ (by omega)]; rfl
 rw [zbtz]
 conv => lhs; arg 4; rw [e2]; arg 4; rw [e1, and_u]
 unfold bstep
 rcases and1 a with h | h
 ·rw [h, if_neg (by decide)]
  have : wrp .u32 (0 - u 0#32) = u 0#32 := by rw [zbty]; rfl
  rw [this, and_u, BitVec.and_zero, xor_u, BitVec.xor_zero]
 ·rw [h, if_pos rfl]
  have : wrp .u32 (0 - u 1#32) = u (BitVec.allOnes 32) := by rw [zbty]; rfl
  rw [this, and_u, BitVec.and_allOnes, xor_u]
def biter : Nat → B32 → B32
 | 0, a => a
 | n + 1, a => biter n (bstep a)
def bentry (a : B32) : B32 := biter 8 a
theorem zbt2 (v2 v5 : Int) (t0 t1 : List Int) (r : List Int) : ∀ (k : Nat) (a : B32) (v10 : Int), v10 = 8 - k → k ≤ 8 → 0 ≤ v2 → v2.toNat < 256 → v2.toNat + 1 ≤ t1.length →
  Ev (fun q => zlh q (wrp .i64 (v5 + 1)) t0 (List.set t1 v2.toNat (u (biter k a)))) r → Ev (fun q => zli q v2 (u a) v5 v10 t0 t1) r
 | 0, a, v10, h1, h2, h3, h4, h5, h => Ev.succ (Ev.ne (Ev.pos h3 (Ev.pos h4 (Ev.pos h5 h)))) (fun q => rfl)
 | k + 1, a, v10, h1, h2, h3, h4, h5, h => by
  refine Ev.succ (Ev.pos (by omega) ?_) (fun q => rfl)
  rw [zbt1, zbte (by omega) (by omega)]
  exact zbt2 v2 v5 t0 t1 r k (bstep a) (v10 + 1) (by omega) (by omega) h3 h4 h5 h
/-- The table. -/
def tabN (n : Nat) : List Int := (List.range n).map fun i => u (bentry (BitVec.ofNat 32 i))
theorem zbt3 {n i : Nat} (h : i < n) : (tabN n)[i]? = some (u (bentry (BitVec.ofNat 32 i))) := by
 unfold tabN; rw [y43, List.getElem?_range h]; rfl
theorem zbt4 (n : Nat) : (tabN n).length = n := by simp [tabN]
theorem zbt5 : ∀ (k i : Nat) (t1 : List Int), i + k = 256 → t1.length = 256 → (∀ j, j < i → t1[j]? = (tabN 256)[j]?) → Ev (fun q => zlh q (i : Int) (List.replicate 256 0) t1) (tabN 256)
 | 0, i, t1, hk, hl, ht => by
  refine Ev.succ (Ev.ne (Ev.po (Ev.po (Ev.pos (by simp) (Ev.pos (by simp) (Ev.ret' ?_)))))) (fun q => rfl)
  have e : t1 = tabN 256 := by
   apply List.ext_getElem?
   intro j
   by_cases hj : j < 256
   ·exact ht j (by omega)
   ·rw [y51 (by omega), y51 (by rw [zbt4]; omega)]
  have h2 := zbt4 256
  rw [e, List.take_of_length_le (i := 256) (by omega : (tabN 256).length ≤ 256), y13 (by simp), List.append_nil, List.take_of_length_le (by omega)]
 | k + 1, i, t1, hk, hl, ht => by
  refine Ev.succ (Ev.pos (by omega) ?_) (fun q => rfl)
  have e : wrp .u32 (i : Int) = u (BitVec.ofNat 32 i) := by rw [u_lit _ (by omega), zbtg] <;> omega
  rw [e]
  refine zbt2 _ _ _ _ _ 8 _ 0 (by omega) (by omega) (by omega) (by omega) (by omega) ?_
  rw [zbte (by omega) (by omega), show ((i : Int) + 1) = ((i + 1 : Nat) : Int) by omega, y29]
  refine zbt5 k (i + 1) _ (by omega) (by simpa using hl) fun j hj => ?_
  by_cases e : i = j
  ·subst e; rw [y24 (by omega), zbt3 (by omega)]; rfl
  ·rw [y30 e]; exact ht j (by omega)
theorem zbt6 : Ev (fun q => zlj q) (tabN 256) :=
 Ev.succ (zbt5 256 0 (List.replicate 256 0) (by omega) (by simp) (fun j hj => by omega)) (fun q => rfl)
/-- What a byte makes of a sum. -/
def bbyte (x : B32) (c : Int) : B32 := bentry ((x ^^^ BitVec.ofInt 32 c) &&& 255#32) ^^^ (x >>> 8)
def bmore (x : B32) (l : List Int) : B32 := l.foldl bbyte x
def isB (l : List Int) : Prop := ∀ c ∈ l, 0 ≤ c ∧ c < 256
theorem xor8 {x : B32} {c : Int} (h1 : 0 ≤ c) (h2 : c < 256) : ibits .xor .u8 (wrp .u8 (u x)) c = u ((x ^^^ BitVec.ofInt 32 c) &&& 255#32) := by
 have e : ibits .xor .u8 (wrp .u8 (u x)) c = IntKind.wrap .u8 (((BitVec.ofInt 8 (wrp .u8 (u x)) ^^^ BitVec.ofInt 8 c : BitVec 8).toNat : Nat) : Int) := by unfold ibits; rfl
 rw [e, zbtp, wrp_u8, wrp_u8]
 unfold u
 rw [BitVec.toNat_and, BitVec.toNat_xor, BitVec.toNat_xor, y50, y50, y50]
 obtain ⟨n, rfl⟩ := Int.eq_ofNat_of_zero_le h1
 have hn : n < 256 := by omega
 have e1 : (((x.toNat : Int) % 256 % ((2 ^ 8 : Nat) : Int)).toNat) = x.toNat % 256 := by omega
 have e2 : (((n : Int) % ((2 ^ 8 : Nat) : Int)).toNat) = n := by omega
 have e3 : (((n : Int) % ((2 ^ 32 : Nat) : Int)).toNat) = n := by omega
 rw [e1, e2, e3, show (255#32).toNat = 2 ^ 8 - 1 from rfl, Nat.and_two_pow_sub_one_eq_mod]
 have h3 : (x.toNat ^^^ n) % 2 ^ 8 = (x.toNat % 2 ^ 8) ^^^ (n % 2 ^ 8) := Nat.xor_mod_two_pow
 rw [h3, Nat.mod_eq_of_lt (show n < 2 ^ 8 by omega)]
 have h4 : (x.toNat % 2 ^ 8) ^^^ n < 2 ^ 8 := Nat.xor_lt_two_pow (Nat.mod_lt _ (by omega)) (by omega)
 simp only [Nat.reducePow] at h4 ⊢
 omega
theorem and255 (x : B32) : u (x &&& 255#32) < 256 := by
 unfold u
 rw [BitVec.toNat_and, show (255#32).toNat = 2 ^ 8 - 1 from rfl, Nat.and_two_pow_sub_one_eq_mod]; omega
theorem zbt7 (a : B32) : (u a).toNat = a.toNat := by unfold u; omega
theorem ones : (4294967295 : Int) = u (BitVec.allOnes 32) := rfl
theorem zbt8 (z : Bool) (l : List Int) (hb : isB l) (hl : l.length ≤ 1099511627776) : ∀ (k i : Nat) (x : B32), l.length = i + k → Ev (fun q => zlk q (u x) z l (l.length : Int) (i : Int) (tabN 256)) (u (~~~ bmore x (l.drop i)))
 | 0, i, x, hk => by
  refine Ev.succ (Ev.ne (Ev.ret' ?_)) (fun q => rfl)
  rw [y13 (by omega), ones, xor_u]
  simp only [bmore, List.foldl_nil, BitVec.allOnes_xor]
 | k + 1, i, x, hk => by
  have hi : i < l.length := by omega
  have hg : l[(i : Int).toNat]? = some l[i] := by simpa using y8 hi
  obtain ⟨b1, b2⟩ := hb l[i] (y27 hi)
  refine Ev.succ (Ev.po (Ev.po (Ev.opt hg ?_))) (fun q => rfl)
  rw [xor8 b1 b2]
  have h255 := and255 (x ^^^ BitVec.ofInt 32 l[i])
  have hnn := u_nn ((x ^^^ BitVec.ofInt 32 l[i]) &&& 255#32)
  refine Ev.pos hnn (Ev.po (Ev.opt (zbt3 (by omega)) ?_))
  rw [zbt0, xor_u, zbte (by omega) (by omega), show ((i : Int) + 1) = ((i + 1 : Nat) : Int) by omega, zbt7]
  have := zbt8 z l hb hl k (i + 1) (bentry ((x ^^^ BitVec.ofInt 32 l[i]) &&& 255#32) ^^^ (x >>> 8)) (by omega)
  rw [y10 hi]
  simp only [bmore, List.foldl_cons, bbyte, BitVec.ofNat_toNat, BitVec.setWidth_eq] at this ⊢
  exact this
theorem zbt9 (x : B32) (s : Sl Int) (hb : isB s.l) (hl : s.l.length ≤ 1099511627776) : Ev (fun q => zll q (u x) s) (u (~~~ bmore (~~~ x) s.l)) := by
 refine Ev.succ (Ev.bind zbt6 (Ev.pos (zbt4 256) ?_)) (fun q => rfl)
 rw [ones, xor_u, BitVec.allOnes_xor]
 have := zbt8 s.z s.l hb hl s.l.length 0 (~~~ x) (by omega)
 rw [y39] at this
 exact this
/-- The sum of bytes. -/
def bsum (l : List Int) : B32 := ~~~ bmore (BitVec.allOnes 32) l
theorem zbua (s : Sl Int) (hb : isB s.l) (hl : s.l.length ≤ 1099511627776) : Ev (fun q => zlm q s) (u (bsum s.l)) := by
 have := zbt9 0#32 s hb hl
 exact Ev.succ (Ev.bind this (Ev.ret' (by simp [bsum]))) (fun q => rfl)
theorem zbub (x : B32) (a b : List Int) : bmore (bmore x a) b = bmore x (a ++ b) := by simp [bmore]
theorem zbuc {x : Int} (h : 0 ≤ x) (k : Nat) (hk : k ≤ 64) : ishr .u64 x (k : Int) = x / ((2 ^ k : Nat) : Int) := by
 unfold ishr
 simp only [IntKind.bits, y29, Nat.min_eq_left hk]
 rw [y54 _ (by exact_mod_cast Nat.zero_le _)]
 simp
/-- A number in four bytes. -/
def fix4 (v : Nat) : List Int := [((v % 256 : Nat) : Int), ((v / 256 % 256 : Nat) : Int), ((v / 65536 % 256 : Nat) : Int), ((v / 16777216 % 256 : Nat) : Int)]
theorem zbud (v k : Nat) (hk : k ≤ 8) : wrp .u8 (ishr .u64 (v : Int) (wrp .i64 (8 * (k : Int)))) = ((v / 2 ^ (8 * k) % 256 : Nat) : Int) := by
 rw [zbte (by omega) (by omega), show (8 * (k : Int)) = ((8 * k : Nat) : Int) by omega, zbuc (by omega) _ (by omega), wrp_u8]
 exact_mod_cast rfl
def bytesFrom (v : Nat) : Nat → Nat → List Int
 | _, 0 => []
 | i, k + 1 => ((v / 2 ^ (8 * i) % 256 : Nat) : Int) :: bytesFrom v (i + 1) k
theorem zbue {v m : Nat} (hm : m ≤ 8) : ∀ (k i : Nat) (l : List Int), m = i + k → l.length + k ≤ 4294967296 → Ev (fun q => zln q (v : Int) (m : Int) (i : Int) false l) ⟨false, true, l ++ bytesFrom v i k⟩
 | 0, i, l, hk, hl => Ev.succ (Ev.ne (Ev.ret' (by simp [bytesFrom]))) (fun q => rfl)
 | k + 1, i, l, hk, hl => by
  have w : wrp .i64 (8 * (i : Int)) = 8 * (i : Int) := zbte (by omega) (by omega)
  refine Ev.succ (Ev.po (Ev.neg (by rw [w]; omega) (Ev.pos (by omega) ?_))) (fun q => rfl)
  rw [zbud v i (by omega), zbte (x := (i : Int) + 1) (by omega) (by omega), show ((i : Int) + 1) = ((i + 1 : Nat) : Int) by omega]
  refine (zbue hm k (i + 1) _ (by omega) (by simp; omega)).cast ?_
  simp [bytesFrom]
theorem zbuf {v m : Nat} (h0 : 0 < m) (hm : m ≤ 8) : Ev (fun q => zlo q (v : Int) (m : Int)) ⟨false, true, bytesFrom v 0 m⟩ := by
 obtain ⟨k, rfl⟩ : ∃ k, m = k + 1 := ⟨m - 1, by omega⟩
 have w : wrp .i64 (8 * ((0 : Nat) : Int)) = 0 := zbte (by omega) (by omega)
 have key : ∀ i : Int, i = ((0 : Nat) : Int) → Ev (fun q => zln q (v : Int) ((k + 1 : Nat) : Int) i true []) ⟨false, true, bytesFrom v 0 (k + 1)⟩ := by
  intro i hi
  refine Ev.succ (Ev.po (Ev.neg (by rw [hi, w]; omega) (Ev.pos (by simp) ?_))) (fun q => rfl)
  rw [hi, zbud v 0 (by omega), zbte (x := ((0 : Nat) : Int) + 1) (by omega) (by omega), show (((0 : Nat) : Int) + 1) = ((0 + 1 : Nat) : Int) by omega]
  refine (zbue hm k 1 _ (by omega) (by simp; omega)).cast ?_
  simp [bytesFrom]
 exact Ev.succ (key 0 rfl) (fun q => rfl)
theorem bytes4 (v : Nat) : bytesFrom v 0 4 = fix4 v := by simp [bytesFrom, fix4]
theorem zbug {v : Nat} (h : v < 18446744073709551616) : Ev (fun q => zlo q (v : Int) 4) ⟨false, true, fix4 v⟩ := by
 have := zbuf (v := v) (m := 4) (by omega) (by omega)
 rw [bytes4] at this; exact this
theorem zbuh (a : B32) : Ev (fun q => zlp q (u a)) ⟨false, true, fix4 a.toNat⟩ := by
 have h1 := u_nn a; have h2 := u_lt a
 have e : wrp .u64 (u a) = ((a.toNat : Nat) : Int) := by rw [zbtf h1 (by omega)]; rfl
 exact Ev.succ (Ev.bind (by rw [e]; exact zbug (by have := a.isLt; omega)) (Ev.ret _)) (fun q => rfl)
theorem zbui (a b : Sl Int) (ha : isB a.l) (hb : isB b.l) (la : a.l.length ≤ 1099511627776) (lb : b.l.length ≤ 1099511627776) : Ev (fun q => zlq q a b) ⟨false, true, fix4 (bsum (a.l ++ b.l)).toNat⟩ := by
 have h2 := zbt9 (bsum a.l) b hb lb
 have e : ~~~ bmore (~~~ bsum a.l) b.l = bsum (a.l ++ b.l) := by
  unfold bsum; rw [BitVec.not_not, zbub]
 rw [e] at h2
 exact Ev.succ (Ev.bind (zbua a ha la) (Ev.bind h2 (Ev.bind (zbuh _) (Ev.ret _)))) (fun q => rfl)
def flat (l : List (Sl Int)) : List Int := l.flatMap (·.l)
theorem zbuj (a : Sl Int) (b : List (Sl Int)) : flat (a :: b) = a.l ++ flat b := by simp [flat]
theorem zbuk (z0 : Bool) (L : List (Sl Int)) (z : Bool) (hL : L.length ≤ 1099511627776) : ∀ (k i : Nat) (m : Nat) (l : List Int), L.length = i + k → m + (flat (L.drop i)).length ≤ l.length →
  Ev (fun q => zni q m z0 L (L.length : Int) (i : Int) z l) ⟨z, true, l.take m ++ flat (L.drop i)⟩
 | 0, i, m, l, hk, hl => by
  refine Ev.succ (Ev.ne (Ev.ret' ?_)) (fun q => rfl)
  rw [y13 (by omega)]; simp [flat]
 | k + 1, i, m, l, hk, hl => by
  have hi : i < L.length := by omega
  have hg : L[(i : Int).toNat]? = some L[i] := by simpa using y8 hi
  rw [y10 hi, zbuj, y11] at hl
  refine Ev.succ (Ev.po (Ev.po (Ev.opt hg (Ev.pos (by omega) ?_)))) (fun q => rfl)
  rw [zbte (by omega) (by omega), show ((i : Int) + 1) = ((i + 1 : Nat) : Int) by omega]
  refine (zbuk z0 L z hL k (i + 1) (m + L[i].l.length) _ (by omega) ?_).cast ?_
  ·simp only [y11, y21, y14]; omega
  ·congr 1
   rw [y10 hi, zbuj, ← y34]
   congr 1
   rw [List.take_append_of_le_length (by simp only [y11, y21]; omega), List.take_of_length_le (by simp only [y11, y21]; omega)]
theorem zbul : ∀ n, isB (grp n) := by
 intro n
 induction n using Nat.strongRecOn with
 | ind n ih =>
  by_cases h : n < 128
  ·rw [grp_lt h]; intro c hc; simp at hc; omega
  ·rw [grp_ge h]; intro c hc
   rcases List.mem_cons.1 hc with rfl | hc
   ·omega
   ·exact ih (n / 128) (by omega) c hc
theorem zbum (n : Int) : isB (put n) := by
 unfold put; split
 ·intro c hc; simp at hc
 ·split
  ·intro c hc; simp at hc
  ·exact zbul _
theorem zbun {a b : List Int} : isB (a ++ b) ↔ isB a ∧ isB b := by
 constructor
 ·intro h; exact ⟨fun c hc => h c (List.mem_append.2 (.inl hc)), fun c hc => h c (List.mem_append.2 (.inr hc))⟩
 ·rintro ⟨h1, h2⟩ c hc
  rcases List.mem_append.1 hc with h | h
  ·exact h1 c h
  ·exact h2 c h
/-- A frame. -/
def encF (l : List Int) : List Int := put (l.length : Int) ++ (l ++ fix4 (bsum (put (l.length : Int) ++ l)).toNat)
/-- The number that bytes begin with, from the i-th group on. -/
def rd : Nat → List Int → Option (Nat × Nat)
 | _, [] => none
 | i, c :: l => if 10 ≤ i then none else if i = 9 ∧ 1 < c then none else if c = 0 ∧ 0 < i then none else if c < 128 then some (c.toNat, 1) else (rd (i + 1) l).map fun p => ((c % 128).toNat + 128 * p.1, p.2 + 1)
def resN : Option (Nat × Nat) → Int × Int
 | none => (0, 0)
 | some p => (p.1, p.2)
theorem and127 {x : Int} (h1 : 0 ≤ x) (h2 : x < 256) : ibits .and .u8 x 127 = x % 128 := by
 obtain ⟨n, rfl⟩ := Int.eq_ofNat_of_zero_le h1
 have hn : n < 256 := by omega
 have : ∀ m : Fin 256, ibits .and .u8 (m.val : Int) 127 = (m.val : Int) % 128 := by unfold ibits; decide +kernel
 exact this ⟨n, hn⟩
theorem or64 {a b : Nat} (ha : a < 18446744073709551616) (hb : b < 18446744073709551616) : ibits .or .u64 (a : Int) (b : Int) = ((a ||| b : Nat) : Int) := by
 have e : ibits .or .u64 (a : Int) (b : Int) = IntKind.wrap .u64 (((BitVec.ofInt 64 (a : Int) ||| BitVec.ofInt 64 (b : Int) : BitVec 64).toNat : Nat) : Int) := by unfold ibits; rfl
 have e1 : (BitVec.ofInt 64 (a : Int)).toNat = a := by rw [y50]; omega
 have e2 : (BitVec.ofInt 64 (b : Int)).toNat = b := by rw [y50]; omega
 have e3 : a ||| b < 2 ^ 64 := Nat.or_lt_two_pow (by omega) (by omega)
 rw [e, BitVec.toNat_or, e1, e2, zbtp, zbtf (by omega) (by omega)]
theorem ishl64 {x k : Nat} (hk : k ≤ 64) : ishl .u64 (x : Int) (k : Int) = ((x * 2 ^ k % 18446744073709551616 : Nat) : Int) := by
 unfold ishl
 simp only [IntKind.bits, y29, Nat.min_eq_left hk]
 rw [zbtp, zbtq]
 have : ((x : Int) * 2 ^ k) = ((x * 2 ^ k : Nat) : Int) := by rw [Int.natCast_mul, Int.natCast_pow]; rfl
 rw [this]
 exact (Int.natCast_emod _ _).symm
theorem zbuo {acc i : Nat} {c : Int} (hi : i ≤ 9) (h1 : 0 ≤ c) (h2 : c < 256) (ha : acc < 2 ^ (7 * i)) (h9 : i = 9 → c ≤ 1) :
  ibits .or .u64 (acc : Int) (ishl .u64 (wrp .u64 (ibits .and .u8 c 127)) (wrp .i64 (7 * (i : Int)))) = ((acc + (c % 128).toNat * 2 ^ (7 * i) : Nat) : Int) ∧ acc + (c % 128).toNat * 2 ^ (7 * i) < 18446744073709551616 ∧ acc + (c % 128).toNat * 2 ^ (7 * i) < 2 ^ (7 * (i + 1)) := by
 have hm : (c % 128).toNat < 128 := by omega
 have hp : 2 ^ (7 * i) ≤ 2 ^ 63 := Nat.pow_le_pow_right (by omega) (by omega)
 have hp1 : 2 ^ (7 * (i + 1)) = 128 * 2 ^ (7 * i) := by rw [show 7 * (i + 1) = 7 + 7 * i by omega, Nat.pow_add]
 have h4 : acc + (c % 128).toNat * 2 ^ (7 * i) < 2 ^ (7 * (i + 1)) := by
  rw [hp1]
  have : ((c % 128).toNat + 1) * 2 ^ (7 * i) ≤ 128 * 2 ^ (7 * i) := y18 _ (by omega)
  rw [y32] at this; omega
 have h5 : acc + (c % 128).toNat * 2 ^ (7 * i) < 18446744073709551616 := by
  by_cases e : i = 9
  ·have hc := h9 e
   have : (c % 128).toNat ≤ 1 := by omega
   subst e
   have h6 : (c % 128).toNat * 2 ^ (7 * 9) ≤ 1 * 2 ^ (7 * 9) := y18 _ this
   simp only [Nat.reduceMul, Nat.reducePow] at ha h6 ⊢
   omega
  ·have : 2 ^ (7 * (i + 1)) ≤ 2 ^ 63 := Nat.pow_le_pow_right (by omega) (by omega)
   simp only [Nat.reducePow] at this
   omega
 refine ⟨?_, h5, h4⟩
 rw [and127 h1 h2, zbtf (by omega) (by omega), zbte (by omega) (by omega), show (7 * (i : Int)) = ((7 * i : Nat) : Int) by omega, show (c % 128) = (((c % 128).toNat : Nat) : Int) by omega, ishl64 (by omega)]
 have h6 : (c % 128).toNat * 2 ^ (7 * i) < 18446744073709551616 := by omega
 simp only [y29]
 rw [Nat.mod_eq_of_lt h6, or64 (by omega) h6]
 congr 1
 have := Nat.two_pow_add_eq_or_of_lt ha (c % 128).toNat
 rw [Nat.or_comm, Nat.mul_comm, ← this]; omega
theorem zbup (z : Bool) (L : List Int) (hb : isB L) (m : Nat) (hm : m = min 10 L.length) : ∀ (k i acc : Nat), m = i + k → acc < 2 ^ (7 * i) →
  Ev (fun q => zle q z L (acc : Int) (m : Int) (i : Int)) (match rd i (L.drop i) with | none => (0, 0) | some p => (((acc + p.1 * 2 ^ (7 * i) : Nat) : Int), ((i + p.2 : Nat) : Int)))
 | 0, i, acc, hk, ha => by
  refine Ev.succ (Ev.ne (Ev.ret' ?_)) (fun q => rfl)
  have : rd i (L.drop i) = none := by
   cases h : L.drop i with
   | nil => rfl
   | cons c l =>
    have : (L.drop i).length = l.length + 1 := by rw [h]; rfl
    rw [y14] at this
    simp only [rd]; rw [if_pos (by omega)]
  rw [this]
 | k + 1, i, acc, hk, ha => by
  have hi : i < L.length := by omega
  have hi9 : i ≤ 9 := by omega
  have hg : L[(i : Int).toNat]? = some L[i] := by simpa using y8 hi
  obtain ⟨b1, b2⟩ := hb L[i] (y27 hi)
  have w7 : wrp .i64 (7 * (i : Int)) = 7 * (i : Int) := zbte (by omega) (by omega)
  have wi : wrp .i64 ((i : Int) + 1) = ((i + 1 : Nat) : Int) := by rw [zbte (by omega) (by omega)]; omega
  rw [y10 hi]
  simp only [rd]
  rw [if_neg (by omega)]
  generalize hc : L[i] = c at hg b1 b2
  -- the ends
  have done : (i = 9 → c ≤ 1) → c < 128 → (((ibits .or .u64 (acc : Int) (ishl .u64 (wrp .u64 (ibits .and .u8 c 127)) (wrp .i64 (7 * (i : Int))))), (wrp .i64 ((i : Int) + 1))) : Int × Int) = (((acc + c.toNat * 2 ^ (7 * i) : Nat) : Int), ((i + 1 : Nat) : Int)) := by
   intro h9 h128
   rw [(zbuo hi9 b1 b2 ha h9).1, wi, show (c % 128).toNat = c.toNat by omega]
  have rest : i ≠ 9 → ¬ c < 128 → Ev (fun q => zle q z L (ibits .or .u64 (acc : Int) (ishl .u64 (wrp .u64 (ibits .and .u8 c 127)) (wrp .i64 (7 * (i : Int))))) (m : Int) (wrp .i64 ((i : Int) + 1))) (match (rd (i + 1) (L.drop (i + 1))).map (fun p => ((c % 128).toNat + 128 * p.1, p.2 + 1)) with | none => (0, 0) | some p => (((acc + p.1 * 2 ^ (7 * i) : Nat) : Int), ((i + p.2 : Nat) : Int))) := by
   intro h9 h128
   obtain ⟨g1, g2, g3⟩ := zbuo hi9 b1 b2 ha (fun e => absurd e h9)
   rw [g1, wi]
   refine (zbup z L hb m hm k (i + 1) _ (by omega) g3).cast ?_
   cases rd (i + 1) (L.drop (i + 1)) with
   | none => rfl
   | some p =>
    simp only [y40]
    have : 2 ^ (7 * (i + 1)) = 128 * 2 ^ (7 * i) := by rw [show 7 * (i + 1) = 7 + 7 * i by omega, Nat.pow_add]
    rw [this]
    congr 2
    ·rw [y32, Nat.mul_assoc 128, Nat.mul_left_comm p.1 128]; omega
    ·omega
  refine Ev.succ (Ev.po (Ev.po (Ev.opt hg (Ev.neg (by rw [w7]; omega) ?_)))) (fun q => rfl)
  refine Ev.ite (fun h9 => Ev.ite (fun h1 => ?_) fun h1 => Ev.ite (fun h0 => Ev.pos (by omega) ?_) fun h0 => Ev.pos (by omega) ?_) fun h9 => Ev.ite (fun h0 => Ev.ite (fun hp => ?_) fun hp => Ev.pos (by omega) ?_) fun h0 => Ev.ite (fun h128 => ?_) fun h128 => ?_
  ·rw [if_pos ⟨by omega, h1⟩]; exact Ev.ret _
  ·rw [if_neg (by omega), if_pos ⟨h0, by omega⟩]; exact Ev.ret _
  ·rw [if_neg (by omega), if_neg (by omega), if_pos (by omega)]; exact Ev.ret' (done (by omega) (by omega))
  ·rw [if_neg (by omega), if_pos ⟨h0, by omega⟩]; exact Ev.ret _
  ·rw [if_neg (by omega), if_neg (by omega), if_pos (by omega)]; exact Ev.ret' (done (by omega) (by omega))
  ·rw [if_neg (by omega), if_neg (by omega), if_pos h128]; exact Ev.ret' (done (by omega) h128)
  ·rw [if_neg (by omega), if_neg (by omega), if_neg h128]; exact rest (by omega) h128
theorem zbuq (s : Sl Int) (hb : isB s.l) : Ev (fun q => zlf q s) (resN (rd 0 s.l)) := by
 have h := zbup s.z s.l hb (min 10 s.l.length) rfl (min 10 s.l.length) 0 0 (by omega) (by simp)
 have e : (if 10 < (s.l.length : Int) then 10 else (s.l.length : Int)) = ((min 10 s.l.length : Nat) : Int) := by split <;> omega
 refine Ev.succ (g := fun q => zle q s.z s.l 0 (if 10 < (s.l.length : Int) then 10 else (s.l.length : Int)) 0) ?_ (fun q => rfl)
 rw [e]
 refine h.cast ?_
 rw [y39]
 cases rd 0 s.l with
 | none => rfl
 | some p => simp [resN]
def getN (l : List Int) : Int × Int := match rd 0 l with
 | none => (0, 0)
 | some p => if 4611686018427387904 ≤ p.1 then (0, 0) else ((p.1 : Int), (p.2 : Int))
theorem zbur (s : Sl Int) (hb : isB s.l) : Ev (fun q => zlg q s) (getN s.l) := by
 refine Ev.succ (Ev.bind (zbuq s hb) ?_) (fun q => rfl)
 unfold getN
 cases rd 0 s.l with
 | none => exact Ev.neg (by simp [resN]) (Ev.ret' (by rw [zbte] <;> simp [resN]))
 | some p =>
  simp only [resN]
  refine Ev.ite (fun h => ?_) fun h => ?_
  ·rw [if_pos (by omega)]; exact Ev.ret _
  ·rw [if_neg (by omega), zbte (by omega) (by omega)]; exact Ev.ret _
theorem rd_len : ∀ {l : List Int} {i : Nat} {p : Nat × Nat}, rd i l = some p → 1 ≤ p.2 ∧ p.2 ≤ l.length ∧ i + p.2 ≤ 10
 | [], i, p, h => by simp [rd] at h
 | c :: l, i, p, h => by
  simp only [rd] at h
  split at h
  ·cases h
  ·split at h
   ·cases h
   ·split at h
    ·cases h
    ·split at h
     ·simp at h; subst h; simp; omega
     ·cases hr : rd (i + 1) l with
      | none => simp [hr] at h
      | some r =>
       simp [hr] at h; subst h
       have := rd_len hr
       simp; omega
theorem zbus {l : List Int} : 0 ≤ (getN l).2 ∧ (getN l).2 ≤ l.length ∧ (getN l).2 ≤ 10 ∧ 0 ≤ (getN l).1 ∧ (getN l).1 < 4611686018427387904 := by
 unfold getN
 cases h : rd 0 l with
 | none => simp
 | some p =>
  have := rd_len h
  simp only
  split <;> simp <;> omega
/-- What was put is read. -/
theorem rd_grp : ∀ {n : Nat} {i : Nat} {x : List Int}, n < 2 ^ (64 - 7 * i) → i ≤ 9 → (0 < i → n ≠ 0) → rd i (grp n ++ x) = some (n, (grp n).length) := by
 intro n
 induction n using Nat.strongRecOn with
 | ind n ih =>
  intro i x h hi h0
  by_cases hn : n < 128
  ·rw [grp_lt hn]
   simp only [List.cons_append, y48, rd, y22, y26]
   rw [if_neg (by omega), if_neg ?_, if_neg (by omega), if_pos (by omega)]
   ·simp
   ·rintro ⟨rfl, h1⟩
    simp at h; omega
  ·rw [grp_ge hn]
   simp only [List.cons_append, rd, y22]
   have hi8 : i ≠ 9 := by rintro rfl; simp at h; omega
   rw [if_neg (by omega), if_neg (by omega), if_neg (by omega), if_neg (by omega)]
   have hd : n / 128 < 2 ^ (64 - 7 * (i + 1)) := by
    rw [Nat.div_lt_iff_lt_mul (by omega), show (128 : Nat) = 2 ^ 7 from rfl, ← Nat.pow_add]
    by_cases e : i ≤ 8
    ·rw [show 64 - 7 * (i + 1) + 7 = 64 - 7 * i by omega]; exact h
    ·omega
   rw [ih (n / 128) (by omega) hd (by omega) (by omega)]
   simp only [y40, y5, y9, and_true]
   omega
/-- Where the first byte below 128 stands. -/
def idxLow : List Int → Nat → Int
 | [], _ => -1
 | a :: l, i => if a < 128 then (i : Int) else idxLow l (i + 1)
def allHi (l : List Int) : Prop := ∀ c ∈ l, 128 ≤ c
instance (l : List Int) : Decidable (allHi l) := by unfold allHi; infer_instance
theorem zbut : ∀ {l : List Int} {i : Nat}, ¬ 0 ≤ idxLow l i ↔ allHi l
 | [], i => by simp [idxLow, allHi]
 | a :: l, i => by
  have ih := zbut (l := l) (i := i + 1)
  simp only [idxLow, allHi, List.mem_cons, forall_eq_or_imp] at ih ⊢
  by_cases h : a < 128
  ·rw [if_pos h]; constructor
   ·intro h'; omega
   ·rintro ⟨h1, _⟩; omega
  ·rw [if_neg h, ih]
   constructor
   ·intro h'; exact ⟨by omega, h'⟩
   ·exact fun h' => h'.2
theorem zbuu (z : Bool) (L : List Int) (hL : L.length ≤ 1099511627776) : ∀ (k i : Nat), L.length = i + k → Ev (fun q => zlb q z L (L.length : Int) (i : Int)) (idxLow (L.drop i) i)
 | 0, i, hk => by
  refine Ev.succ (Ev.ne (Ev.ret' ?_)) (fun q => rfl)
  rw [y13 (by omega)]; rfl
 | k + 1, i, hk => by
  have hi : i < L.length := by omega
  have hg : L[(i : Int).toNat]? = some L[i] := by simpa using y8 hi
  have h1 : Ev (fun q => zla q L[i]) (decide (L[i] < 128)) := Ev.succ (Ev.ret _) (fun q => rfl)
  refine Ev.succ (Ev.po (Ev.po (Ev.opt hg (Ev.bind h1 ?_)))) (fun q => rfl)
  rw [y10 hi]
  simp only [idxLow]
  refine Ev.ite (fun h => ?_) fun h => ?_
  ·rw [if_pos (by simpa using h)]; exact Ev.ret _
  ·rw [if_neg (by simpa using h), zbte (by omega) (by omega), show ((i : Int) + 1) = ((i + 1 : Nat) : Int) by omega]
   exact zbuu z L hL k (i + 1) (by omega)
def openB (l : List Int) : Bool := decide (l.length < 10 ∧ allHi l)
theorem zbuv (s : Sl Int) : Ev (fun q => zld q s) (openB s.l) := by
 refine Ev.succ (Ev.ite (fun h => ?_) fun h => Ev.ret' ?_) (fun q => rfl)
 ·have := zbuu s.z s.l (by omega) s.l.length 0 (by omega)
  rw [y39] at this
  refine Ev.bind (Ev.succ this (fun q => rfl)) (Ev.ret' ?_)
  unfold openB
  rw [← decide_not, decide_eq_decide, zbut]
  exact ⟨fun h1 => ⟨by omega, h1⟩, fun h1 => h1.2⟩
 ·unfold openB
  symm; rw [decide_eq_false_iff_not]; omega
theorem zbuw (z z2 : Bool) (A B : List Int) (hl : A.length = B.length) (hL : A.length ≤ 1099511627776) : ∀ (k i : Nat), A.length = i + k → Ev (fun q => zlr q z A z2 B (A.length : Int) (i : Int)) (decide (A.drop i = B.drop i))
 | 0, i, hk => by
  refine Ev.succ (Ev.ne (Ev.ret' ?_)) (fun q => rfl)
  rw [y13 (by omega), y13 (by omega)]; simp
 | k + 1, i, hk => by
  have hi : i < A.length := by omega
  have hi2 : i < B.length := by omega
  have hg : A[(i : Int).toNat]? = some A[i] := by simpa using y8 hi
  have hg2 : B[(i : Int).toNat]? = some B[i] := by simpa using y8 hi2
  refine Ev.succ (Ev.po (Ev.po (Ev.opt hg (Ev.opt hg2 ?_)))) (fun q => rfl)
  rw [y10 hi, y10 hi2]
  refine Ev.ite (fun h => ?_) fun h => Ev.ret' (by symm; rw [decide_eq_false_iff_not]; intro e; exact h (List.cons.inj e).1)
  rw [zbte (by omega) (by omega), show ((i : Int) + 1) = ((i + 1 : Nat) : Int) by omega]
  refine (zbuw z z2 A B hl hL k (i + 1) (by omega)).cast ?_
  rw [decide_eq_decide, List.cons.injEq]; simp only [h, true_and]
theorem zbux (a b : Sl Int) (hL : a.l.length ≤ 1099511627776) : Ev (fun q => zls q a b) (decide (a.l = b.l)) := by
 refine Ev.succ (Ev.ite (fun h => ?_) fun h => Ev.ret' ?_) (fun q => rfl)
 ·have := zbuw a.z b.z a.l b.l (by omega) hL a.l.length 0 (by omega)
  rw [y39, y39] at this; exact this
 ·symm; rw [decide_eq_false_iff_not]; intro e; rw [e] at h; exact h rfl
/-- The data of the frame that bytes begin with, how many bytes it has, and the error. -/
def decF (l : List Int) : List Int × Int × Int :=
 if openB l = true then ([], 0, 2) else if (getN l).2 = 0 then ([], 0, 3) else if 1048576 < (getN l).1 then ([], 0, 5) else if (l.length : Int) < (getN l).2 + 4 + (getN l).1 then ([], 0, 2)
 else if (l.drop ((getN l).2 + (getN l).1).toNat).take 4 = fix4 (bsum (l.take ((getN l).2 + (getN l).1).toNat)).toNat then ((l.take ((getN l).2 + (getN l).1).toNat).drop (getN l).2.toNat, (getN l).2 + (getN l).1 + 4, 0) else ([], 0, 4)
theorem zbuy {l : List Int} (h : isB l) (n : Nat) : isB (l.take n) := fun c hc => h c (y45 hc)
theorem zbuz {l : List Int} (h : isB l) (n : Nat) : isB (l.drop n) := fun c hc => h c (y53 hc)
theorem zbu0 (s : Sl Int) (hz : s.z = true → s.l = []) (hb : isB s.l) (hl : s.l.length ≤ 4294967296) : ∃ z, Ev (fun q => zlu q s) (⟨z, true, (decF s.l).1⟩, (decF s.l).2.1, (decF s.l).2.2) := by
 unfold decF
 by_cases h1 : openB s.l = true
 ·rw [if_pos h1]
  exact ⟨true, Ev.succ (Ev.bind (zbuv s) (Ev.pos h1 (Ev.ret _))) (fun q => rfl)⟩
 rw [if_neg h1]
 by_cases h2 : (getN s.l).2 = 0
 ·rw [if_pos h2]
  exact ⟨true, Ev.succ (Ev.bind (zbuv s) (Ev.neg h1 (Ev.bind (zbur s hb) (Ev.pos h2 (Ev.ret _))))) (fun q => rfl)⟩
 rw [if_neg h2]
 by_cases h3 : 1048576 < (getN s.l).1
 ·rw [if_pos h3]
  exact ⟨true, Ev.succ (Ev.bind (zbuv s) (Ev.neg h1 (Ev.bind (zbur s hb) (Ev.neg h2 (Ev.pos h3 (Ev.ret _)))))) (fun q => rfl)⟩
 rw [if_neg h3]
 obtain ⟨g1, g2, g3, g4, g5⟩ := zbus (l := s.l)
 generalize hk : (getN s.l).2 = k at *
 generalize hn : (getN s.l).1 = n at *
 have hg : getN s.l = (n, k) := by rw [← hk, ← hn]
 have hget := zbur s hb
 rw [hg] at hget
 have w1 : wrp .i64 (k + 4) = k + 4 := zbte (by omega) (by omega)
 have w2 : wrp .i64 (k + 4 + n) = k + 4 + n := zbte (by omega) (by omega)
 have w3 : wrp .i64 (k + n) = k + n := zbte (by omega) (by omega)
 have w4 : wrp .i64 (k + n + 4) = k + n + 4 := zbte (by omega) (by omega)
 by_cases h4 : (s.l.length : Int) < k + 4 + n
 ·rw [if_pos h4]
  exact ⟨true, Ev.succ (Ev.bind (zbuv s) (Ev.neg h1 (Ev.bind hget (Ev.neg h2 (Ev.neg h3 (Ev.pos (by simp only; rw [w1, w2]; exact h4) (Ev.ret _))))))) (fun q => rfl)⟩
 rw [if_neg h4]
 have hzf : s.z = false := by
  cases hz' : s.z
  ·rfl
  ·have := hz hz'; rw [this] at h4; simp at h4; omega
 have hsum := zbui ⟨s.z, List.take k.toNat s.l⟩ ⟨s.z, List.drop k.toNat (List.take (k + n).toNat s.l)⟩ (zbuy hb _) (zbuz (zbuy hb _) _) (by simp; omega) (by simp; omega)
 have heq := zbux ⟨s.z, List.drop (k + n).toNat (List.take (k + n + 4).toNat s.l)⟩ ⟨false, fix4 (bsum (List.take k.toNat s.l ++ List.drop k.toNat (List.take (k + n).toNat s.l))).toNat⟩ (by simp; omega)
 have hcl : Ev (fun q => zlt q ⟨s.z, List.drop k.toNat (List.take (k + n).toNat s.l)⟩) ⟨false, true, List.drop k.toNat (List.take (k + n).toNat s.l)⟩ :=
  Ev.succ (Ev.neg (by simp [hzf]) (Ev.pos (by simp; omega) (Ev.ret _))) (fun q => rfl)
 have ht : List.take k.toNat s.l ++ List.drop k.toNat (List.take (k + n).toNat s.l) = List.take (k + n).toNat s.l := by
  have := List.take_append_drop k.toNat (List.take (k + n).toNat s.l)
  rw [List.take_take, Nat.min_eq_left (by omega)] at this; exact this
 rw [ht] at heq hsum
 have hd : List.drop (k + n).toNat (List.take (k + n + 4).toNat s.l) = List.take 4 (List.drop (k + n).toNat s.l) := by
  rw [List.drop_take]; congr 1; omega
 rw [hd] at heq
 have pre : ∀ {r : Ow Int × Int × Int}, Ev (fun q => (zls q ⟨s.z, List.take 4 (List.drop (k + n).toNat s.l)⟩ ⟨false, fix4 (bsum (List.take (k + n).toNat s.l)).toNat⟩).bind fun r4 => (if r4 = true then ((zlt q ⟨s.z, (List.drop k.toNat (List.take (k + n).toNat s.l))⟩).bind fun r5 => (some (r5, k + n + 4, 0))) else (some (⟨true, true, []⟩, 0, 4)))) r → Ev (fun q => zlu q s) r := by
  intro r h
  refine Ev.succ (Ev.bind (zbuv s) (Ev.neg h1 (Ev.bind hget (Ev.neg h2 (Ev.neg h3 ?_))))) (fun q => rfl)
  simp only [w1, w2, w3, w4]
  refine Ev.neg h4 (Ev.po (Ev.po (Ev.po (Ev.po (Ev.po (Ev.po (Ev.po (Ev.po (Ev.po (Ev.bind hsum ?_))))))))))
  rw [hd]
  exact h
 by_cases h5 : List.take 4 (List.drop (k + n).toNat s.l) = fix4 (bsum (List.take (k + n).toNat s.l)).toNat
 ·rw [if_pos h5]
  exact ⟨false, pre (Ev.bind heq (Ev.pos (by simpa using h5) (Ev.bind hcl (Ev.ret _))))⟩
 ·rw [if_neg h5]
  exact ⟨true, pre (Ev.bind heq (Ev.neg (by simpa using h5) (Ev.ret _)))⟩
theorem rd_put {n : Int} {x : List Int} (h1 : 0 ≤ n) (h2 : n < 4611686018427387904) : rd 0 (put n ++ x) = some (n.toNat, (put n).length) := by
 rw [put_ok h1 h2]; exact rd_grp (by simp; omega) (by omega) (by omega)
theorem zbu1 {n : Int} {x : List Int} (h1 : 0 ≤ n) (h2 : n < 4611686018427387904) : getN (put n ++ x) = (n, ((put n).length : Int)) := by
 unfold getN; rw [rd_put h1 h2]; simp only; rw [if_neg (by omega)]; simp; omega
theorem zbu2 : ∀ n, ∃ c ∈ grp n, c < 128 := by
 intro n
 induction n using Nat.strongRecOn with
 | ind n ih =>
  by_cases h : n < 128
  ·rw [grp_lt h]; exact ⟨_, y33, by omega⟩
  ·rw [grp_ge h]
   obtain ⟨c, h1, h2⟩ := ih (n / 128) (by omega)
   exact ⟨c, y37 _ h1, h2⟩
theorem zbu3 {n : Int} {x : List Int} (h1 : 0 ≤ n) (h2 : n < 4611686018427387904) : openB (put n ++ x) = false := by
 unfold openB; rw [decide_eq_false_iff_not]
 rintro ⟨_, h⟩
 obtain ⟨c, hc, hl⟩ := zbu2 n.toNat
 rw [put_ok h1 h2] at h
 have := h c (List.mem_append.2 (.inl hc)); omega
/-- A frame is decoded as what was framed. -/
theorem zbu4 {l x : List Int} (hl : l.length ≤ 1048576) : decF (encF l ++ x) = (l, ((encF l).length : Int), 0) := by
 have hp := zbtn (l.length : Int)
 unfold decF
 have e : encF l ++ x = put (l.length : Int) ++ (l ++ (fix4 (bsum (put (l.length : Int) ++ l)).toNat ++ x)) := by simp [encF]
 rw [e, zbu3 (by omega) (by omega), zbu1 (by omega) (by omega)]
 have ht : List.take (((put (l.length : Int)).length : Int) + (l.length : Int)).toNat (put (l.length : Int) ++ (l ++ (fix4 (bsum (put (l.length : Int) ++ l)).toNat ++ x))) = put (l.length : Int) ++ l := by
  rw [← y34, List.take_left' (by simp; omega)]
 have hd : List.drop (((put (l.length : Int)).length : Int) + (l.length : Int)).toNat (put (l.length : Int) ++ (l ++ (fix4 (bsum (put (l.length : Int) ++ l)).toNat ++ x))) = fix4 (bsum (put (l.length : Int) ++ l)).toNat ++ x := by
  rw [← y34, List.drop_left' (by simp; omega)]
 have hg := zbtk l.length
 have hpp : 1 ≤ (put (l.length : Int)).length := by rw [put_ok (by omega) (by omega)]; simpa using hg
 simp only [ht, hd]
 rw [if_neg (by simp), if_neg (by omega), if_neg (by omega), if_neg (by simp [fix4]; omega), if_pos (by simp [fix4])]
 simp [encF, fix4]
 omega
theorem rd_inv : ∀ {l : List Int} {i v k : Nat}, isB l → rd i l = some (v, k) → l.take k = grp v ∧ (0 < i → v ≠ 0)
 | [], i, v, k, hb, h => by simp [rd] at h
 | c :: l, i, v, k, hb, h => by
  obtain ⟨b1, b2⟩ := hb c y33
  simp only [rd] at h
  split at h
  ·cases h
  ·split at h
   ·cases h
   ·split at h
    ·cases h
    ·rename_i h1 h2 h3
     split at h
     ·simp at h; obtain ⟨rfl, rfl⟩ := h
      refine ⟨?_, fun hi e => h3 ⟨by omega, hi⟩⟩
      rw [grp_lt (by omega)]; simp; omega
     ·cases hr : rd (i + 1) l with
      | none => simp [hr] at h
      | some r =>
       obtain ⟨v', k'⟩ := r
       simp [hr] at h
       obtain ⟨rfl, rfl⟩ := h
       obtain ⟨e1, e2⟩ := rd_inv (fun c hc => hb c (y37 _ hc)) hr
       have hv := e2 (by omega)
       refine ⟨?_, fun _ => by omega⟩
       rw [grp_ge (by omega), List.take_succ_cons, e1]
       congr 1
       ·omega
       ·congr 1; omega
theorem zbu5 {l x : List Int} {n : Int} (hb : isB l) (h : decF l = (x, n, 0)) : x.length ≤ 1048576 ∧ 0 ≤ n ∧ n.toNat ≤ l.length ∧ 5 ≤ n ∧ encF x = l.take n.toNat := by
 unfold decF at h
 split at h
 ·simp at h
 split at h
 ·simp at h
 split at h
 ·simp at h
 split at h
 ·simp at h
 split at h
 ·rename_i h1 h2 h3 h4 h5
  obtain ⟨g1, g2, g3, g4, g5⟩ := zbus (l := l)
  have hrd : rd 0 l = some ((getN l).1.toNat, (getN l).2.toNat) := by
   unfold getN at h2 ⊢
   cases hr : rd 0 l with
   | none => rw [hr] at h2; simp at h2
   | some p =>
    rw [hr] at h2; simp only at h2 ⊢
    split at h2
    ·simp at h2
    ·rename_i hlt; rw [if_neg hlt]; simp
  obtain ⟨e1, _⟩ := rd_inv hb hrd
  generalize (getN l).2 = k at *
  generalize (getN l).1 = m at *
  simp only [y9, and_true] at h
  obtain ⟨hx, hn⟩ := h
  have hlx : x.length = m.toNat := by rw [← hx]; simp; omega
  refine ⟨by omega, by omega, by omega, by omega, ?_⟩
  have hput : put (x.length : Int) = l.take k.toNat := by
   rw [put_ok (by omega) (by omega), e1]; congr 1
  have hcat : l.take k.toNat ++ x = l.take (k + m).toNat := by
   rw [← hx]
   have := List.take_append_drop k.toNat (List.take (k + m).toNat l)
   rw [List.take_take, Nat.min_eq_left (by omega)] at this; exact this
  unfold encF
  rw [hput, hcat, ← h5, ← y34, hcat, ← hn, show (k + m + 4).toNat = (k + m).toNat + 4 by omega, List.take_add]
 ·simp at h
theorem zbu6 {l x : List Int} {n e : Int} (h : decF l = (x, n, e)) (he : e ≠ 0) : x = [] ∧ n = 0 := by
 unfold decF at h
 split at h
 ·simp_all
 split at h
 ·simp_all
 split at h
 ·simp_all
 split at h
 ·simp_all
 split at h
 ·simp at h; omega
 ·simp_all
theorem zbu7 {l : List Int} (hb : isB l) : isB (decF l).1 := by
 have nil : isB [] := fun c hc => by simp at hc
 unfold decF
 split; exact nil
 split; exact nil
 split; exact nil
 split; exact nil
 split
 ·exact zbuz (zbuy hb _) _
 ·exact nil
def zag (u : Nat) : Int := if u % 2 = 0 then ((u / 2 : Nat) : Int) else -((u / 2 : Nat) : Int) - 1
theorem zbu8 (n : Int) : zag (zig n) = n := by unfold zag zig; split <;> split <;> omega
theorem zbu9 (u : Nat) : zig (zag u) = u := by unfold zag zig; split <;> split <;> omega
theorem ixor0 {x : Int} (h1 : 0 ≤ x) (h2 : x < 9223372036854775808) : ibits .xor .i64 x 0 = x := by
 have e : ibits .xor .i64 x 0 = IntKind.wrap .i64 (((BitVec.ofInt 64 x ^^^ 0#64 : BitVec 64).toNat : Nat) : Int) := by unfold ibits; rfl
 rw [e, BitVec.xor_zero, y50, zbtp, zbte] <;> omega
theorem zbva {x : Int} (h1 : 9223372036854775808 ≤ x) (h2 : x < 18446744073709551616) : wrp .i64 x = x - 18446744073709551616 := by
 unfold wrp; simp [IntKind.wrap, IntKind.min, IntKind.max, IntKind.signed, IntKind.bits] <;> omega
theorem ixor1 {x : Int} (h1 : 0 ≤ x) (h2 : x < 9223372036854775808) : ibits .xor .i64 x (-1) = -x - 1 := by
 have e : ibits .xor .i64 x (-1) = IntKind.wrap .i64 (((BitVec.ofInt 64 x ^^^ BitVec.allOnes 64 : BitVec 64).toNat : Nat) : Int) := by unfold ibits; rfl
 rw [e, BitVec.xor_allOnes, BitVec.toNat_not, y50, zbtp, zbva] <;> omega
theorem and1u {u : Nat} (h : u < 18446744073709551616) : ibits .and .u64 (u : Int) 1 = ((u % 2 : Nat) : Int) := by
 have e : ibits .and .u64 (u : Int) 1 = IntKind.wrap .u64 (((BitVec.ofInt 64 (u : Int) &&& 1#64 : BitVec 64).toNat : Nat) : Int) := by unfold ibits; rfl
 have e1 : (BitVec.ofInt 64 (u : Int)).toNat = u := by rw [y50]; omega
 rw [e, BitVec.toNat_and, e1, show (1#64 : BitVec 64).toNat = 1 from rfl, Nat.and_one_is_mod, zbtp, zbtf (by omega) (by omega)]
theorem ishr1 {x : Int} (h1 : 0 ≤ x) : ishr .u64 x 1 = x / 2 := by
 unfold ishr; simp [IntKind.bits]
 rw [y54]; omega
theorem zbvb {u : Nat} (h : u < 18446744073709551616) : Ev (fun q => zlv q (u : Int)) (zag u) := by
 refine Ev.succ (Ev.ret' ?_) (fun q => rfl)
 rw [ishr1 (by omega), and1u h, zbte (by omega) (by omega)]
 unfold zag
 split
 ·rename_i e
  rw [e, show wrp .i64 ((0 : Nat) : Int) = 0 from zbte (by omega) (by omega), show wrp .i64 (0 - 0) = 0 from zbte (by omega) (by omega), ixor0 (by omega) (by omega)]; omega
 ·rename_i e
  rw [show u % 2 = 1 by omega, show wrp .i64 ((1 : Nat) : Int) = 1 from zbte (by omega) (by omega), show wrp .i64 (0 - 1) = -1 from zbte (by omega) (by omega), ixor1 (by omega) (by omega)]; omega
theorem rd_lt : ∀ {l : List Int} {i : Nat} {p : Nat × Nat}, isB l → i ≤ 9 → rd i l = some p → p.1 < 2 ^ (64 - 7 * i)
 | [], i, p, hb, hi, h => by simp [rd] at h
 | c :: l, i, p, hb, hi, h => by
  obtain ⟨b1, b2⟩ := hb c y33
  simp only [rd] at h
  split at h
  ·cases h
  ·split at h
   ·cases h
   ·rename_i h9
    split at h
    ·cases h
    ·split at h
     ·simp at h; subst h
      simp only
      by_cases e : i = 9
      ·subst e; simp; omega
      ·have : 2 ^ 7 ≤ 2 ^ (64 - 7 * i) := Nat.pow_le_pow_right (by omega) (by omega)
       omega
     ·cases hr : rd (i + 1) l with
      | none => simp [hr] at h
      | some r =>
       simp [hr] at h; subst h
       by_cases e : i = 9
       ·exfalso; subst e; exact h9 ⟨rfl, by omega⟩
       ·have := rd_lt (fun c hc => hb c (y37 _ hc)) (by omega) hr
        have e2 : 2 ^ (64 - 7 * i) = 128 * 2 ^ (64 - 7 * (i + 1)) := by rw [show 64 - 7 * i = 7 + (64 - 7 * (i + 1)) by omega, Nat.pow_add]
        simp only
        rw [e2]; omega
def getS (l : List Int) : Int × Int := match rd 0 l with
 | none => (0, 0)
 | some p => (zag p.1, (p.2 : Int))
theorem zbvc (s : Sl Int) (hb : isB s.l) : Ev (fun q => zlw q s) (getS s.l) := by
 refine Ev.succ (Ev.bind (zbuq s hb) ?_) (fun q => rfl)
 unfold getS
 cases h : rd 0 s.l with
 | none => exact Ev.pos (by simp [resN]) (Ev.ret _)
 | some p =>
  have h1 := rd_len h
  have h2 := rd_lt hb (by omega) h
  simp only [resN]
  exact Ev.neg (by simp; omega) (Ev.bind (zbvb (by simpa using h2)) (Ev.ret _))
theorem zbvd {l : List Int} : 0 ≤ (getS l).2 ∧ (getS l).2 ≤ l.length ∧ (getS l).2 ≤ 10 := by
 unfold getS
 cases h : rd 0 l with
 | none => simp
 | some p =>
  have := rd_len h
  simp only; omega
def cutsB (l : List Int) : Prop := ∀ n ∈ l, n = cutI n
instance (l : List Int) : Decidable (cutsB l) := by unfold cutsB; infer_instance
theorem zbve (n : Int) : Ev (fun q => zjx q n) (!(decide (n = cutI n))) := Ev.succ (Ev.bind (zbtt n) (Ev.ret _)) (fun q => rfl)
theorem zbvf (z : Bool) (L : List Int) (h0 : Int) (h1z : Bool) (h1l : List Int) (h2 : Bool) (h3 : Int) (hL : L.length ≤ 1000000) : ∀ (k i : Nat), L.length = i + k →
  ∃ r, Ev (fun q => zj0 q z L (L.length : Int) (i : Int) h0 h1z h1l h2 h3) r ∧ (0 ≤ r ↔ ¬ cutsB (L.drop i))
 | 0, i, hk => by
  refine ⟨-1, Ev.succ (Ev.ne (Ev.ret _)) (fun q => rfl), ?_⟩
  rw [y13 (by omega)]; simp [cutsB]
 | k + 1, i, hk => by
  have hi : i < L.length := by omega
  have he : L[((i : Int)).toNat]? = some L[i] := by simp [hi]
  have hd := y10 hi
  by_cases h : L[i] = cutI L[i]
  ·obtain ⟨r, hr, hi2⟩ := zbvf z L h0 h1z h1l h2 h3 hL k (i + 1) (by omega)
   rw [show ((i + 1 : Nat) : Int) = wrp .i64 ((i : Int) + 1) by rw [zbte (by omega) (by omega)]; omega] at hr
   refine ⟨r, Ev.succ (Ev.po (Ev.po (Ev.opt he (Ev.bind (zbve _) (Ev.neg (by simpa using h) hr))))) (fun q => rfl), ?_⟩
   rw [hi2, hd]; unfold cutsB; simp only [List.mem_cons, forall_eq_or_imp]
   exact ⟨fun a b => a b.2, fun a b => a ⟨h, b⟩⟩
  ·refine ⟨i, Ev.succ (Ev.po (Ev.po (Ev.opt he (Ev.bind (zbve _) (Ev.pos (by simpa using h) (Ev.ret _)))))) (fun q => rfl), ?_⟩
   rw [hd]; unfold cutsB; simp only [List.mem_cons, forall_eq_or_imp]
   exact ⟨fun _ b => h b.1, fun _ => by omega⟩
theorem zbvg (z : Bool) (L : List Int) (h0 : Int) (h1z : Bool) (h1l : List Int) (h2 : Bool) (h3 : Int) (hL : L.length ≤ 1000000) : ∃ r, Ev (fun q => zj1 q z L h0 h1z h1l h2 h3) r ∧ (0 ≤ r ↔ ¬ cutsB L) := by
 obtain ⟨r, h, h4⟩ := zbvf z L h0 h1z h1l h2 h3 hL L.length 0 (by omega)
 exact ⟨r, Ev.succ h (fun q => rfl), by simpa using h4⟩
def prs (least : Int) : Int → List Int → Bool
 | last, a :: b :: t => decide (last < a) && (decide (a ≤ 255) && (decide (least ≤ b) && (decide (b ≤ 1099511627776) && prs least a t)))
 | _, _ => true
def pairsOk (least : Int) (l : List Int) : Bool := prs least (-1) l && (decide (l.length % 2 = 0) && decide (l.length ≤ 128))
theorem zbvh (z : Bool) (L : List Int) (least : Int) (hL : L.length ≤ 1000000) : ∀ (k i : Nat) (last : Int), L.length ≤ i + 2 * k → i ≤ 2000000 →
  Ev (fun q => zjy q z L least last (i : Int)) (prs least last (L.drop i) && (decide (L.length % 2 = 0) && decide (L.length ≤ 128)))
 | k, i, last, hk, hi9 => by
  have w1 : wrp .i64 ((i : Int) + 1) = ((i + 1 : Nat) : Int) := by rw [zbte (by omega) (by omega)]; omega
  have w2 : wrp .i64 ((i : Int) + 2) = ((i + 2 : Nat) : Int) := by rw [zbte (by omega) (by omega)]; omega
  by_cases h : i + 1 < L.length
  ·cases k with
   | zero => omega
   | succ k =>
    have he : L[((i : Int)).toNat]? = some L[i] := by rw [y29]; exact y8 (by omega)
    have he2 : L[(wrp .i64 ((i : Int) + 1)).toNat]? = some L[i + 1] := by rw [w1, y29]; exact y8 h
    have hd : L.drop i = L[i] :: L[i + 1] :: L.drop (i + 2) := by rw [y10 (by omega), y10 h]
    rw [hd]
    simp only [prs]
    refine Ev.succ (Ev.pos (by rw [w1]; omega) (Ev.po (Ev.opt he (Ev.ite (fun c => Ev.ret' ?_) fun c => Ev.ite (fun c2 => Ev.ret' ?_) fun c2 => Ev.pos (by rw [w1]; omega) (Ev.opt he2 (Ev.ite (fun c3 => Ev.ret' ?_) fun c3 => Ev.ite (fun c4 => Ev.ret' ?_) fun c4 => ?_)))))) (fun q => rfl)
    ·rw [decide_eq_false (show ¬ last < L[i] by omega)]; rfl
    ·rw [decide_eq_false (show ¬ L[i] ≤ 255 by omega)]; simp
    ·rw [decide_eq_false (show ¬ least ≤ L[i + 1] by omega)]; simp
    ·rw [decide_eq_false (show ¬ L[i + 1] ≤ 1099511627776 by omega)]; simp
    ·rw [decide_eq_true (show last < L[i] by omega), decide_eq_true (show L[i] ≤ 255 by omega), decide_eq_true (show least ≤ L[i + 1] by omega), decide_eq_true (show L[i + 1] ≤ 1099511627776 by omega), w2]
     simp only [y61]
     exact zbvh z L least hL k (i + 2) L[i] (by omega) (by omega)
  ·have hp : prs least last (L.drop i) = true := by
    have hl : (L.drop i).length ≤ 1 := by rw [y14]; omega
    generalize L.drop i = X at hl
    match X, hl with
    | [], _ => rfl
    | [a], _ => rfl
   rw [hp, y61]
   have ht : Int.tmod (L.length : Int) 2 = ((L.length % 2 : Nat) : Int) := by rw [Int.tmod_eq_emod_of_nonneg (by omega)]; omega
   refine Ev.succ (Ev.neg (by rw [w1]; omega) (Ev.ite (fun c => Ev.ret' ?_) fun c => Ev.ret' ?_)) (fun q => rfl)
   ·rw [ht] at c
    rw [decide_eq_true (show L.length % 2 = 0 by omega), y61]
    by_cases h4 : L.length ≤ 128
    ·rw [decide_eq_true h4, decide_eq_true (by omega)]
    ·rw [decide_eq_false h4, decide_eq_false (by omega)]
   ·rw [ht] at c
    rw [decide_eq_false (show ¬ L.length % 2 = 0 by omega)]; rfl
theorem zbvi (s : Sl Int) (least : Int) (hL : s.l.length ≤ 1000000) : Ev (fun q => zjz q s least) (pairsOk least s.l) := by
 have := zbvh s.z s.l least hL s.l.length 0 (-1) (by omega) (by omega)
 exact Ev.succ this (fun q => rfl)
def kindOk (k : Int) (l : List Int) : Bool :=
 if k = 0 ∨ k = 1 then decide (l.length = 1 ∧ cutsB l) else if k = 2 ∨ k = 3 then decide (l.length ≤ 64 ∧ cutsB l) else if k = 4 then pairsOk (-1099511627776) l else if k = 5 then pairsOk 0 l else false
def mayS (s : zjp) : Bool := if s.To < 0 then false else if 3 ≤ s.To then false else if s.Sealed = true then kindOk s.Kind s.L.l else if s.To = 0 then kindOk s.Kind s.L.l else false
theorem zbvj (s : zjp) (hL : s.L.l.length ≤ 1000000) : Ev (fun q => ((zj1 q s.L.z s.L.l s.Kind s.L.z s.L.l s.Sealed s.To).bind fun r1 => (if s.Kind = 0 then (if (s.L.l.length : Int) = 1 then (some (!(decide (0 ≤ r1)))) else (some false)) else (if s.Kind = 1 then (if (s.L.l.length : Int) = 1 then (some (!(decide (0 ≤ r1)))) else (some false)) else (if s.Kind = 2 then (if (s.L.l.length : Int) ≤ 64 then (some (!(decide (0 ≤ r1)))) else (some false)) else (if s.Kind = 3 then (if (s.L.l.length : Int) ≤ 64 then (some (!(decide (0 ≤ r1)))) else (some false)) else (if s.Kind = 4 then ((zjz q s.L (-1099511627776)).bind fun r2 => (some r2)) else (if s.Kind = 5 then ((zjz q s.L 0).bind fun r3 => (some r3)) else (some false))))))))) (kindOk s.Kind s.L.l) := by
 obtain ⟨r, h, hr⟩ := zbvg s.L.z s.L.l s.Kind s.L.z s.L.l s.Sealed s.To hL
 have one : ∀ {P : Prop} [Decidable P], P → Ev (fun _ : Nat => (some (!(decide (0 ≤ r))) : Option Bool)) (decide (P ∧ cutsB s.L.l)) := fun {P} _ hp => Ev.ret' (by
  by_cases hc : cutsB s.L.l
  ·rw [decide_eq_false (fun e => hr.1 e hc)]; symm; simp only [Bool.not_false, decide_eq_true_eq]; exact ⟨hp, hc⟩
  ·rw [decide_eq_true (hr.2 hc)]; symm; simp only [Bool.not_true, decide_eq_false_iff_not]; exact fun e => hc e.2)
 have no : ∀ {P : Prop} [Decidable P], ¬ P → Ev (fun _ : Nat => (some false : Option Bool)) (decide (P ∧ cutsB s.L.l)) := fun {P} _ hp => Ev.ret' (by
  symm; simp only [decide_eq_false_iff_not]; exact fun e => hp e.1)
 refine Ev.bind h ?_
 unfold kindOk
 by_cases k0 : s.Kind = 0
 ·rw [if_pos (show s.Kind = 0 ∨ s.Kind = 1 from .inl k0)]
  by_cases hl : s.L.l.length = 1
  ·exact Ev.pos k0 (Ev.po (one hl))
  ·exact Ev.pos k0 (Ev.ne (no hl))
 by_cases k1 : s.Kind = 1
 ·rw [if_pos (show s.Kind = 0 ∨ s.Kind = 1 from .inr k1)]
  by_cases hl : s.L.l.length = 1
  ·exact Ev.neg k0 (Ev.pos k1 (Ev.po (one hl)))
  ·exact Ev.neg k0 (Ev.pos k1 (Ev.ne (no hl)))
 rw [if_neg (show ¬ (s.Kind = 0 ∨ s.Kind = 1) by omega)]
 by_cases k2 : s.Kind = 2
 ·rw [if_pos (show s.Kind = 2 ∨ s.Kind = 3 from .inl k2)]
  by_cases hl : s.L.l.length ≤ 64
  ·exact Ev.neg k0 (Ev.neg k1 (Ev.pos k2 (Ev.po (one hl))))
  ·exact Ev.neg k0 (Ev.neg k1 (Ev.pos k2 (Ev.ne (no hl))))
 by_cases k3 : s.Kind = 3
 ·rw [if_pos (show s.Kind = 2 ∨ s.Kind = 3 from .inr k3)]
  by_cases hl : s.L.l.length ≤ 64
  ·exact Ev.neg k0 (Ev.neg k1 (Ev.neg k2 (Ev.pos k3 (Ev.po (one hl)))))
  ·exact Ev.neg k0 (Ev.neg k1 (Ev.neg k2 (Ev.pos k3 (Ev.ne (no hl)))))
 rw [if_neg (show ¬ (s.Kind = 2 ∨ s.Kind = 3) by omega)]
 refine Ev.neg k0 (Ev.neg k1 (Ev.neg k2 (Ev.neg k3 (Ev.ite (fun k4 => ?_) fun k4 => Ev.ite (fun k5 => ?_) fun k5 => ?_))))
 ·rw [if_pos k4]; exact Ev.bind (zbvi _ _ hL) (Ev.ret _)
 ·rw [if_neg k4, if_pos k5]; exact Ev.bind (zbvi _ _ hL) (Ev.ret _)
 ·rw [if_neg k4, if_neg k5]; exact Ev.ret _
theorem zbvk (s : zjp) (hL : s.L.l.length ≤ 1000000) : Ev (fun q => zj2 q s) (mayS s) := by
 have hb := zbvj s hL
 unfold mayS
 refine Ev.succ (Ev.ite (fun h => ?_) fun h => Ev.ite (fun h2 => ?_) fun h2 => Ev.ite (fun h3 => ?_) fun h3 => Ev.ite (fun h4 => ?_) fun h4 => ?_) (fun q => rfl)
 ·rw [if_pos h]; exact Ev.ret _
 ·rw [if_neg h, if_pos h2]; exact Ev.ret _
 ·rw [if_neg h, if_neg h2, if_pos h3]; exact hb
 ·rw [if_neg h, if_neg h2, if_neg h3, if_pos h4]; exact hb
 ·rw [if_neg h, if_neg h2, if_neg h3, if_neg h4]; exact Ev.ret _
def entOk (e : zjq) : Bool := decide (0 ≤ e.Proc) && (decide (e.Proc ≤ 64) && (decide (0 ≤ e.Seq) && (decide (e.Seq < 4611686018427387904) && (decide (-1125899906842624 ≤ e.Resp) && decide (e.Resp ≤ 1125899906842624)))))
theorem zbvl (e : zjq) : Ev (fun q => zj3 q e) (entOk e) := by
 unfold entOk
 exact Ev.succ (Ev.ite (fun h1 => Ev.ite (fun h2 => Ev.ite (fun h3 => Ev.ite (fun h4 => Ev.ite (fun h5 => Ev.ret' (by simp [*])) fun h5 => Ev.ret' (by simp [*])) fun h4 => Ev.ret' (by simp [*])) fun h3 => Ev.ret' (by simp [*])) fun h2 => Ev.ret' (by simp [*])) fun h1 => Ev.ret' (by simp [*])) (fun q => rfl)
def tabB : Int → List zjq → Bool
 | _, [] => true
 | last, e :: t => entOk e && (decide (last < e.Proc) && tabB e.Proc t)
theorem zbvm (z z2 : Bool) (L : List zjq) (hL : L.length ≤ 1000000) : ∀ (k i : Nat) (last : Int), L.length = i + k → (∀ e, 0 < i → L[i - 1]? = some e → e.Proc = last) → (i = 0 → last = -1) →
  Ev (fun q => zj4 q z L z2 L (L.length : Int) (i : Int)) (tabB last (L.drop i))
 | 0, i, last, hk, h1, h0 => by
  refine Ev.succ (Ev.ne (Ev.ret' ?_)) (fun q => rfl)
  rw [y13 (by omega)]; rfl
 | k + 1, i, last, hk, h1, h0 => by
  have hi : i < L.length := by omega
  have he : L[((i : Int)).toNat]? = some L[i] := by simp [hi]
  rw [y10 hi]
  simp only [tabB]
  have w1 : wrp .i64 ((i : Int) + 1) = ((i + 1 : Nat) : Int) := by rw [zbte (by omega) (by omega)]; omega
  have ih := zbvm z z2 L hL k (i + 1) L[i].Proc (by omega) (fun e _ hx => by
   rw [Nat.add_sub_cancel, y8 hi] at hx
   simp only [y5] at hx; rw [hx]) (by omega)
  refine Ev.succ (Ev.po (Ev.po (Ev.opt he (Ev.bind (zbvl _) (Ev.ite (fun c => Ev.ite (fun c2 => ?_) fun c2 => ?_) fun c => Ev.ret' ?_))))) (fun q => rfl)
  ·have w3 : wrp .i64 ((i : Int) - 1) = ((i - 1 : Nat) : Int) := by rw [zbte (by omega) (by omega)]; omega
   have he3 : L[(wrp .i64 ((i : Int) - 1)).toNat]? = some L[i - 1] := by rw [w3, y29]; exact y8 (by omega)
   have hq := h1 L[i - 1] (by omega) (y8 (by omega))
   refine Ev.pos (by rw [w3]; omega) (Ev.opt he3 (Ev.ite (fun c4 => Ev.ret' ?_) fun c4 => ?_))
   ·rw [c, decide_eq_false (show ¬ last < L[i].Proc by omega)]; rfl
   ·rw [c, decide_eq_true (show last < L[i].Proc by omega), w1]; simpa using ih
  ·have := h0 (by omega)
   have hp : 0 ≤ L[i].Proc := by unfold entOk at c; simp only [y7, decide_eq_true_eq] at c; exact c.1
   rw [c, decide_eq_true (show last < L[i].Proc by omega), w1]; simpa using ih
  ·simp only [Bool.not_eq_true] at c; rw [c]; rfl
theorem zbvn (s : Sl zjq) (hL : s.l.length ≤ 1000000) : Ev (fun q => zj5 q s) (tabB (-1) s.l) :=
 Ev.succ (zbvm s.z s.z s.l hL s.l.length 0 (-1) (by omega) (fun e h => by omega) (fun _ => rfl)) (fun q => rfl)
def mayN (s : zjr) : Bool := decide (0 ≤ s.Index) && (decide (s.Index < 4611686018427387904) && (mayS s.State && tabB (-1) s.Table.l))
theorem zbvo (s : zjr) (h1 : s.State.L.l.length ≤ 1000000) (h2 : s.Table.l.length ≤ 1000000) : Ev (fun q => zj6 q s) (mayN s) := by
 unfold mayN
 refine Ev.succ (Ev.ite (fun c1 => Ev.ite (fun c2 => Ev.bind (zbvk _ h1) (Ev.ite (fun c3 => Ev.bind (zbvn _ h2) (Ev.ret' ?_)) fun c3 => Ev.ret' ?_)) fun c2 => Ev.ret' ?_) fun c1 => Ev.ret' ?_) (fun q => rfl)
 ·simp [c1, c2, c3]
 ·simp [c3]
 ·simp [c2]
 ·simp [c1]
instance : DecidableEq zjq := fun a b => if h : a.Proc = b.Proc ∧ a.Seq = b.Seq ∧ a.Resp = b.Resp then isTrue (by cases a; cases b; simp_all) else isFalse (fun e => h (by rw [e]; exact ⟨rfl, rfl, rfl⟩))
theorem zbvp {a b : zjq} (h1 : a.Proc = b.Proc) (h2 : a.Seq = b.Seq) (h3 : a.Resp = b.Resp) : a = b := by cases a; cases b; simp_all
/-- A process's entry. -/
def findE (p : Int) : List zjq → Option zjq
 | [] => none
 | e :: t => if e.Proc = p then some e else findE p t
theorem zbvq (z : Bool) (L : List zjq) (p : Int) (hL : L.length ≤ 1000000) : ∀ (k i : Nat), L.length = i + k →
  ∃ r, Ev (fun q => zj7 q z L (L.length : Int) (i : Int) p) r ∧ ((r < 0 ∧ findE p (L.drop i) = none) ∨ (0 ≤ r ∧ ∃ e, L[r.toNat]? = some e ∧ findE p (L.drop i) = some e))
 | 0, i, hk => by
  refine ⟨-1, Ev.succ (Ev.ne (Ev.ret _)) (fun q => rfl), .inl ⟨by omega, ?_⟩⟩
  rw [y13 (by omega)]; rfl
 | k + 1, i, hk => by
  have hi : i < L.length := by omega
  have he : L[((i : Int)).toNat]? = some L[i] := by simp [hi]
  rw [y10 hi]
  simp only [findE]
  by_cases h : L[i].Proc = p
  ·rw [if_pos h]
   exact ⟨i, Ev.succ (Ev.po (Ev.po (Ev.opt he (Ev.pos h (Ev.ret _))))) (fun q => rfl), .inr ⟨by omega, L[i], he, rfl⟩⟩
  ·rw [if_neg h]
   obtain ⟨r, hr, hr2⟩ := zbvq z L p hL k (i + 1) (by omega)
   rw [show ((i + 1 : Nat) : Int) = wrp .i64 ((i : Int) + 1) by rw [zbte (by omega) (by omega)]; omega] at hr
   exact ⟨r, Ev.succ (Ev.po (Ev.po (Ev.opt he (Ev.neg h hr)))) (fun q => rfl), hr2⟩
theorem zbvr (s : Sl zjq) (p : Int) (hL : s.l.length ≤ 1000000) : ∃ r, Ev (fun q => zj9 q s p) r ∧ ((r < 0 ∧ findE p s.l = none) ∨ (0 ≤ r ∧ ∃ e, s.l[r.toNat]? = some e ∧ findE p s.l = some e)) := by
 obtain ⟨r, h, h2⟩ := zbvq s.z s.l p hL s.l.length 0 (by omega)
 rw [y39] at h2
 exact ⟨r, Ev.succ (Ev.bind (Ev.succ h (fun q => rfl)) (Ev.ret _)) (fun q => rfl), h2⟩
/-- How many numbers two lists begin with alike. -/
def com : List Int → List Int → Nat
 | a :: x, b :: y => if a = b then com x y + 1 else 0
 | _, _ => 0
theorem com_le : ∀ (x y : List Int), com x y ≤ x.length ∧ com x y ≤ y.length
 | [], y => by simp [com]
 | a :: x, [] => by simp [com]
 | a :: x, b :: y => by
  simp only [com]
  split
  ·have := com_le x y; simp only [y22]; omega
  ·simp
theorem zbvs {x y : List Int} {i : Nat} (hx : i < x.length) (hy : i < y.length) : com (x.drop i) (y.drop i) = if x[i] = y[i] then com (x.drop (i + 1)) (y.drop (i + 1)) + 1 else 0 := by
 rw [y10 hx, y10 hy]; rfl
theorem zbvt {x y : List Int} {i : Nat} (h : x.length ≤ i ∨ y.length ≤ i) : com (x.drop i) (y.drop i) = 0 := by
 rcases h with h | h
 ·rw [y13 h]; cases y.drop i <;> rfl
 ·rw [y13 h]; cases x.drop i <;> rfl
theorem zbvu (z1 z2 : Bool) (x y : List Int) (hL : x.length ≤ 1000000) : ∀ (k i : Nat), x.length = i + k →
  Ev (fun q => zka q z1 x z2 y (i : Int)) ((i + com (x.drop i) (y.drop i) : Nat) : Int)
 | 0, i, hk => by
  refine Ev.succ (Ev.ne (Ev.ret' ?_)) (fun q => rfl)
  rw [zbvt (.inl (by omega))]; rfl
 | k + 1, i, hk => by
  have hi : i < x.length := by omega
  have he : x[((i : Int)).toNat]? = some x[i] := by simp [hi]
  by_cases hy : i < y.length
  ·have he2 : y[((i : Int)).toNat]? = some y[i] := by simp [hy]
   rw [zbvs hi hy]
   refine Ev.succ (Ev.po (Ev.po (Ev.po (Ev.opt he (Ev.opt he2 (Ev.ite (fun h => ?_) fun h => ?_)))))) (fun q => rfl)
   ·rw [if_pos h]
    have := zbvu z1 z2 x y hL k (i + 1) (by omega)
    rw [show ((i + 1 : Nat) : Int) = wrp .i64 ((i : Int) + 1) by rw [zbte (by omega) (by omega)]; omega] at this
    refine Ev.cast this ?_
    omega
   ·rw [if_neg h]; exact Ev.ret' (by omega)
  ·rw [zbvt (.inr (by omega))]
   exact Ev.succ (Ev.po (Ev.ne (Ev.ret' (by omega)))) (fun q => rfl)
theorem zbvv (a b : Sl Int) (hL : a.l.length ≤ 1000000) : Ev (fun q => zkb q a b) ((com a.l b.l : Nat) : Int) := by
 have := zbvu a.z b.z a.l b.l hL a.l.length 0 (by omega)
 exact Ev.succ (Ev.cast this (by simp)) (fun q => rfl)
theorem zbvw {x : List Int} {i : Nat} (h : i < x.length) : x[x.length - 1 - i]? = some (x.reverse[i]'(by rw [List.length_reverse]; exact h)) := by
 rw [List.getElem_reverse, y8 (by omega)]
theorem zbvx (z1 z2 : Bool) (x y : List Int) (hL : x.length ≤ 1000000) (hL2 : y.length ≤ 1000000) : ∀ (k i : Nat), x.length = i + k →
  Ev (fun q => zkc q z1 x z2 y (i : Int)) ((i + com (x.reverse.drop i) (y.reverse.drop i) : Nat) : Int)
 | 0, i, hk => by
  refine Ev.succ (Ev.ne (Ev.ret' ?_)) (fun q => rfl)
  rw [zbvt (.inl (by rw [List.length_reverse]; omega))]; rfl
 | k + 1, i, hk => by
  have hi : i < x.length := by omega
  have hir : i < x.reverse.length := by rw [List.length_reverse]; exact hi
  have w1 : wrp .i64 (wrp .i64 ((x.length : Int) - 1) - (i : Int)) = ((x.length - 1 - i : Nat) : Int) := by rw [zbte (x := (x.length : Int) - 1) (by omega) (by omega), zbte (by omega) (by omega)]; omega
  have he : x[(wrp .i64 (wrp .i64 ((x.length : Int) - 1) - (i : Int))).toNat]? = some x.reverse[i] := by rw [w1, y29]; exact zbvw hi
  by_cases hy : i < y.length
  ·have hyr : i < y.reverse.length := by rw [List.length_reverse]; exact hy
   have w2 : wrp .i64 (wrp .i64 ((y.length : Int) - 1) - (i : Int)) = ((y.length - 1 - i : Nat) : Int) := by rw [zbte (x := (y.length : Int) - 1) (by omega) (by omega), zbte (by omega) (by omega)]; omega
   have he2 : y[(wrp .i64 (wrp .i64 ((y.length : Int) - 1) - (i : Int))).toNat]? = some y.reverse[i] := by rw [w2, y29]; exact zbvw hy
   rw [zbvs hir hyr]
   refine Ev.succ (Ev.po (Ev.po (Ev.pos (by rw [w1]; omega) (Ev.opt he (Ev.pos (by rw [w2]; omega) (Ev.opt he2 (Ev.ite (fun h => ?_) fun h => ?_))))))) (fun q => rfl)
   ·rw [if_pos h]
    have := zbvx z1 z2 x y hL hL2 k (i + 1) (by omega)
    rw [show ((i + 1 : Nat) : Int) = wrp .i64 ((i : Int) + 1) by rw [zbte (by omega) (by omega)]; omega] at this
    refine Ev.cast this ?_
    omega
   ·rw [if_neg h]; exact Ev.ret' (by omega)
  ·rw [zbvt (.inr (by rw [List.length_reverse]; omega))]
   exact Ev.succ (Ev.po (Ev.ne (Ev.ret' (by omega)))) (fun q => rfl)
theorem zbvy (a b : Sl Int) (hL : a.l.length ≤ 1000000) (hL2 : b.l.length ≤ 1000000) : Ev (fun q => zkd q a b) ((com a.l.reverse b.l.reverse : Nat) : Int) := by
 have := zbvx a.z b.z a.l b.l hL hL2 a.l.length 0 (by omega)
 exact Ev.succ (Ev.cast this (by simp)) (fun q => rfl)
/-- The entries that are new. -/
def newT (ta : List zjq) : List zjq → List zjq
 | [] => []
 | e :: t => if findE e.Proc ta = some e then newT ta t else e :: newT ta t
def lacksB (ta tb : List zjq) : Bool := match ta with
 | [] => false
 | e :: t => decide (findE e.Proc tb = none) || lacksB t tb
theorem zbvz (z : Bool) (L : List zjq) (x0 x1 : Int) (x2z : Bool) (x2l : List Int) (x3 : Bool) (x4 : Int) (x5z : Bool) (x5l : List zjq) (y0 y1 : Int) (y2z : Bool) (y2l : List Int) (y3 : Bool) (y4 : Int) (tz : Bool) (T : List zjq) (hL : L.length ≤ 1000000) (hT : T.length ≤ 1000000) : ∀ (k i : Nat), L.length = i + k →
  ∃ r, Ev (fun q => zkf q z L (L.length : Int) (i : Int) x0 x1 x2z x2l x3 x4 x5z x5l y0 y1 y2z y2l y3 y4 tz T) r ∧ (0 ≤ r ↔ lacksB (L.drop i) T = true)
 | 0, i, hk => by
  refine ⟨-1, Ev.succ (Ev.ne (Ev.ret _)) (fun q => rfl), ?_⟩
  rw [y13 (by omega)]; simp [lacksB]
 | k + 1, i, hk => by
  have hi : i < L.length := by omega
  have he : L[((i : Int)).toNat]? = some L[i] := by simp [hi]
  obtain ⟨r, hr, hr2⟩ := zbvr ⟨tz, T⟩ L[i].Proc hT
  rw [y10 hi]
  simp only [lacksB]
  rcases hr2 with ⟨h1, h2⟩ | ⟨h1, e, h2, h3⟩
  ·refine ⟨i, Ev.succ (Ev.po (Ev.po (Ev.opt he (Ev.bind hr (Ev.pos h1 (Ev.ret _)))))) (fun q => rfl), ?_⟩
   simp only at h2
   rw [decide_eq_true h2]; simp
  ·obtain ⟨r', hr', hr2'⟩ := zbvz z L x0 x1 x2z x2l x3 x4 x5z x5l y0 y1 y2z y2l y3 y4 tz T hL hT k (i + 1) (by omega)
   rw [show ((i + 1 : Nat) : Int) = wrp .i64 ((i : Int) + 1) by rw [zbte (by omega) (by omega)]; omega] at hr'
   refine ⟨r', Ev.succ (Ev.po (Ev.po (Ev.opt he (Ev.bind hr (Ev.neg (by omega) hr'))))) (fun q => rfl), ?_⟩
   simp only at h3
   rw [decide_eq_false (by rw [h3]; exact fun c => by cases c), Bool.false_or]
   exact hr2'
theorem zbv0 (z0 : Bool) (L : List (Sl Int)) (z : Bool) (hL : L.length ≤ 1099511627776) : ∀ (k i : Nat) (m : Nat) (l : List Int), L.length = i + k → m + (flat (L.drop i)).length ≤ l.length →
  Ev (fun q => zkk q m z0 L (L.length : Int) (i : Int) z l) ⟨z, true, l.take m ++ flat (L.drop i)⟩
 | 0, i, m, l, hk, hl => by
  refine Ev.succ (Ev.ne (Ev.ret' ?_)) (fun q => rfl)
  rw [y13 (by omega)]; simp [flat]
 | k + 1, i, m, l, hk, hl => by
  have hi : i < L.length := by omega
  have hg : L[(i : Int).toNat]? = some L[i] := by simpa using y8 hi
  rw [y10 hi, zbuj, y11] at hl
  refine Ev.succ (Ev.po (Ev.po (Ev.opt hg (Ev.pos (by omega) ?_)))) (fun q => rfl)
  rw [zbte (by omega) (by omega), show ((i : Int) + 1) = ((i + 1 : Nat) : Int) by omega]
  refine (zbv0 z0 L z hL k (i + 1) (m + L[i].l.length) _ (by omega) ?_).cast ?_
  ·simp only [y11, y21, y14]; omega
  ·congr 1
   rw [y10 hi, zbuj, ← y34]
   congr 1
   rw [List.take_append_of_le_length (by simp only [y11, y21]; omega), List.take_of_length_le (by simp only [y11, y21]; omega)]
theorem zbv1 (z0 : Bool) (L : List (Sl Int)) (hL : L.length ≤ 1099511627776) : ∀ (k i : Nat) (z : Bool) (l : List Int), L.length = i + k → l.length + (flat (L.drop i)).length ≤ 4294967296 →
  ∃ z', Ev (fun q => zkl q z0 L (L.length : Int) (i : Int) z l) ⟨z', true, l ++ flat (L.drop i)⟩
 | 0, i, z, l, hk, hl => ⟨z, by
  refine Ev.succ (Ev.ne (Ev.ret' ?_)) (fun q => rfl)
  rw [y13 (by omega)]; simp [flat]⟩
 | k + 1, i, z, l, hk, hl => by
  have hi : i < L.length := by omega
  have hg : L[(i : Int).toNat]? = some L[i] := by simpa using y8 hi
  rw [y10 hi, zbuj, y11] at hl
  obtain ⟨z', h⟩ := zbv1 z0 L hL k (i + 1) (z && (decide (L[i].l.length = 0))) (l ++ L[i].l) (by omega) (by simp only [y11]; omega)
  refine ⟨z', Ev.succ (Ev.po (Ev.po (Ev.opt hg (Ev.pos (by omega) ?_)))) (fun q => rfl)⟩
  rw [zbte (by omega) (by omega), show ((i : Int) + 1) = ((i + 1 : Nat) : Int) by omega]
  refine h.cast ?_
  rw [y10 hi, zbuj]; simp
theorem zbv2 (z0 z9 : Bool) (L : List (Sl Int)) (hL : L.length ≤ 1099511627776) (hf : (flat L).length ≤ 4294967296) : ∀ (k i : Nat) (m : Nat), L.length = i + k → m + (flat (L.drop i)).length = (flat L).length →
  ∃ z', Ev (fun q => zkn q z0 L (m : Int) z9 L (L.length : Int) (i : Int)) ⟨z', true, flat L⟩
 | 0, i, m, hk, hm => by
  rw [y13 (by omega)] at hm
  have hm2 : m = (flat L).length := by simpa [flat] using hm
  have w : wrp .i64 ((m : Int) - wrp .i64 0) = (m : Int) := by rw [zbte (x := 0) (by omega) (by omega), zbte (by omega) (by omega)]; omega
  by_cases h0 : 0 < m
  ·refine ⟨decide (wrp .i64 ((m : Int) - wrp .i64 0) = 0), Ev.succ (Ev.ne (Ev.ne (Ev.pos (by rw [w]; omega) (Ev.pos (by rw [w]; omega) (Ev.pos (by rw [w]; omega) (Ev.neg (by rw [w]; omega) ?_)))))) (fun q => rfl)⟩
   rw [w]
   have := zbv0 z0 L (decide ((m : Int) = 0)) hL L.length 0 0 (List.replicate (m : Int).toNat 0) (by omega) (by simp; omega)
   rw [y39] at this
   exact this
  ·have hnil : flat L = [] := y36 (by omega)
   match L, hk with
   | [], _ =>
    refine ⟨true, Ev.succ (Ev.neg (by simp) (Ev.neg (by omega) ?_)) (fun q => rfl)⟩
    rw [w]
    refine Ev.neg (by omega) ?_
    exact Ev.succ (g := fun _ => some ⟨true, true, []⟩) (Ev.ret' (by simp [flat])) (fun q => rfl)
   | a :: L', hk =>
    rw [zbuj] at hnil
    obtain ⟨z', h⟩ := zbv1 z0 (a :: L') hL L'.length 1 (decide (a.l.length = 0)) a.l (by simp; omega) (by
     have : flat (List.drop 1 (a :: L')) = flat L' := rfl
     rw [this, ← y11, hnil]; simp)
    refine ⟨z', Ev.succ (Ev.ne (Ev.neg (by omega) ?_)) (fun q => rfl)⟩
    rw [w]
    refine Ev.ne (Ev.succ (Ev.pos (by simp) (Ev.opt (s := a) rfl (Ev.pos ?_ ?_))) (fun q => rfl))
    ·have : a.l.length ≤ (a.l ++ flat L').length := by simp
     rw [hnil] at this; simp at this; simp [this]
    ·rw [zbte (by omega) (by omega)]
     refine h.cast ?_
     rw [zbuj]; rfl
 | k + 1, i, m, hk, hm => by
  have hi : i < L.length := by omega
  have hg : L[(i : Int).toNat]? = some L[i] := by simpa using y8 hi
  rw [y10 hi, zbuj, y11] at hm
  obtain ⟨z', h⟩ := zbv2 z0 z9 L hL hf k (i + 1) (m + L[i].l.length) (by omega) (by omega)
  refine ⟨z', Ev.succ (Ev.po (Ev.po (Ev.opt hg ?_))) (fun q => rfl)⟩
  have w : wrp .i64 ((m : Int) + (L[i].l.length : Int)) = ((m + L[i].l.length : Nat) : Int) := by rw [zbte (by omega) (by omega)]; omega
  rw [w, zbte (by omega) (by omega), show ((i : Int) + 1) = ((i + 1 : Nat) : Int) by omega]
  exact Ev.neg (by omega) h
theorem zbv3 (s : Sl (Sl Int)) (hL : s.l.length ≤ 1099511627776) (hf : (flat s.l).length ≤ 4294967296) : ∃ z', Ev (fun q => zko q s) ⟨z', true, flat s.l⟩ := by
 obtain ⟨z', h⟩ := zbv2 s.z s.z s.l hL hf s.l.length 0 0 (by omega) (by simp)
 exact ⟨z', Ev.succ h (fun q => rfl)⟩
theorem zbv4 (z z2 : Bool) (A B : List Int) (hl : A.length = B.length) (hL : A.length ≤ 1099511627776) : ∀ (k i : Nat), A.length = i + k → Ev (fun q => zk1 q z A z2 B (A.length : Int) (i : Int)) (decide (A.drop i = B.drop i))
 | 0, i, hk => by
  refine Ev.succ (Ev.ne (Ev.ret' ?_)) (fun q => rfl)
  rw [y13 (by omega), y13 (by omega)]; simp
 | k + 1, i, hk => by
  have hi : i < A.length := by omega
  have hi2 : i < B.length := by omega
  have hg : A[(i : Int).toNat]? = some A[i] := by simpa using y8 hi
  have hg2 : B[(i : Int).toNat]? = some B[i] := by simpa using y8 hi2
  refine Ev.succ (Ev.po (Ev.po (Ev.opt hg (Ev.opt hg2 ?_)))) (fun q => rfl)
  rw [y10 hi, y10 hi2]
  refine Ev.ite (fun h => ?_) fun h => Ev.ret' (by symm; rw [decide_eq_false_iff_not]; intro e; exact h (List.cons.inj e).1)
  rw [zbte (by omega) (by omega), show ((i : Int) + 1) = ((i + 1 : Nat) : Int) by omega]
  refine (zbv4 z z2 A B hl hL k (i + 1) (by omega)).cast ?_
  rw [decide_eq_decide, List.cons.injEq]; simp only [h, true_and]
theorem zbv5 (a b : Sl Int) (hL : a.l.length ≤ 1099511627776) : Ev (fun q => zk2 q a b) (decide (a.l = b.l)) := by
 refine Ev.succ (Ev.ite (fun h => ?_) fun h => Ev.ret' ?_) (fun q => rfl)
 ·have := zbv4 a.z b.z a.l b.l (by omega) hL a.l.length 0 (by omega)
  rw [y39, y39] at this; exact this
 ·symm; rw [decide_eq_false_iff_not]; intro e; rw [e] at h; exact h rfl
theorem zbv6 {ta t : List zjq} {e : zjq} (h : findE e.Proc ta ≠ some e) : newT ta (e :: t) = e :: newT ta t := by simp only [newT]; rw [if_neg h]
theorem zbv7 {ta t : List zjq} {e : zjq} (h : findE e.Proc ta = some e) : newT ta (e :: t) = newT ta t := by simp only [newT]; rw [if_pos h]
theorem zbv8 (ta : List zjq) : ∀ t : List zjq, (newT ta t).length ≤ t.length
 | [] => by simp [newT]
 | e :: t => by
  have := zbv8 ta t
  simp only [newT]; split
  ·rw [y22]; omega
  ·simp only [y22]; omega
theorem zbv9 (s : Sl Int) (hz : s.z = true → s.l = []) (hl : s.l.length ≤ 4294967296) : ∃ z, Ev (fun q => zke q s) ⟨z, true, s.l⟩ := by
 by_cases h : s.z = true
 ·exact ⟨true, Ev.succ (Ev.pos h (Ev.ret' (by rw [hz h]))) (fun q => rfl)⟩
 ·exact ⟨false, Ev.succ (Ev.neg h (Ev.pos hl (Ev.ret _))) (fun q => rfl)⟩
theorem zbwa (z : Bool) (L : List zjq) (x0 x1 : Int) (x2z : Bool) (x2l : List Int) (x3 : Bool) (x4 : Int) (tz : Bool) (ta : List zjq) (d0 d1 d2 d3 : Int) (d5 : Bool) (d6 : Int) (hz : Bool) (hm : List Int) (hx : Bool) (hL : L.length ≤ 1000000) (hT : ta.length ≤ 1000000) : ∀ (k i : Nat) (acc : List zjq), L.length = i + k → acc.length ≤ i →
  Ev (fun q => zkh q z L (L.length : Int) (i : Int) x0 x1 x2z x2l x3 x4 tz ta d0 d1 d2 d3 d5 d6 hz hm hx acc) (⟨d0, d1, d2, d3, ⟨hz, hm⟩, d5, d6, ⟨false, acc ++ newT ta (L.drop i)⟩⟩, 0)
 | 0, i, acc, hk, ha => by
  refine Ev.succ (Ev.ne (Ev.ret' ?_)) (fun q => rfl)
  rw [y13 (by omega)]; simp [newT]
 | k + 1, i, acc, hk, ha => by
  have hi : i < L.length := by omega
  have he : L[((i : Int)).toNat]? = some L[i] := by simp [hi]
  have w1 : wrp .i64 ((i : Int) + 1) = ((i + 1 : Nat) : Int) := by rw [zbte (by omega) (by omega)]; omega
  obtain ⟨r, hr, hr2⟩ := zbvr ⟨tz, ta⟩ L[i].Proc hT
  simp only at hr2
  have ihN := zbwa z L x0 x1 x2z x2l x3 x4 tz ta d0 d1 d2 d3 d5 d6 hz hm hx hL hT k (i + 1) (acc ++ [L[i]]) (by omega) (by simp; omega)
  have ihO := zbwa z L x0 x1 x2z x2l x3 x4 tz ta d0 d1 d2 d3 d5 d6 hz hm hx hL hT k (i + 1) acc (by omega) (by omega)
  rw [← w1] at ihN ihO
  rw [y10 hi]
  refine Ev.succ (Ev.po (Ev.po (Ev.opt he (Ev.bind hr ?_)))) (fun q => rfl)
  have new : findE L[i].Proc ta ≠ some L[i] → Ev (fun q => if (acc.length + 1) ≤ 4294967296 then (zkh q z L (L.length : Int) (wrp .i64 ((i : Int) + 1)) x0 x1 x2z x2l x3 x4 tz ta d0 d1 d2 d3 d5 d6 hz hm hx (acc ++ [L[i]])) else none) (⟨d0, d1, d2, d3, ⟨hz, hm⟩, d5, d6, ⟨false, acc ++ newT ta (L[i] :: L.drop (i + 1))⟩⟩, 0) := fun hne => by
   rw [zbv6 hne]
   exact Ev.po (Ev.cast ihN (by simp))
  rcases hr2 with ⟨q1, q2⟩ | ⟨q1, e, q2, q3⟩
  ·exact Ev.pos q1 (new (by rw [q2]; exact fun c => by cases c))
  ·refine Ev.ne (Ev.pos q1 (Ev.opt q2 (Ev.ite (fun c1 => Ev.ite (fun c2 => Ev.ite (fun c3 => ?_) fun c3 => ?_) fun c2 => ?_) fun c1 => ?_)))
   ·rw [zbv7 (by rw [q3, zbvp c1 c2 c3])]; exact ihO
   ·exact new (by rw [q3]; intro c; cases c; exact c3 rfl)
   ·exact new (by rw [q3]; intro c; cases c; exact c2 rfl)
   ·exact new (by rw [q3]; intro c; cases c; exact c1 rfl)
theorem zbwb (z : Bool) (L : List zjq) (x0 x1 : Int) (x2z : Bool) (x2l : List Int) (x3 : Bool) (x4 : Int) (tz : Bool) (ta : List zjq) (d0 d1 d2 d3 : Int) (d5 : Bool) (d6 : Int) (hz : Bool) (hm : List Int) (hx : Bool) (hL : L.length ≤ 1000000) (hT : ta.length ≤ 1000000) : ∀ (k i : Nat), L.length = i + k →
  ∃ z', Ev (fun q => zki q z L (L.length : Int) (i : Int) x0 x1 x2z x2l x3 x4 tz ta d0 d1 d2 d3 d5 d6 hz hm hx) (⟨d0, d1, d2, d3, ⟨hz, hm⟩, d5, d6, ⟨z', newT ta (L.drop i)⟩⟩, 0)
 | 0, i, hk => by
  refine ⟨true, Ev.succ (Ev.ne (Ev.ret' ?_)) (fun q => rfl)⟩
  rw [y13 (by omega)]; simp [newT]
 | k + 1, i, hk => by
  have hi : i < L.length := by omega
  have he : L[((i : Int)).toNat]? = some L[i] := by simp [hi]
  have w1 : wrp .i64 ((i : Int) + 1) = ((i + 1 : Nat) : Int) := by rw [zbte (by omega) (by omega)]; omega
  obtain ⟨r, hr, hr2⟩ := zbvr ⟨tz, ta⟩ L[i].Proc hT
  simp only at hr2
  have ihN := zbwa z L x0 x1 x2z x2l x3 x4 tz ta d0 d1 d2 d3 d5 d6 hz hm hx hL hT k (i + 1) [L[i]] (by omega) (by simp)
  obtain ⟨z', ihO⟩ := zbwb z L x0 x1 x2z x2l x3 x4 tz ta d0 d1 d2 d3 d5 d6 hz hm hx hL hT k (i + 1) (by omega)
  rw [← w1] at ihN ihO
  rw [y10 hi]
  have fin : ∀ {r' : zjs × Int} , Ev (fun q => if r < 0 then (zkh q z L (L.length : Int) (wrp .i64 ((i : Int) + 1)) x0 x1 x2z x2l x3 x4 tz ta d0 d1 d2 d3 d5 d6 hz hm hx [L[i]]) else (if 0 ≤ r then ((ta[r.toNat]?).bind fun e9 => (if e9.Proc = L[i].Proc then (if e9.Seq = L[i].Seq then (if e9.Resp = L[i].Resp then (zki q z L (L.length : Int) (wrp .i64 ((i : Int) + 1)) x0 x1 x2z x2l x3 x4 tz ta d0 d1 d2 d3 d5 d6 hz hm hx) else (zkh q z L (L.length : Int) (wrp .i64 ((i : Int) + 1)) x0 x1 x2z x2l x3 x4 tz ta d0 d1 d2 d3 d5 d6 hz hm hx [L[i]])) else (zkh q z L (L.length : Int) (wrp .i64 ((i : Int) + 1)) x0 x1 x2z x2l x3 x4 tz ta d0 d1 d2 d3 d5 d6 hz hm hx [L[i]])) else (zkh q z L (L.length : Int) (wrp .i64 ((i : Int) + 1)) x0 x1 x2z x2l x3 x4 tz ta d0 d1 d2 d3 d5 d6 hz hm hx [L[i]]))) else none)) r' → Ev (fun q => zki q z L (L.length : Int) (i : Int) x0 x1 x2z x2l x3 x4 tz ta d0 d1 d2 d3 d5 d6 hz hm hx) r' := fun h => Ev.succ (Ev.po (Ev.po (Ev.opt he (Ev.bind hr h)))) (fun q => rfl)
  rcases hr2 with ⟨q1, q2⟩ | ⟨q1, e, q2, q3⟩
  ·rw [zbv6 (by rw [q2]; exact fun c => by cases c)]
   exact ⟨false, fin (Ev.pos q1 ihN)⟩
  ·by_cases c : e = L[i]
   ·rw [zbv7 (by rw [q3, c])]
    exact ⟨z', fin (Ev.ne (Ev.pos q1 (Ev.opt q2 (Ev.pos (by rw [c]) (Ev.pos (by rw [c]) (Ev.pos (by rw [c]) ihO))))))⟩
   ·rw [zbv6 (by rw [q3]; intro c2; cases c2; exact c rfl)]
    refine ⟨false, fin (Ev.ne (Ev.pos q1 (Ev.opt q2 (Ev.ite (fun c1 => Ev.ite (fun c2 => Ev.ite (fun c3 => absurd (zbvp c1 c2 c3) c) fun c3 => ihN) fun c2 => ihN) fun c1 => ihN))))⟩
/-- What stays ahead, what stays behind, what stands between. -/
def ahN (x y : List Int) : Nat := com x y
def beN (x y : List Int) : Nat := com (x.drop (com x y)).reverse (y.drop (com x y)).reverse
def midL (x y : List Int) : List Int := (y.drop (com x y)).take ((y.drop (com x y)).length - beN x y)
def noD : zjs := ⟨0, 0, 0, 0, ⟨true, []⟩, false, 0, ⟨true, []⟩⟩
def diffR (a b : zjr) (zm zt : Bool) : zjs × Int :=
 if mayN a = true ∧ mayN b = true ∧ a.State.Kind = b.State.Kind then
  (if lacksB a.Table.l b.Table.l = true ∨ b.Index < a.Index then (noD, 15) else (⟨a.Index, b.Index, ((ahN a.State.L.l b.State.L.l : Nat) : Int), ((beN a.State.L.l b.State.L.l : Nat) : Int), ⟨zm, midL a.State.L.l b.State.L.l⟩, b.State.Sealed, b.State.To, ⟨zt, newT a.Table.l b.Table.l⟩⟩, 0))
 else (noD, 1)
theorem beN_le (x y : List Int) : ahN x y ≤ x.length ∧ ahN x y ≤ y.length ∧ beN x y ≤ x.length - ahN x y ∧ beN x y ≤ y.length - ahN x y := by
 have h1 := com_le x y
 have h2 := com_le (x.drop (com x y)).reverse (y.drop (com x y)).reverse
 simp only [List.length_reverse, y14] at h2
 unfold ahN beN; omega
theorem zbwc (a b : zjr) (h1 : a.State.L.l.length ≤ 1000000) (h2 : a.Table.l.length ≤ 1000000) (h3 : b.State.L.l.length ≤ 1000000) (h4 : b.Table.l.length ≤ 1000000) (hz : b.State.L.z = true → b.State.L.l = []) : ∃ zm zt, Ev (fun q => zkj q a b) (diffR a b zm zt) := by
 unfold diffR
 by_cases c1 : mayN a = true
 ·by_cases c2 : mayN b = true
  ·by_cases c3 : a.State.Kind = b.State.Kind
   ·simp only [if_pos (show mayN a = true ∧ mayN b = true ∧ a.State.Kind = b.State.Kind from ⟨c1, c2, c3⟩)]
    by_cases c4 : b.Index < a.Index
    ·refine ⟨true, true, Ev.succ (Ev.bind (zbvo a h1 h2) (Ev.pos c1 (Ev.bind (zbvo b h3 h4) (Ev.pos c2 (Ev.pos c3 (Ev.pos c4 (Ev.ret' ?_))))))) (fun q => rfl)⟩
     rw [if_pos (.inr c4)]; rfl
    ·obtain ⟨r, hr, hr2⟩ := zbvz a.Table.z a.Table.l a.Index a.State.Kind a.State.L.z a.State.L.l a.State.Sealed a.State.To a.Table.z a.Table.l b.Index b.State.Kind b.State.L.z b.State.L.l b.State.Sealed b.State.To b.Table.z b.Table.l h2 h4 a.Table.l.length 0 (by omega)
     rw [y39] at hr2
     have hr' : Ev (fun q => zkg q a.Table.z a.Table.l a.Index a.State.Kind a.State.L.z a.State.L.l a.State.Sealed a.State.To a.Table.z a.Table.l b.Index b.State.Kind b.State.L.z b.State.L.l b.State.Sealed b.State.To b.Table.z b.Table.l) r := Ev.succ hr (fun q => rfl)
     by_cases c5 : lacksB a.Table.l b.Table.l = true
     ·refine ⟨true, true, Ev.succ (Ev.bind (zbvo a h1 h2) (Ev.pos c1 (Ev.bind (zbvo b h3 h4) (Ev.pos c2 (Ev.pos c3 (Ev.neg c4 (Ev.bind hr' (Ev.pos (hr2.2 c5) (Ev.ret' ?_))))))))) (fun q => rfl)⟩
      rw [if_pos (.inl c5)]; rfl
     ·simp only [if_neg (show ¬ (lacksB a.Table.l b.Table.l = true ∨ b.Index < a.Index) from fun e => e.elim c5 c4)]
      obtain ⟨q1, q2, q3, q4⟩ := beN_le a.State.L.l b.State.L.l
      have hA := zbvv a.State.L b.State.L h1
      have hB := zbvy ⟨a.State.L.z, a.State.L.l.drop (com a.State.L.l b.State.L.l)⟩ ⟨b.State.L.z, b.State.L.l.drop (com a.State.L.l b.State.L.l)⟩ (by simp only [y14]; omega) (by simp only [y14]; omega)
      unfold ahN at q1 q2 q3 q4
      have w : wrp .i64 (((b.State.L.l.length - com a.State.L.l b.State.L.l : Nat) : Int) - (((beN a.State.L.l b.State.L.l : Nat) : Int))) = ((b.State.L.l.length - com a.State.L.l b.State.L.l - beN a.State.L.l b.State.L.l : Nat) : Int) := by rw [zbte (by omega) (by omega)]; omega
      obtain ⟨zm, hC⟩ := zbv9 ⟨b.State.L.z, (b.State.L.l.drop (com a.State.L.l b.State.L.l)).take (b.State.L.l.length - com a.State.L.l b.State.L.l - beN a.State.L.l b.State.L.l)⟩ (fun h => by simp only at h ⊢; rw [hz h]; simp) (by simp only [y21, y14]; omega)
      obtain ⟨zt, hD⟩ := zbwb b.Table.z b.Table.l a.Index a.State.Kind a.State.L.z a.State.L.l a.State.Sealed a.State.To a.Table.z a.Table.l a.Index b.Index ((ahN a.State.L.l b.State.L.l : Nat) : Int) ((beN a.State.L.l b.State.L.l : Nat) : Int) b.State.Sealed b.State.To zm ((b.State.L.l.drop (com a.State.L.l b.State.L.l)).take (b.State.L.l.length - com a.State.L.l b.State.L.l - beN a.State.L.l b.State.L.l)) true h4 h2 b.Table.l.length 0 (by omega)
      rw [y39] at hD
      refine ⟨zm, zt, Ev.succ (Ev.bind (zbvo a h1 h2) (Ev.pos c1 (Ev.bind (zbvo b h3 h4) (Ev.pos c2 (Ev.pos c3 (Ev.neg c4 (Ev.bind hr' (Ev.neg (fun e => c5 (hr2.1 e)) (Ev.bind hA (Ev.po (Ev.po (Ev.pos (by omega) ?_)))))))))))) (fun q => rfl)⟩
      simp only [y29]
      refine Ev.bind hB ?_
      show Ev (fun q => if 0 ≤ (wrp .i64 (((b.State.L.l.length - com a.State.L.l b.State.L.l : Nat) : Int) - (((beN a.State.L.l b.State.L.l : Nat) : Int)))) then (if (wrp .i64 (((b.State.L.l.length - com a.State.L.l b.State.L.l : Nat) : Int) - (((beN a.State.L.l b.State.L.l : Nat) : Int)))).toNat ≤ (b.State.L.l.length - com a.State.L.l b.State.L.l) then ((zke q ⟨b.State.L.z, (List.take ((wrp .i64 (((b.State.L.l.length - com a.State.L.l b.State.L.l : Nat) : Int) - (((beN a.State.L.l b.State.L.l : Nat) : Int)))).toNat) (List.drop (com a.State.L.l b.State.L.l) b.State.L.l))⟩).bind fun r6 => (zki q b.Table.z b.Table.l (b.Table.l.length : Int) 0 a.Index a.State.Kind a.State.L.z a.State.L.l a.State.Sealed a.State.To a.Table.z a.Table.l a.Index b.Index ((com a.State.L.l b.State.L.l : Nat) : Int) ((beN a.State.L.l b.State.L.l : Nat) : Int) b.State.Sealed b.State.To r6.n r6.xs r6.x)) else none) else none) _
      rw [w]
      simp only [y29]
      refine Ev.po (Ev.po (Ev.bind hC (Ev.cast hD ?_)))
      unfold midL
      rw [y14]
   ·refine ⟨true, true, Ev.succ (Ev.bind (zbvo a h1 h2) (Ev.pos c1 (Ev.bind (zbvo b h3 h4) (Ev.pos c2 (Ev.neg c3 (Ev.ret' ?_)))))) (fun q => rfl)⟩
    rw [if_neg (fun e => c3 e.2.2)]; rfl
  ·refine ⟨true, true, Ev.succ (Ev.bind (zbvo a h1 h2) (Ev.pos c1 (Ev.bind (zbvo b h3 h4) (Ev.neg c2 (Ev.ret' ?_))))) (fun q => rfl)⟩
   rw [if_neg (fun e => c2 e.2.1)]; rfl
 ·refine ⟨true, true, Ev.succ (Ev.bind (zbvo a h1 h2) (Ev.neg c1 (Ev.ret' ?_))) (fun q => rfl)⟩
  rw [if_neg (fun e => c1 e.1)]; rfl
theorem mayA : mayN ⟨0, ⟨3, ⟨false, [1, 2]⟩, false, 0⟩, ⟨true, []⟩⟩ = true := by
 simp [mayN, mayS, kindOk, tabB, cutsB, cutI]
theorem mayB : ∀ z z2, mayN ⟨1, ⟨3, ⟨z, [1, 2, 9]⟩, false, 0⟩, ⟨z2, []⟩⟩ = true := by
 intro z z2; simp [mayN, mayS, kindOk, tabB, cutsB, cutI]
theorem zbwd : Ev (fun q => zk7 q) true := by
 obtain ⟨zm, zt, hD⟩ := zbwc ⟨0, ⟨3, ⟨false, [1, 2]⟩, false, 0⟩, ⟨true, []⟩⟩ ⟨1, ⟨3, ⟨false, [1, 2, 9]⟩, false, 0⟩, ⟨true, []⟩⟩ (by simp) (by simp) (by simp) (by simp) (fun h => by cases h)
 have hR : diffR ⟨0, ⟨3, ⟨false, [1, 2]⟩, false, 0⟩, ⟨true, []⟩⟩ ⟨1, ⟨3, ⟨false, [1, 2, 9]⟩, false, 0⟩, ⟨true, []⟩⟩ zm zt = (⟨0, 1, 2, 0, ⟨zm, [9]⟩, false, 0, ⟨zt, []⟩⟩, 0) := by
  unfold diffR
  rw [if_pos ⟨mayA, mayB _ _, rfl⟩, if_neg (by simp [lacksB])]
  simp [ahN, beN, midL, com, newT]
 rw [hR] at hD
 obtain ⟨zc, hC⟩ := zbv3 ⟨false, [⟨false, [1, 2]⟩, ⟨zm, [9]⟩, ⟨false, []⟩]⟩ (by simp) (by simp [flat])
 have hM := zbvo ⟨1, ⟨3, ⟨zc, [1, 2, 9]⟩, false, 0⟩, ⟨true, []⟩⟩ (by simp) (by simp)
 rw [mayB] at hM
 have w1 : wrp .i64 (2 - 2) = 0 := by rw [zbte (by omega) (by omega)]; rfl
 have w2 : wrp .i64 (2 - 0) = 2 := by rw [zbte (by omega) (by omega)]; rfl
 have hA : Ev (fun q => zk0 q ⟨0, ⟨3, ⟨false, [1, 2]⟩, false, 0⟩, ⟨true, []⟩⟩ ⟨0, 1, 2, 0, ⟨zm, [9]⟩, false, 0, ⟨zt, []⟩⟩) (⟨1, ⟨3, ⟨zc, [1, 2, 9]⟩, false, 0⟩, ⟨true, []⟩⟩, 0) := by
  have h1 := zbvo ⟨0, ⟨3, ⟨false, [1, 2]⟩, false, 0⟩, ⟨true, []⟩⟩ (by simp) (by simp)
  rw [mayA] at h1
  refine Ev.succ (g := fun q => (zj6 q ⟨0, ⟨3, ⟨false, [1, 2]⟩, false, 0⟩, ⟨true, []⟩⟩).bind fun r1 => if r1 = true then (if (wrp .i64 (2 - 2)) < 0 then some (⟨0, ⟨0, ⟨true, []⟩, false, 0⟩, ⟨true, []⟩⟩, 1) else if 0 ≤ (wrp .i64 (2 - 0)) then (if (wrp .i64 (2 - 0)) ≤ 2 then ((zko q ⟨false, [⟨false, [1, 2]⟩, ⟨zm, [9]⟩, ⟨false, List.drop ((wrp .i64 (2 - 0)).toNat) [1, 2]⟩]⟩).bind fun r2 => zkz q zt [] 0 1 3 false 0 true [] r2.n r2.xs r2.x) else none) else none) else some (⟨0, ⟨0, ⟨true, []⟩, false, 0⟩, ⟨true, []⟩⟩, 1)) ?_ (fun q => rfl)
  refine Ev.bind h1 (Ev.pos rfl ?_)
  rw [w1, w2]
  refine Ev.ne (Ev.po (Ev.po (Ev.bind hC ?_)))
  refine Ev.succ (g := fun q => (zj6 q ⟨1, ⟨3, ⟨zc, [1, 2, 9]⟩, false, 0⟩, ⟨true, []⟩⟩).bind fun r5 => if r5 = true then some (⟨1, ⟨3, ⟨zc, [1, 2, 9]⟩, false, 0⟩, ⟨true, []⟩⟩, 0) else some (⟨0, ⟨0, ⟨true, []⟩, false, 0⟩, ⟨true, []⟩⟩, 1)) ?_ (fun q => rfl)
  exact Ev.bind hM (Ev.pos rfl (Ev.ret _))
 have hE := zbv5 ⟨false, [1, 2, 9]⟩ ⟨zc, [1, 2, 9]⟩ (by simp)
 have hObj : Ev (fun q => zk3 q ⟨3, ⟨false, [1, 2, 9]⟩, false, 0⟩ ⟨3, ⟨zc, [1, 2, 9]⟩, false, 0⟩) true := Ev.succ (g := fun q => (zk2 q ⟨false, [1, 2, 9]⟩ ⟨zc, [1, 2, 9]⟩).bind fun r1 => some r1) (Ev.bind hE (Ev.ret' (by simp))) (fun q => rfl)
 have hEnt : Ev (fun q => zk5 q ⟨true, []⟩ ⟨true, []⟩) true := Ev.succ (g := fun q => zk4 q true [] true [] 0 0) (Ev.succ (g := fun _ => some true) (Ev.ret _) (fun q => rfl)) (fun q => rfl)
 have hS : Ev (fun q => zk6 q ⟨1, ⟨3, ⟨false, [1, 2, 9]⟩, false, 0⟩, ⟨true, []⟩⟩ ⟨1, ⟨3, ⟨zc, [1, 2, 9]⟩, false, 0⟩, ⟨true, []⟩⟩) true :=
  Ev.succ (g := fun q => (zk3 q ⟨3, ⟨false, [1, 2, 9]⟩, false, 0⟩ ⟨3, ⟨zc, [1, 2, 9]⟩, false, 0⟩).bind fun r1 => if r1 = true then ((zk5 q ⟨true, []⟩ ⟨true, []⟩).bind fun r2 => some r2) else some false) (Ev.bind hObj (Ev.pos rfl (Ev.bind hEnt (Ev.ret _)))) (fun q => rfl)
 refine Ev.succ (Ev.bind hD (Ev.bind hA ?_)) (fun q => rfl)
 exact Ev.pos rfl (Ev.pos rfl (Ev.pos rfl (Ev.pos rfl (Ev.pos rfl (Ev.opt rfl (Ev.pos rfl (Ev.bind hS (Ev.ret _))))))))
theorem Few_ev (s : zjr) : Ev (fun q => zk9 q s) (decide (s.State.L.l.length ≤ 300 ∧ s.Table.l.length ≤ 100)) := by
 have h4 : Ev (fun q => zk8 q s.State) (decide ((s.State.L.l.length : Int) ≤ 300)) := Ev.succ (g := fun _ => some (decide ((s.State.L.l.length : Int) ≤ 300))) (Ev.ret _) (fun q => rfl)
 refine Ev.succ (Ev.bind h4 (Ev.ite (fun h => Ev.ret' ?_) fun h => Ev.ret' ?_)) (fun q => rfl)
 ·simp only [decide_eq_true_eq] at h
  by_cases c : s.Table.l.length ≤ 100
  ·rw [decide_eq_true (by omega), decide_eq_true ⟨by omega, c⟩]
  ·rw [decide_eq_false (by omega), decide_eq_false (fun e => c e.2)]
 ·simp only [decide_eq_true_eq] at h
  rw [decide_eq_false (fun e => h (by omega))]
theorem zbwe {least : Int} : ∀ {l : List Int} {last : Int}, prs least last l = true → l.length % 2 = 0 → -1 ≤ last → -1099511627776 ≤ least → ∀ x ∈ l, -1099511627776 ≤ x ∧ x ≤ 1099511627776
 | [], last, h, h2, h3, h4, x, hx => by cases hx
 | [a], last, h, h2, h3, h4, x, hx => by simp at h2
 | a :: b :: t, last, h, h2, h3, h4, x, hx => by
  simp only [prs, y7, decide_eq_true_eq] at h
  simp only [y22] at h2
  rcases List.mem_cons.1 hx with e | e
  ·omega
  ·rcases List.mem_cons.1 e with e | e
   ·omega
   ·exact zbwe h.2.2.2.2 (by omega) (by omega) h4 x e
theorem zbwf {l : List Int} (h : cutsB l) : ∀ x ∈ l, -1099511627776 ≤ x ∧ x ≤ 1099511627776 := fun x hx => zbtu.1 (h x hx)
theorem zbwg {k : Int} {l : List Int} (h : kindOk k l = true) : 0 ≤ k ∧ k ≤ 5 ∧ l.length ≤ 128 ∧ ∀ x ∈ l, -1099511627776 ≤ x ∧ x ≤ 1099511627776 := by
 unfold kindOk at h
 split at h
 ·simp only [decide_eq_true_eq] at h; exact ⟨by omega, by omega, by omega, zbwf h.2⟩
 ·split at h
  ·simp only [decide_eq_true_eq] at h; exact ⟨by omega, by omega, by omega, zbwf h.2⟩
  ·split at h
   ·simp only [pairsOk, y7, decide_eq_true_eq] at h; exact ⟨by omega, by omega, by omega, zbwe h.1 h.2.1 (by omega) (by omega)⟩
   ·split at h
    ·simp only [pairsOk, y7, decide_eq_true_eq] at h; exact ⟨by omega, by omega, by omega, zbwe h.1 h.2.1 (by omega) (by omega)⟩
    ·cases h
theorem zbwh {s : zjp} (h : mayS s = true) : 0 ≤ s.To ∧ s.To ≤ 2 ∧ (s.Sealed = false → s.To = 0) ∧ kindOk s.Kind s.L.l = true := by
 unfold mayS at h
 split at h
 ·cases h
 ·split at h
  ·cases h
  ·split at h
   ·rename_i h1 h2 h3; exact ⟨by omega, by omega, fun e => (by rw [e] at h3; cases h3), h⟩
   ·split at h
    ·rename_i h1 h2 h3 h4; exact ⟨by omega, by omega, fun _ => h4, h⟩
    ·cases h
theorem zbwi {e : zjq} (h : entOk e = true) : 0 ≤ e.Proc ∧ e.Proc ≤ 64 ∧ 0 ≤ e.Seq ∧ e.Seq < 4611686018427387904 ∧ -1125899906842624 ≤ e.Resp ∧ e.Resp ≤ 1125899906842624 := by
 simpa only [entOk, y7, decide_eq_true_eq] using h
theorem zbwj : ∀ {t : List zjq} {last : Int}, tabB last t = true → ∀ e ∈ t, entOk e = true
 | [], last, h, e, he => by cases he
 | a :: t, last, h, e, he => by
  simp only [tabB, y7] at h
  rcases List.mem_cons.1 he with r | r
  ·rw [r]; exact h.1
  ·exact zbwj h.2.2 e r
theorem zbwk {s : zjr} (h : mayN s = true) : 0 ≤ s.Index ∧ s.Index < 4611686018427387904 ∧ mayS s.State = true ∧ tabB (-1) s.Table.l = true := by
 simpa only [mayN, y7, decide_eq_true_eq] using h
/-- A table has at most 65 entries. -/
theorem zbwl : ∀ {t : List zjq} {last : Int}, tabB last t = true → -1 ≤ last → (t.length : Int) + last ≤ 64 ∨ t = []
 | [], last, h, h1 => .inr rfl
 | a :: t, last, h, h1 => by
  simp only [tabB, y7, decide_eq_true_eq] at h
  have ha := zbwi h.1
  rcases zbwl h.2.2 (by omega) with e | e
  ·left; rw [y22]; omega
  ·left; rw [e]; simp only [y22, y26]; omega
def sealN (s : zjp) : Int := if s.Sealed = true then s.To + 1 else 0
def numsB (l : List Int) : List Int := l.flatMap putS
theorem zbwm (x : Int) (l : List Int) : numsB (x :: l) = putS x ++ numsB l := by simp [numsB]
def inT (l : List Int) : Prop := ∀ x ∈ l, -1099511627776 ≤ x ∧ x ≤ 1099511627776
theorem inT_R {l : List Int} (h : inT l) {x : Int} (hx : x ∈ l) : inR .i64 x := by have := h x hx; exact zbtw (by omega) (by omega)
theorem zbwn {x : Int} {l : List Int} (h : inT (x :: l)) : inR .i64 x ∧ inT l := ⟨inT_R h y33, fun y hy => h y (y37 _ hy)⟩
theorem zbwo : ∀ {l : List Int}, inT l → (numsB l).length ≤ 10 * l.length
 | [], h => by simp [numsB]
 | x :: l, h => by
  have h2 := zbwo (zbwn h).2
  have h1 := zbtv (zbwn h).1
  rw [zbwm, y11, y22]; omega
theorem zbwp (n : Int) : isB (putS n) := zbul _
theorem zbwq : ∀ {l : List Int}, isB (numsB l)
 | [] => fun c hc => by simp [numsB] at hc
 | x :: l => by rw [zbwm]; exact zbun.2 ⟨zbwp _, zbwq⟩
def stateB (s : zjp) : List Int := ((put s.Kind ++ put (sealN s)) ++ put (s.L.l.length : Int)) ++ numsB s.L.l
theorem zbwr {s : zjp} (h : inT s.L.l) : (stateB s).length ≤ 30 + 10 * s.L.l.length := by
 have h1 := zbtn s.Kind; have h2 := zbtn (sealN s); have h3 := zbtn (s.L.l.length : Int); have h4 := zbwo h
 simp only [stateB, y11]; omega
def entB (e : zjq) : List Int := put e.Proc ++ (put e.Seq ++ putS e.Resp)
def tabE (l : List zjq) : List Int := l.flatMap entB
theorem zbws (e : zjq) (l : List zjq) : tabE (e :: l) = entB e ++ tabE l := by simp [tabE]
def entsOk (l : List zjq) : Prop := ∀ e ∈ l, entOk e = true
theorem zbwt {e : zjq} (h : entOk e = true) : inR .i64 e.Resp := by have := zbwi h; exact zbtw (by omega) (by omega)
theorem zbwu {e : zjq} (h : entOk e = true) : (entB e).length ≤ 30 := by
 have h1 := zbtn e.Proc; have h2 := zbtn e.Seq; have h3 := zbtv (zbwt h)
 simp only [entB, y11]; omega
theorem zbwv {e : zjq} : isB (entB e) := zbun.2 ⟨zbum _, zbun.2 ⟨zbum _, zbwp _⟩⟩
theorem zbww : ∀ {l : List zjq}, entsOk l → (tabE l).length ≤ 30 * l.length
 | [], h => by simp [tabE]
 | e :: l, h => by
  have h1 := zbwu (h e y33)
  have h2 := zbww (l := l) fun x hx => h x (y37 _ hx)
  rw [zbws, y11, y22]; omega
theorem zbwx : ∀ {l : List zjq}, isB (tabE l)
 | [] => fun c hc => by simp [tabE] at hc
 | e :: l => by rw [zbws]; exact zbun.2 ⟨zbwv, zbwx⟩
def wholeB (s : zjr) : List Int := ((put ((stateB s.State).length : Int) ++ stateB s.State) ++ put (s.Table.l.length : Int)) ++ tabE s.Table.l
theorem zbwy {s : zjr} (h : mayN s = true) : (wholeB s).length ≤ 5000 ∧ (stateB s.State).length ≤ 1310 ∧ s.Table.l.length ≤ 65 := by
 have hm := zbwk h
 have hk := zbwg (zbwh hm.2.2.1).2.2.2
 have h1 := zbwr (s := s.State) hk.2.2.2
 have h2 := zbww (zbwj hm.2.2.2)
 have h3 := zbwl hm.2.2.2 (by omega)
 have h4 : s.Table.l.length ≤ 65 := by
  rcases h3 with e | e
  ·omega
  ·rw [e]; simp
 have p1 := zbtn ((stateB s.State).length : Int); have p2 := zbtn (s.Table.l.length : Int)
 simp only [wholeB, y11]; omega
theorem zbwz (l : List Int) : (encF l).length = (put (l.length : Int)).length + l.length + 4 := by
 simp only [encF, fix4, y11, y22, y26]; omega
theorem zbw0 (z z2 : Bool) (A B : List zjq) (hl : A.length = B.length) (hL : A.length ≤ 1099511627776) : ∀ (k i : Nat), A.length = i + k → Ev (fun q => zk4 q z A z2 B (A.length : Int) (i : Int)) (decide (A.drop i = B.drop i))
 | 0, i, hk => by
  refine Ev.succ (Ev.ne (Ev.ret' ?_)) (fun q => rfl)
  rw [y13 (by omega), y13 (by omega)]; simp
 | k + 1, i, hk => by
  have hi : i < A.length := by omega
  have hi2 : i < B.length := by omega
  have hg : A[(i : Int).toNat]? = some A[i] := by simpa using y8 hi
  have hg2 : B[(i : Int).toNat]? = some B[i] := by simpa using y8 hi2
  have no : ¬ A[i] = B[i] → false = decide (A[i] :: A.drop (i + 1) = B[i] :: B.drop (i + 1)) := fun h => by
   symm; rw [decide_eq_false_iff_not]; intro e; exact h (List.cons.inj e).1
  rw [y10 hi, y10 hi2]
  refine Ev.succ (Ev.po (Ev.po (Ev.opt hg (Ev.opt hg2 (Ev.ite (fun c1 => Ev.ite (fun c2 => Ev.ite (fun c3 => ?_) fun c3 => Ev.ret' (no fun e => c3 (by rw [e]))) fun c2 => Ev.ret' (no fun e => c2 (by rw [e]))) fun c1 => Ev.ret' (no fun e => c1 (by rw [e]))))))) (fun q => rfl)
  rw [zbte (by omega) (by omega), show ((i : Int) + 1) = ((i + 1 : Nat) : Int) by omega]
  refine (zbw0 z z2 A B hl hL k (i + 1) (by omega)).cast ?_
  rw [decide_eq_decide, List.cons.injEq]; simp only [zbvp c1 c2 c3, true_and]
theorem zbw1 (a b : Sl zjq) (hL : a.l.length ≤ 1099511627776) : Ev (fun q => zk5 q a b) (decide (a.l = b.l)) := by
 refine Ev.succ (Ev.ite (fun h => ?_) fun h => Ev.ret' ?_) (fun q => rfl)
 ·have := zbw0 a.z b.z a.l b.l (by omega) hL a.l.length 0 (by omega)
  rw [y39, y39] at this; exact this
 ·symm; rw [decide_eq_false_iff_not]; intro e; rw [e] at h; exact h rfl
/-- The same states, the same snapshots. -/
def sameS (a b : zjp) : Bool := decide (a.Kind = b.Kind) && (decide (a.Sealed = b.Sealed) && (decide (a.To = b.To) && decide (a.L.l = b.L.l)))
def sameN (a b : zjr) : Bool := decide (a.Index = b.Index) && (sameS a.State b.State && decide (a.Table.l = b.Table.l))
theorem zbw2 (a b : zjp) (hL : a.L.l.length ≤ 1099511627776) : Ev (fun q => zk3 q a b) (sameS a b) := by
 unfold sameS
 refine Ev.succ (Ev.ite (fun c1 => Ev.ite (fun c2 => Ev.ite (fun c3 => Ev.bind (zbv5 _ _ hL) (Ev.ret' ?_)) fun c3 => Ev.ret' ?_) fun c2 => Ev.ret' ?_) fun c1 => Ev.ret' ?_) (fun q => rfl)
 ·rw [beq_iff_eq] at c2; simp [c1, c2, c3]
 ·simp [c3]
 ·rw [beq_iff_eq] at c2; simp [c2]
 ·simp [c1]
theorem zbw3 (a b : zjr) (hL : a.State.L.l.length ≤ 1099511627776) (hT : a.Table.l.length ≤ 1099511627776) : Ev (fun q => zk6 q a b) (sameN a b) := by
 unfold sameN
 refine Ev.succ (Ev.ite (fun c1 => Ev.bind (zbw2 _ _ hL) (Ev.ite (fun c2 => Ev.bind (zbw1 _ _ hT) (Ev.ret' ?_)) fun c2 => Ev.ret' ?_)) fun c1 => Ev.ret' ?_) (fun q => rfl)
 ·simp [c1, c2]
 ·simp only [Bool.not_eq_true] at c2; simp [c2]
 ·simp [c1]
theorem zbw4 {n : Int} {x : List Int} (h : inR .i64 n) : getS (putS n ++ x) = (n, ((putS n).length : Int)) := by
 unfold getS putS
 rw [rd_grp (by simpa using zig_lt h) (by omega) (by omega)]
 simp only [zbu8]
theorem zbw5 (n : Int) : 1 ≤ (putS n).length := zbtk _
theorem zbw6 {n : Int} (h1 : 0 ≤ n) (h2 : n < 4611686018427387904) : 1 ≤ (put n).length := by rw [put_ok h1 h2]; exact zbtk _
theorem zbw7 {l : List Int} (hb : isB l) (h : (getN l).2 ≠ 0) : l.take (getN l).2.toNat = put (getN l).1 := by
 unfold getN at h ⊢
 cases e : rd 0 l with
 | none => simp [e] at h
 | some p =>
  simp only [e] at h ⊢
  split
  ·rename_i h2; rw [if_pos h2] at h; simp at h
  ·rename_i h2
   have := (rd_inv hb (show rd 0 l = some (p.1, p.2) from e)).1
   simp only [y29]
   rw [this, put_ok (by omega) (by omega), y29]
theorem zbw8 {l : List Int} (hb : isB l) (h : (getS l).2 ≠ 0) : l.take (getS l).2.toNat = putS (getS l).1 := by
 unfold getS at h ⊢
 cases e : rd 0 l with
 | none => simp [e] at h
 | some p =>
  have := (rd_inv hb (show rd 0 l = some (p.1, p.2) from e)).1
  simp only [y29]
  rw [this, putS, zbu9]
theorem zbw9 {l : List Int} (hb : isB l) (h : 0 < (getN l).2) : l = put (getN l).1 ++ l.drop (getN l).2.toNat := by
 rw [← zbw7 hb (by omega), List.take_append_drop]
theorem zbxa {l : List Int} (hb : isB l) (h : 0 < (getS l).2) : l = putS (getS l).1 ++ l.drop (getS l).2.toNat := by
 rw [← zbw8 hb (by omega), List.take_append_drop]
theorem zbxb (z : Bool) {l : List Int} (hb : isB l) : Ev (fun q => zlg q ⟨z, l⟩) (getN l) := zbur ⟨z, l⟩ hb
theorem zbxc (z : Bool) {l : List Int} (hb : isB l) : Ev (fun q => zlw q ⟨z, l⟩) (getS l) := zbvc ⟨z, l⟩ hb
theorem zbxd {s : zjr} (h : mayN s = true) : s.State.L.l.length ≤ 1000000 ∧ s.Table.l.length ≤ 1000000 := by
 have hm := zbwk h
 have hk := zbwg (zbwh hm.2.2.1).2.2.2
 have := zbwy h
 omega
def idxOk (n : Int) : Bool := decide (0 ≤ n) && decide (n < 4611686018427387904)
theorem zbxe {n : Int} (h : idxOk n = true) : 0 ≤ n ∧ n < 4611686018427387904 := by simpa only [idxOk, y7, decide_eq_true_eq] using h
theorem zbxf (n : Int) : Ev (fun q => zmz q n) (!(idxOk n)) := by
 unfold idxOk
 refine Ev.succ (Ev.ite (fun c => Ev.ret' ?_) fun c => Ev.ret' ?_) (fun q => rfl)
 ·rw [decide_eq_false (show ¬ 0 ≤ n by omega)]; rfl
 ·rw [decide_eq_true (show 0 ≤ n by omega)]
  by_cases h : n < 4611686018427387904
  ·rw [decide_eq_true h, decide_eq_false (by omega)]; rfl
  ·rw [decide_eq_false h, decide_eq_true (by omega)]; rfl
theorem zbxg (z : Bool) (L : List Int) (hL : L.length ≤ 1000000) : ∀ (k i : Nat), L.length = i + k →
  ∃ r, Ev (fun q => zm0 q z L (L.length : Int) (i : Int)) r ∧ ((L.drop i).all idxOk = !(decide (0 ≤ r)))
 | 0, i, hk => by
  refine ⟨-1, Ev.succ (Ev.ne (Ev.ret _)) (fun q => rfl), ?_⟩
  rw [y13 (by omega)]; rfl
 | k + 1, i, hk => by
  have hi : i < L.length := by omega
  have he : L[((i : Int)).toNat]? = some L[i] := by simp [hi]
  rw [y10 hi, List.all_cons]
  by_cases h : idxOk L[i] = true
  ·obtain ⟨r, hr, h2⟩ := zbxg z L hL k (i + 1) (by omega)
   rw [show ((i + 1 : Nat) : Int) = wrp .i64 ((i : Int) + 1) by rw [zbte (by omega) (by omega)]; omega] at hr
   refine ⟨r, Ev.succ (Ev.po (Ev.po (Ev.opt he (Ev.bind (zbxf _) (Ev.neg (by rw [h]; simp) hr))))) (fun q => rfl), ?_⟩
   rw [h, h2]; rfl
  ·refine ⟨i, Ev.succ (Ev.po (Ev.po (Ev.opt he (Ev.bind (zbxf _) (Ev.pos (by simp only [Bool.not_eq_true] at h; rw [h]; rfl) (Ev.ret _)))))) (fun q => rfl), ?_⟩
   simp only [Bool.not_eq_true] at h
   rw [h, decide_eq_true (by omega)]; rfl
theorem zbxh (s : Sl Int) (hL : s.l.length ≤ 1000000) : Ev (fun q => zm2 q s) (s.l.all idxOk) := by
 obtain ⟨r, h1, h2⟩ := zbxg s.z s.l hL s.l.length 0 (by omega)
 rw [y39] at h2
 rw [h2]
 exact Ev.succ (Ev.bind (Ev.succ h1 (fun q => rfl)) (Ev.ret _)) (fun q => rfl)
def midOk (n : Int) : Bool := decide (-1099511627776 ≤ n) && decide (n ≤ 1099511627776)
theorem zbxi {l : List Int} (h : l.all midOk = true) : inT l := fun x hx => by
 have := List.all_eq_true.1 h x hx
 simpa only [midOk, y7, decide_eq_true_eq] using this
theorem zbxj (n : Int) : Ev (fun q => zm3 q n) (!(midOk n)) := by
 unfold midOk
 refine Ev.succ (Ev.ite (fun c => Ev.ret' ?_) fun c => Ev.ret' ?_) (fun q => rfl)
 ·rw [decide_eq_false (show ¬ -1099511627776 ≤ n by omega)]; rfl
 ·rw [decide_eq_true (show -1099511627776 ≤ n by omega)]
  by_cases h : n ≤ 1099511627776
  ·rw [decide_eq_true h, decide_eq_false (by omega)]; rfl
  ·rw [decide_eq_false h, decide_eq_true (by omega)]; rfl
theorem zbxk (z : Bool) (L : List Int) (h0 h1 h2 h3 : Int) (h4z : Bool) (h4l : List Int) (h5 : Bool) (h6 : Int) (h7z : Bool) (h7l : List zjq) (h1l : List Int) (hL : L.length ≤ 1000000) : ∀ (k i : Nat), L.length = i + k →
  ∃ r, Ev (fun q => zm6 q z L (L.length : Int) (i : Int) h0 h1 h2 h3 h4z h4l h5 h6 h7z h7l h1l) r ∧ ((L.drop i).all midOk = !(decide (0 ≤ r)))
 | 0, i, hk => by
  refine ⟨-1, Ev.succ (Ev.ne (Ev.ret _)) (fun q => rfl), ?_⟩
  rw [y13 (by omega)]; rfl
 | k + 1, i, hk => by
  have hi : i < L.length := by omega
  have he : L[((i : Int)).toNat]? = some L[i] := by simp [hi]
  rw [y10 hi, List.all_cons]
  by_cases h : midOk L[i] = true
  ·obtain ⟨r, hr, hr2⟩ := zbxk z L h0 h1 h2 h3 h4z h4l h5 h6 h7z h7l h1l hL k (i + 1) (by omega)
   rw [show ((i + 1 : Nat) : Int) = wrp .i64 ((i : Int) + 1) by rw [zbte (by omega) (by omega)]; omega] at hr
   refine ⟨r, Ev.succ (Ev.po (Ev.po (Ev.opt he (Ev.bind (zbxj _) (Ev.neg (by rw [h]; simp) hr))))) (fun q => rfl), ?_⟩
   rw [h, hr2]; rfl
  ·refine ⟨i, Ev.succ (Ev.po (Ev.po (Ev.opt he (Ev.bind (zbxj _) (Ev.pos (by simp only [Bool.not_eq_true] at h; rw [h]; rfl) (Ev.ret _)))))) (fun q => rfl), ?_⟩
   simp only [Bool.not_eq_true] at h
   rw [h, decide_eq_true (by omega)]; rfl
theorem zbxl (z z2 : Bool) (L : List zjq) (hL : L.length ≤ 1000000) : ∀ (k i : Nat) (last : Int), L.length = i + k → (∀ e, 0 < i → L[i - 1]? = some e → e.Proc = last) → (i = 0 → last = -1) →
  Ev (fun q => zm4 q z L z2 L (L.length : Int) (i : Int)) (tabB last (L.drop i))
 | 0, i, last, hk, h1, h0 => by
  refine Ev.succ (Ev.ne (Ev.ret' ?_)) (fun q => rfl)
  rw [y13 (by omega)]; rfl
 | k + 1, i, last, hk, h1, h0 => by
  have hi : i < L.length := by omega
  have he : L[((i : Int)).toNat]? = some L[i] := by simp [hi]
  rw [y10 hi]
  simp only [tabB]
  have w1 : wrp .i64 ((i : Int) + 1) = ((i + 1 : Nat) : Int) := by rw [zbte (by omega) (by omega)]; omega
  have ih := zbxl z z2 L hL k (i + 1) L[i].Proc (by omega) (fun e _ hx => by
   rw [Nat.add_sub_cancel, y8 hi] at hx
   simp only [y5] at hx; rw [hx]) (by omega)
  have hx := zbxh ⟨false, [L[i].Proc, L[i].Seq]⟩ (by simp)
  have hxe : ([L[i].Proc, L[i].Seq].all idxOk = true) ↔ (0 ≤ L[i].Proc ∧ L[i].Proc < 4611686018427387904 ∧ 0 ≤ L[i].Seq ∧ L[i].Seq < 4611686018427387904) := by
   simp only [List.all_cons, List.all_nil, idxOk, y7, decide_eq_true_eq, and_true, and_assoc]
  have eok : entOk L[i] = true ↔ (0 ≤ L[i].Proc ∧ L[i].Proc ≤ 64 ∧ 0 ≤ L[i].Seq ∧ L[i].Seq < 4611686018427387904 ∧ -1125899906842624 ≤ L[i].Resp ∧ L[i].Resp ≤ 1125899906842624) := ⟨zbwi, fun h => by simpa only [entOk, y7, decide_eq_true_eq] using h⟩
  have no : ¬ entOk L[i] = true → false = (entOk L[i] && (decide (last < L[i].Proc) && tabB L[i].Proc (L.drop (i + 1)))) := fun h => by
   simp only [Bool.not_eq_true] at h; rw [h]; rfl
  refine Ev.succ (Ev.po (Ev.po (Ev.opt he (Ev.bind hx (Ev.ite (fun c1 => Ev.ite (fun c2 => Ev.ret' ?_) fun c2 => Ev.ite (fun c3 => Ev.ret' ?_) fun c3 => Ev.ite (fun c4 => Ev.ret' ?_) fun c4 => Ev.ite (fun c5 => ?_) fun c5 => ?_) fun c1 => Ev.ret' ?_))))) (fun q => rfl)
  ·exact no (fun h => by have := eok.1 h; omega)
  ·exact no (fun h => by have := eok.1 h; omega)
  ·exact no (fun h => by have := eok.1 h; omega)
  ·have c := hxe.1 c1
   have hk1 : entOk L[i] = true := eok.2 (by omega)
   have w3 : wrp .i64 ((i : Int) - 1) = ((i - 1 : Nat) : Int) := by rw [zbte (by omega) (by omega)]; omega
   have he3 : L[(wrp .i64 ((i : Int) - 1)).toNat]? = some L[i - 1] := by rw [w3, y29]; exact y8 (by omega)
   have hq := h1 L[i - 1] (by omega) (y8 (by omega))
   refine Ev.pos (by rw [w3]; omega) (Ev.opt he3 (Ev.ite (fun c6 => Ev.ret' ?_) fun c6 => ?_))
   ·rw [hk1, decide_eq_false (show ¬ last < L[i].Proc by omega)]; rfl
   ·rw [hk1, decide_eq_true (show last < L[i].Proc by omega), w1]; simpa using ih
  ·have c := hxe.1 c1
   have hk1 : entOk L[i] = true := eok.2 (by omega)
   have := h0 (by omega)
   rw [hk1, decide_eq_true (show last < L[i].Proc by omega), w1]; simpa using ih
  ·exact no (fun h => c1 (hxe.2 (by have := eok.1 h; omega)))
theorem zbxm (s : Sl zjq) (hL : s.l.length ≤ 1000000) : Ev (fun q => zm5 q s) (tabB (-1) s.l) :=
 Ev.succ (zbxl s.z s.z s.l hL s.l.length 0 (-1) (by omega) (fun e h => by omega) (fun _ => rfl)) (fun q => rfl)
def mayL (d : zjs) : Bool := [d.From, d.To, d.Ahead, d.Behind].all idxOk && (decide (d.Mid.l.length ≤ 128) && (d.Mid.l.all midOk && (decide (0 ≤ d.Engine) && (decide (d.Engine < 3) && ((d.Sealed || decide (d.Engine = 0)) && tabB (-1) d.Table.l)))))
theorem zbxn (d : zjs) (h1 : d.Mid.l.length ≤ 1000000) (h2 : d.Table.l.length ≤ 1000000) : Ev (fun q => zm8 q d) (mayL d) := by
 have hx := zbxh ⟨false, [d.From, d.To, d.Ahead, d.Behind]⟩ (by simp)
 obtain ⟨r, hr, hr2⟩ := zbxk d.Mid.z d.Mid.l d.From d.To d.Ahead d.Behind d.Mid.z d.Mid.l d.Sealed d.Engine d.Table.z d.Table.l [d.From, d.To, d.Ahead, d.Behind] h1 d.Mid.l.length 0 (by omega)
 rw [y39] at hr2
 have hr : Ev (fun q => zm7 q d.Mid.z d.Mid.l d.From d.To d.Ahead d.Behind d.Mid.z d.Mid.l d.Sealed d.Engine d.Table.z d.Table.l [d.From, d.To, d.Ahead, d.Behind]) r := Ev.succ hr (fun q => rfl)
 unfold mayL
 rw [hr2]
 refine Ev.succ (Ev.bind hx (Ev.ite (fun c1 => Ev.ite (fun c2 => Ev.bind hr (Ev.ite (fun c3 => Ev.ret' ?_) fun c3 => Ev.ite (fun c4 => Ev.ite (fun c5 => Ev.ite (fun c6 => Ev.bind (zbxm _ h2) (Ev.ret' ?_)) fun c6 => Ev.ite (fun c7 => Ev.bind (zbxm _ h2) (Ev.ret' ?_)) fun c7 => Ev.ret' ?_) fun c5 => Ev.ret' ?_) fun c4 => Ev.ret' ?_)) fun c2 => Ev.ret' ?_) fun c1 => Ev.ret' ?_)) (fun q => rfl)
 ·rw [decide_eq_true c3]; simp
 ·simp only at c1; rw [c1, decide_eq_true (show d.Mid.l.length ≤ 128 by omega), decide_eq_false c3, decide_eq_true c4, decide_eq_true c5, c6]; simp
 ·simp only at c1; rw [c1, decide_eq_true (show d.Mid.l.length ≤ 128 by omega), decide_eq_false c3, decide_eq_true c4, decide_eq_true c5, decide_eq_true c7]; simp
 ·simp only [Bool.not_eq_true] at c6; rw [c6, decide_eq_false c7]; simp
 ·rw [decide_eq_false c5]; simp
 ·rw [decide_eq_false c4]; simp
 ·rw [decide_eq_false (show ¬ d.Mid.l.length ≤ 128 by omega)]; simp
 ·simp only [Bool.not_eq_true] at c1; rw [c1]; rfl
theorem zbxo {d : zjs} (h : mayL d = true) : (0 ≤ d.From ∧ d.From < 4611686018427387904) ∧ (0 ≤ d.To ∧ d.To < 4611686018427387904) ∧ (0 ≤ d.Ahead ∧ d.Ahead < 4611686018427387904) ∧ (0 ≤ d.Behind ∧ d.Behind < 4611686018427387904) ∧ d.Mid.l.length ≤ 128 ∧ inT d.Mid.l ∧ 0 ≤ d.Engine ∧ d.Engine < 3 ∧ (d.Sealed = true ∨ d.Engine = 0) ∧ tabB (-1) d.Table.l = true := by
 simp only [mayL, List.all_cons, List.all_nil, Bool.and_true, y7, decide_eq_true_eq, y42] at h
 obtain ⟨⟨a, b, c, d1⟩, e, f, g, i, j, k⟩ := h
 exact ⟨zbxe a, zbxe b, zbxe c, zbxe d1, e, zbxi f, g, i, j, k⟩
def putsB (l : List Int) : List Int := l.flatMap put
theorem zbxp (x : Int) (l : List Int) : putsB (x :: l) = put x ++ putsB l := by simp [putsB]
theorem zbxq : ∀ l : List Int, (putsB l).length ≤ 10 * l.length
 | [] => by simp [putsB]
 | x :: l => by have := zbxq l; have := zbtn x; rw [zbxp, y11, y22]; omega
theorem zbxr : ∀ {l : List Int}, isB (putsB l)
 | [] => fun c hc => by simp [putsB] at hc
 | x :: l => by rw [zbxp]; exact zbun.2 ⟨zbum _, zbxr⟩
theorem zbxs (z : Bool) (L : List Int) (hL : L.length ≤ 100) (ho : L.all idxOk = true) : ∀ (k i : Nat) (l : List Int) (x : Bool), L.length = i + k → l.length ≤ 1000000 + 10 * i →
  Ev (fun q => znd q z L (L.length : Int) (i : Int) false l x) ⟨false, x, l ++ putsB (L.drop i)⟩
 | 0, i, l, x, hk, hl => by
  refine Ev.succ (Ev.ne (Ev.ret' ?_)) (fun q => rfl)
  rw [y13 (by omega)]; simp [putsB]
 | k + 1, i, l, x, hk, hl => by
  have hi : i < L.length := by omega
  have he : L[((i : Int)).toNat]? = some L[i] := by simp [hi]
  have hr := zbxe (List.all_eq_true.1 ho L[i] (y27 hi))
  have hp := zbtn L[i]
  have ih := zbxs z L hL ho k (i + 1) (l ++ put L[i]) x (by omega) (by rw [y11]; omega)
  rw [show ((i + 1 : Nat) : Int) = wrp .i64 ((i : Int) + 1) by rw [zbte (by omega) (by omega)]; omega] at ih
  refine Ev.succ (Ev.po (Ev.po (Ev.opt he (Ev.bind (zbto ⟨false, x, l⟩ hr.1 hr.2 (by simp only; omega)) (Ev.cast ih ?_))))) (fun q => rfl)
  rw [y10 hi, zbxp, y34]
theorem zbxt (b : Ow Int) (s : Sl Int) (h0 : s.l.length ≠ 0) (hL : s.l.length ≤ 100) (ho : s.l.all idxOk = true) (hl : b.xs.length ≤ 1000000) : Ev (fun q => znf q b s) ⟨false, b.x, b.xs ++ putsB s.l⟩ := by
 obtain ⟨a, ha⟩ : ∃ a, s.l[0]? = some a := ⟨s.l[0]'(by omega), y8 (by omega)⟩
 have hm : a ∈ s.l := y56 ha
 have hr := zbxe (List.all_eq_true.1 ho a hm)
 have hp := zbtn a
 have ih := zbxs s.z s.l hL ho (s.l.length - 1) 1 (b.xs ++ put a) b.x (by omega) (by rw [y11]; omega)
 rw [show ((1 : Nat) : Int) = wrp .i64 1 by rw [zbte (by omega) (by omega)]; rfl] at ih
 have h0 : Ev (fun q => zne q s.z s.l (s.l.length : Int) b.n b.xs b.x) ⟨false, b.x, b.xs ++ putsB s.l⟩ := by
  refine Ev.succ (Ev.po (Ev.opt ha (Ev.bind (zbto ⟨b.n, b.x, b.xs⟩ hr.1 hr.2 (by simp only; omega)) (Ev.cast ih ?_)))) (fun q => rfl)
  have : s.l = a :: s.l.drop 1 := by
   cases hs : s.l with
   | nil => rw [hs] at ha; cases ha
   | cons c t => rw [hs] at ha; simp only [y38, y5] at ha; rw [ha]; rfl
  rw [show putsB s.l = put a ++ putsB (s.l.drop 1) by rw [← zbxp, ← this], y34]
 exact Ev.succ h0 (fun q => rfl)
def sealL (d : zjs) : Int := if d.Sealed = true then 1 + d.Engine else 0
/-- The data of a delta's frame. -/
def delD (d : zjs) : List Int := ((putsB [d.From, d.To, d.Ahead, d.Behind, (d.Mid.l.length : Int)] ++ numsB d.Mid.l) ++ putsB [sealL d, (d.Table.l.length : Int)]) ++ tabE d.Table.l
theorem zbxu {d : zjs} : isB (delD d) := zbun.2 ⟨zbun.2 ⟨zbun.2 ⟨zbxr, zbwq⟩, zbxr⟩, zbwx⟩
theorem zbxv {d : zjs} (h : mayL d = true) : d.Mid.l.length ≤ 128 ∧ d.Table.l.length ≤ 65 ∧ 0 ≤ sealL d ∧ sealL d ≤ 3 := by
 have ho := zbxo h
 have h3 := zbwl ho.2.2.2.2.2.2.2.2.2 (by omega)
 refine ⟨ho.2.2.2.2.1, ?_, ?_⟩
 ·rcases h3 with e | e
  ·omega
  ·rw [e]; simp
 ·unfold sealL; split <;> omega
/-- The same deltas. -/
def sameL (a b : zjs) : Bool := decide (a.From = b.From) && (decide (a.To = b.To) && (decide (a.Ahead = b.Ahead) && (decide (a.Behind = b.Behind) && (decide (a.Mid.l = b.Mid.l) && (decide (a.Sealed = b.Sealed) && (decide (a.Engine = b.Engine) && decide (a.Table.l = b.Table.l)))))))
theorem zbxw (a b : zjs) (hL : a.Mid.l.length ≤ 1099511627776) (hT : a.Table.l.length ≤ 1099511627776) : Ev (fun q => znr q a b) (sameL a b) := by
 unfold sameL
 refine Ev.succ (Ev.ite (fun c1 => Ev.ite (fun c2 => Ev.ite (fun c3 => Ev.ite (fun c4 => Ev.bind (zbv5 _ _ hL) (Ev.ite (fun c5 => Ev.ite (fun c6 => Ev.ite (fun c7 => Ev.bind (zbw1 _ _ hT) (Ev.ret' ?_)) fun c7 => Ev.ret' ?_) fun c6 => Ev.ret' ?_) fun c5 => Ev.ret' ?_)) fun c4 => Ev.ret' ?_) fun c3 => Ev.ret' ?_) fun c2 => Ev.ret' ?_) fun c1 => Ev.ret' ?_) (fun q => rfl)
 ·rw [beq_iff_eq] at c6; simp only [decide_eq_true_eq] at c5; simp [c1, c2, c3, c4, c5, c6, c7]
 ·simp [c7]
 ·rw [beq_iff_eq] at c6; simp [c6]
 ·simp only [decide_eq_true_eq] at c5; simp [c5]
 ·simp [c4]
 ·simp [c3]
 ·simp [c2]
 ·simp [c1]
def gN (r : List Int × Bool) : Int × List Int × Bool := ((getN r.1).1, r.1.drop (getN r.1).2.toNat, r.2 && decide (0 < (getN r.1).2))
def gS (r : List Int × Bool) : Int × List Int × Bool := ((getS r.1).1, r.1.drop (getS r.1).2.toNat, r.2 && decide (0 < (getS r.1).2))
theorem gN_isB {r : List Int × Bool} (h : isB r.1) : isB (gN r).2.1 := zbuz h _
theorem gS_isB {r : List Int × Bool} (h : isB r.1) : isB (gS r).2.1 := zbuz h _
section
variable {R : Type}
theorem getK (z : Bool) {b : List Int} (hb : isB b) (f : Bool) {K : Nat → Int → List Int → Bool → Option R} {r : R} (h : Ev (fun q => K q (gN (b, f)).1 (gN (b, f)).2.1 (gN (b, f)).2.2) r) :
  Ev (fun q => (zlg q ⟨z, b⟩).bind fun r2 => (if f = true then (if 0 ≤ r2.2 then (if r2.2 ≤ (b.length : Int) then K q r2.1 (List.drop r2.2.toNat b) (decide (0 < r2.2)) else none) else none) else (if 0 ≤ r2.2 then (if r2.2 ≤ (b.length : Int) then K q r2.1 (List.drop r2.2.toNat b) false else none) else none))) r := by
 have hl := zbus (l := b)
 refine Ev.bind (zbxb z hb) (Ev.ite (fun c => Ev.pos hl.1 (Ev.pos hl.2.1 ?_)) fun c => Ev.pos hl.1 (Ev.pos hl.2.1 ?_))
 ·rw [c] at h; simpa only [gN, y61] using h
 ·have c' : f = false := by simpa using c
  rw [c'] at h; simpa only [gN, Bool.false_and] using h
theorem getK0 (z : Bool) {b : List Int} (hb : isB b) {K : Nat → Int → List Int → Bool → Option R} {r : R} (h : Ev (fun q => K q (gN (b, true)).1 (gN (b, true)).2.1 (gN (b, true)).2.2) r) :
  Ev (fun q => (zlg q ⟨z, b⟩).bind fun r2 => (if 0 ≤ r2.2 then (if r2.2 ≤ (b.length : Int) then K q r2.1 (List.drop r2.2.toNat b) (decide (0 < r2.2)) else none) else none)) r := by
 have hl := zbus (l := b)
 refine Ev.bind (zbxb z hb) (Ev.pos hl.1 (Ev.pos hl.2.1 ?_))
 simpa only [gN, y61] using h
theorem getSK (z : Bool) {b : List Int} (hb : isB b) (f : Bool) {K : Nat → Int → List Int → Bool → Option R} {r : R} (h : Ev (fun q => K q (gS (b, f)).1 (gS (b, f)).2.1 (gS (b, f)).2.2) r) :
  Ev (fun q => (zlw q ⟨z, b⟩).bind fun r2 => (if f = true then (if 0 ≤ r2.2 then (if r2.2 ≤ (b.length : Int) then K q r2.1 (List.drop r2.2.toNat b) (decide (0 < r2.2)) else none) else none) else (if 0 ≤ r2.2 then (if r2.2 ≤ (b.length : Int) then K q r2.1 (List.drop r2.2.toNat b) false else none) else none))) r := by
 have hl := zbvd (l := b)
 refine Ev.bind (zbxc z hb) (Ev.ite (fun c => Ev.pos hl.1 (Ev.pos hl.2.1 ?_)) fun c => Ev.pos hl.1 (Ev.pos hl.2.1 ?_))
 ·rw [c] at h; simpa only [gS, y61] using h
 ·have c' : f = false := by simpa using c
  rw [c'] at h; simpa only [gS, Bool.false_and] using h
end
theorem zbxx (h0_0 : Int) (h0_1 : Int) (h0_2 : Int) (h0_3 : Int) (h1_0z : Bool) (h1_0l : (List Int)) (h1_1 : Bool) (h2_0 : Int) : Ev (fun q => zlx q h0_0 h0_1 h0_2 h0_3 h1_0z h1_0l h1_1 h2_0) (h0_0, h0_1, h0_2, h0_3, h1_0l, h1_1, h2_0) := Ev.succ (Ev.ret _) (fun q => rfl)
theorem zbxy (h0_0 : Int) (h0_1 : Int) (h0_2 : Int) (h0_3 : Int) (h1_0z : Bool) (h1_0l : (List Int)) (h1_1 : Bool) (hb : isB h1_0l) : Ev (fun q => zly q h0_0 h0_1 h0_2 h0_3 h1_0z h1_0l h1_1) (h0_0, h0_1, h0_2, h0_3, (gN (h1_0l, h1_1)).2.1, (gN (h1_0l, h1_1)).2.2, (gN (h1_0l, h1_1)).1) := Ev.succ (getK h1_0z hb h1_1 (K := fun q v' b' f' => zlx q h0_0 h0_1 h0_2 h0_3 h1_0z b' f' v') (zbxx h0_0 h0_1 h0_2 h0_3 h1_0z (gN (h1_0l, h1_1)).2.1 (gN (h1_0l, h1_1)).2.2 (gN (h1_0l, h1_1)).1)) (fun q => rfl)
theorem zbxz (h0_0 : Int) (h0_1 : Int) (h0_2 : Int) (h1_0z : Bool) (h1_0l : (List Int)) (h1_1 : Bool) (hb : isB h1_0l) : Ev (fun q => zlz q h0_0 h0_1 h0_2 h1_0z h1_0l h1_1) (h0_0, h0_1, h0_2, (gN (h1_0l, h1_1)).1, (gN ((gN (h1_0l, h1_1)).2.1, (gN (h1_0l, h1_1)).2.2)).2.1, (gN ((gN (h1_0l, h1_1)).2.1, (gN (h1_0l, h1_1)).2.2)).2.2, (gN ((gN (h1_0l, h1_1)).2.1, (gN (h1_0l, h1_1)).2.2)).1) := Ev.succ (getK h1_0z hb h1_1 (K := fun q v' b' f' => zly q h0_0 h0_1 h0_2 v' h1_0z b' f') (zbxy h0_0 h0_1 h0_2 (gN (h1_0l, h1_1)).1 h1_0z (gN (h1_0l, h1_1)).2.1 (gN (h1_0l, h1_1)).2.2 (gN_isB hb))) (fun q => rfl)
theorem zbx0 (h0_0 : Int) (h0_1 : Int) (h1_0z : Bool) (h1_0l : (List Int)) (h1_1 : Bool) (hb : isB h1_0l) : Ev (fun q => zl0 q h0_0 h0_1 h1_0z h1_0l h1_1) (h0_0, h0_1, (gN (h1_0l, h1_1)).1, (gN ((gN (h1_0l, h1_1)).2.1, (gN (h1_0l, h1_1)).2.2)).1, (gN ((gN ((gN (h1_0l, h1_1)).2.1, (gN (h1_0l, h1_1)).2.2)).2.1, (gN ((gN (h1_0l, h1_1)).2.1, (gN (h1_0l, h1_1)).2.2)).2.2)).2.1, (gN ((gN ((gN (h1_0l, h1_1)).2.1, (gN (h1_0l, h1_1)).2.2)).2.1, (gN ((gN (h1_0l, h1_1)).2.1, (gN (h1_0l, h1_1)).2.2)).2.2)).2.2, (gN ((gN ((gN (h1_0l, h1_1)).2.1, (gN (h1_0l, h1_1)).2.2)).2.1, (gN ((gN (h1_0l, h1_1)).2.1, (gN (h1_0l, h1_1)).2.2)).2.2)).1) := Ev.succ (getK h1_0z hb h1_1 (K := fun q v' b' f' => zlz q h0_0 h0_1 v' h1_0z b' f') (zbxz h0_0 h0_1 (gN (h1_0l, h1_1)).1 h1_0z (gN (h1_0l, h1_1)).2.1 (gN (h1_0l, h1_1)).2.2 (gN_isB hb))) (fun q => rfl)
theorem zbx1 (h0_0 : Int) (h1_0z : Bool) (h1_0l : (List Int)) (h1_1 : Bool) (hb : isB h1_0l) : Ev (fun q => zl1 q h0_0 h1_0z h1_0l h1_1) (h0_0, (gN (h1_0l, h1_1)).1, (gN ((gN (h1_0l, h1_1)).2.1, (gN (h1_0l, h1_1)).2.2)).1, (gN ((gN ((gN (h1_0l, h1_1)).2.1, (gN (h1_0l, h1_1)).2.2)).2.1, (gN ((gN (h1_0l, h1_1)).2.1, (gN (h1_0l, h1_1)).2.2)).2.2)).1, (gN ((gN ((gN ((gN (h1_0l, h1_1)).2.1, (gN (h1_0l, h1_1)).2.2)).2.1, (gN ((gN (h1_0l, h1_1)).2.1, (gN (h1_0l, h1_1)).2.2)).2.2)).2.1, (gN ((gN ((gN (h1_0l, h1_1)).2.1, (gN (h1_0l, h1_1)).2.2)).2.1, (gN ((gN (h1_0l, h1_1)).2.1, (gN (h1_0l, h1_1)).2.2)).2.2)).2.2)).2.1, (gN ((gN ((gN ((gN (h1_0l, h1_1)).2.1, (gN (h1_0l, h1_1)).2.2)).2.1, (gN ((gN (h1_0l, h1_1)).2.1, (gN (h1_0l, h1_1)).2.2)).2.2)).2.1, (gN ((gN ((gN (h1_0l, h1_1)).2.1, (gN (h1_0l, h1_1)).2.2)).2.1, (gN ((gN (h1_0l, h1_1)).2.1, (gN (h1_0l, h1_1)).2.2)).2.2)).2.2)).2.2, (gN ((gN ((gN ((gN (h1_0l, h1_1)).2.1, (gN (h1_0l, h1_1)).2.2)).2.1, (gN ((gN (h1_0l, h1_1)).2.1, (gN (h1_0l, h1_1)).2.2)).2.2)).2.1, (gN ((gN ((gN (h1_0l, h1_1)).2.1, (gN (h1_0l, h1_1)).2.2)).2.1, (gN ((gN (h1_0l, h1_1)).2.1, (gN (h1_0l, h1_1)).2.2)).2.2)).2.2)).1) := Ev.succ (getK h1_0z hb h1_1 (K := fun q v' b' f' => zl0 q h0_0 v' h1_0z b' f') (zbx0 h0_0 (gN (h1_0l, h1_1)).1 h1_0z (gN (h1_0l, h1_1)).2.1 (gN (h1_0l, h1_1)).2.2 (gN_isB hb))) (fun q => rfl)
theorem zbx2 (h1_0z : Bool) (h1_0l : (List Int)) (hb : isB h1_0l) : Ev (fun q => zl2 q h1_0z h1_0l) ((gN (h1_0l, true)).1, (gN ((gN (h1_0l, true)).2.1, (gN (h1_0l, true)).2.2)).1, (gN ((gN ((gN (h1_0l, true)).2.1, (gN (h1_0l, true)).2.2)).2.1, (gN ((gN (h1_0l, true)).2.1, (gN (h1_0l, true)).2.2)).2.2)).1, (gN ((gN ((gN ((gN (h1_0l, true)).2.1, (gN (h1_0l, true)).2.2)).2.1, (gN ((gN (h1_0l, true)).2.1, (gN (h1_0l, true)).2.2)).2.2)).2.1, (gN ((gN ((gN (h1_0l, true)).2.1, (gN (h1_0l, true)).2.2)).2.1, (gN ((gN (h1_0l, true)).2.1, (gN (h1_0l, true)).2.2)).2.2)).2.2)).1, (gN ((gN ((gN ((gN ((gN (h1_0l, true)).2.1, (gN (h1_0l, true)).2.2)).2.1, (gN ((gN (h1_0l, true)).2.1, (gN (h1_0l, true)).2.2)).2.2)).2.1, (gN ((gN ((gN (h1_0l, true)).2.1, (gN (h1_0l, true)).2.2)).2.1, (gN ((gN (h1_0l, true)).2.1, (gN (h1_0l, true)).2.2)).2.2)).2.2)).2.1, (gN ((gN ((gN ((gN (h1_0l, true)).2.1, (gN (h1_0l, true)).2.2)).2.1, (gN ((gN (h1_0l, true)).2.1, (gN (h1_0l, true)).2.2)).2.2)).2.1, (gN ((gN ((gN (h1_0l, true)).2.1, (gN (h1_0l, true)).2.2)).2.1, (gN ((gN (h1_0l, true)).2.1, (gN (h1_0l, true)).2.2)).2.2)).2.2)).2.2)).2.1, (gN ((gN ((gN ((gN ((gN (h1_0l, true)).2.1, (gN (h1_0l, true)).2.2)).2.1, (gN ((gN (h1_0l, true)).2.1, (gN (h1_0l, true)).2.2)).2.2)).2.1, (gN ((gN ((gN (h1_0l, true)).2.1, (gN (h1_0l, true)).2.2)).2.1, (gN ((gN (h1_0l, true)).2.1, (gN (h1_0l, true)).2.2)).2.2)).2.2)).2.1, (gN ((gN ((gN ((gN (h1_0l, true)).2.1, (gN (h1_0l, true)).2.2)).2.1, (gN ((gN (h1_0l, true)).2.1, (gN (h1_0l, true)).2.2)).2.2)).2.1, (gN ((gN ((gN (h1_0l, true)).2.1, (gN (h1_0l, true)).2.2)).2.1, (gN ((gN (h1_0l, true)).2.1, (gN (h1_0l, true)).2.2)).2.2)).2.2)).2.2)).2.2, (gN ((gN ((gN ((gN ((gN (h1_0l, true)).2.1, (gN (h1_0l, true)).2.2)).2.1, (gN ((gN (h1_0l, true)).2.1, (gN (h1_0l, true)).2.2)).2.2)).2.1, (gN ((gN ((gN (h1_0l, true)).2.1, (gN (h1_0l, true)).2.2)).2.1, (gN ((gN (h1_0l, true)).2.1, (gN (h1_0l, true)).2.2)).2.2)).2.2)).2.1, (gN ((gN ((gN ((gN (h1_0l, true)).2.1, (gN (h1_0l, true)).2.2)).2.1, (gN ((gN (h1_0l, true)).2.1, (gN (h1_0l, true)).2.2)).2.2)).2.1, (gN ((gN ((gN (h1_0l, true)).2.1, (gN (h1_0l, true)).2.2)).2.1, (gN ((gN (h1_0l, true)).2.1, (gN (h1_0l, true)).2.2)).2.2)).2.2)).2.2)).1) := Ev.succ (getK0 h1_0z hb (K := fun q v' b' f' => zl1 q v' h1_0z b' f') (zbx1 (gN (h1_0l, true)).1 h1_0z (gN (h1_0l, true)).2.1 (gN (h1_0l, true)).2.2 (gN_isB hb))) (fun q => rfl)
theorem s0_ev (h1_0z : Bool) (h1_0l : (List Int)) (hb : isB h1_0l) : Ev (fun q => zl3 q h1_0z h1_0l) ((gN (h1_0l, true)).1, (gN ((gN (h1_0l, true)).2.1, (gN (h1_0l, true)).2.2)).1, (gN ((gN ((gN (h1_0l, true)).2.1, (gN (h1_0l, true)).2.2)).2.1, (gN ((gN (h1_0l, true)).2.1, (gN (h1_0l, true)).2.2)).2.2)).1, (gN ((gN ((gN ((gN (h1_0l, true)).2.1, (gN (h1_0l, true)).2.2)).2.1, (gN ((gN (h1_0l, true)).2.1, (gN (h1_0l, true)).2.2)).2.2)).2.1, (gN ((gN ((gN (h1_0l, true)).2.1, (gN (h1_0l, true)).2.2)).2.1, (gN ((gN (h1_0l, true)).2.1, (gN (h1_0l, true)).2.2)).2.2)).2.2)).1, (gN ((gN ((gN ((gN ((gN (h1_0l, true)).2.1, (gN (h1_0l, true)).2.2)).2.1, (gN ((gN (h1_0l, true)).2.1, (gN (h1_0l, true)).2.2)).2.2)).2.1, (gN ((gN ((gN (h1_0l, true)).2.1, (gN (h1_0l, true)).2.2)).2.1, (gN ((gN (h1_0l, true)).2.1, (gN (h1_0l, true)).2.2)).2.2)).2.2)).2.1, (gN ((gN ((gN ((gN (h1_0l, true)).2.1, (gN (h1_0l, true)).2.2)).2.1, (gN ((gN (h1_0l, true)).2.1, (gN (h1_0l, true)).2.2)).2.2)).2.1, (gN ((gN ((gN (h1_0l, true)).2.1, (gN (h1_0l, true)).2.2)).2.1, (gN ((gN (h1_0l, true)).2.1, (gN (h1_0l, true)).2.2)).2.2)).2.2)).2.2)).2.1, (gN ((gN ((gN ((gN ((gN (h1_0l, true)).2.1, (gN (h1_0l, true)).2.2)).2.1, (gN ((gN (h1_0l, true)).2.1, (gN (h1_0l, true)).2.2)).2.2)).2.1, (gN ((gN ((gN (h1_0l, true)).2.1, (gN (h1_0l, true)).2.2)).2.1, (gN ((gN (h1_0l, true)).2.1, (gN (h1_0l, true)).2.2)).2.2)).2.2)).2.1, (gN ((gN ((gN ((gN (h1_0l, true)).2.1, (gN (h1_0l, true)).2.2)).2.1, (gN ((gN (h1_0l, true)).2.1, (gN (h1_0l, true)).2.2)).2.2)).2.1, (gN ((gN ((gN (h1_0l, true)).2.1, (gN (h1_0l, true)).2.2)).2.1, (gN ((gN (h1_0l, true)).2.1, (gN (h1_0l, true)).2.2)).2.2)).2.2)).2.2)).2.2, (gN ((gN ((gN ((gN ((gN (h1_0l, true)).2.1, (gN (h1_0l, true)).2.2)).2.1, (gN ((gN (h1_0l, true)).2.1, (gN (h1_0l, true)).2.2)).2.2)).2.1, (gN ((gN ((gN (h1_0l, true)).2.1, (gN (h1_0l, true)).2.2)).2.1, (gN ((gN (h1_0l, true)).2.1, (gN (h1_0l, true)).2.2)).2.2)).2.2)).2.1, (gN ((gN ((gN ((gN (h1_0l, true)).2.1, (gN (h1_0l, true)).2.2)).2.1, (gN ((gN (h1_0l, true)).2.1, (gN (h1_0l, true)).2.2)).2.2)).2.1, (gN ((gN ((gN (h1_0l, true)).2.1, (gN (h1_0l, true)).2.2)).2.1, (gN ((gN (h1_0l, true)).2.1, (gN (h1_0l, true)).2.2)).2.2)).2.2)).2.2)).1) := Ev.succ (zbx2 h1_0z h1_0l hb) (fun q => rfl)
theorem zbx3 (h0_0 : Int) (h0_1 : Int) (h0_2 : Int) (h0_3 : Int) (h1_0z : Bool) (h1_0l : (List Int)) (h1_1 : Bool) (h2_0 : Int) (h3_0 : Int) : Ev (fun q => zl4 q h0_0 h0_1 h0_2 h0_3 h1_0z h1_0l h1_1 h2_0 h3_0) (h1_0l, h1_1, h2_0, h3_0) := Ev.succ (Ev.ret _) (fun q => rfl)
theorem zbx4 (h0_0 : Int) (h0_1 : Int) (h0_2 : Int) (h0_3 : Int) (h1_0z : Bool) (h1_0l : (List Int)) (h1_1 : Bool) (h2_0 : Int) (hb : isB h1_0l) : Ev (fun q => zl5 q h0_0 h0_1 h0_2 h0_3 h1_0z h1_0l h1_1 h2_0) ((gN (h1_0l, h1_1)).2.1, (gN (h1_0l, h1_1)).2.2, h2_0, (gN (h1_0l, h1_1)).1) := Ev.succ (getK h1_0z hb h1_1 (K := fun q v' b' f' => zl4 q h0_0 h0_1 h0_2 h0_3 h1_0z b' f' h2_0 v') (zbx3 h0_0 h0_1 h0_2 h0_3 h1_0z (gN (h1_0l, h1_1)).2.1 (gN (h1_0l, h1_1)).2.2 h2_0 (gN (h1_0l, h1_1)).1)) (fun q => rfl)
theorem zbx5 (h0_0 : Int) (h0_1 : Int) (h0_2 : Int) (h0_3 : Int) (h1_0z : Bool) (h1_0l : (List Int)) (h1_1 : Bool) (hb : isB h1_0l) : Ev (fun q => zl6 q h0_0 h0_1 h0_2 h0_3 h1_0z h1_0l h1_1) ((gN ((gN (h1_0l, h1_1)).2.1, (gN (h1_0l, h1_1)).2.2)).2.1, (gN ((gN (h1_0l, h1_1)).2.1, (gN (h1_0l, h1_1)).2.2)).2.2, (gN (h1_0l, h1_1)).1, (gN ((gN (h1_0l, h1_1)).2.1, (gN (h1_0l, h1_1)).2.2)).1) := Ev.succ (getK h1_0z hb h1_1 (K := fun q v' b' f' => zl5 q h0_0 h0_1 h0_2 h0_3 h1_0z b' f' v') (zbx4 h0_0 h0_1 h0_2 h0_3 h1_0z (gN (h1_0l, h1_1)).2.1 (gN (h1_0l, h1_1)).2.2 (gN (h1_0l, h1_1)).1 (gN_isB hb))) (fun q => rfl)
theorem s1_ev (h0_0 : Int) (h0_1 : Int) (h0_2 : Int) (h0_3 : Int) (h1_0z : Bool) (h1_0l : (List Int)) (h1_1 : Bool) (hb : isB h1_0l) : Ev (fun q => zl7 q h0_0 h0_1 h0_2 h0_3 h1_0z h1_0l h1_1) ((gN ((gN (h1_0l, h1_1)).2.1, (gN (h1_0l, h1_1)).2.2)).2.1, (gN ((gN (h1_0l, h1_1)).2.1, (gN (h1_0l, h1_1)).2.2)).2.2, (gN (h1_0l, h1_1)).1, (gN ((gN (h1_0l, h1_1)).2.1, (gN (h1_0l, h1_1)).2.2)).1) := Ev.succ (zbx5 h0_0 h0_1 h0_2 h0_3 h1_0z h1_0l h1_1 hb) (fun q => rfl)
theorem zbx6 (h0_0 : Int) (h0_1 : Int) (h0_2 : Int) (h0_3 : Int) (h1_0z : Bool) (h1_0l : (List Int)) (h1_1 : Bool) (h2_0 : Int) (h3_0 : Int) (h4l : (List Int)) : Ev (fun q => zl8 q h0_0 h0_1 h0_2 h0_3 h1_0z h1_0l h1_1 h2_0 h3_0 h4l) (h4l.length, h1_0l, h1_1, h2_0, h3_0) := Ev.succ (Ev.ret _) (fun q => rfl)
theorem zbx7 (h0_0 : Int) (h0_1 : Int) (h0_2 : Int) (h0_3 : Int) (h1_0z : Bool) (h1_0l : (List Int)) (h1_1 : Bool) (h2_0 : Int) (h4l : (List Int)) (hb : isB h1_0l) : Ev (fun q => zl9 q h0_0 h0_1 h0_2 h0_3 h1_0z h1_0l h1_1 h2_0 h4l) (h4l.length, (gN (h1_0l, h1_1)).2.1, (gN (h1_0l, h1_1)).2.2, h2_0, (gN (h1_0l, h1_1)).1) := Ev.succ (getK h1_0z hb h1_1 (K := fun q v' b' f' => zl8 q h0_0 h0_1 h0_2 h0_3 h1_0z b' f' h2_0 v' h4l) (zbx6 h0_0 h0_1 h0_2 h0_3 h1_0z (gN (h1_0l, h1_1)).2.1 (gN (h1_0l, h1_1)).2.2 h2_0 (gN (h1_0l, h1_1)).1 h4l)) (fun q => rfl)
theorem zbx8 (h0_0 : Int) (h0_1 : Int) (h0_2 : Int) (h0_3 : Int) (h1_0z : Bool) (h1_0l : (List Int)) (h1_1 : Bool) (h4l : (List Int)) (hb : isB h1_0l) : Ev (fun q => zma q h0_0 h0_1 h0_2 h0_3 h1_0z h1_0l h1_1 h4l) (h4l.length, (gN ((gN (h1_0l, h1_1)).2.1, (gN (h1_0l, h1_1)).2.2)).2.1, (gN ((gN (h1_0l, h1_1)).2.1, (gN (h1_0l, h1_1)).2.2)).2.2, (gN (h1_0l, h1_1)).1, (gN ((gN (h1_0l, h1_1)).2.1, (gN (h1_0l, h1_1)).2.2)).1) := Ev.succ (getK h1_0z hb h1_1 (K := fun q v' b' f' => zl9 q h0_0 h0_1 h0_2 h0_3 h1_0z b' f' v' h4l) (zbx7 h0_0 h0_1 h0_2 h0_3 h1_0z (gN (h1_0l, h1_1)).2.1 (gN (h1_0l, h1_1)).2.2 (gN (h1_0l, h1_1)).1 h4l (gN_isB hb))) (fun q => rfl)
theorem s2_ev (h0_0 : Int) (h0_1 : Int) (h0_2 : Int) (h0_3 : Int) (h1_0z : Bool) (h1_0l : (List Int)) (h1_1 : Bool) (h4l : (List Int)) (hb : isB h1_0l) : Ev (fun q => zmb q h0_0 h0_1 h0_2 h0_3 h1_0z h1_0l h1_1 h4l) (h4l.length, (gN ((gN (h1_0l, h1_1)).2.1, (gN (h1_0l, h1_1)).2.2)).2.1, (gN ((gN (h1_0l, h1_1)).2.1, (gN (h1_0l, h1_1)).2.2)).2.2, (gN (h1_0l, h1_1)).1, (gN ((gN (h1_0l, h1_1)).2.1, (gN (h1_0l, h1_1)).2.2)).1) := Ev.succ (zbx8 h0_0 h0_1 h0_2 h0_3 h1_0z h1_0l h1_1 h4l hb) (fun q => rfl)
theorem zbx9 (h0_0 : Int) (h0_1 : Int) (h0_2 : Int) (h0_3 : Int) (h0_5 : Bool) (h0_6 : Int) (h1_0z : Bool) (h1_0l : (List Int)) (h1_1 : Bool) (h2_0 : Int) (h3_0 : Int) (h3_1 : Int) : Ev (fun q => zmc q h0_0 h0_1 h0_2 h0_3 h0_5 h0_6 h1_0z h1_0l h1_1 h2_0 h3_0 h3_1) (h1_0l, h1_1, h3_0, h3_1) := Ev.succ (Ev.ret _) (fun q => rfl)
theorem zbya (h0_0 : Int) (h0_1 : Int) (h0_2 : Int) (h0_3 : Int) (h0_5 : Bool) (h0_6 : Int) (h1_0z : Bool) (h1_0l : (List Int)) (h1_1 : Bool) (h2_0 : Int) (h3_0 : Int) (hb : isB h1_0l) : Ev (fun q => zmd q h0_0 h0_1 h0_2 h0_3 h0_5 h0_6 h1_0z h1_0l h1_1 h2_0 h3_0) ((gN (h1_0l, h1_1)).2.1, (gN (h1_0l, h1_1)).2.2, h3_0, (gN (h1_0l, h1_1)).1) := Ev.succ (getK h1_0z hb h1_1 (K := fun q v' b' f' => zmc q h0_0 h0_1 h0_2 h0_3 h0_5 h0_6 h1_0z b' f' h2_0 h3_0 v') (zbx9 h0_0 h0_1 h0_2 h0_3 h0_5 h0_6 h1_0z (gN (h1_0l, h1_1)).2.1 (gN (h1_0l, h1_1)).2.2 h2_0 h3_0 (gN (h1_0l, h1_1)).1)) (fun q => rfl)
theorem zbyb (h0_0 : Int) (h0_1 : Int) (h0_2 : Int) (h0_3 : Int) (h0_5 : Bool) (h0_6 : Int) (h1_0z : Bool) (h1_0l : (List Int)) (h1_1 : Bool) (h2_0 : Int) (hb : isB h1_0l) : Ev (fun q => zme q h0_0 h0_1 h0_2 h0_3 h0_5 h0_6 h1_0z h1_0l h1_1 h2_0) ((gN ((gN (h1_0l, h1_1)).2.1, (gN (h1_0l, h1_1)).2.2)).2.1, (gN ((gN (h1_0l, h1_1)).2.1, (gN (h1_0l, h1_1)).2.2)).2.2, (gN (h1_0l, h1_1)).1, (gN ((gN (h1_0l, h1_1)).2.1, (gN (h1_0l, h1_1)).2.2)).1) := Ev.succ (getK h1_0z hb h1_1 (K := fun q v' b' f' => zmd q h0_0 h0_1 h0_2 h0_3 h0_5 h0_6 h1_0z b' f' h2_0 v') (zbya h0_0 h0_1 h0_2 h0_3 h0_5 h0_6 h1_0z (gN (h1_0l, h1_1)).2.1 (gN (h1_0l, h1_1)).2.2 h2_0 (gN (h1_0l, h1_1)).1 (gN_isB hb))) (fun q => rfl)
theorem s3_ev (h0_0 : Int) (h0_1 : Int) (h0_2 : Int) (h0_3 : Int) (h0_5 : Bool) (h0_6 : Int) (h1_0z : Bool) (h1_0l : (List Int)) (h1_1 : Bool) (h2_0 : Int) (hb : isB h1_0l) : Ev (fun q => zmf q h0_0 h0_1 h0_2 h0_3 h0_5 h0_6 h1_0z h1_0l h1_1 h2_0) ((gN ((gN (h1_0l, h1_1)).2.1, (gN (h1_0l, h1_1)).2.2)).2.1, (gN ((gN (h1_0l, h1_1)).2.1, (gN (h1_0l, h1_1)).2.2)).2.2, (gN (h1_0l, h1_1)).1, (gN ((gN (h1_0l, h1_1)).2.1, (gN (h1_0l, h1_1)).2.2)).1) := Ev.succ (zbyb h0_0 h0_1 h0_2 h0_3 h0_5 h0_6 h1_0z h1_0l h1_1 h2_0 hb) (fun q => rfl)
theorem zbyc (h0_0 : Int) (h0_1 : Int) (h0_2 : Int) (h0_3 : Int) (h0_4len : Nat) (h0_5 : Bool) (h0_6 : Int) (h1_0z : Bool) (h1_0l : (List Int)) (h1_1 : Bool) (h2_0 : Int) (h3l : (List Int)) (h4_0 : Int) (h4_1 : Int) : Ev (fun q => zmg q h0_0 h0_1 h0_2 h0_3 h0_4len h0_5 h0_6 h1_0z h1_0l h1_1 h2_0 h3l h4_0 h4_1) (h1_0l, h1_1, h4_0, h4_1) := Ev.succ (Ev.ret _) (fun q => rfl)
theorem zbyd (h0_0 : Int) (h0_1 : Int) (h0_2 : Int) (h0_3 : Int) (h0_4len : Nat) (h0_5 : Bool) (h0_6 : Int) (h1_0z : Bool) (h1_0l : (List Int)) (h1_1 : Bool) (h2_0 : Int) (h3l : (List Int)) (h4_0 : Int) (hb : isB h1_0l) : Ev (fun q => zmh q h0_0 h0_1 h0_2 h0_3 h0_4len h0_5 h0_6 h1_0z h1_0l h1_1 h2_0 h3l h4_0) ((gN (h1_0l, h1_1)).2.1, (gN (h1_0l, h1_1)).2.2, h4_0, (gN (h1_0l, h1_1)).1) := Ev.succ (getK h1_0z hb h1_1 (K := fun q v' b' f' => zmg q h0_0 h0_1 h0_2 h0_3 h0_4len h0_5 h0_6 h1_0z b' f' h2_0 h3l h4_0 v') (zbyc h0_0 h0_1 h0_2 h0_3 h0_4len h0_5 h0_6 h1_0z (gN (h1_0l, h1_1)).2.1 (gN (h1_0l, h1_1)).2.2 h2_0 h3l h4_0 (gN (h1_0l, h1_1)).1)) (fun q => rfl)
theorem zbye (h0_0 : Int) (h0_1 : Int) (h0_2 : Int) (h0_3 : Int) (h0_4len : Nat) (h0_5 : Bool) (h0_6 : Int) (h1_0z : Bool) (h1_0l : (List Int)) (h1_1 : Bool) (h2_0 : Int) (h3l : (List Int)) (hb : isB h1_0l) : Ev (fun q => zmi q h0_0 h0_1 h0_2 h0_3 h0_4len h0_5 h0_6 h1_0z h1_0l h1_1 h2_0 h3l) ((gN ((gN (h1_0l, h1_1)).2.1, (gN (h1_0l, h1_1)).2.2)).2.1, (gN ((gN (h1_0l, h1_1)).2.1, (gN (h1_0l, h1_1)).2.2)).2.2, (gN (h1_0l, h1_1)).1, (gN ((gN (h1_0l, h1_1)).2.1, (gN (h1_0l, h1_1)).2.2)).1) := Ev.succ (getK h1_0z hb h1_1 (K := fun q v' b' f' => zmh q h0_0 h0_1 h0_2 h0_3 h0_4len h0_5 h0_6 h1_0z b' f' h2_0 h3l v') (zbyd h0_0 h0_1 h0_2 h0_3 h0_4len h0_5 h0_6 h1_0z (gN (h1_0l, h1_1)).2.1 (gN (h1_0l, h1_1)).2.2 h2_0 h3l (gN (h1_0l, h1_1)).1 (gN_isB hb))) (fun q => rfl)
theorem s4_ev (h0_0 : Int) (h0_1 : Int) (h0_2 : Int) (h0_3 : Int) (h0_4len : Nat) (h0_5 : Bool) (h0_6 : Int) (h1_0z : Bool) (h1_0l : (List Int)) (h1_1 : Bool) (h2_0 : Int) (h3l : (List Int)) (hb : isB h1_0l) : Ev (fun q => zmj q h0_0 h0_1 h0_2 h0_3 h0_4len h0_5 h0_6 h1_0z h1_0l h1_1 h2_0 h3l) ((gN ((gN (h1_0l, h1_1)).2.1, (gN (h1_0l, h1_1)).2.2)).2.1, (gN ((gN (h1_0l, h1_1)).2.1, (gN (h1_0l, h1_1)).2.2)).2.2, (gN (h1_0l, h1_1)).1, (gN ((gN (h1_0l, h1_1)).2.1, (gN (h1_0l, h1_1)).2.2)).1) := Ev.succ (zbye h0_0 h0_1 h0_2 h0_3 h0_4len h0_5 h0_6 h1_0z h1_0l h1_1 h2_0 h3l hb) (fun q => rfl)
theorem zbyf (h0_0 : Int) (h0_1 : Int) (h0_2 : Int) (h0_3 : Int) (h0_5 : Bool) (h0_6 : Int) (h1_0z : Bool) (h1_0l : (List Int)) (h1_1 : Bool) (h2_0 : Int) (h3l : (List zjq)) (h4_0 : Int) (h4_1 : Int) : Ev (fun q => zmk q h0_0 h0_1 h0_2 h0_3 h0_5 h0_6 h1_0z h1_0l h1_1 h2_0 h3l h4_0 h4_1) (h3l.length, h1_0l, h1_1, h4_0, h4_1) := Ev.succ (Ev.ret _) (fun q => rfl)
theorem zbyg (h0_0 : Int) (h0_1 : Int) (h0_2 : Int) (h0_3 : Int) (h0_5 : Bool) (h0_6 : Int) (h1_0z : Bool) (h1_0l : (List Int)) (h1_1 : Bool) (h2_0 : Int) (h3l : (List zjq)) (h4_0 : Int) (hb : isB h1_0l) : Ev (fun q => zml q h0_0 h0_1 h0_2 h0_3 h0_5 h0_6 h1_0z h1_0l h1_1 h2_0 h3l h4_0) (h3l.length, (gN (h1_0l, h1_1)).2.1, (gN (h1_0l, h1_1)).2.2, h4_0, (gN (h1_0l, h1_1)).1) := Ev.succ (getK h1_0z hb h1_1 (K := fun q v' b' f' => zmk q h0_0 h0_1 h0_2 h0_3 h0_5 h0_6 h1_0z b' f' h2_0 h3l h4_0 v') (zbyf h0_0 h0_1 h0_2 h0_3 h0_5 h0_6 h1_0z (gN (h1_0l, h1_1)).2.1 (gN (h1_0l, h1_1)).2.2 h2_0 h3l h4_0 (gN (h1_0l, h1_1)).1)) (fun q => rfl)
theorem zbyh (h0_0 : Int) (h0_1 : Int) (h0_2 : Int) (h0_3 : Int) (h0_5 : Bool) (h0_6 : Int) (h1_0z : Bool) (h1_0l : (List Int)) (h1_1 : Bool) (h2_0 : Int) (h3l : (List zjq)) (hb : isB h1_0l) : Ev (fun q => zmm q h0_0 h0_1 h0_2 h0_3 h0_5 h0_6 h1_0z h1_0l h1_1 h2_0 h3l) (h3l.length, (gN ((gN (h1_0l, h1_1)).2.1, (gN (h1_0l, h1_1)).2.2)).2.1, (gN ((gN (h1_0l, h1_1)).2.1, (gN (h1_0l, h1_1)).2.2)).2.2, (gN (h1_0l, h1_1)).1, (gN ((gN (h1_0l, h1_1)).2.1, (gN (h1_0l, h1_1)).2.2)).1) := Ev.succ (getK h1_0z hb h1_1 (K := fun q v' b' f' => zml q h0_0 h0_1 h0_2 h0_3 h0_5 h0_6 h1_0z b' f' h2_0 h3l v') (zbyg h0_0 h0_1 h0_2 h0_3 h0_5 h0_6 h1_0z (gN (h1_0l, h1_1)).2.1 (gN (h1_0l, h1_1)).2.2 h2_0 h3l (gN (h1_0l, h1_1)).1 (gN_isB hb))) (fun q => rfl)
theorem s5_ev (h0_0 : Int) (h0_1 : Int) (h0_2 : Int) (h0_3 : Int) (h0_5 : Bool) (h0_6 : Int) (h1_0z : Bool) (h1_0l : (List Int)) (h1_1 : Bool) (h2_0 : Int) (h3l : (List zjq)) (hb : isB h1_0l) : Ev (fun q => zmn q h0_0 h0_1 h0_2 h0_3 h0_5 h0_6 h1_0z h1_0l h1_1 h2_0 h3l) (h3l.length, (gN ((gN (h1_0l, h1_1)).2.1, (gN (h1_0l, h1_1)).2.2)).2.1, (gN ((gN (h1_0l, h1_1)).2.1, (gN (h1_0l, h1_1)).2.2)).2.2, (gN (h1_0l, h1_1)).1, (gN ((gN (h1_0l, h1_1)).2.1, (gN (h1_0l, h1_1)).2.2)).1) := Ev.succ (zbyh h0_0 h0_1 h0_2 h0_3 h0_5 h0_6 h1_0z h1_0l h1_1 h2_0 h3l hb) (fun q => rfl)
theorem zbyi (h0_0 : Int) (h0_1 : Int) (h0_2 : Int) (h0_3 : Int) (h0_4len : Nat) (h0_5 : Bool) (h0_6 : Int) (h1_0z : Bool) (h1_0l : (List Int)) (h1_1 : Bool) (h2_0 : Int) (h3l : (List Int)) (h4l : (List zjq)) (h5_0 : Int) (h5_1 : Int) : Ev (fun q => zmo q h0_0 h0_1 h0_2 h0_3 h0_4len h0_5 h0_6 h1_0z h1_0l h1_1 h2_0 h3l h4l h5_0 h5_1) (h4l.length, h1_0l, h1_1, h5_0, h5_1) := Ev.succ (Ev.ret _) (fun q => rfl)
theorem zbyj (h0_0 : Int) (h0_1 : Int) (h0_2 : Int) (h0_3 : Int) (h0_4len : Nat) (h0_5 : Bool) (h0_6 : Int) (h1_0z : Bool) (h1_0l : (List Int)) (h1_1 : Bool) (h2_0 : Int) (h3l : (List Int)) (h4l : (List zjq)) (h5_0 : Int) (hb : isB h1_0l) : Ev (fun q => zmp q h0_0 h0_1 h0_2 h0_3 h0_4len h0_5 h0_6 h1_0z h1_0l h1_1 h2_0 h3l h4l h5_0) (h4l.length, (gN (h1_0l, h1_1)).2.1, (gN (h1_0l, h1_1)).2.2, h5_0, (gN (h1_0l, h1_1)).1) := Ev.succ (getK h1_0z hb h1_1 (K := fun q v' b' f' => zmo q h0_0 h0_1 h0_2 h0_3 h0_4len h0_5 h0_6 h1_0z b' f' h2_0 h3l h4l h5_0 v') (zbyi h0_0 h0_1 h0_2 h0_3 h0_4len h0_5 h0_6 h1_0z (gN (h1_0l, h1_1)).2.1 (gN (h1_0l, h1_1)).2.2 h2_0 h3l h4l h5_0 (gN (h1_0l, h1_1)).1)) (fun q => rfl)
theorem zbyk (h0_0 : Int) (h0_1 : Int) (h0_2 : Int) (h0_3 : Int) (h0_4len : Nat) (h0_5 : Bool) (h0_6 : Int) (h1_0z : Bool) (h1_0l : (List Int)) (h1_1 : Bool) (h2_0 : Int) (h3l : (List Int)) (h4l : (List zjq)) (hb : isB h1_0l) : Ev (fun q => zmq q h0_0 h0_1 h0_2 h0_3 h0_4len h0_5 h0_6 h1_0z h1_0l h1_1 h2_0 h3l h4l) (h4l.length, (gN ((gN (h1_0l, h1_1)).2.1, (gN (h1_0l, h1_1)).2.2)).2.1, (gN ((gN (h1_0l, h1_1)).2.1, (gN (h1_0l, h1_1)).2.2)).2.2, (gN (h1_0l, h1_1)).1, (gN ((gN (h1_0l, h1_1)).2.1, (gN (h1_0l, h1_1)).2.2)).1) := Ev.succ (getK h1_0z hb h1_1 (K := fun q v' b' f' => zmp q h0_0 h0_1 h0_2 h0_3 h0_4len h0_5 h0_6 h1_0z b' f' h2_0 h3l h4l v') (zbyj h0_0 h0_1 h0_2 h0_3 h0_4len h0_5 h0_6 h1_0z (gN (h1_0l, h1_1)).2.1 (gN (h1_0l, h1_1)).2.2 h2_0 h3l h4l (gN (h1_0l, h1_1)).1 (gN_isB hb))) (fun q => rfl)
theorem s6_ev (h0_0 : Int) (h0_1 : Int) (h0_2 : Int) (h0_3 : Int) (h0_4len : Nat) (h0_5 : Bool) (h0_6 : Int) (h1_0z : Bool) (h1_0l : (List Int)) (h1_1 : Bool) (h2_0 : Int) (h3l : (List Int)) (h4l : (List zjq)) (hb : isB h1_0l) : Ev (fun q => zmr q h0_0 h0_1 h0_2 h0_3 h0_4len h0_5 h0_6 h1_0z h1_0l h1_1 h2_0 h3l h4l) (h4l.length, (gN ((gN (h1_0l, h1_1)).2.1, (gN (h1_0l, h1_1)).2.2)).2.1, (gN ((gN (h1_0l, h1_1)).2.1, (gN (h1_0l, h1_1)).2.2)).2.2, (gN (h1_0l, h1_1)).1, (gN ((gN (h1_0l, h1_1)).2.1, (gN (h1_0l, h1_1)).2.2)).1) := Ev.succ (zbyk h0_0 h0_1 h0_2 h0_3 h0_4len h0_5 h0_6 h1_0z h1_0l h1_1 h2_0 h3l h4l hb) (fun q => rfl)
def entsR : Nat → List Int × Bool → List zjq × List Int × Bool
 | 0, r => ([], r)
 | k + 1, r => if r.2 = true then (⟨(gN r).1, (gN (gN r).2).1, (gS (gN (gN r).2).2).1⟩ :: (entsR k (gS (gN (gN r).2).2).2).1, (entsR k (gS (gN (gN r).2).2).2).2) else ([], r)
theorem zbyl (k : Nat) {r : List Int × Bool} (h : r.2 ≠ true) : entsR k r = ([], r) := by
 cases k with
 | zero => rfl
 | succ k => simp only [entsR]; rw [if_neg h]
theorem zbym (k : Nat) (b : List Int) : entsR (k + 1) (b, true) = (⟨(gN (b, true)).1, (gN (gN (b, true)).2).1, (gS (gN (gN (b, true)).2).2).1⟩ :: (entsR k (gS (gN (gN (b, true)).2).2).2).1, (entsR k (gS (gN (gN (b, true)).2).2).2).2) := by
 rw [entsR, if_pos rfl]
theorem zbyn {r : List Int × Bool} (h : (gN r).2.2 = true) : r.2 = true ∧ 0 < (getN r.1).2 ∧ (gN r).2.1.length + 1 ≤ r.1.length := by
 have hl := zbus (l := r.1)
 simp only [gN, y7, decide_eq_true_eq, y14] at h ⊢
 exact ⟨h.1, h.2, by omega⟩
theorem zbyo {r : List Int × Bool} (h : (gS r).2.2 = true) : r.2 = true ∧ 0 < (getS r.1).2 ∧ (gS r).2.1.length + 1 ≤ r.1.length := by
 have hl := zbvd (l := r.1)
 simp only [gS, y7, decide_eq_true_eq, y14] at h ⊢
 exact ⟨h.1, h.2, by omega⟩
/-- What follows the numbers. -/
def tlD (d0 d1 d2 d3 : Int) (mid : Sl Int) (r : List Int × Bool) : zjs × Bool :=
 if 3 < (gN r).1 then (⟨d0, d1, d2, d3, mid, false, 0, ⟨true, []⟩⟩, false) else
 (⟨d0, d1, d2, d3, mid, decide (0 < (gN r).1), if (gN r).1 - 1 < 0 then 0 else (gN r).1 - 1, ⟨(entsR (gN (gN r).2).1.toNat (gN (gN r).2).2).1.isEmpty, (entsR (gN (gN r).2).1.toNat (gN (gN r).2).2).1⟩⟩,
  (entsR (gN (gN r).2).1.toNat (gN (gN r).2).2).2.2 && decide (((entsR (gN (gN r).2).1.toNat (gN (gN r).2).2).2.1.length : Int) = 0))
theorem zbyp (d0 d1 d2 d3 : Int) (len : Nat) (s5 : Bool) (s6 : Int) (z : Bool) (many : Nat) (hm : many < 4611686018427387904) (h3l : List Int) : ∀ (k i : Nat) (b : List Int) (f : Bool) (acc : List zjq), many = i + k → isB b → (f = true → acc.length + b.length ≤ 1000000) →
  Ev (fun q => zms q (i : Int) d0 d1 d2 d3 len s5 s6 z b f (many : Int) h3l acc) ((⟨d0, d1, d2, d3, ⟨false, h3l⟩, s5, s6, ⟨false, acc ++ (entsR k (b, f)).1⟩⟩ : zjs), (entsR k (b, f)).2.2 && decide (((entsR k (b, f)).2.1.length : Int) = 0))
 | 0, i, b, f, acc, hk, hb, ha => by
  simp only [entsR, List.append_nil]
  refine Ev.succ (Ev.ne (Ev.ite (fun c => Ev.ret' ?_) fun c => Ev.ret' ?_)) (fun q => rfl)
  ·rw [c]; rfl
  ·rw [show f = false by simpa using c]; rfl
 | k + 1, i, b, f, acc, hk, hb, ha => by
  by_cases c : f = true
  ·have hS := s6_ev d0 d1 d2 d3 len s5 s6 z b f (many : Int) h3l acc hb
   rw [c] at hS ⊢
   have hb1 := gN_isB (r := (b, true)) hb
   have hb2 := gN_isB (r := (gN (b, true)).2) hb1
   have ih := zbyp d0 d1 d2 d3 len s5 s6 z many hm h3l k (i + 1) (gS (gN (gN (b, true)).2).2).2.1 (gS (gN (gN (b, true)).2).2).2.2 (acc ++ [⟨(gN (b, true)).1, (gN (gN (b, true)).2).1, (gS (gN (gN (b, true)).2).2).1⟩]) (by omega) (gS_isB (r := (gN (gN (b, true)).2).2) hb2) (fun e => by
    have g3 := zbyo e
    have g2 := zbyn g3.1
    have g1 := zbyn g2.1
    have := ha c
    simp only [y11, y22, y26] at g1 ⊢; omega)
   rw [show ((i + 1 : Nat) : Int) = wrp .i64 ((i : Int) + 1) by rw [zbte (by omega) (by omega)]; omega] at ih
   have hal := ha c
   have hK := getSK z hb2 (gN (gN (b, true)).2).2.2 (K := fun q v' b' f' => (if (acc.length + 1) ≤ 4294967296 then (zms q (wrp .i64 ((i : Int) + 1)) d0 d1 d2 d3 len s5 s6 z b' f' (many : Int) h3l (acc ++ [(⟨(gN (b, true)).1, (gN (gN (b, true)).2).1, v'⟩ : zjq)])) else none)) (Ev.pos (by omega) ih)
   rw [zbym]
   refine Ev.succ (Ev.po (Ev.pos rfl (Ev.bind hS (Ev.cast hK ?_)))) (fun q => rfl)
   simp only [y34, List.singleton_append]
  ·rw [zbyl _ (show (b, f).2 ≠ true from c), List.append_nil]
   have c' : f = false := by simpa using c
   refine Ev.succ (Ev.po (Ev.neg c (Ev.ret' ?_))) (fun q => rfl)
   rw [c']; rfl
theorem zbyq (d0 d1 d2 d3 : Int) (len : Nat) (s5 : Bool) (s6 : Int) (z : Bool) (many : Nat) (hm : many < 4611686018427387904) (h3l : List Int) (b : List Int) (f : Bool) (hb : isB b) (hl : b.length ≤ 100000) :
  Ev (fun q => zmt q d0 d1 d2 d3 len s5 s6 z b f (many : Int) h3l) ((⟨d0, d1, d2, d3, ⟨false, h3l⟩, s5, s6, ⟨(entsR many (b, f)).1.isEmpty, (entsR many (b, f)).1⟩⟩ : zjs), (entsR many (b, f)).2.2 && decide (((entsR many (b, f)).2.1.length : Int) = 0)) := by
 by_cases h0 : many = 0
 ·have hn : entsR many (b, f) = ([], (b, f)) := by rw [h0]; rfl
  rw [hn]
  refine Ev.succ (Ev.ne (Ev.ite (fun c => Ev.ret' ?_) fun c => Ev.ret' ?_)) (fun q => rfl)
  ·rw [c]; rfl
  ·rw [show f = false by simpa using c]; rfl
 ·obtain ⟨k, hk⟩ : ∃ k, many = k + 1 := ⟨many - 1, by omega⟩
  by_cases c : f = true
  ·have hS := s4_ev d0 d1 d2 d3 len s5 s6 z b f (many : Int) h3l hb
   rw [c] at hS ⊢
   have hb1 := gN_isB (r := (b, true)) hb
   have hb2 := gN_isB (r := (gN (b, true)).2) hb1
   have ih := zbyp d0 d1 d2 d3 len s5 s6 z many hm h3l k 1 (gS (gN (gN (b, true)).2).2).2.1 (gS (gN (gN (b, true)).2).2).2.2 [⟨(gN (b, true)).1, (gN (gN (b, true)).2).1, (gS (gN (gN (b, true)).2).2).1⟩] (by omega) (gS_isB (r := (gN (gN (b, true)).2).2) hb2) (fun e => by
    have g3 := zbyo e
    have g2 := zbyn g3.1
    have g1 := zbyn g2.1
    simp only [y11, y22, y26] at g1 ⊢; omega)
   rw [show ((1 : Nat) : Int) = wrp .i64 1 by rw [zbte (by omega) (by omega)]; rfl] at ih
   have hK := getSK z hb2 (gN (gN (b, true)).2).2.2 (K := fun q v' b' f' => (zms q (wrp .i64 1) d0 d1 d2 d3 len s5 s6 z b' f' (many : Int) h3l [(⟨(gN (b, true)).1, (gN (gN (b, true)).2).1, v'⟩ : zjq)])) ih
   have hE := zbym k b
   rw [← hk] at hE
   rw [hE]
   exact Ev.succ (Ev.po (Ev.pos rfl (Ev.bind hS hK))) (fun q => rfl)
  ·rw [zbyl _ (show (b, f).2 ≠ true from c)]
   have c' : f = false := by simpa using c
   refine Ev.succ (Ev.po (Ev.neg c (Ev.ret' ?_))) (fun q => rfl)
   rw [c']; rfl
theorem zbyr (d0 d1 d2 d3 : Int) (s5 : Bool) (s6 : Int) (z : Bool) (many : Nat) (hm : many < 4611686018427387904) : ∀ (k i : Nat) (b : List Int) (f : Bool) (acc : List zjq), many = i + k → isB b → (f = true → acc.length + b.length ≤ 1000000) →
  Ev (fun q => zmv q (i : Int) d0 d1 d2 d3 s5 s6 z b f (many : Int) acc) ((⟨d0, d1, d2, d3, ⟨true, []⟩, s5, s6, ⟨false, acc ++ (entsR k (b, f)).1⟩⟩ : zjs), (entsR k (b, f)).2.2 && decide (((entsR k (b, f)).2.1.length : Int) = 0))
 | 0, i, b, f, acc, hk, hb, ha => by
  simp only [entsR, List.append_nil]
  refine Ev.succ (Ev.ne (Ev.ite (fun c => Ev.ret' ?_) fun c => Ev.ret' ?_)) (fun q => rfl)
  ·rw [c]; rfl
  ·rw [show f = false by simpa using c]; rfl
 | k + 1, i, b, f, acc, hk, hb, ha => by
  by_cases c : f = true
  ·have hS := s5_ev d0 d1 d2 d3 s5 s6 z b f (many : Int) acc hb
   rw [c] at hS ⊢
   have hb1 := gN_isB (r := (b, true)) hb
   have hb2 := gN_isB (r := (gN (b, true)).2) hb1
   have ih := zbyr d0 d1 d2 d3 s5 s6 z many hm k (i + 1) (gS (gN (gN (b, true)).2).2).2.1 (gS (gN (gN (b, true)).2).2).2.2 (acc ++ [⟨(gN (b, true)).1, (gN (gN (b, true)).2).1, (gS (gN (gN (b, true)).2).2).1⟩]) (by omega) (gS_isB (r := (gN (gN (b, true)).2).2) hb2) (fun e => by
    have g3 := zbyo e
    have g2 := zbyn g3.1
    have g1 := zbyn g2.1
    have := ha c
    simp only [y11, y22, y26] at g1 ⊢; omega)
   rw [show ((i + 1 : Nat) : Int) = wrp .i64 ((i : Int) + 1) by rw [zbte (by omega) (by omega)]; omega] at ih
   have hal := ha c
   have hK := getSK z hb2 (gN (gN (b, true)).2).2.2 (K := fun q v' b' f' => (if (acc.length + 1) ≤ 4294967296 then (zmv q (wrp .i64 ((i : Int) + 1)) d0 d1 d2 d3 s5 s6 z b' f' (many : Int) (acc ++ [(⟨(gN (b, true)).1, (gN (gN (b, true)).2).1, v'⟩ : zjq)])) else none)) (Ev.pos (by omega) ih)
   rw [zbym]
   refine Ev.succ (Ev.po (Ev.pos rfl (Ev.bind hS (Ev.cast hK ?_)))) (fun q => rfl)
   simp only [y34, List.singleton_append]
  ·rw [zbyl _ (show (b, f).2 ≠ true from c), List.append_nil]
   have c' : f = false := by simpa using c
   refine Ev.succ (Ev.po (Ev.neg c (Ev.ret' ?_))) (fun q => rfl)
   rw [c']; rfl
theorem zbys (d0 d1 d2 d3 : Int) (s5 : Bool) (s6 : Int) (z : Bool) (many : Nat) (hm : many < 4611686018427387904) (b : List Int) (f : Bool) (hb : isB b) (hl : b.length ≤ 100000) :
  Ev (fun q => zmw q d0 d1 d2 d3 s5 s6 z b f (many : Int)) ((⟨d0, d1, d2, d3, ⟨true, []⟩, s5, s6, ⟨(entsR many (b, f)).1.isEmpty, (entsR many (b, f)).1⟩⟩ : zjs), (entsR many (b, f)).2.2 && decide (((entsR many (b, f)).2.1.length : Int) = 0)) := by
 by_cases h0 : many = 0
 ·have hn : entsR many (b, f) = ([], (b, f)) := by rw [h0]; rfl
  rw [hn]
  refine Ev.succ (Ev.ne (Ev.ite (fun c => Ev.ret' ?_) fun c => Ev.ret' ?_)) (fun q => rfl)
  ·rw [c]; rfl
  ·rw [show f = false by simpa using c]; rfl
 ·obtain ⟨k, hk⟩ : ∃ k, many = k + 1 := ⟨many - 1, by omega⟩
  by_cases c : f = true
  ·have hS := s3_ev d0 d1 d2 d3 s5 s6 z b f (many : Int) hb
   rw [c] at hS ⊢
   have hb1 := gN_isB (r := (b, true)) hb
   have hb2 := gN_isB (r := (gN (b, true)).2) hb1
   have ih := zbyr d0 d1 d2 d3 s5 s6 z many hm k 1 (gS (gN (gN (b, true)).2).2).2.1 (gS (gN (gN (b, true)).2).2).2.2 [⟨(gN (b, true)).1, (gN (gN (b, true)).2).1, (gS (gN (gN (b, true)).2).2).1⟩] (by omega) (gS_isB (r := (gN (gN (b, true)).2).2) hb2) (fun e => by
    have g3 := zbyo e
    have g2 := zbyn g3.1
    have g1 := zbyn g2.1
    simp only [y11, y22, y26] at g1 ⊢; omega)
   rw [show ((1 : Nat) : Int) = wrp .i64 1 by rw [zbte (by omega) (by omega)]; rfl] at ih
   have hK := getSK z hb2 (gN (gN (b, true)).2).2.2 (K := fun q v' b' f' => (zmv q (wrp .i64 1) d0 d1 d2 d3 s5 s6 z b' f' (many : Int) [(⟨(gN (b, true)).1, (gN (gN (b, true)).2).1, v'⟩ : zjq)])) ih
   have hE := zbym k b
   rw [← hk] at hE
   rw [hE]
   exact Ev.succ (Ev.po (Ev.pos rfl (Ev.bind hS hK))) (fun q => rfl)
  ·rw [zbyl _ (show (b, f).2 ≠ true from c)]
   have c' : f = false := by simpa using c
   refine Ev.succ (Ev.po (Ev.neg c (Ev.ret' ?_))) (fun q => rfl)
   rw [c']; rfl
def numsR : Nat → List Int × Bool → List Int × List Int × Bool
 | 0, r => ([], r)
 | k + 1, r => ((gS r).1 :: (numsR k (gS r).2).1, (numsR k (gS r).2).2)
theorem zbyt : ∀ {k : Nat} {r : List Int × Bool}, isB r.1 → isB (numsR k r).2.1 ∧ (numsR k r).2.1.length ≤ r.1.length
 | 0, r, h => ⟨h, y15 _⟩
 | k + 1, r, h => by
  have := zbyt (k := k) (gS_isB h)
  have hl : (gS r).2.1.length ≤ r.1.length := by simp only [gS, y14]; omega
  exact ⟨this.1, Nat.le_trans this.2 hl⟩
theorem gN_le (r : List Int × Bool) : (gN r).2.1.length ≤ r.1.length := by simp only [gN, y14]; omega
theorem sealW {n : Int} (h1 : 0 ≤ n) (h2 : n < 4611686018427387904) : (if (wrp .i64 (n - 1)) < 0 then 0 else (wrp .i64 (n - 1))) = (if n - 1 < 0 then 0 else n - 1) := by
 rw [zbte (by omega) (by omega)]
theorem gN_rng (r : List Int × Bool) : 0 ≤ (gN r).1 ∧ (gN r).1 < 4611686018427387904 := (zbus (l := r.1)).2.2.2
theorem zbyu (d0 d1 d2 d3 : Int) (z : Bool) (m : Int) (i : Int) (b : List Int) (f : Bool) (acc : List Int) (hi : ¬ i < m) (hb : isB b) (hl : b.length ≤ 100000) : Ev (fun q => zmu q m i d0 d1 d2 d3 z b f acc) (tlD d0 d1 d2 d3 ⟨false, acc⟩ (b, f)) := by
 have hS := s2_ev d0 d1 d2 d3 z b f acc hb
 have hb1 := gN_isB (r := (b, f)) hb
 have hb2 := gN_isB (r := (gN (b, f)).2) hb1
 have l1 := gN_le (b, f); have l2 := gN_le (gN (b, f)).2
 have r1 := gN_rng (b, f); have r2 := gN_rng (gN (b, f)).2
 unfold tlD
 refine Ev.succ (Ev.neg hi (Ev.bind hS (Ev.ite (fun c => Ev.ret' ?_) fun c => ?_))) (fun q => rfl)
 ·rw [if_pos c]
 ·rw [if_neg c]
  have h3 := zbyq d0 d1 d2 d3 acc.length (decide (0 < (gN (b, f)).1)) (if (gN (b, f)).1 - 1 < 0 then 0 else (gN (b, f)).1 - 1) z (gN (gN (b, f)).2).1.toNat (by omega) acc (gN (gN (b, f)).2).2.1 (gN (gN (b, f)).2).2.2 hb2 (by simp only at l1; omega)
  rw [← sealW r1.1 r1.2, show ((((gN (gN (b, f)).2).1.toNat : Nat)) : Int) = (gN (gN (b, f)).2).1 by omega] at h3
  refine Ev.cast h3 ?_
  rw [sealW r1.1 r1.2]
theorem zbyv (d0 d1 d2 d3 : Int) (z : Bool) (m : Int) (b : List Int) (f : Bool) (hi : ¬ 0 < m) (hb : isB b) (hl : b.length ≤ 100000) : Ev (fun q => zmx q m d0 d1 d2 d3 z b f) (tlD d0 d1 d2 d3 ⟨true, []⟩ (b, f)) := by
 have hS := s1_ev d0 d1 d2 d3 z b f hb
 have hb1 := gN_isB (r := (b, f)) hb
 have hb2 := gN_isB (r := (gN (b, f)).2) hb1
 have l1 := gN_le (b, f); have l2 := gN_le (gN (b, f)).2
 have r1 := gN_rng (b, f); have r2 := gN_rng (gN (b, f)).2
 unfold tlD
 refine Ev.succ (Ev.neg hi (Ev.bind hS (Ev.ite (fun c => Ev.ret' ?_) fun c => ?_))) (fun q => rfl)
 ·rw [if_pos c]
 ·rw [if_neg c]
  have h3 := zbys d0 d1 d2 d3 (decide (0 < (gN (b, f)).1)) (if (gN (b, f)).1 - 1 < 0 then 0 else (gN (b, f)).1 - 1) z (gN (gN (b, f)).2).1.toNat (by omega) (gN (gN (b, f)).2).2.1 (gN (gN (b, f)).2).2.2 hb2 (by simp only at l1; omega)
  rw [← sealW r1.1 r1.2, show ((((gN (gN (b, f)).2).1.toNat : Nat)) : Int) = (gN (gN (b, f)).2).1 by omega] at h3
  refine Ev.cast h3 ?_
  rw [sealW r1.1 r1.2]
theorem zbyw (d0 d1 d2 d3 : Int) (z : Bool) (m : Nat) (hm : m ≤ 128) : ∀ (k i : Nat) (b : List Int) (f : Bool) (acc : List Int), m = i + k → acc.length = i → isB b → b.length ≤ 100000 →
  Ev (fun q => zmu q (m : Int) (i : Int) d0 d1 d2 d3 z b f acc) (tlD d0 d1 d2 d3 ⟨false, acc ++ (numsR k (b, f)).1⟩ (numsR k (b, f)).2)
 | 0, i, b, f, acc, hk, ha, hb, hl => by
  simp only [numsR, List.append_nil]
  exact zbyu d0 d1 d2 d3 z (m : Int) (i : Int) b f acc (by omega) hb hl
 | k + 1, i, b, f, acc, hk, ha, hb, hl => by
  have hb1 := gS_isB (r := (b, f)) hb
  have hl1 : (gS (b, f)).2.1.length ≤ b.length := by simp only [gS, y14]; omega
  have ih := zbyw d0 d1 d2 d3 z m hm k (i + 1) (gS (b, f)).2.1 (gS (b, f)).2.2 (acc ++ [(gS (b, f)).1]) (by omega) (by rw [y11, List.length_singleton]; omega) hb1 (by omega)
  rw [show ((i + 1 : Nat) : Int) = wrp .i64 ((i : Int) + 1) by rw [zbte (by omega) (by omega)]; omega] at ih
  have hK := getSK z hb f (K := fun q v' b' f' => (if (acc.length + 1) ≤ 4294967296 then (zmu q (m : Int) (wrp .i64 ((i : Int) + 1)) d0 d1 d2 d3 z b' f' (acc ++ [v'])) else none)) (Ev.pos (by omega) ih)
  refine Ev.succ (Ev.po (Ev.cast hK ?_)) (fun q => rfl)
  simp only [numsR, y34, List.singleton_append]
theorem zbyx (d0 d1 d2 d3 : Int) (z : Bool) (m : Nat) (hm : m ≤ 128) (b : List Int) (f : Bool) (hb : isB b) (hl : b.length ≤ 100000) :
  Ev (fun q => zmx q (m : Int) d0 d1 d2 d3 z b f) (tlD d0 d1 d2 d3 ⟨(numsR m (b, f)).1.isEmpty, (numsR m (b, f)).1⟩ (numsR m (b, f)).2) := by
 by_cases h0 : m = 0
 ·have hn : numsR m (b, f) = ([], (b, f)) := by rw [h0]; rfl
  rw [hn]
  exact zbyv d0 d1 d2 d3 z (m : Int) b f (by omega) hb hl
 ·obtain ⟨k, hk⟩ : ∃ k, m = k + 1 := ⟨m - 1, by omega⟩
  have hb1 := gS_isB (r := (b, f)) hb
  have hl1 : (gS (b, f)).2.1.length ≤ b.length := by simp only [gS, y14]; omega
  have ih := zbyw d0 d1 d2 d3 z m hm k 1 (gS (b, f)).2.1 (gS (b, f)).2.2 [(gS (b, f)).1] (by omega) rfl hb1 (by omega)
  rw [show ((1 : Nat) : Int) = wrp .i64 1 by rw [zbte (by omega) (by omega)]; rfl] at ih
  have hK := getSK z hb f (K := fun q v' b' f' => (zmu q (m : Int) (wrp .i64 1) d0 d1 d2 d3 z b' f' [v'])) ih
  have hE : numsR m (b, f) = ((gS (b, f)).1 :: (numsR k (gS (b, f)).2).1, (numsR k (gS (b, f)).2).2) := by rw [hk]; rfl
  rw [hE]
  exact Ev.succ (Ev.pos (by omega) hK) (fun q => rfl)
def n1 (b : List Int) : Int × List Int × Bool := gN (b, true)
def n2 (b : List Int) : Int × List Int × Bool := gN (n1 b).2
def n3 (b : List Int) : Int × List Int × Bool := gN (n2 b).2
def n4 (b : List Int) : Int × List Int × Bool := gN (n3 b).2
def n5 (b : List Int) : Int × List Int × Bool := gN (n4 b).2
/-- The delta of data, and whether they are one. -/
def rdD (b : List Int) : zjs × Bool :=
 if 128 < (n5 b).1 then (⟨(n1 b).1, (n2 b).1, (n3 b).1, (n4 b).1, ⟨true, []⟩, false, 0, ⟨true, []⟩⟩, false) else
 tlD (n1 b).1 (n2 b).1 (n3 b).1 (n4 b).1 ⟨(numsR (n5 b).1.toNat (n5 b).2).1.isEmpty, (numsR (n5 b).1.toNat (n5 b).2).1⟩ (numsR (n5 b).1.toNat (n5 b).2).2
theorem zbyy (s : Sl Int) (hb : isB s.l) (hl : s.l.length ≤ 100000) : Ev (fun q => zmy q s) (rdD s.l) := by
 have hS : Ev (fun q => zl3 q s.z s.l) ((n1 s.l).1, (n2 s.l).1, (n3 s.l).1, (n4 s.l).1, (n5 s.l).2.1, (n5 s.l).2.2, (n5 s.l).1) := s0_ev s.z s.l hb
 have b1 := gN_isB (r := (s.l, true)) hb
 have b2 := gN_isB (r := (n1 s.l).2) b1
 have b3 := gN_isB (r := (n2 s.l).2) b2
 have b4 := gN_isB (r := (n3 s.l).2) b3
 have b5 : isB (n5 s.l).2.1 := gN_isB (r := (n4 s.l).2) b4
 have l1 := gN_le (s.l, true); have l2 := gN_le (n1 s.l).2; have l3 := gN_le (n2 s.l).2; have l4 := gN_le (n3 s.l).2; have l5 := gN_le (n4 s.l).2
 have hlen : (n5 s.l).2.1.length ≤ 100000 := by
  change (n1 s.l).2.1.length ≤ s.l.length at l1
  change (n2 s.l).2.1.length ≤ (n1 s.l).2.1.length at l2
  change (n3 s.l).2.1.length ≤ (n2 s.l).2.1.length at l3
  change (n4 s.l).2.1.length ≤ (n3 s.l).2.1.length at l4
  change (n5 s.l).2.1.length ≤ (n4 s.l).2.1.length at l5
  omega
 have r5 : 0 ≤ (n5 s.l).1 ∧ (n5 s.l).1 < 4611686018427387904 := gN_rng (n4 s.l).2
 unfold rdD
 refine Ev.succ (Ev.bind hS (Ev.ite (fun c => Ev.ret' ?_) fun c => ?_)) (fun q => rfl)
 ·rw [if_pos c]
 ·rw [if_neg c]
  simp only at c
  have h0 := zbyx (n1 s.l).1 (n2 s.l).1 (n3 s.l).1 (n4 s.l).1 s.z (n5 s.l).1.toNat (by omega) (n5 s.l).2.1 (n5 s.l).2.2 b5 hlen
  rw [show ((((n5 s.l).1.toNat : Nat)) : Int) = (n5 s.l).1 by omega] at h0
  exact h0
theorem gN_app {r : List Int × Bool} (hb : isB r.1) (h : (gN r).2.2 = true) : r.2 = true ∧ r.1 = put (gN r).1 ++ (gN r).2.1 := by
 have g := zbyn h
 exact ⟨g.1, zbw9 hb g.2.1⟩
theorem gS_app {r : List Int × Bool} (hb : isB r.1) (h : (gS r).2.2 = true) : r.2 = true ∧ r.1 = putS (gS r).1 ++ (gS r).2.1 := by
 have g := zbyo h
 exact ⟨g.1, zbxa hb g.2.1⟩
theorem zbyz : ∀ (k : Nat) (r : List Int × Bool), isB r.1 → (entsR k r).2.2 = true → r.2 = true ∧ r.1 = tabE (entsR k r).1 ++ (entsR k r).2.1 ∧ (entsR k r).1.length = k
 | 0, r, hb, h => ⟨h, by simp [entsR, tabE], rfl⟩
 | k + 1, r, hb, h => by
  by_cases c : r.2 = true
  ·simp only [entsR, if_pos c] at h ⊢
   have b1 := gN_isB hb
   have b2 := gN_isB b1
   have b3 := gS_isB b2
   obtain ⟨h3, e3, l3⟩ := zbyz k (gS (gN (gN r).2).2).2 b3 h
   obtain ⟨h2, e2⟩ := gS_app b2 h3
   obtain ⟨h1, e1⟩ := gN_app b1 h2
   obtain ⟨h0, e0⟩ := gN_app hb h1
   refine ⟨h0, ?_, by rw [y22, l3]⟩
   rw [zbws]
   simp only [entB, y34]
   rw [← e3, ← e2, ← e1]
   exact e0
  ·rw [zbyl _ c] at h
   exact absurd h c
theorem zby0 : ∀ (k : Nat) (r : List Int × Bool), isB r.1 → (numsR k r).2.2 = true → r.2 = true ∧ r.1 = numsB (numsR k r).1 ++ (numsR k r).2.1 ∧ (numsR k r).1.length = k
 | 0, r, hb, h => ⟨h, by simp [numsR, numsB], rfl⟩
 | k + 1, r, hb, h => by
  simp only [numsR] at h ⊢
  obtain ⟨h1, e1, l1⟩ := zby0 k (gS r).2 (gS_isB hb) h
  obtain ⟨h0, e0⟩ := gS_app hb h1
  refine ⟨h0, ?_, by rw [y22, l1]⟩
  rw [zbwm, y34, ← e1]
  exact e0
theorem zby1 {d0 d1 d2 d3 : Int} {mid : Sl Int} {r : List Int × Bool} (hb : isB r.1) (h : (tlD d0 d1 d2 d3 mid r).2 = true) : r.2 = true ∧ (tlD d0 d1 d2 d3 mid r).1.From = d0 ∧ (tlD d0 d1 d2 d3 mid r).1.To = d1 ∧ (tlD d0 d1 d2 d3 mid r).1.Ahead = d2 ∧ (tlD d0 d1 d2 d3 mid r).1.Behind = d3 ∧ (tlD d0 d1 d2 d3 mid r).1.Mid = mid ∧
  r.1 = putsB [sealL (tlD d0 d1 d2 d3 mid r).1, ((tlD d0 d1 d2 d3 mid r).1.Table.l.length : Int)] ++ tabE (tlD d0 d1 d2 d3 mid r).1.Table.l := by
 unfold tlD at h ⊢
 split at h
 ·cases h
 ·rename_i c
  rw [if_neg c]
  simp only [y7, decide_eq_true_eq] at h
  have b1 := gN_isB hb
  have b2 := gN_isB b1
  have r0 := gN_rng r
  have r1 := gN_rng (gN r).2
  obtain ⟨h2, e2, l2⟩ := zbyz _ _ b2 h.1
  obtain ⟨h1, e1⟩ := gN_app b1 h2
  obtain ⟨h0, e0⟩ := gN_app hb h1
  have hnil : (entsR (gN (gN r).2).1.toNat (gN (gN r).2).2).2.1 = [] := y36 (by omega)
  rw [hnil, List.append_nil] at e2
  refine ⟨h0, rfl, rfl, rfl, rfl, rfl, ?_⟩
  have hs : ∀ (m : Sl Int) (t : Sl zjq), sealL ⟨d0, d1, d2, d3, m, decide (0 < (gN r).1), if (gN r).1 - 1 < 0 then 0 else (gN r).1 - 1, t⟩ = (gN r).1 := fun m t => by
   unfold sealL
   simp only [decide_eq_true_eq]
   split <;> (try split) <;> omega
  rw [hs]
  simp only [zbxp, l2, Int.toNat_of_nonneg r1.1]
  rw [show putsB [] = [] from rfl, List.append_nil, y34, ← e2, ← e1]
  exact e0
theorem zby2 {b : List Int} (hb : isB b) (h : (rdD b).2 = true) : delD (rdD b).1 = b := by
 have b1 : isB (n1 b).2.1 := gN_isB (r := (b, true)) hb
 have b2 : isB (n2 b).2.1 := gN_isB (r := (n1 b).2) b1
 have b3 : isB (n3 b).2.1 := gN_isB (r := (n2 b).2) b2
 have b4 : isB (n4 b).2.1 := gN_isB (r := (n3 b).2) b3
 have b5 : isB (n5 b).2.1 := gN_isB (r := (n4 b).2) b4
 have r5 : 0 ≤ (n5 b).1 ∧ (n5 b).1 < 4611686018427387904 := gN_rng (n4 b).2
 unfold rdD at h ⊢
 split at h
 ·cases h
 ·rename_i c
  rw [if_neg c]
  obtain ⟨t1, t2, t3, t4, t5, t6, t7⟩ := zby1 (zbyt b5).1 h
  obtain ⟨h5, e5, l5⟩ := zby0 _ _ b5 t1
  obtain ⟨h4, e4⟩ := gN_app (r := (n4 b).2) b4 h5
  obtain ⟨h3, e3⟩ := gN_app (r := (n3 b).2) b3 h4
  obtain ⟨h2, e2⟩ := gN_app (r := (n2 b).2) b2 h3
  obtain ⟨h1, e1⟩ := gN_app (r := (n1 b).2) b1 h2
  obtain ⟨h0, e0⟩ := gN_app (r := (b, true)) hb h1
  unfold delD
  rw [t2, t3, t4, t5, t6, y34, ← t7]
  simp only [zbxp, l5, Int.toNat_of_nonneg r5.1, y34]
  rw [show putsB [] = [] from rfl, y48, ← e5]
  change put (n1 b).1 ++ (put (n2 b).1 ++ (put (n3 b).1 ++ (put (n4 b).1 ++ (put (n5 b).1 ++ (n5 b).2.1)))) = b
  change (n4 b).2.1 = put (n5 b).1 ++ (n5 b).2.1 at e4
  change (n3 b).2.1 = put (n4 b).1 ++ (n4 b).2.1 at e3
  change (n2 b).2.1 = put (n3 b).1 ++ (n3 b).2.1 at e2
  change (n1 b).2.1 = put (n2 b).1 ++ (n2 b).2.1 at e1
  change b = put (n1 b).1 ++ (n1 b).2.1 at e0
  rw [← e4, ← e3, ← e2, ← e1, ← e0]
theorem zby3 : ∀ l : List zjq, l.length ≤ (tabE l).length
 | [] => by simp [tabE]
 | e :: l => by have := zby3 l; have := zbw5 e.Resp; rw [zbws, y11, y22]; simp only [entB, y11]; omega
theorem zby4 : ∀ l : List Int, l.length ≤ (numsB l).length
 | [] => by simp [numsB]
 | e :: l => by have := zby4 l; have := zbw5 e; rw [zbwm, y11, y22]; omega
theorem zby5 (d : zjs) : d.Mid.l.length ≤ (delD d).length ∧ d.Table.l.length ≤ (delD d).length := by
 have := zby3 d.Table.l
 have := zby4 d.Mid.l
 simp only [delD, y11]; omega
def noDl : zjs := ⟨0, 0, 0, 0, ⟨true, []⟩, false, 0, ⟨true, []⟩⟩
/-- The delta of bytes. -/
def dcD (b : List Int) : zjs × Int :=
 if (decF b).2.2 = 0 then if (decF b).2.1 = (b.length : Int) then if (rdD (decF b).1).2 = true then if mayL (rdD (decF b).1).1 = true then ((rdD (decF b).1).1, 0) else (noDl, 1) else (noDl, 3) else (noDl, 16) else (noDl, (decF b).2.2)
theorem zby6 {b : List Int} (hb : isB b) (hl : b.length ≤ 90000) : (decF b).1.length ≤ 90000 := by
 by_cases h : (decF b).2.2 = 0
 ·have := zbu5 (x := (decF b).1) (n := (decF b).2.1) hb (by rw [← h])
  have e := congrArg List.length this.2.2.2.2
  have := zbwz (decF b).1
  rw [y21] at e; omega
 ·have := zbu6 (l := b) (x := (decF b).1) (n := (decF b).2.1) (e := (decF b).2.2) rfl h
  rw [this.1]; simp
theorem zby7 (s : Sl Int) (z : Bool) (F : List Int × Int × Int) (R : zjs × Bool) (hF : Ev (fun q => zlu q s) (⟨z, true, F.1⟩, F.2.1, F.2.2)) (hR : Ev (fun q => zmy q ⟨z, F.1⟩) R) (h1 : R.2 = true → R.1.Mid.l.length ≤ 1000000 ∧ R.1.Table.l.length ≤ 1000000) :
  Ev (fun q => zm9 q s) (if F.2.2 = 0 then if F.2.1 = (s.l.length : Int) then if R.2 = true then if mayL R.1 = true then (R.1, 0) else (noDl, 1) else (noDl, 3) else (noDl, 16) else (noDl, F.2.2)) := by
 refine Ev.succ (Ev.bind hF (Ev.ite (fun c1 => Ev.ite (fun c2 => Ev.bind hR (Ev.ite (fun c3 => ?_) fun c3 => Ev.ret' ?_)) fun c2 => Ev.ret' ?_) fun c1 => Ev.ret' ?_)) (fun q => rfl)
 ·simp only at c1 c2
  have hb := h1 c3
  refine Ev.bind (zbxn _ hb.1 hb.2) (Ev.ite (fun c4 => Ev.ret' ?_) fun c4 => Ev.ret' ?_)
  ·rw [if_pos c1, if_pos c2, if_pos c3, if_pos c4]
  ·rw [if_pos c1, if_pos c2, if_pos c3, if_neg c4]; rfl
 ·simp only at c1 c2; rw [if_pos c1, if_pos c2, if_neg c3]; rfl
 ·simp only at c1 c2; rw [if_pos c1, if_neg c2]; rfl
 ·simp only at c1; rw [if_neg c1]; rfl
theorem zby8 (s : Sl Int) (hz : s.z = true → s.l = []) (hb : isB s.l) (hl : s.l.length ≤ 90000) : Ev (fun q => zm9 q s) (dcD s.l) := by
 obtain ⟨z, hF⟩ := zbu0 s hz hb (by omega)
 have hbd := zbu7 (l := s.l) hb
 have hsh := zby6 hb hl
 exact zby7 s z (decF s.l) (rdD (decF s.l).1) hF (zbyy ⟨z, (decF s.l).1⟩ hbd (by simp only; omega)) fun c3 => by
  have hi := zby2 hbd c3
  have hlg := zby5 (rdD (decF s.l).1).1
  rw [hi] at hlg
  omega
def filP (p : Int) (T : List zjq) : List zjq := T.filter fun e => !decide (e.Proc = p)
def insE (e : zjq) : List zjq → List zjq
 | [] => [e]
 | x :: l => if e.Proc < x.Proc then e :: x :: l else x :: insE e l
def noteL (T : List zjq) (p s x : Int) : List zjq := insE ⟨p, s, x⟩ (filP p T)
def atE (p : Int) : List zjq → Nat
 | [] => 0
 | x :: l => if p < x.Proc then 0 else atE p l + 1
theorem atE_le (p : Int) : ∀ T : List zjq, atE p T ≤ T.length
 | [] => y15 _
 | x :: l => by simp only [atE]; split <;> simp only [y22] <;> have := atE_le p l <;> omega
theorem zby9 (e : zjq) : ∀ T : List zjq, insE e T = T.take (atE e.Proc T) ++ [e] ++ T.drop (atE e.Proc T)
 | [] => rfl
 | x :: l => by
  simp only [insE, atE]
  split
  ·simp
  ·rw [zby9 e l]; simp
theorem zbza (e : zjq) : ∀ T : List zjq, (insE e T).length = T.length + 1
 | [] => rfl
 | x :: l => by simp only [insE]; split <;> simp only [y22, zbza e l]
theorem zbzb (p : Int) (T : List zjq) : (filP p T).length ≤ T.length := List.length_filter_le _ _
theorem zbzc (T : List zjq) (p s x : Int) : (noteL T p s x).length ≤ T.length + 1 := by
 unfold noteL; rw [zbza]; have := zbzb p T; omega
theorem zbzd (p : Int) (O : List zjq) (j : Nat) (hj : j < O.length) : filP p (O.take (j + 1)) = filP p (O.take j) ++ if O[j].Proc = p then [] else [O[j]] := by
 unfold filP
 rw [List.take_add_one, y8 hj, List.filter_append]
 congr 1
 simp only [Option.toList_some, List.filter_cons, List.filter_nil]
 by_cases c : O[j].Proc = p <;> simp [c]
theorem zbze {p : Int} {T : List zjq} (h : ∀ e ∈ T, e.Proc ≠ p) : filP p T = T := List.filter_eq_self.2 fun e he => by simp [h e he]
theorem zbzf (p0 p p2 p3 p4 p5 p6 : Int) (z : Bool) (L : List zjq) (x : Bool) (hL : L.length ≤ 1000000) : ∀ (k i : Nat), L.length = i + k →
  ∃ r, Ev (fun q => zkr q (L.length : Int) (i : Int) p0 p p2 p3 p4 p5 p6 z L x) r ∧ ((r = -1 ∧ ∀ e ∈ L.drop i, e.Proc ≠ p) ∨ ∃ j : Nat, i ≤ j ∧ ∃ h : j < L.length, r = (j : Int) ∧ L[j].Proc = p ∧ ∀ e ∈ (L.take j).drop i, e.Proc ≠ p)
 | 0, i, hk => ⟨-1, Ev.succ (Ev.ne (Ev.ret _)) (fun q => rfl), .inl ⟨rfl, by rw [y13 (by omega)]; simp⟩⟩
 | k + 1, i, hk => by
  have hi : i < L.length := by omega
  have he : L[((i : Int)).toNat]? = some L[i] := by simp [hi]
  by_cases c : L[i].Proc = p
  ·exact ⟨(i : Int), Ev.succ (Ev.po (Ev.po (Ev.po (Ev.opt he (Ev.pos c (Ev.ret _)))))) (fun q => rfl), .inr ⟨i, y15 _, hi, rfl, c, by rw [y13 (by rw [y21]; omega)]; simp⟩⟩
  ·obtain ⟨r, h, hr⟩ := zbzf p0 p p2 p3 p4 p5 p6 z L x hL k (i + 1) (by omega)
   rw [show ((i + 1 : Nat) : Int) = wrp .i64 ((i : Int) + 1) by rw [zbte (by omega) (by omega)]; omega] at h
   refine ⟨r, Ev.succ (Ev.po (Ev.po (Ev.po (Ev.opt he (Ev.neg c h))))) (fun q => rfl), ?_⟩
   rcases hr with ⟨h1, h2⟩ | ⟨j, h1, h2, h3, h4, h5⟩
   ·refine .inl ⟨h1, fun e hm => ?_⟩
    rw [y10 hi] at hm
    rcases List.mem_cons.1 hm with rfl | hm
    ·exact c
    ·exact h2 e hm
   ·refine .inr ⟨j, by omega, h2, h3, h4, fun e hm => ?_⟩
    have hi2 : i < (L.take j).length := by rw [y21]; omega
    rw [y10 hi2] at hm
    rcases List.mem_cons.1 hm with rfl | hm
    ·rw [List.getElem_take]; exact c
    ·exact h5 e hm
theorem zbzg (p0 p p2 p3 p4 p5 p6 : Int) (z : Bool) (O : List zjq) (hO : O.length ≤ 1000000) : ∀ (k j i : Nat) (H : List zjq), O.length = j + k → H.length = O.length → i ≤ j → H.take i = filP p (O.take j) → H.drop j = O.drop j →
  ∃ xs, Ev (fun q => zkt q (i : Int) (j : Int) p0 p p2 p3 p4 p5 p6 z H true) ((filP p O).length, xs, true) ∧ xs.take (filP p O).length = filP p O ∧ (filP p O).length ≤ xs.length
 | 0, j, i, H, hk, hl, hij, ht, hd => by
  have hO2 : O.take j = O := List.take_of_length_le (by omega)
  rw [hO2] at ht
  have hi : (filP p O).length = i := by rw [← ht, y21]; omega
  refine ⟨((H.take i) ++ (List.replicate (H.length - i) (⟨0, 0, 0⟩ : zjq))) ++ (H.drop (i + (H.length - i))), ?_, ?_, ?_⟩
  ·rw [hi]
   refine Ev.succ (Ev.ne (Ev.po (Ev.po (Ev.pos rfl (Ev.po (Ev.ite (fun _ => Ev.ret' ?_) fun _ => Ev.ret' ?_)))))) (fun q => rfl) <;> simp only [y29]
  ·rw [hi, y34, List.take_append_of_le_length (by rw [y21]; omega), List.take_take, Nat.min_self, ht]
  ·rw [hi]; simp only [y11, y21, List.length_replicate]; omega
 | k + 1, j, i, H, hk, hl, hij, ht, hd => by
  have hj : j < H.length := by omega
  have hjO : j < O.length := by omega
  have he : H[((j : Int)).toNat]? = some O[j] := by
   have := congrArg (fun l => l[0]?) hd
   simp only [y41, Nat.add_zero] at this
   rw [y29, this]; exact y8 hjO
  have hs := zbzd p O j hjO
  have wj : wrp .i64 ((j : Int) + 1) = ((j + 1 : Nat) : Int) := by rw [zbte (by omega) (by omega)]; omega
  have dr : ∀ {A B : List zjq}, A.drop j = B.drop j → A.drop (j + 1) = B.drop (j + 1) := fun {A B} h => by rw [← List.drop_drop, ← List.drop_drop, h]
  by_cases c : O[j].Proc = p
  ·rw [if_pos c, List.append_nil] at hs
   obtain ⟨xs, h1, h2⟩ := zbzg p0 p p2 p3 p4 p5 p6 z O hO k (j + 1) i H (by omega) hl (by omega) (by rw [hs]; exact ht) (dr hd)
   rw [← wj] at h1
   exact ⟨xs, Ev.succ (Ev.po (Ev.po (Ev.po (Ev.opt he (Ev.pos c h1))))) (fun q => rfl), h2⟩
  ·rw [if_neg c] at hs
   have hi : i < H.length := by omega
   have hg : H[((i : Int)).toNat]? = some H[i] := by simp [hi]
   obtain ⟨xs, h1, h2⟩ := zbzg p0 p p2 p3 p4 p5 p6 z O hO k (j + 1) (i + 1) (H.set i O[j]) (by omega) (by rw [List.length_set]; exact hl) (by omega) (by
    rw [hs, ← ht, List.take_add_one, List.take_set_of_le (y15 i), y24 hi]; rfl) (by
    rw [List.drop_set_of_lt (by omega)]; exact dr hd)
   have wi : wrp .i64 ((i : Int) + 1) = ((i + 1 : Nat) : Int) := by rw [zbte (by omega) (by omega)]; omega
   rw [← wj, ← wi] at h1
   exact ⟨xs, Ev.succ (Ev.po (Ev.po (Ev.po (Ev.opt he (Ev.neg c (Ev.po (Ev.po (Ev.opt hg (Ev.pos rfl h1))))))))) (fun q => rfl), h2⟩
theorem zbzh (p0 p p2 p3 p4 p5 p6 : Int) (z : Bool) (O : List zjq) (hO : O.length ≤ 1000000) :
  ∃ xs, Ev (fun q => zku q p0 p p2 p3 p4 p5 p6 z O true) ((filP p O).length, xs, true) ∧ xs.take (filP p O).length = filP p O ∧ (filP p O).length ≤ xs.length := by
 obtain ⟨r, h, hr⟩ := zbzf p0 p p2 p3 p4 p5 p6 z O true hO O.length 0 (by omega)
 have h' : Ev (fun q => zks q p0 p p2 p3 p4 p5 p6 z O true) r := Ev.succ h (fun q => rfl)
 rcases hr with ⟨rfl, h2⟩ | ⟨j, _, h2, rfl, h4, h5⟩
 ·rw [y39] at h2
  rw [zbze h2]
  exact ⟨O, Ev.succ (Ev.bind h' (Ev.pos rfl (Ev.ret _))) (fun q => rfl), List.take_length, y15 _⟩
 ·rw [y39] at h5
  have hs := zbzd p O j h2
  rw [if_pos h4, List.append_nil, zbze h5] at hs
  obtain ⟨xs, h1, h6⟩ := zbzg p0 p p2 p3 p4 p5 p6 z O hO (O.length - (j + 1)) (j + 1) j O (by omega) rfl (by omega) hs.symm rfl
  rw [show ((j + 1 : Nat) : Int) = wrp .i64 ((j : Int) + 1) by rw [zbte (by omega) (by omega)]; omega] at h1
  exact ⟨xs, Ev.succ (Ev.bind h' (Ev.neg (by omega) h1)) (fun q => rfl), h6⟩
def ixI (n k i : Nat) : Int := if n < k then ((i + n : Nat) : Int) else -1
theorem zbzi (p0 p p2 p3 p4 p5 p6 : Int) (z : Bool) (xs : List zjq) (x : Bool) (M : List zjq) (hM : xs.take M.length = M) (hL : M.length ≤ 1000000) : ∀ (k i : Nat), M.length = i + k →
  Ev (fun q => zkv q M.length (M.length : Int) (i : Int) p0 p p2 p3 p4 p5 p6 z xs x) (ixI (atE p (M.drop i)) k i)
 | 0, i, hk => by
  refine Ev.succ (Ev.ne (Ev.ret' ?_)) (fun q => rfl)
  unfold ixI; rw [if_neg (by omega)]
 | k + 1, i, hk => by
  have hi : i < M.length := by omega
  have he : xs[((i : Int)).toNat]? = some M[i] := by
   have : (xs.take M.length)[i]? = M[i]? := by rw [hM]
   rw [y49, if_pos hi] at this
   rw [y29, this]; exact y8 hi
  rw [y10 hi]
  have ha : atE p (M[i] :: M.drop (i + 1)) = if p < M[i].Proc then 0 else atE p (M.drop (i + 1)) + 1 := rfl
  by_cases c : p < M[i].Proc
  ·rw [if_pos c] at ha
   rw [ha]; unfold ixI; rw [if_pos (by omega)]
   exact Ev.succ (Ev.po (Ev.po (Ev.po (Ev.opt he (Ev.pos c (Ev.ret' (by omega))))))) (fun q => rfl)
  ·rw [if_neg c] at ha
   rw [ha]
   have ih := zbzi p0 p p2 p3 p4 p5 p6 z xs x M hM hL k (i + 1) (by omega)
   rw [show ((i + 1 : Nat) : Int) = wrp .i64 ((i : Int) + 1) by rw [zbte (by omega) (by omega)]; omega] at ih
   refine Ev.succ (Ev.po (Ev.po (Ev.po (Ev.opt he (Ev.neg c (Ev.cast ih ?_)))))) (fun q => rfl)
   unfold ixI
   by_cases d : atE p (M.drop (i + 1)) < k
   ·rw [if_pos d, if_pos (by omega)]; omega
   ·rw [if_neg d, if_neg (by omega)]
theorem zbzj (z : Bool) (M : List zjq) (at_ : Int) (e : zjq) (h0 : 0 ≤ at_) (h1 : at_ ≤ (M.length : Int)) (hL : M.length ≤ 1000000) : Ev (fun q => zkq q ⟨z, true, M⟩ at_ ⟨false, true, [e]⟩) ⟨false, true, M.take at_.toNat ++ [e] ++ M.drop at_.toNat⟩ :=
 Ev.succ (g := fun _ => if insOk (⟨z, true, M⟩ : Ow zjq) at_ ⟨false, true, [e]⟩ then some (insR (⟨z, true, M⟩ : Ow zjq) at_ ⟨false, true, [e]⟩) else none) (Ev.pos ⟨rfl, h0, h1, rfl, by simp, by simp only [List.length_singleton]; omega⟩ (Ev.ret _)) (fun q => rfl)
theorem zbzk (s : Sl zjq) (hz : s.z = true → s.l = []) (hL : s.l.length ≤ 1000000) (r : zju) : Ev (fun q => zkx q s r) ⟨false, true, noteL s.l r.Proc r.Seq r.Resp⟩ := by
 obtain ⟨z, hC⟩ : ∃ z, Ev (fun q => zkp q s) ⟨z, true, s.l⟩ := by
  by_cases c : s.z = true
  ·exact ⟨true, Ev.succ (Ev.pos c (Ev.ret' (by rw [hz c]))) (fun q => rfl)⟩
  ·exact ⟨false, Ev.succ (Ev.neg c (Ev.po (Ev.ret _))) (fun q => rfl)⟩
 obtain ⟨xs, h0, hx, hle⟩ := zbzh r.Index r.Proc r.Seq r.Op.Code r.Op.A r.Op.B r.Resp z s.l hL
 have hM := zbzb r.Proc s.l
 have h1 := zbzi r.Index r.Proc r.Seq r.Op.Code r.Op.A r.Op.B r.Resp z xs true (filP r.Proc s.l) hx (by omega) (filP r.Proc s.l).length 0 (by omega)
 have h1' : Ev (fun q => zkw q (filP r.Proc s.l).length r.Index r.Proc r.Seq r.Op.Code r.Op.A r.Op.B r.Resp z xs true) _ := Ev.succ h1 (fun q => rfl)
 rw [y39] at h1'
 have hat := atE_le r.Proc (filP r.Proc s.l)
 unfold noteL
 rw [zby9]
 refine Ev.succ (Ev.bind hC (Ev.bind h0 (Ev.bind h1' ?_))) (fun q => rfl)
 simp only
 rw [hx]
 unfold ixI
 by_cases d : atE r.Proc (filP r.Proc s.l) < (filP r.Proc s.l).length
 ·rw [if_pos d]
  have hI := zbzj z (filP r.Proc s.l) ((0 + atE r.Proc (filP r.Proc s.l) : Nat) : Int) ⟨r.Proc, r.Seq, r.Resp⟩ (by omega) (by omega) (by omega)
  refine Ev.ne (Ev.pos trivial (Ev.bind hI (Ev.ret' ?_)))
  rw [y29, y44]
 ·rw [if_neg d]
  have hI := zbzj z (filP r.Proc s.l) ((filP r.Proc s.l).length : Int) ⟨r.Proc, r.Seq, r.Resp⟩ (by omega) (by omega) (by omega)
  refine Ev.po (Ev.pos trivial (Ev.bind hI (Ev.ret' ?_)))
  rw [y29, show atE r.Proc (filP r.Proc s.l) = (filP r.Proc s.l).length by omega]
def setZ (z z' : Bool) (x : zjr) : zjr := ⟨x.Index, ⟨x.State.Kind, ⟨z, x.State.L.l⟩, x.State.Sealed, x.State.To⟩, ⟨z', x.Table.l⟩⟩
def zOk (z z' : Bool) (x : zjr) : Prop := (z = true → x.State.L.l = []) ∧ (z' = true → x.Table.l = [])
def srt : Int → List zjq → Prop
 | _, [] => True
 | last, e :: t => last < e.Proc ∧ srt e.Proc t
def lk (p : Int) (l : List zjq) : Option zjq := l.find? fun e => decide (e.Proc = p)
theorem zbzl (p : Int) (e : zjq) (l : List zjq) : lk p (e :: l) = if e.Proc = p then some e else lk p l := by
 unfold lk; rw [List.find?_cons]; by_cases c : e.Proc = p <;> simp [c]
theorem zbzm : ∀ {l : List zjq} {a b : Int}, srt a l → b ≤ a → srt b l
 | [], _, _, _, _ => trivial
 | e :: l, a, b, h, hb => ⟨by have := h.1; omega, h.2⟩
theorem zbzn : ∀ {l : List zjq} {a : Int}, tabB a l = true → srt a l
 | [], _, _ => trivial
 | e :: l, a, h => by
  simp only [tabB, y7, decide_eq_true_eq] at h
  exact ⟨h.2.1, zbzn h.2.2⟩
theorem zbzo : ∀ {l : List zjq} {a p : Int}, srt a l → p ≤ a → lk p l = none
 | [], _, _, _, _ => rfl
 | e :: l, a, p, h, hp => by
  rw [zbzl, if_neg (by have := h.1; omega)]
  exact zbzo h.2 (by have := h.1; omega)
theorem zbzp : ∀ {A B : List zjq} {a : Int}, srt a A → srt a B → (∀ p, lk p A = lk p B) → A = B
 | [], [], _, _, _, _ => rfl
 | [], b :: B, _, _, _, h => by have := h b.Proc; rw [zbzl, if_pos rfl] at this; cases this
 | a :: A, [], _, _, _, h => by have := h a.Proc; rw [zbzl, if_pos rfl] at this; cases this
 | a :: A, b :: B, _, hA, hB, h => by
  have ha := h a.Proc
  have hb := h b.Proc
  rw [zbzl, if_pos rfl, zbzl] at ha
  rw [zbzl, zbzl, if_pos (rfl : b.Proc = b.Proc)] at hb
  have e : a.Proc = b.Proc := by
   rcases Int.lt_trichotomy a.Proc b.Proc with c | c | c
   ·rw [if_neg (by omega), zbzo hB.2 (by omega)] at ha; cases ha
   ·exact c
   ·rw [if_neg (by omega), zbzo hA.2 (by omega)] at hb; cases hb
  rw [if_pos e.symm] at ha
  obtain rfl := Option.some.inj ha
  rw [zbzp hA.2 hB.2 fun p => by
   have := h p
   rw [zbzl, zbzl] at this
   by_cases c : a.Proc = p
   ·rw [zbzo hA.2 (by omega), zbzo hB.2 (by omega)]
   ·rw [if_neg c, if_neg c] at this; exact this]
theorem zbzq (p : Int) (e : zjq) (l : List zjq) : filP p (e :: l) = if e.Proc = p then filP p l else e :: filP p l := by
 unfold filP; rw [List.filter_cons]; by_cases c : e.Proc = p <;> simp [c]
theorem zbzr (p : Int) : ∀ {l : List zjq} {a : Int}, srt a l → srt a (filP p l)
 | [], _, _ => trivial
 | e :: l, a, h => by
  rw [zbzq]
  split
  ·exact zbzm (zbzr p h.2) (by have := h.1; omega)
  ·exact ⟨h.1, zbzr p h.2⟩
theorem zbzs (p q : Int) : ∀ l : List zjq, lk q (filP p l) = if q = p then none else lk q l
 | [] => by simp [filP, lk]
 | e :: l => by
  rw [zbzq, zbzl]
  by_cases c : e.Proc = p
  ·rw [if_pos c, zbzs p q l]
   by_cases d : q = p
   ·rw [if_pos d, if_pos d]
   ·rw [if_neg d, if_neg d, if_neg (by omega)]
  ·rw [if_neg c, zbzl, zbzs p q l]
   by_cases d : q = p
   ·rw [if_pos d, if_pos d, if_neg (by omega)]
   ·rw [if_neg d, if_neg d]
theorem zbzt (e : zjq) : ∀ {l : List zjq} {a : Int}, srt a l → a < e.Proc → lk e.Proc l = none → srt a (insE e l)
 | [], _, _, ha, _ => ⟨ha, trivial⟩
 | x :: l, a, h, ha, hn => by
  rw [zbzl] at hn
  split at hn
  ·cases hn
  ·rename_i c
   simp only [insE]
   split
   ·rename_i d; exact ⟨ha, d, h.2⟩
   ·exact ⟨h.1, zbzt e h.2 (by omega) hn⟩
theorem zbzu (e : zjq) (q : Int) : ∀ l : List zjq, lk e.Proc l = none → lk q (insE e l) = if q = e.Proc then some e else lk q l
 | [], _ => by
  simp only [insE, zbzl]
  by_cases d : q = e.Proc
  ·rw [if_pos d, if_pos d.symm]
  ·rw [if_neg d, if_neg (fun h => d h.symm)]
 | x :: l, hn => by
  rw [zbzl] at hn
  split at hn
  ·cases hn
  ·rename_i c
   simp only [insE]
   split
   ·rw [zbzl, zbzl]
    by_cases d : q = e.Proc
    ·rw [if_pos d, if_pos d.symm]
    ·rw [if_neg d, if_neg (fun h => d h.symm)]
   ·rw [zbzl, zbzl, zbzu e q l hn]
    by_cases d : q = e.Proc
    ·rw [if_pos d, if_pos d, if_neg (by omega)]
    ·rw [if_neg d, if_neg d]
theorem zbzv (t : List zjq) (p s x q : Int) : lk q (noteL t p s x) = if q = p then some ⟨p, s, x⟩ else lk q t := by
 unfold noteL
 rw [zbzu _ _ _ (by rw [zbzs, if_pos rfl]), zbzs]
 by_cases d : q = p
 ·rw [if_pos d, if_pos d]
 ·rw [if_neg d, if_neg d, if_neg d]
theorem zbzw {t : List zjq} {a : Int} (h : srt a t) {p : Int} (hp : a < p) (s x : Int) : srt a (noteL t p s x) :=
 zbzt _ (zbzr p h) hp (by rw [zbzs, if_pos rfl])
theorem zbzx : ∀ (x y : List Int), x.take (com x y) = y.take (com x y)
 | [], y => by simp [com]
 | a :: x, [] => by simp [com]
 | a :: x, b :: y => by
  simp only [com]
  split
  ·rename_i c; rw [List.take_succ_cons, List.take_succ_cons, zbzx x y, c]
  ·rfl
theorem zbzy (x y : List Int) : x.drop (x.length - com x.reverse y.reverse) = y.drop (y.length - com x.reverse y.reverse) := by
 have h := congrArg List.reverse (zbzx x.reverse y.reverse)
 rw [List.reverse_take, List.reverse_take, List.reverse_reverse, List.reverse_reverse, List.length_reverse, List.length_reverse] at h
 exact h
theorem zbzz (x y : List Int) : x.take (ahN x y) ++ (midL x y ++ x.drop (x.length - beN x y)) = y := by
 have hle := beN_le x y
 have ht := zbzy (x.drop (com x y)) (y.drop (com x y))
 have hx : x.drop (x.length - beN x y) = (x.drop (com x y)).drop ((x.drop (com x y)).length - com (x.drop (com x y)).reverse (y.drop (com x y)).reverse) := by
  rw [List.drop_drop, y14]
  congr 1
  unfold beN at hle ⊢; unfold ahN at hle; omega
 rw [hx, ht]
 unfold midL ahN
 rw [zbzx x y]
 unfold beN
 rw [List.take_append_drop, List.take_append_drop]
theorem zbz0 (p : Int) : ∀ l : List zjq, findE p l = lk p l
 | [] => rfl
 | e :: l => by rw [zbzl, ← zbz0 p l]; rfl
def noteAll (T : List zjq) (D : List zjq) : List zjq := D.foldl (fun t e => noteL t e.Proc e.Seq e.Resp) T
theorem zbz1 (T : List zjq) (e : zjq) (D : List zjq) : noteAll T (e :: D) = noteAll (noteL T e.Proc e.Seq e.Resp) D := rfl
theorem zbz2 : ∀ {D T : List zjq} {a c : Int}, srt a T → srt c D → a ≤ c → srt a (noteAll T D)
 | [], _, _, _, h, _, _ => h
 | e :: D, T, a, c, h, hd, hc => by
  rw [zbz1]
  exact zbz2 (zbzw h (by have := hd.1; omega) e.Seq e.Resp) hd.2 (by have := hd.1; omega)
theorem zbz3 (p : Int) : ∀ {D T : List zjq} {c : Int}, srt c D → lk p (noteAll T D) = (lk p D).or (lk p T)
 | [], _, _, _ => by simp [noteAll, lk]
 | e :: D, T, c, hd => by
  rw [zbz1, zbz3 p hd.2, zbzv, zbzl]
  by_cases d : e.Proc = p
  ·rw [if_pos d, if_pos d.symm, zbzo hd.2 (by omega)]; rfl
  ·rw [if_neg d, if_neg (fun h => d h.symm)]
theorem zbz4 (ta : List zjq) : ∀ {tb : List zjq} {a : Int}, srt a tb → srt a (newT ta tb)
 | [], _, _ => trivial
 | e :: tb, a, h => by
  simp only [newT]
  split
  ·exact zbzm (zbz4 ta h.2) (by have := h.1; omega)
  ·exact ⟨h.1, zbz4 ta h.2⟩
theorem zbz5 (ta : List zjq) (p : Int) : ∀ {tb : List zjq} {a : Int}, srt a tb → lk p (newT ta tb) = if lk p ta = lk p tb then none else lk p tb
 | [], _, _ => by simp [newT, lk]
 | e :: tb, a, h => by
  simp only [newT, zbz0]
  by_cases d : e.Proc = p
  ·subst d
   have hn : lk e.Proc (newT ta tb) = none := zbzo (zbz4 ta h.2) (by omega)
   split
   ·rename_i c; rw [zbzl, if_pos rfl, if_pos c, hn]
   ·rename_i c; rw [zbzl, if_pos rfl, zbzl, if_pos rfl, if_neg c]
  ·split
   ·rw [zbzl, if_neg d, zbz5 ta p h.2]
   ·rw [zbzl, if_neg d, zbzl, if_neg d, zbz5 ta p h.2]
theorem zbz6 (ta : List zjq) : ∀ {tb : List zjq} {e : zjq}, e ∈ newT ta tb → e ∈ tb
 | [], _, h => h
 | x :: tb, e, h => by
  simp only [newT] at h
  split at h
  ·exact y37 _ (zbz6 ta h)
  ·rcases List.mem_cons.1 h with rfl | h
   ·exact y33
   ·exact y37 _ (zbz6 ta h)
theorem lk_mem {p : Int} : ∀ {l : List zjq} {e : zjq}, lk p l = some e → e ∈ l ∧ e.Proc = p
 | [], _, h => by cases h
 | x :: l, e, h => by
  rw [zbzl] at h
  split at h
  ·rename_i c; obtain rfl := Option.some.inj h; exact ⟨y33, c⟩
  ·exact ⟨y37 _ (lk_mem h).1, (lk_mem h).2⟩
theorem zbz7 : ∀ {ta tb : List zjq}, lacksB ta tb = false → ∀ e ∈ ta, lk e.Proc tb ≠ none
 | [], _, _, e, h => by cases h
 | x :: ta, tb, hl, e, h => by
  simp only [lacksB, Bool.or_eq_false_iff, decide_eq_false_iff_not, zbz0] at hl
  rcases List.mem_cons.1 h with rfl | h
  ·exact hl.1
  ·exact zbz7 hl.2 e h
theorem zbz8 {ta tb : List zjq} {a : Int} (ha : srt a ta) (hb : srt a tb) (hl : lacksB ta tb = false) : noteAll ta (newT ta tb) = tb := by
 refine zbzp (zbz2 ha (zbz4 ta hb) (Int.le_refl _)) hb fun p => ?_
 rw [zbz3 p (zbz4 ta hb), zbz5 ta p hb]
 split
 ·rename_i c; rw [c]; simp
 ·rename_i c
  cases hp : lk p tb with
  | some e => rfl
  | none =>
   rw [Option.none_or]
   cases hq : lk p ta with
   | none => rfl
   | some e =>
    have := lk_mem hq
    have h2 := zbz7 hl e this.1
    rw [this.2] at h2
    exact absurd hp h2
theorem zbz9 {last : Int} : ∀ {l : List zjq} {a : Int}, srt a l → (∀ e ∈ l, entOk e = true) → tabB a l = true
 | [], _, _, _ => rfl
 | e :: l, a, h, he => by
  simp only [tabB, y7, decide_eq_true_eq]
  exact ⟨he e y33, h.1, zbz9 (last := last) h.2 fun x hx => he x (y37 _ hx)⟩
/-- The later one. -/
def appL (a : zjr) (d : zjs) (zc zt : Bool) : zjr := ⟨d.To, ⟨a.State.Kind, ⟨zc, a.State.L.l.take d.Ahead.toNat ++ (d.Mid.l ++ a.State.L.l.drop (a.State.L.l.length - d.Behind.toNat))⟩, d.Sealed, d.Engine⟩, ⟨zt, noteAll a.Table.l d.Table.l⟩⟩
theorem zb0a (D : Sl zjq) (i0 k0 : Int) (sl : Bool) (to : Int) (cz : Bool) (C : List Int) (hC : C.length ≤ 1000000) (hD : D.l.length ≤ 1000) : ∀ (k i : Nat) (T : List zjq), D.l.length = i + k → T.length + k ≤ 900000 → mayN ⟨i0, ⟨k0, ⟨false, C⟩, sl, to⟩, ⟨false, noteAll T (D.l.drop i)⟩⟩ = true →
  Ev (fun q => zky q D.z D.l (D.l.length : Int) (i : Int) i0 k0 sl to cz C true false T true) (⟨i0, ⟨k0, ⟨cz, C⟩, sl, to⟩, ⟨false, noteAll T (D.l.drop i)⟩⟩, 0)
 | 0, i, T, hk, hT, hm => by
  rw [y13 (by omega)] at hm ⊢
  have hM := zbvo ⟨i0, ⟨k0, ⟨cz, C⟩, sl, to⟩, ⟨false, T⟩⟩ hC (by simp only; omega)
  refine Ev.succ (Ev.ne (Ev.bind hM (Ev.pos hm ?_))) (fun q => rfl)
  exact Ev.ret _
 | k + 1, i, T, hk, hT, hm => by
  have hi : i < D.l.length := by omega
  have he : D.l[((i : Int)).toNat]? = some D.l[i] := by simp [hi]
  rw [y10 hi, zbz1] at hm ⊢
  have hN := zbzk ⟨false, T⟩ (fun h => by cases h) (by simp only; omega) ⟨0, D.l[i].Proc, D.l[i].Seq, ⟨0, 0, 0⟩, D.l[i].Resp⟩
  have hn := zbzc T D.l[i].Proc D.l[i].Seq D.l[i].Resp
  have ih := zb0a D i0 k0 sl to cz C hC hD k (i + 1) (noteL T D.l[i].Proc D.l[i].Seq D.l[i].Resp) (by omega) (by omega) hm
  rw [show ((i + 1 : Nat) : Int) = wrp .i64 ((i : Int) + 1) by rw [zbte (by omega) (by omega)]; omega] at ih
  refine Ev.succ (Ev.po (Ev.po (Ev.opt he (Ev.bind hN ?_)))) (fun q => rfl)
  exact ih
theorem zb0b (a : zjr) (d : zjs) (hz : zOk a.State.L.z a.Table.z a) (ha : mayN a = true) (h1 : 0 ≤ d.Ahead) (h2 : 0 ≤ d.Behind) (h3 : d.Ahead + d.Behind ≤ (a.State.L.l.length : Int)) (h4 : a.Index = d.From) (h5 : d.From ≤ d.To) (h6 : d.Mid.l.length ≤ 1000) (h7 : d.Table.l.length ≤ 1000) (hm : mayN (appL a d false false) = true) :
  ∃ zc zt, Ev (fun q => zk0 q a d) (appL a d zc zt, 0) := by
 have hb := zbxd ha
 have hk := zbwg (zbwh (zbwk ha).2.2.1).2.2.2
 have hM := zbvo a hb.1 hb.2
 have w1 : wrp .i64 ((a.State.L.l.length : Int) - d.Ahead) = (a.State.L.l.length : Int) - d.Ahead := zbte (by omega) (by omega)
 have w2 : wrp .i64 ((a.State.L.l.length : Int) - d.Behind) = ((a.State.L.l.length - d.Behind.toNat : Nat) : Int) := by rw [zbte (by omega) (by omega)]; omega
 obtain ⟨zc, hC⟩ := zbv3 ⟨false, [⟨a.State.L.z, a.State.L.l.take d.Ahead.toNat⟩, d.Mid, ⟨a.State.L.z, a.State.L.l.drop (a.State.L.l.length - d.Behind.toNat)⟩]⟩ (by simp) (by simp [flat]; omega)
 have hfl : flat [⟨a.State.L.z, a.State.L.l.take d.Ahead.toNat⟩, d.Mid, ⟨a.State.L.z, a.State.L.l.drop (a.State.L.l.length - d.Behind.toNat)⟩] = a.State.L.l.take d.Ahead.toNat ++ (d.Mid.l ++ a.State.L.l.drop (a.State.L.l.length - d.Behind.toNat)) := by simp [flat]
 simp only at hC
 rw [hfl] at hC
 unfold appL at hm ⊢
 generalize hCC : a.State.L.l.take d.Ahead.toNat ++ (d.Mid.l ++ a.State.L.l.drop (a.State.L.l.length - d.Behind.toNat)) = C at hC hm ⊢
 have hClen : C.length ≤ 1000000 := by rw [← hCC]; simp only [y11, y21, y14]; omega
 have pre : ∀ {r : zjr × Int}, Ev (fun q => zkz q d.Table.z d.Table.l (d.Table.l.length : Int) d.To a.State.Kind d.Sealed d.Engine a.Table.z a.Table.l zc C true) r → Ev (fun q => zk0 q a d) r := fun h => by
  refine Ev.succ (Ev.bind hM (Ev.pos ha (Ev.ne (Ev.ne (Ev.ne (Ev.neg (by rw [w1]; omega) (Ev.pos h4 (Ev.ne (Ev.pos h1 (Ev.pos (by omega) ?_)))))))))) (fun q => rfl)
  rw [w2, y29]
  exact Ev.po (Ev.po (Ev.bind hC h))
 by_cases h0 : d.Table.l.length = 0
 ·have hn : d.Table.l = [] := y36 h0
  have hna : noteAll a.Table.l d.Table.l = a.Table.l := by rw [hn]; rfl
  rw [hna] at hm ⊢
  have hM2 := zbvo ⟨d.To, ⟨a.State.Kind, ⟨zc, C⟩, d.Sealed, d.Engine⟩, ⟨a.Table.z, a.Table.l⟩⟩ hClen hb.2
  refine ⟨zc, a.Table.z, pre (Ev.succ (Ev.ne (Ev.bind hM2 (Ev.pos hm ?_))) (fun q => rfl))⟩
  exact Ev.ret _
 ·have hi : 0 < d.Table.l.length := by omega
  have he : d.Table.l[0]? = some d.Table.l[0] := y8 hi
  have hd : d.Table.l = d.Table.l[0] :: d.Table.l.drop 1 := by
   have := y10 hi
   rwa [y39] at this
  have hA : noteAll a.Table.l d.Table.l = noteAll (noteL a.Table.l d.Table.l[0].Proc d.Table.l[0].Seq d.Table.l[0].Resp) (d.Table.l.drop 1) := by
   have := congrArg (noteAll a.Table.l) hd
   exact this
  rw [hA] at hm ⊢
  generalize d.Table.l[0] = e at he hm ⊢
  have hN := zbzk a.Table hz.2 (by omega) ⟨0, e.Proc, e.Seq, ⟨0, 0, 0⟩, e.Resp⟩
  have hn := zbzc a.Table.l e.Proc e.Seq e.Resp
  have htl := zbwl (zbwk ha).2.2.2 (by omega)
  have htl2 : a.Table.l.length ≤ 100 := by
   rcases htl with h | h
   ·omega
   ·rw [h]; simp
  have ih := zb0a d.Table d.To a.State.Kind d.Sealed d.Engine zc C hClen h7 (d.Table.l.length - 1) 1 (noteL a.Table.l e.Proc e.Seq e.Resp) (by omega) (by omega) hm
  rw [show ((1 : Nat) : Int) = wrp .i64 1 by rw [zbte (by omega) (by omega)]; rfl] at ih
  refine ⟨zc, false, pre (Ev.succ (Ev.po (Ev.opt he (Ev.bind hN ?_))) (fun q => rfl))⟩
  exact ih
def diffD (a b : zjr) (zm zt : Bool) : zjs := ⟨a.Index, b.Index, ((ahN a.State.L.l b.State.L.l : Nat) : Int), ((beN a.State.L.l b.State.L.l : Nat) : Int), ⟨zm, midL a.State.L.l b.State.L.l⟩, b.State.Sealed, b.State.To, ⟨zt, newT a.Table.l b.Table.l⟩⟩
/-- The delta between two snapshots, where there is one. -/
theorem zb0c {a b : zjr} (ha : mayN a = true) (hb : mayN b = true) (hk : a.State.Kind = b.State.Kind) (hl : lacksB a.Table.l b.Table.l = false) (hi : a.Index ≤ b.Index) (zm zt : Bool) :
  diffR a b zm zt = (diffD a b zm zt, 0) := by
 unfold diffR diffD
 rw [if_pos ⟨ha, hb, hk⟩, if_neg (by rw [hl]; simp; omega)]
theorem zb0d (x y : List Int) : (midL x y).length ≤ y.length := by
 unfold midL; simp only [y21, y14]; omega
/-- It makes the later one, however its lists are bounded. -/
theorem zb0e {a b : zjr} (hk : a.State.Kind = b.State.Kind) (ha : mayN a = true) (hb : mayN b = true) (hl : lacksB a.Table.l b.Table.l = false) (d : zjs) (h1 : d.To = b.Index) (h2 : d.Ahead = ((ahN a.State.L.l b.State.L.l : Nat) : Int)) (h3 : d.Behind = ((beN a.State.L.l b.State.L.l : Nat) : Int)) (h4 : d.Mid.l = midL a.State.L.l b.State.L.l) (h5 : d.Sealed = b.State.Sealed) (h6 : d.Engine = b.State.To) (h7 : d.Table.l = newT a.Table.l b.Table.l) (z z' : Bool) :
  appL a d z z' = setZ z z' b := by
 have hA := zbwk ha
 have hB := zbwk hb
 unfold appL setZ
 rw [h1, h2, h3, h4, h5, h6, h7, y29, y29, zbzz, zbz8 (zbzn hA.2.2.2) (zbzn hB.2.2.2) hl, hk]
theorem zb0f {a b : zjr} (hz : zOk a.State.L.z a.Table.z a) (hk : a.State.Kind = b.State.Kind) (ha : mayN a = true) (hb : mayN b = true) (hl : lacksB a.Table.l b.Table.l = false) (hi : a.Index ≤ b.Index) (d : zjs) (h0 : d.From = a.Index) (h1 : d.To = b.Index) (h2 : d.Ahead = ((ahN a.State.L.l b.State.L.l : Nat) : Int)) (h3 : d.Behind = ((beN a.State.L.l b.State.L.l : Nat) : Int)) (h4 : d.Mid.l = midL a.State.L.l b.State.L.l) (h5 : d.Sealed = b.State.Sealed) (h6 : d.Engine = b.State.To) (h7 : d.Table.l = newT a.Table.l b.Table.l) :
  ∃ zc zt, Ev (fun q => zk0 q a d) (setZ zc zt b, 0) := by
 have key := fun z z' => zb0e hk ha hb hl d h1 h2 h3 h4 h5 h6 h7 z z'
 have hle := beN_le a.State.L.l b.State.L.l
 have hB := zbwk hb
 have hkb := zbwg (zbwh hB.2.2.1).2.2.2
 have hml := zb0d a.State.L.l b.State.L.l
 have htl := zbv8 a.Table.l b.Table.l
 have htb := zbwl hB.2.2.2 (by omega)
 have htb2 : b.Table.l.length ≤ 100 := by
  rcases htb with h | h
  ·omega
  ·rw [h]; simp
 obtain ⟨zc, zt, h⟩ := zb0b a d hz ha (by omega) (by omega) (by omega) h0.symm (by omega) (by rw [h4]; omega) (by rw [h7]; omega) (by rw [key]; exact hb)
 rw [key] at h
 exact ⟨zc, zt, h⟩
theorem zb0g (z0 z9 : Bool) (L : List (Sl Int)) (hL : L.length ≤ 1099511627776) (hf : (flat L).length ≤ 4294967296) (h9 : 0 < (flat L).length) : ∀ (k i : Nat) (m : Nat), L.length = i + k → m + (flat (L.drop i)).length = (flat L).length →
  Ev (fun q => znl q z0 L (m : Int) z9 L (L.length : Int) (i : Int)) ⟨false, true, flat L⟩
 | 0, i, m, hk, hm => by
  rw [y13 (by omega)] at hm
  have hm2 : m = (flat L).length := by simpa [flat] using hm
  have w : wrp .i64 ((m : Int) - wrp .i64 0) = (m : Int) := by rw [zbte (x := 0) (by omega) (by omega), zbte (by omega) (by omega)]; omega
  refine Ev.succ (Ev.ne (Ev.ne (Ev.pos (by rw [w]; omega) (Ev.pos (by rw [w]; omega) (Ev.pos (by rw [w]; omega) (Ev.neg (by rw [w]; omega) ?_)))))) (fun q => rfl)
  rw [w]
  have := zbuk z0 L (decide ((m : Int) = 0)) hL L.length 0 0 (List.replicate (m : Int).toNat 0) (by omega) (by simp; omega)
  rw [y39] at this
  refine Ev.cast this ?_
  rw [decide_eq_false (by omega)]; rfl
 | k + 1, i, m, hk, hm => by
  have hi : i < L.length := by omega
  have hg : L[(i : Int).toNat]? = some L[i] := by simpa using y8 hi
  rw [y10 hi, zbuj, y11] at hm
  have h := zb0g z0 z9 L hL hf h9 k (i + 1) (m + L[i].l.length) (by omega) (by omega)
  refine Ev.succ (Ev.po (Ev.po (Ev.opt hg ?_))) (fun q => rfl)
  have w : wrp .i64 ((m : Int) + (L[i].l.length : Int)) = ((m + L[i].l.length : Nat) : Int) := by rw [zbte (by omega) (by omega)]; omega
  rw [w, zbte (by omega) (by omega), show ((i : Int) + 1) = ((i + 1 : Nat) : Int) by omega]
  exact Ev.neg (by omega) h
theorem zb0h (s : Sl (Sl Int)) (hL : s.l.length ≤ 1099511627776) (hf : (flat s.l).length ≤ 4294967296) (h9 : 0 < (flat s.l).length) : Ev (fun q => znm q s) ⟨false, true, flat s.l⟩ :=
 Ev.succ (zb0g s.z s.z s.l hL hf h9 s.l.length 0 0 (by omega) (by simp)) (fun q => rfl)
theorem zb0i (s : Sl Int) (hb : isB s.l) (hl : s.l.length ≤ 1048576) : ∃ z, z = false ∧ Ev (fun q => znn q s) (⟨z, true, encF s.l⟩, 0) := by
 have hp := zbtn (s.l.length : Int)
 have h := zb0h ⟨false, [⟨false, put (s.l.length : Int)⟩, s, ⟨false, fix4 (bsum (put (s.l.length : Int) ++ s.l)).toNat⟩]⟩ (by simp) (by simp [flat, fix4]; omega) (by simp [flat, fix4]; omega)
 refine ⟨false, rfl, Ev.succ (Ev.neg (by omega) ?_) (fun q => rfl)⟩
 refine Ev.bind (zbto ⟨true, true, []⟩ (by omega) (by omega) (by simp)) ?_
 refine Ev.bind (zbui ⟨false, put (s.l.length : Int)⟩ s (zbum (s.l.length : Int)) hb (by simp only; omega) (by omega)) ?_
 refine Ev.bind h ?_
 exact Ev.ret' (by simp [encF, flat])
theorem zb0j {l : List Int} (h : isB l) : isB (encF l) := by
 unfold encF
 refine zbun.2 ⟨zbum _, zbun.2 ⟨h, ?_⟩⟩
 intro c hc; simp [fix4] at hc; omega
theorem zb0k (z : Bool) (L : List zjq) (hL : L.length ≤ 1000) (hT : entsOk L) : ∀ (k i : Nat) (l : List Int), L.length = i + k → l.length ≤ 10000 + 30 * i → isB l →
  ∃ z', z' = false ∧ Ev (fun q => zno q z L (L.length : Int) (i : Int) false l true) (⟨z', true, encF (l ++ tabE (L.drop i))⟩, 0)
 | 0, i, l, hk, hl, hb => by
  obtain ⟨z', hz', hF⟩ := zb0i ⟨false, l⟩ hb (by simp only; omega)
  refine ⟨z', hz', Ev.succ (Ev.ne (Ev.bind hF (Ev.ret' ?_))) (fun q => rfl)⟩
  rw [y13 (by omega)]; simp [tabE]
 | k + 1, i, l, hk, hl, hb => by
  have hi : i < L.length := by omega
  have he : L[((i : Int)).toNat]? = some L[i] := by simp [hi]
  have hr := hT L[i] (y27 hi)
  have ho := zbwi hr
  have hE : l ++ putsB [L[i].Proc, L[i].Seq] ++ putS L[i].Resp = l ++ entB L[i] := by simp [putsB, entB]
  have hp := zbxq [L[i].Proc, L[i].Seq]; have p3 := zbtv (zbwt hr); have p4 := zbwu hr
  obtain ⟨z', hz', ih⟩ := zb0k z L hL hT k (i + 1) (l ++ entB L[i]) (by omega) (by rw [y11]; omega) (zbun.2 ⟨hb, zbwv⟩)
  rw [show ((i + 1 : Nat) : Int) = wrp .i64 ((i : Int) + 1) by rw [zbte (by omega) (by omega)]; omega] at ih
  refine ⟨z', hz', Ev.succ (Ev.po (Ev.po (Ev.opt he (Ev.bind (zbxt ⟨false, true, l⟩ ⟨false, [L[i].Proc, L[i].Seq]⟩ (by simp) (by simp) ?_ (by simp only; omega)) (Ev.bind (zbts _ (zbwt hr) (by simp only [y11, y22, y26] at hp ⊢; omega)) (Ev.cast (by rw [← hE] at ih; exact ih) ?_)))))) (fun q => rfl)⟩
  ·simp only [List.all_cons, List.all_nil, idxOk, y7, decide_eq_true_eq, and_true]; omega
  ·rw [y10 hi, zbws, hE, y34]
theorem zb0l {d : zjs} (hm : mayL d = true) : ∀ (k i : Nat) (l : List Int), d.Mid.l.length = i + k → l.length ≤ 1000 + 10 * i → isB l →
  ∃ z', z' = false ∧ Ev (fun q => znp q d.Mid.z d.Mid.l (d.Mid.l.length : Int) (i : Int) d.From d.To d.Ahead d.Behind d.Mid.z d.Mid.l d.Sealed d.Engine d.Table.z d.Table.l false l true) (⟨z', true, encF (((l ++ numsB (d.Mid.l.drop i)) ++ putsB [sealL d, (d.Table.l.length : Int)]) ++ tabE d.Table.l)⟩, 0)
 | 0, i, l, hk, hl, hb => by
  have ho := zbxo hm
  have hn := zbxv hm
  rw [y13 (by omega)]
  have hp := zbxq [sealL d, (d.Table.l.length : Int)]
  simp only [y22, y26] at hp
  obtain ⟨z', hz', h1⟩ := zb0k d.Table.z d.Table.l (by omega) (zbwj ho.2.2.2.2.2.2.2.2.2) d.Table.l.length 0 (l ++ putsB [sealL d, (d.Table.l.length : Int)]) (by omega) (by rw [y11]; omega) (zbun.2 ⟨hb, zbxr⟩)
  rw [y39] at h1
  have hP := zbxt ⟨false, true, l⟩ ⟨false, [sealL d, (d.Table.l.length : Int)]⟩ (by simp) (by simp) (by simp only [List.all_cons, List.all_nil, idxOk, y7, decide_eq_true_eq, and_true]; omega) (by simp only; omega)
  have e0 : numsB [] = [] := rfl
  rw [e0, List.append_nil]
  refine ⟨z', hz', Ev.succ (Ev.ne (Ev.ite (fun c => ?_) fun c => ?_)) (fun q => rfl)⟩
  ·have e : wrp .i64 (1 + d.Engine) = sealL d := by unfold sealL; rw [if_pos c, zbte (by omega) (by omega)]
   rw [e]
   exact Ev.bind hP h1
  ·have e : sealL d = 0 := by unfold sealL; rw [if_neg c]
   have := Ev.bind (k := fun q r6 => (zno q d.Table.z d.Table.l (d.Table.l.length : Int) 0 r6.n r6.xs r6.x)) hP h1
   rw [e] at this ⊢
   exact this
 | k + 1, i, l, hk, hl, hb => by
  have ho := zbxo hm
  have hn := zbxv hm
  have hi : i < d.Mid.l.length := by omega
  have he : d.Mid.l[((i : Int)).toNat]? = some d.Mid.l[i] := by simp [hi]
  have hr := inT_R ho.2.2.2.2.2.1 (y27 hi)
  have hp := zbtv hr
  obtain ⟨z', hz', ih⟩ := zb0l hm k (i + 1) (l ++ putS d.Mid.l[i]) (by omega) (by rw [y11]; omega) (zbun.2 ⟨hb, zbwp _⟩)
  rw [show ((i + 1 : Nat) : Int) = wrp .i64 ((i : Int) + 1) by rw [zbte (by omega) (by omega)]; omega] at ih
  refine ⟨z', hz', Ev.succ (Ev.po (Ev.po (Ev.opt he (Ev.bind (zbts ⟨false, true, l⟩ hr (by simp only; omega)) (Ev.cast ih ?_))))) (fun q => rfl)⟩
  rw [y10 hi, zbwm, y34 l]
theorem zb0m (d : zjs) (h1 : d.Mid.l.length ≤ 1000000) (h2 : d.Table.l.length ≤ 1000000) : ∃ z, (mayL d = true → z = false) ∧ Ev (fun q => znq q d) (if mayL d = true then (⟨z, true, encF (delD d)⟩, 0) else (⟨true, true, []⟩, 1)) := by
 by_cases h : mayL d = true
 ·have ho := zbxo h
  have hn := zbxv h
  have hp := zbxq [d.From, d.To, d.Ahead, d.Behind, (d.Mid.l.length : Int)]
  simp only [y22, y26] at hp
  have hP := zbxt ⟨true, true, []⟩ ⟨false, [d.From, d.To, d.Ahead, d.Behind, (d.Mid.l.length : Int)]⟩ (by simp) (by simp) (by simp only [List.all_cons, List.all_nil, idxOk, y7, decide_eq_true_eq, and_true]; omega) (by simp)
  obtain ⟨z, hzz, hE⟩ := zb0l h d.Mid.l.length 0 (putsB [d.From, d.To, d.Ahead, d.Behind, (d.Mid.l.length : Int)]) (by omega) (by omega) zbxr
  rw [y39] at hE
  refine ⟨z, fun _ => hzz, ?_⟩
  rw [if_pos h]
  exact Ev.succ (Ev.bind (zbxn d h1 h2) (Ev.pos h (Ev.bind hP hE))) (fun q => rfl)
 ·refine ⟨true, fun e => absurd e h, ?_⟩
  rw [if_neg h]
  exact Ev.succ (Ev.bind (zbxn d h1 h2) (Ev.neg h (Ev.ret _))) (fun q => rfl)
theorem gN_put {n : Int} {x : List Int} (h1 : 0 ≤ n) (h2 : n < 4611686018427387904) : gN (put n ++ x, true) = (n, x, true) := by
 have hp := zbw6 h1 h2
 unfold gN
 simp only [zbu1 h1 h2, y29, List.drop_left']
 rw [decide_eq_true (show (0 : Int) < ((put n).length : Int) by omega)]
 simp
theorem gS_put {n : Int} {x : List Int} (h : inR .i64 n) : gS (putS n ++ x, true) = (n, x, true) := by
 have hp := zbw5 n
 unfold gS
 simp only [zbw4 h, y29, List.drop_left']
 rw [decide_eq_true (show (0 : Int) < ((putS n).length : Int) by omega)]
 simp
theorem zb0n : ∀ {l x : List Int}, inT l → numsR l.length (numsB l ++ x, true) = (l, x, true)
 | [], x, _ => by simp [numsR, numsB]
 | a :: l, x, h => by
  have e : gS (numsB (a :: l) ++ x, true) = (a, numsB l ++ x, true) := by rw [zbwm, y34]; exact gS_put (inT_R h y33)
  simp only [y22, numsR, e, zb0n (fun y hy => h y (y37 _ hy))]
theorem zb0o : ∀ {l : List zjq} {x : List Int}, entsOk l → entsR l.length (tabE l ++ x, true) = (l, x, true)
 | [], x, _ => by simp [entsR, tabE]
 | a :: l, x, h => by
  have ha := h a y33
  have ho := zbwi ha
  have e0 : tabE (a :: l) ++ x = put a.Proc ++ (put a.Seq ++ (putS a.Resp ++ (tabE l ++ x))) := by rw [zbws]; simp [entB]
  rw [y22, zbym, e0, gN_put (by omega) (by omega)]
  simp only
  rw [gN_put (by omega) (by omega)]
  simp only
  rw [gS_put (zbwt ha)]
  simp only
  rw [zb0o (fun y hy => h y (y37 _ hy))]
theorem zb0p {d : zjs} (h : mayL d = true) (d0 d1 d2 d3 : Int) (mid : Sl Int) : tlD d0 d1 d2 d3 mid (put (sealL d) ++ (put (d.Table.l.length : Int) ++ (tabE d.Table.l ++ [])), true) = (⟨d0, d1, d2, d3, mid, d.Sealed, d.Engine, ⟨d.Table.l.isEmpty, d.Table.l⟩⟩, true) := by
 have ho := zbxo h
 have hn := zbxv h
 have hE := zb0o (l := d.Table.l) (x := []) (zbwj ho.2.2.2.2.2.2.2.2.2)
 have g1 := gN_put (n := sealL d) (x := put (d.Table.l.length : Int) ++ (tabE d.Table.l ++ [])) (by omega) (by omega)
 have g2 := gN_put (n := (d.Table.l.length : Int)) (x := tabE d.Table.l ++ []) (by omega) (by omega)
 unfold tlD
 simp only [g1, g2, y29, hE]
 rw [if_neg (by omega)]
 have e1 : decide (0 < sealL d) = d.Sealed := by
  unfold sealL
  by_cases c : d.Sealed = true
  ·rw [if_pos c, c, decide_eq_true_eq]; omega
  ·rw [if_neg c]; simp at c; rw [c]; rfl
 have e2 : (if sealL d - 1 < 0 then 0 else sealL d - 1) = d.Engine := by
  unfold sealL
  by_cases c : d.Sealed = true
  ·rw [if_pos c, if_neg (by omega)]; omega
  ·rw [if_neg c, if_pos (by omega)]
   rcases ho.2.2.2.2.2.2.2.2.1 with e | e
   ·exact absurd e c
   ·exact e.symm
 rw [e1, e2]
 simp
def normD (d : zjs) : zjs := ⟨d.From, d.To, d.Ahead, d.Behind, ⟨d.Mid.l.isEmpty, d.Mid.l⟩, d.Sealed, d.Engine, ⟨d.Table.l.isEmpty, d.Table.l⟩⟩
theorem zb0q {d : zjs} (h : mayL d = true) : rdD (delD d) = (normD d, true) := by
 have ho := zbxo h
 have hn := zbxv h
 have e0 : delD d = put d.From ++ (put d.To ++ (put d.Ahead ++ (put d.Behind ++ (put (d.Mid.l.length : Int) ++ (numsB d.Mid.l ++ (put (sealL d) ++ (put (d.Table.l.length : Int) ++ (tabE d.Table.l ++ [])))))))) := by
  simp [delD, putsB]
 have e1 : n1 (delD d) = (d.From, put d.To ++ (put d.Ahead ++ (put d.Behind ++ (put (d.Mid.l.length : Int) ++ (numsB d.Mid.l ++ (put (sealL d) ++ (put (d.Table.l.length : Int) ++ (tabE d.Table.l ++ []))))))), true) := by
  unfold n1; rw [e0]; exact gN_put (by omega) (by omega)
 have e2 : n2 (delD d) = (d.To, put d.Ahead ++ (put d.Behind ++ (put (d.Mid.l.length : Int) ++ (numsB d.Mid.l ++ (put (sealL d) ++ (put (d.Table.l.length : Int) ++ (tabE d.Table.l ++ [])))))), true) := by
  unfold n2; rw [e1]; exact gN_put (by omega) (by omega)
 have e3 : n3 (delD d) = (d.Ahead, put d.Behind ++ (put (d.Mid.l.length : Int) ++ (numsB d.Mid.l ++ (put (sealL d) ++ (put (d.Table.l.length : Int) ++ (tabE d.Table.l ++ []))))), true) := by
  unfold n3; rw [e2]; exact gN_put (by omega) (by omega)
 have e4 : n4 (delD d) = (d.Behind, put (d.Mid.l.length : Int) ++ (numsB d.Mid.l ++ (put (sealL d) ++ (put (d.Table.l.length : Int) ++ (tabE d.Table.l ++ [])))), true) := by
  unfold n4; rw [e3]; exact gN_put (by omega) (by omega)
 have e5 : n5 (delD d) = ((d.Mid.l.length : Int), numsB d.Mid.l ++ (put (sealL d) ++ (put (d.Table.l.length : Int) ++ (tabE d.Table.l ++ []))), true) := by
  unfold n5; rw [e4]; exact gN_put (by omega) (by omega)
 unfold rdD
 rw [e1, e2, e3, e4, e5]
 simp only [y29]
 rw [if_neg (by omega), zb0n ho.2.2.2.2.2.1]
 exact zb0p h _ _ _ _ _
theorem zb0r {d : zjs} (h : mayL d = true) : (delD d).length ≤ 10000 := by
 have ho := zbxo h
 have hn := zbxv h
 have h1 := zbxq [d.From, d.To, d.Ahead, d.Behind, (d.Mid.l.length : Int)]
 have h2 := zbxq [sealL d, (d.Table.l.length : Int)]
 have h3 := zbwo ho.2.2.2.2.2.1
 have h4 := zbww (zbwj ho.2.2.2.2.2.2.2.2.2)
 simp only [y22, y26] at h1 h2
 simp only [delD, y11]; omega
theorem zb0s {d : zjs} (h : mayL d = true) : dcD (encF (delD d)) = (normD d, 0) := by
 have hl := zb0r h
 have hd := zbu4 (l := delD d) (x := []) (by omega)
 rw [List.append_nil] at hd
 unfold dcD
 simp only [hd, zb0q h, if_true]
 exact if_pos (show mayL (normD d) = true from h)
theorem zb0t {a b : zjr} (ha : mayN a = true) (hb : mayN b = true) (zm zt : Bool) : mayL (diffD a b zm zt) = true := by
 have hA := zbwk ha
 have hB := zbwk hb
 have hsb := zbwh hB.2.2.1
 have hka := zbwg (zbwh hA.2.2.1).2.2.2
 have hkb := zbwg hsb.2.2.2
 have hle := beN_le a.State.L.l b.State.L.l
 have hml := zb0d a.State.L.l b.State.L.l
 have hmid : ∀ x ∈ midL a.State.L.l b.State.L.l, -1099511627776 ≤ x ∧ x ≤ 1099511627776 := fun x hx => hkb.2.2.2 x (by
  unfold midL at hx
  exact y53 (y45 hx))
 have htab : tabB (-1) (newT a.Table.l b.Table.l) = true := zbz9 (last := -1) (zbz4 _ (zbzn hB.2.2.2)) fun e he => zbwj hB.2.2.2 e (zbz6 _ he)
 have p1 : [a.Index, b.Index, ((ahN a.State.L.l b.State.L.l : Nat) : Int), ((beN a.State.L.l b.State.L.l : Nat) : Int)].all idxOk = true := by
  simp only [List.all_cons, List.all_nil, idxOk, y7, decide_eq_true_eq, and_true]; omega
 have p2 : (midL a.State.L.l b.State.L.l).all midOk = true := by
  rw [y55]
  intro x hx
  have := hmid x hx
  simp only [midOk, y7, decide_eq_true_eq]; omega
 have p3 : (b.State.Sealed || decide (b.State.To = 0)) = true := by
  by_cases c : b.State.Sealed = true
  ·rw [c]; rfl
  ·rw [decide_eq_true (hsb.2.2.1 (by simpa using c)), Bool.or_true]
 have q1 : (midL a.State.L.l b.State.L.l).length ≤ 128 := by omega
 have q2 : 0 ≤ b.State.To := by omega
 have q3 : b.State.To < 3 := by omega
 unfold mayL
 exact Bool.and_eq_true_iff.2 ⟨p1, Bool.and_eq_true_iff.2 ⟨decide_eq_true q1, Bool.and_eq_true_iff.2 ⟨p2, Bool.and_eq_true_iff.2 ⟨decide_eq_true q2, Bool.and_eq_true_iff.2 ⟨decide_eq_true q3, Bool.and_eq_true_iff.2 ⟨p3, htab⟩⟩⟩⟩⟩⟩
theorem zb0u : ∀ (a0 : zjr) (a1 : zjr), zjr.ok a0 → zjr.ok a1 → ∃ q, zns q a0 a1 = some true := by
 intro a b ha hb
 refine Ev.get (Ev.succ (Ev.bind zbwd (Ev.bind (Few_ev a) (Ev.bind (Few_ev b) (Ev.pos rfl (Ev.ite (fun h1 => Ev.ite (fun h2 => ?_) fun h2 => Ev.ret _) fun h1 => Ev.ret _))))) (fun q => rfl))
 simp only [decide_eq_true_eq] at h1 h2
 have hza : zOk a.State.L.z a.Table.z a := ⟨ha.2.1.2.1.1, ha.2.2.1⟩
 obtain ⟨zm, zt, hD⟩ := zbwc a b (by omega) (by omega) (by omega) (by omega) hb.2.1.2.1.1
 refine Ev.bind hD (Ev.ite (fun c => ?_) fun c => Ev.ret _)
 -- there is one
 have hc : mayN a = true ∧ mayN b = true ∧ a.State.Kind = b.State.Kind ∧ lacksB a.Table.l b.Table.l = false ∧ a.Index ≤ b.Index := by
  unfold diffR at c
  split at c
  ·rename_i m
   split at c
   ·cases c
   ·rename_i n
    refine ⟨m.1, m.2.1, m.2.2, ?_, by omega⟩
    cases hlb : lacksB a.Table.l b.Table.l with
    | false => rfl
    | true => exact absurd (.inl hlb) n
  ·cases c
 obtain ⟨ma, mb, hk, hl, hi⟩ := hc
 rw [zb0c ma mb hk hl hi]
 have hM := zb0t ma mb zm zt
 have hmn := zbxv hM
 obtain ⟨z, hzf, hE⟩ := zb0m (diffD a b zm zt) (by omega) (by omega)
 rw [if_pos hM, hzf hM] at hE
 have hlen := zb0r hM
 have hel := zbwz (delD (diffD a b zm zt))
 have hpl := zbtn ((delD (diffD a b zm zt)).length : Int)
 have hDc := zb0s hM
 have hF := zby8 ⟨false, encF (delD (diffD a b zm zt))⟩ (fun h => by cases h) (zb0j zbxu) (by simp only; omega)
 simp only [hDc] at hF
 obtain ⟨zc, zd, hA⟩ := zb0f (b := b) hza hk ma mb hl hi (normD (diffD a b zm zt)) rfl rfl rfl rfl rfl rfl rfl rfl
 have hS := zbxw (diffD a b zm zt) (normD (diffD a b zm zt)) (by omega) (by omega)
 have e1 : sameL (diffD a b zm zt) (normD (diffD a b zm zt)) = true := by simp [sameL, normD]
 rw [e1] at hS
 have hS2 := zbw3 (setZ zc zd b) b (by simp only [setZ]; omega) (by simp only [setZ]; omega)
 have e2 : sameN (setZ zc zd b) b = true := by simp [sameN, sameS, setZ]
 rw [e2] at hS2
 refine Ev.bind hE (Ev.bind hF (Ev.bind hA (Ev.pos rfl (Ev.pos rfl (Ev.pos rfl (Ev.bind hS (Ev.pos rfl (Ev.bind hS2 ?_))))))))
 exact Ev.ret _
end Go.Dvm.I
