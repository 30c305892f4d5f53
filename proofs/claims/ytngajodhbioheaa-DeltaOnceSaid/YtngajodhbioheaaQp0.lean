/- Plain laws of the functions: part 1. -/
import Derived.Test.YtngajodhbioheaaQi
set_option linter.all false
set_option maxRecDepth 100000
namespace Go.Dvm.I
open Go Go.Dvm
/-- With enough rounds. -/
def Ev {R : Type} (g : Nat → Option R) (r : R) : Prop := ∃ N, ∀ q, N ≤ q → g q = some r
section
variable {R S : Type}
theorem Ev.ret (r : R) : Ev (fun _ => some r) r := ⟨0, fun _ _ => rfl⟩
theorem Ev.ret' {r r' : R} (h : r = r') : Ev (fun _ => some r) r' := ⟨0, fun _ _ => by rw [h]⟩
theorem Ev.succ {f g : Nat → Option R} {r : R} (h : Ev g r) (e : ∀ q, f (q + 1) = g q) : Ev f r := by
 obtain ⟨N, h⟩ := h
 refine ⟨N + 1, fun q hq => ?_⟩
 obtain ⟨q, rfl⟩ : ∃ p, q = p + 1 := ⟨q - 1, by omega⟩
 rw [e]; exact h q (by omega)
theorem Ev.bind {g : Nat → Option S} {k : Nat → S → Option R} {s : S} {r : R} (h : Ev g s) (h2 : Ev (fun q => k q s) r) : Ev (fun q => (g q).bind (k q)) r := by
 obtain ⟨N, h⟩ := h
 obtain ⟨M, h2⟩ := h2
 exact ⟨N + M, fun q hq => by show (g q).bind (k q) = some r; rw [h q (by omega), y6]; exact h2 q (by omega)⟩
theorem Ev.opt {o : Option S} {k : Nat → S → Option R} {s : S} {r : R} (h : o = some s) (h2 : Ev (fun q => k q s) r) : Ev (fun q => o.bind (k q)) r := by
 subst h; exact h2
theorem Ev.pos {c : Prop} [Decidable c] {a b : Nat → Option R} {r : R} (hc : c) (h : Ev a r) : Ev (fun q => if c then a q else b q) r := by
 obtain ⟨N, h⟩ := h
 exact ⟨N, fun q hq => by show (if c then a q else b q) = some r; rw [if_pos hc]; exact h q hq⟩
theorem Ev.neg {c : Prop} [Decidable c] {a b : Nat → Option R} {r : R} (hc : ¬ c) (h : Ev b r) : Ev (fun q => if c then a q else b q) r := by
 obtain ⟨N, h⟩ := h
 exact ⟨N, fun q hq => by show (if c then a q else b q) = some r; rw [if_neg hc]; exact h q hq⟩
theorem Ev.po {c : Prop} [Decidable c] {a b : Nat → Option R} {r : R} (h : Ev a r) (hc : c := by omega) : Ev (fun q => if c then a q else b q) r := Ev.pos hc h
theorem Ev.ne {c : Prop} [Decidable c] {a b : Nat → Option R} {r : R} (h : Ev b r) (hc : ¬ c := by omega) : Ev (fun q => if c then a q else b q) r := Ev.neg hc h
theorem Ev.ite {c : Prop} [Decidable c] {a b : Nat → Option R} {r : R} (h1 : c → Ev a r) (h2 : ¬ c → Ev b r) : Ev (fun q => if c then a q else b q) r := by
 by_cases hc : c
 ·exact .pos hc (h1 hc)
 ·exact .neg hc (h2 hc)
theorem Ev.get {f : Nat → Option R} {r : R} (h : Ev f r) : ∃ q, f q = some r := by
 obtain ⟨N, h⟩ := h; exact ⟨N, h N (y15 _)⟩
theorem Ev.cast {f : Nat → Option R} {r r' : R} (h : Ev f r) (e : r = r') : Ev f r' := e ▸ h
end
theorem zbsv {x : Int} (h1 : -9223372036854775808 ≤ x) (h2 : x ≤ 9223372036854775807) : wrp .i64 x = x := by
 unfold wrp; simp [IntKind.wrap, IntKind.min, IntKind.max, IntKind.signed, IntKind.bits] <;> omega
theorem zbsw {x : Int} (h1 : 0 ≤ x) (h2 : x ≤ 18446744073709551615) : wrp .u64 x = x := by
 unfold wrp; simp [IntKind.wrap, IntKind.min, IntKind.max, IntKind.signed, IntKind.bits] <;> omega
theorem zbsx {x : Int} (h1 : 0 ≤ x) (h2 : x ≤ 4294967295) : wrp .u32 x = x := by
 unfold wrp; simp [IntKind.wrap, IntKind.min, IntKind.max, IntKind.signed, IntKind.bits] <;> omega
theorem wrp_u8 (x : Int) : wrp .u8 x = x % 256 := by
 unfold wrp; simp [IntKind.wrap, IntKind.min, IntKind.max, IntKind.signed, IntKind.bits] <;> omega
theorem zbsy {x : Int} (h1 : 0 ≤ x) : ishr .u64 x 7 = x / 128 := by
 unfold ishr; simp [IntKind.bits]
 rw [y54]; omega
theorem or128 {x : Int} (h1 : 0 ≤ x) (h2 : x < 256) : ibits .or .u8 x 128 = x % 128 + 128 := by
 obtain ⟨n, rfl⟩ := Int.eq_ofNat_of_zero_le h1
 have hn : n < 256 := by omega
 have : ∀ m : Fin 256, ibits .or .u8 (m.val : Int) 128 = (m.val : Int) % 128 + 128 := by unfold ibits; decide +kernel
 exact this ⟨n, hn⟩
/-- A number's groups. -/
def grp (n : Nat) : List Int := if h : n < 128 then [(n : Int)] else ((n % 128 + 128 : Nat) : Int) :: grp (n / 128)
theorem grp_lt {n : Nat} (h : n < 128) : grp n = [(n : Int)] := by rw [grp, dif_pos h]
theorem grp_ge {n : Nat} (h : ¬ n < 128) : grp n = ((n % 128 + 128 : Nat) : Int) :: grp (n / 128) := by rw [grp, dif_neg h]
theorem zbsz : ∀ (k : Nat) {n : Nat}, n < 128 ^ (k + 1) → (grp n).length ≤ k + 1
 | 0, n, h => by rw [grp_lt (by simpa using h)]; simp
 | k + 1, n, h => by
  by_cases hn : n < 128
  ·rw [grp_lt hn]; simp
  ·rw [grp_ge hn]
   have := zbsz k (n := n / 128) (by rw [Nat.div_lt_iff_lt_mul (by omega)]; rw [Nat.pow_succ] at h; exact h)
   simp; omega
theorem zbs0 {n : Nat} (h : n < 18446744073709551616) : (grp n).length ≤ 10 := zbsz 9 (by omega)
theorem zbs1 (n : Nat) : 1 ≤ (grp n).length := by
 by_cases hn : n < 128
 ·rw [grp_lt hn]; simp
 ·rw [grp_ge hn]; simp
theorem zbs2 : ∀ (n : Nat) (z : Bool) (l : List Int) (x : Bool), l.length + (grp n).length ≤ 4294967296 → Ev (fun q => zm2 q (n : Int) z l x) ⟨false, x, l ++ grp n⟩ := by
 intro n
 induction n using Nat.strongRecOn with
 | ind n ih =>
  intro z l x hl
  refine Ev.succ ?_ (fun q => rfl)
  by_cases hn : n < 128
  ·rw [grp_lt hn] at hl ⊢
   refine Ev.ne (Ev.pos (by simpa using hl) (Ev.ret' ?_))
   rw [wrp_u8]; congr 3; omega
  ·rw [grp_ge hn] at hl ⊢
   simp only [y22] at hl
   refine Ev.po (Ev.pos (by omega) ?_)
   rw [zbsy (by omega), wrp_u8, or128 (by omega) (by omega)]
   have := ih (n / 128) (by omega) false (l ++ [((n % 128 + 128 : Nat) : Int)]) x (by simp; omega)
   rw [show ((n : Int) % 256 % 128 + 128) = ((n % 128 + 128 : Nat) : Int) by omega, show ((n : Int) / 128) = ((n / 128 : Nat) : Int) by omega]
   simpa using this
theorem zbs3 {u : Int} (h1 : 0 ≤ u) (b : Ow Int) (hl : b.xs.length + (grp u.toNat).length ≤ 4294967296) : Ev (fun q => zm3 q b u) ⟨false, b.x, b.xs ++ grp u.toNat⟩ := by
 have := zbs2 u.toNat b.n b.xs b.x hl
 rw [Int.toNat_of_nonneg h1] at this
 exact Ev.succ this (fun q => rfl)
/-- What a number puts behind bytes. -/
def put (n : Int) : List Int := if n < 0 then [] else if 4611686018427387904 ≤ n then [] else grp n.toNat
theorem put_ok {n : Int} (h1 : 0 ≤ n) (h2 : n < 4611686018427387904) : put n = grp n.toNat := by
 unfold put; rw [if_neg (by omega), if_neg (by omega)]
theorem zbs4 (n : Int) : (put n).length ≤ 10 := by
 unfold put; split
 ·simp
 ·split
  ·simp
  ·exact zbs0 (by omega)
theorem zbs5 {n : Int} (b : Ow Int) (h1 : 0 ≤ n) (h2 : n < 4611686018427387904) (hl : b.xs.length + 10 ≤ 4294967296) : Ev (fun q => zm4 q b n) ⟨false, b.x, b.xs ++ put n⟩ := by
 refine Ev.succ ?_ (fun q => rfl)
 rw [put_ok h1 h2]
 have hg := zbs0 (n := n.toNat) (by omega)
 refine Ev.ne (Ev.neg (by omega) ?_)
 rw [zbsw h1 (by omega)]
 exact Ev.bind (zbs3 h1 b (by omega)) (Ev.ret _)
/-- Zigzag. -/
def zig (n : Int) : Nat := if 0 ≤ n then 2 * n.toNat else 2 * (-n).toNat - 1
theorem zig_lt {n : Int} (h : inR .i64 n) : zig n < 18446744073709551616 := by
 simp [inR, IntKind.min, IntKind.max, IntKind.signed, IntKind.bits] at h
 unfold zig; split <;> omega
def putS (n : Int) : List Int := grp (zig n)
theorem zbs6 (k : IntKind) (n : Int) : k.wrap n = wrp k n := by unfold wrp; rfl
theorem xor0 {x : Int} (h1 : 0 ≤ x) (h2 : x < 18446744073709551616) : ibits .xor .u64 x 0 = x := by
 have e : ibits .xor .u64 x 0 = IntKind.wrap .u64 (((BitVec.ofInt 64 x ^^^ 0#64 : BitVec 64).toNat : Nat) : Int) := by unfold ibits; rfl
 rw [e, BitVec.xor_zero, y50, zbs6, zbsw] <;> omega
theorem xor1 {x : Int} (h1 : 0 ≤ x) (h2 : x < 18446744073709551616) : ibits .xor .u64 x 18446744073709551615 = 18446744073709551615 - x := by
 have e : ibits .xor .u64 x 18446744073709551615 = IntKind.wrap .u64 (((BitVec.ofInt 64 x ^^^ BitVec.allOnes 64 : BitVec 64).toNat : Nat) : Int) := by unfold ibits; rfl
 rw [e, BitVec.xor_allOnes, BitVec.toNat_not, y50, zbs6, zbsw] <;> omega
theorem ishl1 {x : Int} (h1 : 0 ≤ x) : ishl .u64 x 1 = (2 * x) % 18446744073709551616 := by
 unfold ishl
 simp [IntKind.wrap, IntKind.signed, IntKind.bits]
 omega
theorem zbs7 (x : Int) : wrp .u64 x = x % 18446744073709551616 := by
 unfold wrp; simp [IntKind.wrap, IntKind.signed, IntKind.bits]
theorem ishr63 {x : Int} (h : inR .i64 x) : ishr .i64 x 63 = if 0 ≤ x then 0 else -1 := by
 simp [inR, IntKind.min, IntKind.max, IntKind.signed, IntKind.bits] at h
 unfold ishr; simp [IntKind.bits]
 rw [y54 _ (by omega)]
 split <;> omega
theorem zbs8 {n : Int} (h : inR .i64 n) : Ev (fun q => zm8 q n) ((zig n : Nat) : Int) := by
 refine Ev.succ (Ev.ret' ?_) (fun q => rfl)
 have hr := h
 simp [inR, IntKind.min, IntKind.max, IntKind.signed, IntKind.bits] at hr
 rw [ishr63 h]
 by_cases h0 : 0 ≤ n
 ·rw [if_pos h0, zbsw h0 (by omega), ishl1 h0, zbsw (by omega) (by omega), xor0 (by omega) (by omega)]
  unfold zig; rw [if_pos h0]; omega
 ·rw [if_neg h0, zbs7 n, ishl1 (by omega), show wrp .u64 (-1) = 18446744073709551615 by rw [zbs7]; rfl, xor1 (by omega) (by omega)]
  unfold zig; rw [if_neg h0]; omega
theorem zbs9 {n : Int} (b : Ow Int) (h : inR .i64 n) (hl : b.xs.length + 10 ≤ 4294967296) : Ev (fun q => zm9 q b n) ⟨false, b.x, b.xs ++ putS n⟩ := by
 refine Ev.succ ?_ (fun q => rfl)
 have hg := zbs0 (zig_lt h)
 have := zbs3 (u := (zig n : Nat)) (by omega) b (by simpa using (by omega : b.xs.length + (grp (zig n)).length ≤ 4294967296))
 rw [y29] at this
 exact Ev.bind (zbs8 h) (Ev.bind this (Ev.ret _))
def cutI (n : Int) : Int := if n < -1099511627776 then -1099511627776 else if 1099511627776 < n then 1099511627776 else n
theorem zbta (n : Int) : Ev (fun q => zjq q n) (cutI n) := by
 refine Ev.succ (Ev.ret' ?_) (fun q => rfl)
 unfold cutI; split <;> split <;> split <;> (try split) <;> omega
theorem zbtb {n : Int} (h : inR .i64 n) : (putS n).length ≤ 10 := zbs0 (zig_lt h)
theorem zbtc {n : Int} (h1 : -9223372036854775808 ≤ n) (h2 : n ≤ 9223372036854775807) : inR .i64 n := by
 simp [inR, IntKind.min, IntKind.max, IntKind.signed, IntKind.bits]; omega
abbrev B32 := BitVec 32
def u (a : B32) : Int := (a.toNat : Int)
theorem u_nn (a : B32) : 0 ≤ u a := Int.natCast_nonneg _
theorem u_lt (a : B32) : u a < 4294967296 := by unfold u; have := a.isLt; omega
theorem zbtd (a : B32) : BitVec.ofInt 32 (u a) = a := by
 apply BitVec.eq_of_toNat_eq; rw [y50]; unfold u; have := a.isLt; omega
theorem wrp_u (a : B32) : IntKind.wrap .u32 ((a.toNat : Nat) : Int) = u a := by
 have := a.isLt
 rw [zbs6, zbsx (by omega) (by omega)]; rfl
theorem xor_u (a b : B32) : ibits .xor .u32 (u a) (u b) = u (a ^^^ b) := by
 have e : ibits .xor .u32 (u a) (u b) = IntKind.wrap .u32 (((BitVec.ofInt 32 (u a) ^^^ BitVec.ofInt 32 (u b) : B32).toNat : Nat) : Int) := by unfold ibits; rfl
 rw [e, zbtd, zbtd, wrp_u]
theorem and_u (a b : B32) : ibits .and .u32 (u a) (u b) = u (a &&& b) := by
 have e : ibits .and .u32 (u a) (u b) = IntKind.wrap .u32 (((BitVec.ofInt 32 (u a) &&& BitVec.ofInt 32 (u b) : B32).toNat : Nat) : Int) := by unfold ibits; rfl
 rw [e, zbtd, zbtd, wrp_u]
theorem u_lit (n : Nat) (h : n < 4294967296) : u (BitVec.ofNat 32 n) = (n : Int) := by
 unfold u; rw [BitVec.toNat_ofNat]; omega
theorem zbte (x : Int) : wrp .u32 x = x % 4294967296 := by
 unfold wrp; simp [IntKind.wrap, IntKind.signed, IntKind.bits]
theorem ishr_u (a : B32) (k : Nat) (hk : k ≤ 32) : ishr .u32 (u a) (k : Int) = u (a >>> k) := by
 unfold ishr u
 simp only [IntKind.bits, y29, Nat.min_eq_left hk]
 rw [y54 _ (by exact_mod_cast Nat.zero_le _), BitVec.toNat_ushiftRight, Nat.shiftRight_eq_div_pow]
 simp
theorem zbtf (a : B32) : ishr .u32 (u a) 1 = u (a >>> 1) := ishr_u a 1 (by omega)
theorem zbtg (a : B32) : ishr .u32 (u a) 8 = u (a >>> 8) := ishr_u a 8 (by omega)
def poly : B32 := 2197175160#32
def bstep (a : B32) : B32 := if a &&& 1#32 = 1#32 then (a >>> 1) ^^^ poly else a >>> 1
theorem and1 (a : B32) : a &&& 1#32 = 0#32 ∨ a &&& 1#32 = 1#32 := by
 have : (a &&& 1#32).toNat = a.toNat % 2 := by rw [BitVec.toNat_and]; exact Nat.and_one_is_mod _
 rcases Nat.mod_two_eq_zero_or_one a.toNat with h | h
 ·left; exact BitVec.eq_of_toNat_eq (by rw [this, h]; rfl)
 ·right; exact BitVec.eq_of_toNat_eq (by rw [this, h]; rfl)
/-- The program's step. -/
theorem zbth (a : B32) : ibits .xor .u32 (ishr .u32 (u a) 1) (ibits .and .u32 2197175160 (wrp .u32 (0 - (ibits .and .u32 (u a) 1)))) = u (bstep a) := by
 have e1 : (1 : Int) = u 1#32 := rfl
 have e2 : (2197175160 : Int) = u poly := by unfold poly; rw [u_lit _ (by omega)]; rfl
 rw [zbtf]
 conv => lhs; arg 4; rw [e2]; arg 4; rw [e1, and_u]
 unfold bstep
 rcases and1 a with h | h
 ·rw [h, if_neg (by decide)]
  have : wrp .u32 (0 - u 0#32) = u 0#32 := by rw [zbte]; rfl
  rw [this, and_u, BitVec.and_zero, xor_u, BitVec.xor_zero]
 ·rw [h, if_pos rfl]
  have : wrp .u32 (0 - u 1#32) = u (BitVec.allOnes 32) := by rw [zbte]; rfl
  rw [this, and_u, BitVec.and_allOnes, xor_u]
def biter : Nat → B32 → B32
 | 0, a => a
 | n + 1, a => biter n (bstep a)
def bentry (a : B32) : B32 := biter 8 a
theorem zbti (v2 v5 : Int) (t0 t1 : List Int) (r : List Int) : ∀ (k : Nat) (a : B32) (v10 : Int), v10 = 8 - k → k ≤ 8 → 0 ≤ v2 → v2.toNat < 256 → v2.toNat + 1 ≤ t1.length →
  Ev (fun q => zk9 q (wrp .i64 (v5 + 1)) t0 (List.set t1 v2.toNat (u (biter k a)))) r → Ev (fun q => zla q v2 (u a) v5 v10 t0 t1) r
 | 0, a, v10, h1, h2, h3, h4, h5, h => Ev.succ (Ev.ne (Ev.pos h3 (Ev.pos h4 (Ev.pos h5 h)))) (fun q => rfl)
 | k + 1, a, v10, h1, h2, h3, h4, h5, h => by
  refine Ev.succ (Ev.pos (by omega) ?_) (fun q => rfl)
  rw [zbth, zbsv (by omega) (by omega)]
  exact zbti v2 v5 t0 t1 r k (bstep a) (v10 + 1) (by omega) (by omega) h3 h4 h5 h
/-- The table. -/
def tabN (n : Nat) : List Int := (List.range n).map fun i => u (bentry (BitVec.ofNat 32 i))
theorem zbtj {n i : Nat} (h : i < n) : (tabN n)[i]? = some (u (bentry (BitVec.ofNat 32 i))) := by
 unfold tabN; rw [y43, List.getElem?_range h]; rfl
theorem zbtk (n : Nat) : (tabN n).length = n := by simp [tabN]
theorem zbtl : ∀ (k i : Nat) (t1 : List Int), i + k = 256 → t1.length = 256 → (∀ j, j < i → t1[j]? = (tabN 256)[j]?) → Ev (fun q => zk9 q (i : Int) (List.replicate 256 0) t1) (tabN 256)
 | 0, i, t1, hk, hl, ht => by
  refine Ev.succ (Ev.ne (Ev.po (Ev.po (Ev.pos (by simp) (Ev.pos (by simp) (Ev.ret' ?_)))))) (fun q => rfl)
  have e : t1 = tabN 256 := by
   apply List.ext_getElem?
   intro j
   by_cases hj : j < 256
   ·exact ht j (by omega)
   ·rw [y51 (by omega), y51 (by rw [zbtk]; omega)]
  have h2 := zbtk 256
  rw [e, List.take_of_length_le (i := 256) (by omega : (tabN 256).length ≤ 256), y13 (by simp), List.append_nil, List.take_of_length_le (by omega)]
 | k + 1, i, t1, hk, hl, ht => by
  refine Ev.succ (Ev.pos (by omega) ?_) (fun q => rfl)
  have e : wrp .u32 (i : Int) = u (BitVec.ofNat 32 i) := by rw [u_lit _ (by omega), zbsx] <;> omega
  rw [e]
  refine zbti _ _ _ _ _ 8 _ 0 (by omega) (by omega) (by omega) (by omega) (by omega) ?_
  rw [zbsv (by omega) (by omega), show ((i : Int) + 1) = ((i + 1 : Nat) : Int) by omega, y29]
  refine zbtl k (i + 1) _ (by omega) (by simpa using hl) fun j hj => ?_
  by_cases e : i = j
  ·subst e; rw [y24 (by omega), zbtj (by omega)]; rfl
  ·rw [y30 e]; exact ht j (by omega)
theorem zbtm : Ev (fun q => zlb q) (tabN 256) :=
 Ev.succ (zbtl 256 0 (List.replicate 256 0) (by omega) (by simp) (fun j hj => by omega)) (fun q => rfl)
/-- What a byte makes of a sum. -/
def bbyte (x : B32) (c : Int) : B32 := bentry ((x ^^^ BitVec.ofInt 32 c) &&& 255#32) ^^^ (x >>> 8)
def bmore (x : B32) (l : List Int) : B32 := l.foldl bbyte x
def isB (l : List Int) : Prop := ∀ c ∈ l, 0 ≤ c ∧ c < 256
theorem xor8 {x : B32} {c : Int} (h1 : 0 ≤ c) (h2 : c < 256) : ibits .xor .u8 (wrp .u8 (u x)) c = u ((x ^^^ BitVec.ofInt 32 c) &&& 255#32) := by
 have e : ibits .xor .u8 (wrp .u8 (u x)) c = IntKind.wrap .u8 (((BitVec.ofInt 8 (wrp .u8 (u x)) ^^^ BitVec.ofInt 8 c : BitVec 8).toNat : Nat) : Int) := by unfold ibits; rfl
 rw [e, zbs6, wrp_u8, wrp_u8]
 unfold u
 rw [BitVec.toNat_and, BitVec.toNat_xor, BitVec.toNat_xor, y50, y50, y50]
 obtain ⟨n, rfl⟩ := Int.eq_ofNat_of_zero_le h1
 have hn : n < 256 := by omega
 have e1 : (((x.toNat : Int) % 256 % ((2 ^ 8 : Nat) : Int)).toNat) = x.toNat % 256 := by omega
 have e2 : (((n : Int) % ((2 ^ 8 : Nat) : Int)).toNat) = n := by omega
 have e3 : (((n : Int) % ((2 ^ 32 : Nat) : Int)).toNat) = n := by omega
 rw [e1, e2, e3, show (255#32).toNat = 2 ^ 8 - 1 from rfl, Nat.and_two_pow_sub_one_eq_mod]
 have h3 : (x.toNat ^^^ n) % 2 ^ 8 = (x.toNat % 2 ^ 8) ^^^ (n % 2 ^ 8) := Nat.xor_mod_two_pow
 rw [h3, Nat.mod_eq_of_lt (show n < 2 ^ 8 by omega)]
 have h4 : (x.toNat % 2 ^ 8) ^^^ n < 2 ^ 8 := Nat.xor_lt_two_pow (Nat.mod_lt _ (by omega)) (by omega)
 simp only [Nat.reducePow] at h4 ⊢
 omega
theorem and255 (x : B32) : u (x &&& 255#32) < 256 := by
 unfold u
 rw [BitVec.toNat_and, show (255#32).toNat = 2 ^ 8 - 1 from rfl, Nat.and_two_pow_sub_one_eq_mod]; omega
theorem zbtn (a : B32) : (u a).toNat = a.toNat := by unfold u; omega
theorem ones : (4294967295 : Int) = u (BitVec.allOnes 32) := rfl
theorem zbto (z : Bool) (l : List Int) (hb : isB l) (hl : l.length ≤ 1099511627776) : ∀ (k i : Nat) (x : B32), l.length = i + k → Ev (fun q => zlc q (u x) z l (l.length : Int) (i : Int) (tabN 256)) (u (~~~ bmore x (l.drop i)))
 | 0, i, x, hk => by
  refine Ev.succ (Ev.ne (Ev.ret' ?_)) (fun q => rfl)
  rw [y13 (by omega), ones, xor_u]
  simp only [bmore, List.foldl_nil, BitVec.allOnes_xor]
 | k + 1, i, x, hk => by
  have hi : i < l.length := by omega
  have hg : l[(i : Int).toNat]? = some l[i] := by simpa using y8 hi
  obtain ⟨b1, b2⟩ := hb l[i] (y27 hi)
  refine Ev.succ (Ev.po (Ev.po (Ev.opt hg ?_))) (fun q => rfl)
  rw [xor8 b1 b2]
  have h255 := and255 (x ^^^ BitVec.ofInt 32 l[i])
  have hnn := u_nn ((x ^^^ BitVec.ofInt 32 l[i]) &&& 255#32)
  refine Ev.pos hnn (Ev.po (Ev.opt (zbtj (by omega)) ?_))
  rw [zbtg, xor_u, zbsv (by omega) (by omega), show ((i : Int) + 1) = ((i + 1 : Nat) : Int) by omega, zbtn]
  have := zbto z l hb hl k (i + 1) (bentry ((x ^^^ BitVec.ofInt 32 l[i]) &&& 255#32) ^^^ (x >>> 8)) (by omega)
  rw [y10 hi]
  simp only [bmore, List.foldl_cons, bbyte, BitVec.ofNat_toNat, BitVec.setWidth_eq] at this ⊢
  exact this
theorem zbtp (x : B32) (s : Sl Int) (hb : isB s.l) (hl : s.l.length ≤ 1099511627776) : Ev (fun q => zld q (u x) s) (u (~~~ bmore (~~~ x) s.l)) := by
 refine Ev.succ (Ev.bind zbtm (Ev.pos (zbtk 256) ?_)) (fun q => rfl)
 rw [ones, xor_u, BitVec.allOnes_xor]
 have := zbto s.z s.l hb hl s.l.length 0 (~~~ x) (by omega)
 rw [y39] at this
 exact this
/-- The sum of bytes. -/
def bsum (l : List Int) : B32 := ~~~ bmore (BitVec.allOnes 32) l
theorem zbtq (s : Sl Int) (hb : isB s.l) (hl : s.l.length ≤ 1099511627776) : Ev (fun q => zle q s) (u (bsum s.l)) := by
 have := zbtp 0#32 s hb hl
 exact Ev.succ (Ev.bind this (Ev.ret' (by simp [bsum]))) (fun q => rfl)
theorem zbtr (x : B32) (a b : List Int) : bmore (bmore x a) b = bmore x (a ++ b) := by simp [bmore]
theorem zbts {x : Int} (h : 0 ≤ x) (k : Nat) (hk : k ≤ 64) : ishr .u64 x (k : Int) = x / ((2 ^ k : Nat) : Int) := by
 unfold ishr
 simp only [IntKind.bits, y29, Nat.min_eq_left hk]
 rw [y54 _ (by exact_mod_cast Nat.zero_le _)]
 simp
/-- A number in four bytes. -/
def fix4 (v : Nat) : List Int := [((v % 256 : Nat) : Int), ((v / 256 % 256 : Nat) : Int), ((v / 65536 % 256 : Nat) : Int), ((v / 16777216 % 256 : Nat) : Int)]
theorem zbtt (v k : Nat) (hk : k ≤ 8) : wrp .u8 (ishr .u64 (v : Int) (wrp .i64 (8 * (k : Int)))) = ((v / 2 ^ (8 * k) % 256 : Nat) : Int) := by
 rw [zbsv (by omega) (by omega), show (8 * (k : Int)) = ((8 * k : Nat) : Int) by omega, zbts (by omega) _ (by omega), wrp_u8]
 exact_mod_cast rfl
def bytesFrom (v : Nat) : Nat → Nat → List Int
 | _, 0 => []
 | i, k + 1 => ((v / 2 ^ (8 * i) % 256 : Nat) : Int) :: bytesFrom v (i + 1) k
theorem zbtu {v m : Nat} (hm : m ≤ 8) : ∀ (k i : Nat) (l : List Int), m = i + k → l.length + k ≤ 4294967296 → Ev (fun q => zlf q (v : Int) (m : Int) (i : Int) false l) ⟨false, true, l ++ bytesFrom v i k⟩
 | 0, i, l, hk, hl => Ev.succ (Ev.ne (Ev.ret' (by simp [bytesFrom]))) (fun q => rfl)
 | k + 1, i, l, hk, hl => by
  have w : wrp .i64 (8 * (i : Int)) = 8 * (i : Int) := zbsv (by omega) (by omega)
  refine Ev.succ (Ev.po (Ev.neg (by rw [w]; omega) (Ev.pos (by omega) ?_))) (fun q => rfl)
  rw [zbtt v i (by omega), zbsv (x := (i : Int) + 1) (by omega) (by omega), show ((i : Int) + 1) = ((i + 1 : Nat) : Int) by omega]
  refine (zbtu hm k (i + 1) _ (by omega) (by simp; omega)).cast ?_
  simp [bytesFrom]
theorem zbtv {v m : Nat} (h0 : 0 < m) (hm : m ≤ 8) : Ev (fun q => zlg q (v : Int) (m : Int)) ⟨false, true, bytesFrom v 0 m⟩ := by
 obtain ⟨k, rfl⟩ : ∃ k, m = k + 1 := ⟨m - 1, by omega⟩
 have w : wrp .i64 (8 * ((0 : Nat) : Int)) = 0 := zbsv (by omega) (by omega)
 have key : ∀ i : Int, i = ((0 : Nat) : Int) → Ev (fun q => zlf q (v : Int) ((k + 1 : Nat) : Int) i true []) ⟨false, true, bytesFrom v 0 (k + 1)⟩ := by
  intro i hi
  refine Ev.succ (Ev.po (Ev.neg (by rw [hi, w]; omega) (Ev.pos (by simp) ?_))) (fun q => rfl)
  rw [hi, zbtt v 0 (by omega), zbsv (x := ((0 : Nat) : Int) + 1) (by omega) (by omega), show (((0 : Nat) : Int) + 1) = ((0 + 1 : Nat) : Int) by omega]
  refine (zbtu hm k 1 _ (by omega) (by simp; omega)).cast ?_
  simp [bytesFrom]
 exact Ev.succ (key 0 rfl) (fun q => rfl)
theorem bytes4 (v : Nat) : bytesFrom v 0 4 = fix4 v := by simp [bytesFrom, fix4]
theorem zbtw {v : Nat} (h : v < 18446744073709551616) : Ev (fun q => zlg q (v : Int) 4) ⟨false, true, fix4 v⟩ := by
 have := zbtv (v := v) (m := 4) (by omega) (by omega)
 rw [bytes4] at this; exact this
theorem zbtx (a : B32) : Ev (fun q => zlh q (u a)) ⟨false, true, fix4 a.toNat⟩ := by
 have h1 := u_nn a; have h2 := u_lt a
 have e : wrp .u64 (u a) = ((a.toNat : Nat) : Int) := by rw [zbsw h1 (by omega)]; rfl
 exact Ev.succ (Ev.bind (by rw [e]; exact zbtw (by have := a.isLt; omega)) (Ev.ret _)) (fun q => rfl)
theorem zbty (a b : Sl Int) (ha : isB a.l) (hb : isB b.l) (la : a.l.length ≤ 1099511627776) (lb : b.l.length ≤ 1099511627776) : Ev (fun q => zli q a b) ⟨false, true, fix4 (bsum (a.l ++ b.l)).toNat⟩ := by
 have h2 := zbtp (bsum a.l) b hb lb
 have e : ~~~ bmore (~~~ bsum a.l) b.l = bsum (a.l ++ b.l) := by
  unfold bsum; rw [BitVec.not_not, zbtr]
 rw [e] at h2
 exact Ev.succ (Ev.bind (zbtq a ha la) (Ev.bind h2 (Ev.bind (zbtx _) (Ev.ret _)))) (fun q => rfl)
def flat (l : List (Sl Int)) : List Int := l.flatMap (·.l)
theorem zbtz (a : Sl Int) (b : List (Sl Int)) : flat (a :: b) = a.l ++ flat b := by simp [flat]
theorem zbt0 (z0 : Bool) (L : List (Sl Int)) (z : Bool) (hL : L.length ≤ 1099511627776) : ∀ (k i : Nat) (m : Nat) (l : List Int), L.length = i + k → m + (flat (L.drop i)).length ≤ l.length →
  Ev (fun q => zna q m z0 L (L.length : Int) (i : Int) z l) ⟨z, true, l.take m ++ flat (L.drop i)⟩
 | 0, i, m, l, hk, hl => by
  refine Ev.succ (Ev.ne (Ev.ret' ?_)) (fun q => rfl)
  rw [y13 (by omega)]; simp [flat]
 | k + 1, i, m, l, hk, hl => by
  have hi : i < L.length := by omega
  have hg : L[(i : Int).toNat]? = some L[i] := by simpa using y8 hi
  rw [y10 hi, zbtz, y11] at hl
  refine Ev.succ (Ev.po (Ev.po (Ev.opt hg (Ev.pos (by omega) ?_)))) (fun q => rfl)
  rw [zbsv (by omega) (by omega), show ((i : Int) + 1) = ((i + 1 : Nat) : Int) by omega]
  refine (zbt0 z0 L z hL k (i + 1) (m + L[i].l.length) _ (by omega) ?_).cast ?_
  ·simp only [y11, y21, y14]; omega
  ·congr 1
   rw [y10 hi, zbtz, ← y34]
   congr 1
   rw [List.take_append_of_le_length (by simp only [y11, y21]; omega), List.take_of_length_le (by simp only [y11, y21]; omega)]
theorem zbt1 (z0 : Bool) (L : List (Sl Int)) (hL : L.length ≤ 1099511627776) : ∀ (k i : Nat) (z : Bool) (l : List Int), L.length = i + k → l.length + (flat (L.drop i)).length ≤ 4294967296 →
  ∃ z', Ev (fun q => znb q z0 L (L.length : Int) (i : Int) z l) ⟨z', true, l ++ flat (L.drop i)⟩
 | 0, i, z, l, hk, hl => ⟨z, by
  refine Ev.succ (Ev.ne (Ev.ret' ?_)) (fun q => rfl)
  rw [y13 (by omega)]; simp [flat]⟩
 | k + 1, i, z, l, hk, hl => by
  have hi : i < L.length := by omega
  have hg : L[(i : Int).toNat]? = some L[i] := by simpa using y8 hi
  rw [y10 hi, zbtz, y11] at hl
  obtain ⟨z', h⟩ := zbt1 z0 L hL k (i + 1) (z && (decide (L[i].l.length = 0))) (l ++ L[i].l) (by omega) (by simp only [y11]; omega)
  refine ⟨z', Ev.succ (Ev.po (Ev.po (Ev.opt hg (Ev.pos (by omega) ?_)))) (fun q => rfl)⟩
  rw [zbsv (by omega) (by omega), show ((i : Int) + 1) = ((i + 1 : Nat) : Int) by omega]
  refine h.cast ?_
  rw [y10 hi, zbtz]; simp
theorem zbt2 (z0 z9 : Bool) (L : List (Sl Int)) (hL : L.length ≤ 1099511627776) (hf : (flat L).length ≤ 4294967296) : ∀ (k i : Nat) (m : Nat), L.length = i + k → m + (flat (L.drop i)).length = (flat L).length →
  ∃ z', Ev (fun q => znd q z0 L (m : Int) z9 L (L.length : Int) (i : Int)) ⟨z', true, flat L⟩
 | 0, i, m, hk, hm => by
  rw [y13 (by omega)] at hm
  have hm2 : m = (flat L).length := by simpa [flat] using hm
  have w : wrp .i64 ((m : Int) - wrp .i64 0) = (m : Int) := by rw [zbsv (x := 0) (by omega) (by omega), zbsv (by omega) (by omega)]; omega
  by_cases h0 : 0 < m
  ·refine ⟨decide (wrp .i64 ((m : Int) - wrp .i64 0) = 0), Ev.succ (Ev.ne (Ev.ne (Ev.pos (by rw [w]; omega) (Ev.pos (by rw [w]; omega) (Ev.pos (by rw [w]; omega) (Ev.neg (by rw [w]; omega) ?_)))))) (fun q => rfl)⟩
   rw [w]
   have := zbt0 z0 L (decide ((m : Int) = 0)) hL L.length 0 0 (List.replicate (m : Int).toNat 0) (by omega) (by simp; omega)
   rw [y39] at this
   exact this
  ·have hnil : flat L = [] := y36 (by omega)
   match L, hk with
   | [], _ =>
    refine ⟨true, Ev.succ (Ev.neg (by simp) (Ev.neg (by omega) ?_)) (fun q => rfl)⟩
    rw [w]
    refine Ev.neg (by omega) ?_
    exact Ev.succ (g := fun _ => some ⟨true, true, []⟩) (Ev.ret' (by simp [flat])) (fun q => rfl)
   | a :: L', hk =>
    rw [zbtz] at hnil
    obtain ⟨z', h⟩ := zbt1 z0 (a :: L') hL L'.length 1 (decide (a.l.length = 0)) a.l (by simp; omega) (by
     have : flat (List.drop 1 (a :: L')) = flat L' := rfl
     rw [this, ← y11, hnil]; simp)
    refine ⟨z', Ev.succ (Ev.ne (Ev.neg (by omega) ?_)) (fun q => rfl)⟩
    rw [w]
    refine Ev.ne (Ev.succ (Ev.pos (by simp) (Ev.opt (s := a) rfl (Ev.pos ?_ ?_))) (fun q => rfl))
    ·have : a.l.length ≤ (a.l ++ flat L').length := by simp
     rw [hnil] at this; simp at this; simp [this]
    ·rw [zbsv (by omega) (by omega)]
     refine h.cast ?_
     rw [zbtz]; rfl
 | k + 1, i, m, hk, hm => by
  have hi : i < L.length := by omega
  have hg : L[(i : Int).toNat]? = some L[i] := by simpa using y8 hi
  rw [y10 hi, zbtz, y11] at hm
  obtain ⟨z', h⟩ := zbt2 z0 z9 L hL hf k (i + 1) (m + L[i].l.length) (by omega) (by omega)
  refine ⟨z', Ev.succ (Ev.po (Ev.po (Ev.opt hg ?_))) (fun q => rfl)⟩
  have w : wrp .i64 ((m : Int) + (L[i].l.length : Int)) = ((m + L[i].l.length : Nat) : Int) := by rw [zbsv (by omega) (by omega)]; omega
  rw [w, zbsv (by omega) (by omega), show ((i : Int) + 1) = ((i + 1 : Nat) : Int) by omega]
  exact Ev.neg (by omega) h
theorem zbt3 (s : Sl (Sl Int)) (hL : s.l.length ≤ 1099511627776) (hf : (flat s.l).length ≤ 4294967296) : ∃ z', Ev (fun q => zne q s) ⟨z', true, flat s.l⟩ := by
 obtain ⟨z', h⟩ := zbt2 s.z s.z s.l hL hf s.l.length 0 0 (by omega) (by simp)
 exact ⟨z', Ev.succ h (fun q => rfl)⟩
theorem zbt4 : ∀ n, isB (grp n) := by
 intro n
 induction n using Nat.strongRecOn with
 | ind n ih =>
  by_cases h : n < 128
  ·rw [grp_lt h]; intro c hc; simp at hc; omega
  ·rw [grp_ge h]; intro c hc
   rcases List.mem_cons.1 hc with rfl | hc
   ·omega
   ·exact ih (n / 128) (by omega) c hc
theorem zbt5 (n : Int) : isB (put n) := by
 unfold put; split
 ·intro c hc; simp at hc
 ·split
  ·intro c hc; simp at hc
  ·exact zbt4 _
theorem zbt6 {a b : List Int} : isB (a ++ b) ↔ isB a ∧ isB b := by
 constructor
 ·intro h; exact ⟨fun c hc => h c (List.mem_append.2 (.inl hc)), fun c hc => h c (List.mem_append.2 (.inr hc))⟩
 ·rintro ⟨h1, h2⟩ c hc
  rcases List.mem_append.1 hc with h | h
  ·exact h1 c h
  ·exact h2 c h
/-- A frame. -/
def encF (l : List Int) : List Int := put (l.length : Int) ++ (l ++ fix4 (bsum (put (l.length : Int) ++ l)).toNat)
theorem zbt7 (s : Sl Int) (hb : isB s.l) (hl : s.l.length ≤ 1048576) : ∃ z, Ev (fun q => znf q s) (⟨z, true, encF s.l⟩, 0) := by
 have hp := zbs4 (s.l.length : Int)
 obtain ⟨z, h⟩ := zbt3 ⟨false, [⟨false, put (s.l.length : Int)⟩, s, ⟨false, fix4 (bsum (put (s.l.length : Int) ++ s.l)).toNat⟩]⟩ (by simp) (by simp [flat, fix4]; omega)
 refine ⟨z, Ev.succ (Ev.neg (by omega) ?_) (fun q => rfl)⟩
 refine Ev.bind (zbs5 ⟨true, true, []⟩ (by omega) (by omega) (by simp)) ?_
 refine Ev.bind (zbty ⟨false, put (s.l.length : Int)⟩ s (zbt5 (s.l.length : Int)) hb (by simp only; omega) (by omega)) ?_
 refine Ev.bind h ?_
 exact Ev.ret' (by simp [encF, flat])
/-- The number that bytes begin with, from the i-th group on. -/
def rd : Nat → List Int → Option (Nat × Nat)
 | _, [] => none
 | i, c :: l => if 10 ≤ i then none else if i = 9 ∧ 1 < c then none else if c = 0 ∧ 0 < i then none else if c < 128 then some (c.toNat, 1) else (rd (i + 1) l).map fun p => ((c % 128).toNat + 128 * p.1, p.2 + 1)
def resN : Option (Nat × Nat) → Int × Int
 | none => (0, 0)
 | some p => (p.1, p.2)
theorem and127 {x : Int} (h1 : 0 ≤ x) (h2 : x < 256) : ibits .and .u8 x 127 = x % 128 := by
 obtain ⟨n, rfl⟩ := Int.eq_ofNat_of_zero_le h1
 have hn : n < 256 := by omega
 have : ∀ m : Fin 256, ibits .and .u8 (m.val : Int) 127 = (m.val : Int) % 128 := by unfold ibits; decide +kernel
 exact this ⟨n, hn⟩
theorem or64 {a b : Nat} (ha : a < 18446744073709551616) (hb : b < 18446744073709551616) : ibits .or .u64 (a : Int) (b : Int) = ((a ||| b : Nat) : Int) := by
 have e : ibits .or .u64 (a : Int) (b : Int) = IntKind.wrap .u64 (((BitVec.ofInt 64 (a : Int) ||| BitVec.ofInt 64 (b : Int) : BitVec 64).toNat : Nat) : Int) := by unfold ibits; rfl
 have e1 : (BitVec.ofInt 64 (a : Int)).toNat = a := by rw [y50]; omega
 have e2 : (BitVec.ofInt 64 (b : Int)).toNat = b := by rw [y50]; omega
 have e3 : a ||| b < 2 ^ 64 := Nat.or_lt_two_pow (by omega) (by omega)
 rw [e, BitVec.toNat_or, e1, e2, zbs6, zbsw (by omega) (by omega)]
theorem ishl64 {x k : Nat} (hk : k ≤ 64) : ishl .u64 (x : Int) (k : Int) = ((x * 2 ^ k % 18446744073709551616 : Nat) : Int) := by
 unfold ishl
 simp only [IntKind.bits, y29, Nat.min_eq_left hk]
 rw [zbs6, zbs7]
 have : ((x : Int) * 2 ^ k) = ((x * 2 ^ k : Nat) : Int) := by rw [Int.natCast_mul, Int.natCast_pow]; rfl
 rw [this]
 exact (Int.natCast_emod _ _).symm
theorem zbt8 {acc i : Nat} {c : Int} (hi : i ≤ 9) (h1 : 0 ≤ c) (h2 : c < 256) (ha : acc < 2 ^ (7 * i)) (h9 : i = 9 → c ≤ 1) :
  ibits .or .u64 (acc : Int) (ishl .u64 (wrp .u64 (ibits .and .u8 c 127)) (wrp .i64 (7 * (i : Int)))) = ((acc + (c % 128).toNat * 2 ^ (7 * i) : Nat) : Int) ∧ acc + (c % 128).toNat * 2 ^ (7 * i) < 18446744073709551616 ∧ acc + (c % 128).toNat * 2 ^ (7 * i) < 2 ^ (7 * (i + 1)) := by
 have hm : (c % 128).toNat < 128 := by omega
 have hp : 2 ^ (7 * i) ≤ 2 ^ 63 := Nat.pow_le_pow_right (by omega) (by omega)
 have hp1 : 2 ^ (7 * (i + 1)) = 128 * 2 ^ (7 * i) := by rw [show 7 * (i + 1) = 7 + 7 * i by omega, Nat.pow_add]
 have h4 : acc + (c % 128).toNat * 2 ^ (7 * i) < 2 ^ (7 * (i + 1)) := by
  rw [hp1]
  have : ((c % 128).toNat + 1) * 2 ^ (7 * i) ≤ 128 * 2 ^ (7 * i) := y18 _ (by omega)
  rw [y32] at this; omega
 have h5 : acc + (c % 128).toNat * 2 ^ (7 * i) < 18446744073709551616 := by
  by_cases e : i = 9
  ·have hc := h9 e
   have : (c % 128).toNat ≤ 1 := by omega
   subst e
   have h6 : (c % 128).toNat * 2 ^ (7 * 9) ≤ 1 * 2 ^ (7 * 9) := y18 _ this
   simp only [Nat.reduceMul, Nat.reducePow] at ha h6 ⊢
   omega
  ·have : 2 ^ (7 * (i + 1)) ≤ 2 ^ 63 := Nat.pow_le_pow_right (by omega) (by omega)
   simp only [Nat.reducePow] at this
   omega
 refine ⟨?_, h5, h4⟩
 rw [and127 h1 h2, zbsw (by omega) (by omega), zbsv (by omega) (by omega), show (7 * (i : Int)) = ((7 * i : Nat) : Int) by omega, show (c % 128) = (((c % 128).toNat : Nat) : Int) by omega, ishl64 (by omega)]
 have h6 : (c % 128).toNat * 2 ^ (7 * i) < 18446744073709551616 := by omega
 simp only [y29]
 rw [Nat.mod_eq_of_lt h6, or64 (by omega) h6]
 congr 1
 have := Nat.two_pow_add_eq_or_of_lt ha (c % 128).toNat
 rw [Nat.or_comm, Nat.mul_comm, ← this]; omega
theorem zbt9 (z : Bool) (L : List Int) (hb : isB L) (m : Nat) (hm : m = min 10 L.length) : ∀ (k i acc : Nat), m = i + k → acc < 2 ^ (7 * i) →
  Ev (fun q => zk6 q z L (acc : Int) (m : Int) (i : Int)) (match rd i (L.drop i) with | none => (0, 0) | some p => (((acc + p.1 * 2 ^ (7 * i) : Nat) : Int), ((i + p.2 : Nat) : Int)))
 | 0, i, acc, hk, ha => by
  refine Ev.succ (Ev.ne (Ev.ret' ?_)) (fun q => rfl)
  have : rd i (L.drop i) = none := by
   cases h : L.drop i with
   | nil => rfl
   | cons c l =>
    have : (L.drop i).length = l.length + 1 := by rw [h]; rfl
    rw [y14] at this
    simp only [rd]; rw [if_pos (by omega)]
  rw [this]
 | k + 1, i, acc, hk, ha => by
  have hi : i < L.length := by omega
  have hi9 : i ≤ 9 := by omega
  have hg : L[(i : Int).toNat]? = some L[i] := by simpa using y8 hi
  obtain ⟨b1, b2⟩ := hb L[i] (y27 hi)
  have w7 : wrp .i64 (7 * (i : Int)) = 7 * (i : Int) := zbsv (by omega) (by omega)
  have wi : wrp .i64 ((i : Int) + 1) = ((i + 1 : Nat) : Int) := by rw [zbsv (by omega) (by omega)]; omega
  rw [y10 hi]
  simp only [rd]
  rw [if_neg (by omega)]
  generalize hc : L[i] = c at hg b1 b2
  -- the ends
  have done : (i = 9 → c ≤ 1) → c < 128 → (((ibits .or .u64 (acc : Int) (ishl .u64 (wrp .u64 (ibits .and .u8 c 127)) (wrp .i64 (7 * (i : Int))))), (wrp .i64 ((i : Int) + 1))) : Int × Int) = (((acc + c.toNat * 2 ^ (7 * i) : Nat) : Int), ((i + 1 : Nat) : Int)) := by
   intro h9 h128
   rw [(zbt8 hi9 b1 b2 ha h9).1, wi, show (c % 128).toNat = c.toNat by omega]
  have rest : i ≠ 9 → ¬ c < 128 → Ev (fun q => zk6 q z L (ibits .or .u64 (acc : Int) (ishl .u64 (wrp .u64 (ibits .and .u8 c 127)) (wrp .i64 (7 * (i : Int))))) (m : Int) (wrp .i64 ((i : Int) + 1))) (match (rd (i + 1) (L.drop (i + 1))).map (fun p => ((c % 128).toNat + 128 * p.1, p.2 + 1)) with | none => (0, 0) | some p => (((acc + p.1 * 2 ^ (7 * i) : Nat) : Int), ((i + p.2 : Nat) : Int))) := by
   intro h9 h128
   obtain ⟨g1, g2, g3⟩ := zbt8 hi9 b1 b2 ha (fun e => absurd e h9)
   rw [g1, wi]
   refine (zbt9 z L hb m hm k (i + 1) _ (by omega) g3).cast ?_
   cases rd (i + 1) (L.drop (i + 1)) with
   | none => rfl
   | some p =>
    simp only [y40]
    have : 2 ^ (7 * (i + 1)) = 128 * 2 ^ (7 * i) := by rw [show 7 * (i + 1) = 7 + 7 * i by omega, Nat.pow_add]
    rw [this]
    congr 2
    ·rw [y32, Nat.mul_assoc 128, Nat.mul_left_comm p.1 128]; omega
    ·omega
  refine Ev.succ (Ev.po (Ev.po (Ev.opt hg (Ev.neg (by rw [w7]; omega) ?_)))) (fun q => rfl)
  refine Ev.ite (fun h9 => Ev.ite (fun h1 => ?_) fun h1 => Ev.ite (fun h0 => Ev.pos (by omega) ?_) fun h0 => Ev.pos (by omega) ?_) fun h9 => Ev.ite (fun h0 => Ev.ite (fun hp => ?_) fun hp => Ev.pos (by omega) ?_) fun h0 => Ev.ite (fun h128 => ?_) fun h128 => ?_
  ·rw [if_pos ⟨by omega, h1⟩]; exact Ev.ret _
  ·rw [if_neg (by omega), if_pos ⟨h0, by omega⟩]; exact Ev.ret _
  ·rw [if_neg (by omega), if_neg (by omega), if_pos (by omega)]; exact Ev.ret' (done (by omega) (by omega))
  ·rw [if_neg (by omega), if_pos ⟨h0, by omega⟩]; exact Ev.ret _
  ·rw [if_neg (by omega), if_neg (by omega), if_pos (by omega)]; exact Ev.ret' (done (by omega) (by omega))
  ·rw [if_neg (by omega), if_neg (by omega), if_pos h128]; exact Ev.ret' (done (by omega) h128)
  ·rw [if_neg (by omega), if_neg (by omega), if_neg h128]; exact rest (by omega) h128
theorem zbua (s : Sl Int) (hb : isB s.l) : Ev (fun q => zk7 q s) (resN (rd 0 s.l)) := by
 have h := zbt9 s.z s.l hb (min 10 s.l.length) rfl (min 10 s.l.length) 0 0 (by omega) (by simp)
 have e : (if 10 < (s.l.length : Int) then 10 else (s.l.length : Int)) = ((min 10 s.l.length : Nat) : Int) := by split <;> omega
 refine Ev.succ (g := fun q => zk6 q s.z s.l 0 (if 10 < (s.l.length : Int) then 10 else (s.l.length : Int)) 0) ?_ (fun q => rfl)
 rw [e]
 refine h.cast ?_
 rw [y39]
 cases rd 0 s.l with
 | none => rfl
 | some p => simp [resN]
def getN (l : List Int) : Int × Int := match rd 0 l with
 | none => (0, 0)
 | some p => if 4611686018427387904 ≤ p.1 then (0, 0) else ((p.1 : Int), (p.2 : Int))
theorem zbub (s : Sl Int) (hb : isB s.l) : Ev (fun q => zk8 q s) (getN s.l) := by
 refine Ev.succ (Ev.bind (zbua s hb) ?_) (fun q => rfl)
 unfold getN
 cases rd 0 s.l with
 | none => exact Ev.neg (by simp [resN]) (Ev.ret' (by rw [zbsv] <;> simp [resN]))
 | some p =>
  simp only [resN]
  refine Ev.ite (fun h => ?_) fun h => ?_
  ·rw [if_pos (by omega)]; exact Ev.ret _
  ·rw [if_neg (by omega), zbsv (by omega) (by omega)]; exact Ev.ret _
theorem rd_len : ∀ {l : List Int} {i : Nat} {p : Nat × Nat}, rd i l = some p → 1 ≤ p.2 ∧ p.2 ≤ l.length ∧ i + p.2 ≤ 10
 | [], i, p, h => by simp [rd] at h
 | c :: l, i, p, h => by
  simp only [rd] at h
  split at h
  ·cases h
  ·split at h
   ·cases h
   ·split at h
    ·cases h
    ·split at h
     ·simp at h; subst h; simp; omega
     ·cases hr : rd (i + 1) l with
      | none => simp [hr] at h
      | some r =>
       simp [hr] at h; subst h
       have := rd_len hr
       simp; omega
theorem zbuc {l : List Int} : 0 ≤ (getN l).2 ∧ (getN l).2 ≤ l.length ∧ (getN l).2 ≤ 10 ∧ 0 ≤ (getN l).1 ∧ (getN l).1 < 4611686018427387904 := by
 unfold getN
 cases h : rd 0 l with
 | none => simp
 | some p =>
  have := rd_len h
  simp only
  split <;> simp <;> omega
/-- Where the first byte below 128 stands. -/
def idxLow : List Int → Nat → Int
 | [], _ => -1
 | a :: l, i => if a < 128 then (i : Int) else idxLow l (i + 1)
def allHi (l : List Int) : Prop := ∀ c ∈ l, 128 ≤ c
instance (l : List Int) : Decidable (allHi l) := by unfold allHi; infer_instance
theorem zbud : ∀ {l : List Int} {i : Nat}, ¬ 0 ≤ idxLow l i ↔ allHi l
 | [], i => by simp [idxLow, allHi]
 | a :: l, i => by
  have ih := zbud (l := l) (i := i + 1)
  simp only [idxLow, allHi, List.mem_cons, forall_eq_or_imp] at ih ⊢
  by_cases h : a < 128
  ·rw [if_pos h]; constructor
   ·intro h'; omega
   ·rintro ⟨h1, _⟩; omega
  ·rw [if_neg h, ih]
   constructor
   ·intro h'; exact ⟨by omega, h'⟩
   ·exact fun h' => h'.2
theorem zbue (z : Bool) (L : List Int) (hL : L.length ≤ 1099511627776) : ∀ (k i : Nat), L.length = i + k → Ev (fun q => zk3 q z L (L.length : Int) (i : Int)) (idxLow (L.drop i) i)
 | 0, i, hk => by
  refine Ev.succ (Ev.ne (Ev.ret' ?_)) (fun q => rfl)
  rw [y13 (by omega)]; rfl
 | k + 1, i, hk => by
  have hi : i < L.length := by omega
  have hg : L[(i : Int).toNat]? = some L[i] := by simpa using y8 hi
  have h1 : Ev (fun q => zk2 q L[i]) (decide (L[i] < 128)) := Ev.succ (Ev.ret _) (fun q => rfl)
  refine Ev.succ (Ev.po (Ev.po (Ev.opt hg (Ev.bind h1 ?_)))) (fun q => rfl)
  rw [y10 hi]
  simp only [idxLow]
  refine Ev.ite (fun h => ?_) fun h => ?_
  ·rw [if_pos (by simpa using h)]; exact Ev.ret _
  ·rw [if_neg (by simpa using h), zbsv (by omega) (by omega), show ((i : Int) + 1) = ((i + 1 : Nat) : Int) by omega]
   exact zbue z L hL k (i + 1) (by omega)
def openB (l : List Int) : Bool := decide (l.length < 10 ∧ allHi l)
theorem zbuf (s : Sl Int) : Ev (fun q => zk5 q s) (openB s.l) := by
 refine Ev.succ (Ev.ite (fun h => ?_) fun h => Ev.ret' ?_) (fun q => rfl)
 ·have := zbue s.z s.l (by omega) s.l.length 0 (by omega)
  rw [y39] at this
  refine Ev.bind (Ev.succ this (fun q => rfl)) (Ev.ret' ?_)
  unfold openB
  rw [← decide_not, decide_eq_decide, zbud]
  exact ⟨fun h1 => ⟨by omega, h1⟩, fun h1 => h1.2⟩
 ·unfold openB
  symm; rw [decide_eq_false_iff_not]; omega
theorem zbug (z z2 : Bool) (A B : List Int) (hl : A.length = B.length) (hL : A.length ≤ 1099511627776) : ∀ (k i : Nat), A.length = i + k → Ev (fun q => zlj q z A z2 B (A.length : Int) (i : Int)) (decide (A.drop i = B.drop i))
 | 0, i, hk => by
  refine Ev.succ (Ev.ne (Ev.ret' ?_)) (fun q => rfl)
  rw [y13 (by omega), y13 (by omega)]; simp
 | k + 1, i, hk => by
  have hi : i < A.length := by omega
  have hi2 : i < B.length := by omega
  have hg : A[(i : Int).toNat]? = some A[i] := by simpa using y8 hi
  have hg2 : B[(i : Int).toNat]? = some B[i] := by simpa using y8 hi2
  refine Ev.succ (Ev.po (Ev.po (Ev.opt hg (Ev.opt hg2 ?_)))) (fun q => rfl)
  rw [y10 hi, y10 hi2]
  refine Ev.ite (fun h => ?_) fun h => Ev.ret' (by symm; rw [decide_eq_false_iff_not]; intro e; exact h (List.cons.inj e).1)
  rw [zbsv (by omega) (by omega), show ((i : Int) + 1) = ((i + 1 : Nat) : Int) by omega]
  refine (zbug z z2 A B hl hL k (i + 1) (by omega)).cast ?_
  rw [decide_eq_decide, List.cons.injEq]; simp only [h, true_and]
theorem zbuh (a b : Sl Int) (hL : a.l.length ≤ 1099511627776) : Ev (fun q => zlk q a b) (decide (a.l = b.l)) := by
 refine Ev.succ (Ev.ite (fun h => ?_) fun h => Ev.ret' ?_) (fun q => rfl)
 ·have := zbug a.z b.z a.l b.l (by omega) hL a.l.length 0 (by omega)
  rw [y39, y39] at this; exact this
 ·symm; rw [decide_eq_false_iff_not]; intro e; rw [e] at h; exact h rfl
/-- The data of the frame that bytes begin with, how many bytes it has, and the error. -/
def decF (l : List Int) : List Int × Int × Int :=
 if openB l = true then ([], 0, 2) else if (getN l).2 = 0 then ([], 0, 3) else if 1048576 < (getN l).1 then ([], 0, 5) else if (l.length : Int) < (getN l).2 + 4 + (getN l).1 then ([], 0, 2)
 else if (l.drop ((getN l).2 + (getN l).1).toNat).take 4 = fix4 (bsum (l.take ((getN l).2 + (getN l).1).toNat)).toNat then ((l.take ((getN l).2 + (getN l).1).toNat).drop (getN l).2.toNat, (getN l).2 + (getN l).1 + 4, 0) else ([], 0, 4)
theorem zbui {l : List Int} (h : isB l) (n : Nat) : isB (l.take n) := fun c hc => h c (y45 hc)
theorem zbuj {l : List Int} (h : isB l) (n : Nat) : isB (l.drop n) := fun c hc => h c (y53 hc)
theorem zbuk (s : Sl Int) (hz : s.z = true → s.l = []) (hb : isB s.l) (hl : s.l.length ≤ 4294967296) : ∃ z, Ev (fun q => zlm q s) (⟨z, true, (decF s.l).1⟩, (decF s.l).2.1, (decF s.l).2.2) := by
 unfold decF
 by_cases h1 : openB s.l = true
 ·rw [if_pos h1]
  exact ⟨true, Ev.succ (Ev.bind (zbuf s) (Ev.pos h1 (Ev.ret _))) (fun q => rfl)⟩
 rw [if_neg h1]
 by_cases h2 : (getN s.l).2 = 0
 ·rw [if_pos h2]
  exact ⟨true, Ev.succ (Ev.bind (zbuf s) (Ev.neg h1 (Ev.bind (zbub s hb) (Ev.pos h2 (Ev.ret _))))) (fun q => rfl)⟩
 rw [if_neg h2]
 by_cases h3 : 1048576 < (getN s.l).1
 ·rw [if_pos h3]
  exact ⟨true, Ev.succ (Ev.bind (zbuf s) (Ev.neg h1 (Ev.bind (zbub s hb) (Ev.neg h2 (Ev.pos h3 (Ev.ret _)))))) (fun q => rfl)⟩
 rw [if_neg h3]
 obtain ⟨g1, g2, g3, g4, g5⟩ := zbuc (l := s.l)
 generalize hk : (getN s.l).2 = k at *
 generalize hn : (getN s.l).1 = n at *
 have hg : getN s.l = (n, k) := by rw [← hk, ← hn]
 have hget := zbub s hb
 rw [hg] at hget
 have w1 : wrp .i64 (k + 4) = k + 4 := zbsv (by omega) (by omega)
 have w2 : wrp .i64 (k + 4 + n) = k + 4 + n := zbsv (by omega) (by omega)
 have w3 : wrp .i64 (k + n) = k + n := zbsv (by omega) (by omega)
 have w4 : wrp .i64 (k + n + 4) = k + n + 4 := zbsv (by omega) (by omega)
 by_cases h4 : (s.l.length : Int) < k + 4 + n
 ·rw [if_pos h4]
  exact ⟨true, Ev.succ (Ev.bind (zbuf s) (Ev.neg h1 (Ev.bind hget (Ev.neg h2 (Ev.neg h3 (Ev.pos (by simp only; rw [w1, w2]; exact h4) (Ev.ret _))))))) (fun q => rfl)⟩
 rw [if_neg h4]
 have hzf : s.z = false := by
  cases hz' : s.z
  ·rfl
  ·have := hz hz'; rw [this] at h4; simp at h4; omega
 have hsum := zbty ⟨s.z, List.take k.toNat s.l⟩ ⟨s.z, List.drop k.toNat (List.take (k + n).toNat s.l)⟩ (zbui hb _) (zbuj (zbui hb _) _) (by simp; omega) (by simp; omega)
 have heq := zbuh ⟨s.z, List.drop (k + n).toNat (List.take (k + n + 4).toNat s.l)⟩ ⟨false, fix4 (bsum (List.take k.toNat s.l ++ List.drop k.toNat (List.take (k + n).toNat s.l))).toNat⟩ (by simp; omega)
 have hcl : Ev (fun q => zll q ⟨s.z, List.drop k.toNat (List.take (k + n).toNat s.l)⟩) ⟨false, true, List.drop k.toNat (List.take (k + n).toNat s.l)⟩ :=
  Ev.succ (Ev.neg (by simp [hzf]) (Ev.pos (by simp; omega) (Ev.ret _))) (fun q => rfl)
 have ht : List.take k.toNat s.l ++ List.drop k.toNat (List.take (k + n).toNat s.l) = List.take (k + n).toNat s.l := by
  have := List.take_append_drop k.toNat (List.take (k + n).toNat s.l)
  rw [List.take_take, Nat.min_eq_left (by omega)] at this; exact this
 rw [ht] at heq hsum
 have hd : List.drop (k + n).toNat (List.take (k + n + 4).toNat s.l) = List.take 4 (List.drop (k + n).toNat s.l) := by
  rw [List.drop_take]; congr 1; omega
 rw [hd] at heq
 have pre : ∀ {r : Ow Int × Int × Int}, Ev (fun q => (zlk q ⟨s.z, List.take 4 (List.drop (k + n).toNat s.l)⟩ ⟨false, fix4 (bsum (List.take (k + n).toNat s.l)).toNat⟩).bind fun r4 => (if r4 = true then ((zll q ⟨s.z, (List.drop k.toNat (List.take (k + n).toNat s.l))⟩).bind fun r5 => (some (r5, k + n + 4, 0))) else (some (⟨true, true, []⟩, 0, 4)))) r → Ev (fun q => zlm q s) r := by
  intro r h
  refine Ev.succ (Ev.bind (zbuf s) (Ev.neg h1 (Ev.bind hget (Ev.neg h2 (Ev.neg h3 ?_))))) (fun q => rfl)
  simp only [w1, w2, w3, w4]
  refine Ev.neg h4 (Ev.po (Ev.po (Ev.po (Ev.po (Ev.po (Ev.po (Ev.po (Ev.po (Ev.po (Ev.bind hsum ?_))))))))))
  rw [hd]
  exact h
 by_cases h5 : List.take 4 (List.drop (k + n).toNat s.l) = fix4 (bsum (List.take (k + n).toNat s.l)).toNat
 ·rw [if_pos h5]
  exact ⟨false, pre (Ev.bind heq (Ev.pos (by simpa using h5) (Ev.bind hcl (Ev.ret _))))⟩
 ·rw [if_neg h5]
  exact ⟨true, pre (Ev.bind heq (Ev.neg (by simpa using h5) (Ev.ret _)))⟩
theorem isB_of {s : Sl Int} (h : okSl (fun x => inR .u8 x) s) : isB s.l := fun c hc => by
 have := h.2.2 c hc
 simp [inR, IntKind.min, IntKind.max, IntKind.signed, IntKind.bits] at this; omega
theorem rd_inv : ∀ {l : List Int} {i v k : Nat}, isB l → rd i l = some (v, k) → l.take k = grp v ∧ (0 < i → v ≠ 0)
 | [], i, v, k, hb, h => by simp [rd] at h
 | c :: l, i, v, k, hb, h => by
  obtain ⟨b1, b2⟩ := hb c y33
  simp only [rd] at h
  split at h
  ·cases h
  ·split at h
   ·cases h
   ·split at h
    ·cases h
    ·rename_i h1 h2 h3
     split at h
     ·simp at h; obtain ⟨rfl, rfl⟩ := h
      refine ⟨?_, fun hi e => h3 ⟨by omega, hi⟩⟩
      rw [grp_lt (by omega)]; simp; omega
     ·cases hr : rd (i + 1) l with
      | none => simp [hr] at h
      | some r =>
       obtain ⟨v', k'⟩ := r
       simp [hr] at h
       obtain ⟨rfl, rfl⟩ := h
       obtain ⟨e1, e2⟩ := rd_inv (fun c hc => hb c (y37 _ hc)) hr
       have hv := e2 (by omega)
       refine ⟨?_, fun _ => by omega⟩
       rw [grp_ge (by omega), List.take_succ_cons, e1]
       congr 1
       ·omega
       ·congr 1; omega
theorem zbul {l x : List Int} {n : Int} (hb : isB l) (h : decF l = (x, n, 0)) : x.length ≤ 1048576 ∧ 0 ≤ n ∧ n.toNat ≤ l.length ∧ 5 ≤ n ∧ encF x = l.take n.toNat := by
 unfold decF at h
 split at h
 ·simp at h
 split at h
 ·simp at h
 split at h
 ·simp at h
 split at h
 ·simp at h
 split at h
 ·rename_i h1 h2 h3 h4 h5
  obtain ⟨g1, g2, g3, g4, g5⟩ := zbuc (l := l)
  have hrd : rd 0 l = some ((getN l).1.toNat, (getN l).2.toNat) := by
   unfold getN at h2 ⊢
   cases hr : rd 0 l with
   | none => rw [hr] at h2; simp at h2
   | some p =>
    rw [hr] at h2; simp only at h2 ⊢
    split at h2
    ·simp at h2
    ·rename_i hlt; rw [if_neg hlt]; simp
  obtain ⟨e1, _⟩ := rd_inv hb hrd
  generalize (getN l).2 = k at *
  generalize (getN l).1 = m at *
  simp only [y9, and_true] at h
  obtain ⟨hx, hn⟩ := h
  have hlx : x.length = m.toNat := by rw [← hx]; simp; omega
  refine ⟨by omega, by omega, by omega, by omega, ?_⟩
  have hput : put (x.length : Int) = l.take k.toNat := by
   rw [put_ok (by omega) (by omega), e1]; congr 1
  have hcat : l.take k.toNat ++ x = l.take (k + m).toNat := by
   rw [← hx]
   have := List.take_append_drop k.toNat (List.take (k + m).toNat l)
   rw [List.take_take, Nat.min_eq_left (by omega)] at this; exact this
  unfold encF
  rw [hput, hcat, ← h5, ← y34, hcat, ← hn, show (k + m + 4).toNat = (k + m).toNat + 4 by omega, List.take_add]
 ·simp at h
theorem zbum {l x : List Int} {n e : Int} (h : decF l = (x, n, e)) (he : e ≠ 0) : x = [] ∧ n = 0 := by
 unfold decF at h
 split at h
 ·simp_all
 split at h
 ·simp_all
 split at h
 ·simp_all
 split at h
 ·simp_all
 split at h
 ·simp at h; omega
 ·simp_all
theorem zbun {l : List Int} (hb : isB l) : isB (decF l).1 := by
 have nil : isB [] := fun c hc => by simp at hc
 unfold decF
 split; exact nil
 split; exact nil
 split; exact nil
 split; exact nil
 split
 ·exact zbuj (zbui hb _) _
 ·exact nil
def zag (u : Nat) : Int := if u % 2 = 0 then ((u / 2 : Nat) : Int) else -((u / 2 : Nat) : Int) - 1
theorem zbuo (u : Nat) : zig (zag u) = u := by unfold zag zig; split <;> split <;> omega
theorem ixor0 {x : Int} (h1 : 0 ≤ x) (h2 : x < 9223372036854775808) : ibits .xor .i64 x 0 = x := by
 have e : ibits .xor .i64 x 0 = IntKind.wrap .i64 (((BitVec.ofInt 64 x ^^^ 0#64 : BitVec 64).toNat : Nat) : Int) := by unfold ibits; rfl
 rw [e, BitVec.xor_zero, y50, zbs6, zbsv] <;> omega
theorem zbup {x : Int} (h1 : 9223372036854775808 ≤ x) (h2 : x < 18446744073709551616) : wrp .i64 x = x - 18446744073709551616 := by
 unfold wrp; simp [IntKind.wrap, IntKind.min, IntKind.max, IntKind.signed, IntKind.bits] <;> omega
theorem ixor1 {x : Int} (h1 : 0 ≤ x) (h2 : x < 9223372036854775808) : ibits .xor .i64 x (-1) = -x - 1 := by
 have e : ibits .xor .i64 x (-1) = IntKind.wrap .i64 (((BitVec.ofInt 64 x ^^^ BitVec.allOnes 64 : BitVec 64).toNat : Nat) : Int) := by unfold ibits; rfl
 rw [e, BitVec.xor_allOnes, BitVec.toNat_not, y50, zbs6, zbup] <;> omega
theorem and1u {u : Nat} (h : u < 18446744073709551616) : ibits .and .u64 (u : Int) 1 = ((u % 2 : Nat) : Int) := by
 have e : ibits .and .u64 (u : Int) 1 = IntKind.wrap .u64 (((BitVec.ofInt 64 (u : Int) &&& 1#64 : BitVec 64).toNat : Nat) : Int) := by unfold ibits; rfl
 have e1 : (BitVec.ofInt 64 (u : Int)).toNat = u := by rw [y50]; omega
 rw [e, BitVec.toNat_and, e1, show (1#64 : BitVec 64).toNat = 1 from rfl, Nat.and_one_is_mod, zbs6, zbsw (by omega) (by omega)]
theorem ishr1 {x : Int} (h1 : 0 ≤ x) : ishr .u64 x 1 = x / 2 := by
 unfold ishr; simp [IntKind.bits]
 rw [y54]; omega
theorem zbuq {u : Nat} (h : u < 18446744073709551616) : Ev (fun q => zln q (u : Int)) (zag u) := by
 refine Ev.succ (Ev.ret' ?_) (fun q => rfl)
 rw [ishr1 (by omega), and1u h, zbsv (by omega) (by omega)]
 unfold zag
 split
 ·rename_i e
  rw [e, show wrp .i64 ((0 : Nat) : Int) = 0 from zbsv (by omega) (by omega), show wrp .i64 (0 - 0) = 0 from zbsv (by omega) (by omega), ixor0 (by omega) (by omega)]; omega
 ·rename_i e
  rw [show u % 2 = 1 by omega, show wrp .i64 ((1 : Nat) : Int) = 1 from zbsv (by omega) (by omega), show wrp .i64 (0 - 1) = -1 from zbsv (by omega) (by omega), ixor1 (by omega) (by omega)]; omega
theorem rd_lt : ∀ {l : List Int} {i : Nat} {p : Nat × Nat}, isB l → i ≤ 9 → rd i l = some p → p.1 < 2 ^ (64 - 7 * i)
 | [], i, p, hb, hi, h => by simp [rd] at h
 | c :: l, i, p, hb, hi, h => by
  obtain ⟨b1, b2⟩ := hb c y33
  simp only [rd] at h
  split at h
  ·cases h
  ·split at h
   ·cases h
   ·rename_i h9
    split at h
    ·cases h
    ·split at h
     ·simp at h; subst h
      simp only
      by_cases e : i = 9
      ·subst e; simp; omega
      ·have : 2 ^ 7 ≤ 2 ^ (64 - 7 * i) := Nat.pow_le_pow_right (by omega) (by omega)
       omega
     ·cases hr : rd (i + 1) l with
      | none => simp [hr] at h
      | some r =>
       simp [hr] at h; subst h
       by_cases e : i = 9
       ·exfalso; subst e; exact h9 ⟨rfl, by omega⟩
       ·have := rd_lt (fun c hc => hb c (y37 _ hc)) (by omega) hr
        have e2 : 2 ^ (64 - 7 * i) = 128 * 2 ^ (64 - 7 * (i + 1)) := by rw [show 64 - 7 * i = 7 + (64 - 7 * (i + 1)) by omega, Nat.pow_add]
        simp only
        rw [e2]; omega
def getS (l : List Int) : Int × Int := match rd 0 l with
 | none => (0, 0)
 | some p => (zag p.1, (p.2 : Int))
theorem zbur (s : Sl Int) (hb : isB s.l) : Ev (fun q => zlo q s) (getS s.l) := by
 refine Ev.succ (Ev.bind (zbua s hb) ?_) (fun q => rfl)
 unfold getS
 cases h : rd 0 s.l with
 | none => exact Ev.pos (by simp [resN]) (Ev.ret _)
 | some p =>
  have h1 := rd_len h
  have h2 := rd_lt hb (by omega) h
  simp only [resN]
  exact Ev.neg (by simp; omega) (Ev.bind (zbuq (by simpa using h2)) (Ev.ret _))
theorem zbus {l : List Int} : 0 ≤ (getS l).2 ∧ (getS l).2 ≤ l.length ∧ (getS l).2 ≤ 10 := by
 unfold getS
 cases h : rd 0 l with
 | none => simp
 | some p =>
  have := rd_len h
  simp only; omega
def cutsB (l : List Int) : Prop := ∀ n ∈ l, n = cutI n
instance (l : List Int) : Decidable (cutsB l) := by unfold cutsB; infer_instance
theorem zbut (n : Int) : Ev (fun q => zjr q n) (!(decide (n = cutI n))) := Ev.succ (Ev.bind (zbta n) (Ev.ret _)) (fun q => rfl)
theorem zbuu (z : Bool) (L : List Int) (h0 : Int) (h1z : Bool) (h1l : List Int) (h2 : Bool) (h3 : Int) (hL : L.length ≤ 1000000) : ∀ (k i : Nat), L.length = i + k →
  ∃ r, Ev (fun q => zju q z L (L.length : Int) (i : Int) h0 h1z h1l h2 h3) r ∧ (0 ≤ r ↔ ¬ cutsB (L.drop i))
 | 0, i, hk => by
  refine ⟨-1, Ev.succ (Ev.ne (Ev.ret _)) (fun q => rfl), ?_⟩
  rw [y13 (by omega)]; simp [cutsB]
 | k + 1, i, hk => by
  have hi : i < L.length := by omega
  have he : L[((i : Int)).toNat]? = some L[i] := by simp [hi]
  have hd := y10 hi
  by_cases h : L[i] = cutI L[i]
  ·obtain ⟨r, hr, hi2⟩ := zbuu z L h0 h1z h1l h2 h3 hL k (i + 1) (by omega)
   rw [show ((i + 1 : Nat) : Int) = wrp .i64 ((i : Int) + 1) by rw [zbsv (by omega) (by omega)]; omega] at hr
   refine ⟨r, Ev.succ (Ev.po (Ev.po (Ev.opt he (Ev.bind (zbut _) (Ev.neg (by simpa using h) hr))))) (fun q => rfl), ?_⟩
   rw [hi2, hd]; unfold cutsB; simp only [List.mem_cons, forall_eq_or_imp]
   exact ⟨fun a b => a b.2, fun a b => a ⟨h, b⟩⟩
  ·refine ⟨i, Ev.succ (Ev.po (Ev.po (Ev.opt he (Ev.bind (zbut _) (Ev.pos (by simpa using h) (Ev.ret _)))))) (fun q => rfl), ?_⟩
   rw [hd]; unfold cutsB; simp only [List.mem_cons, forall_eq_or_imp]
   exact ⟨fun _ b => h b.1, fun _ => by omega⟩
theorem zbuv (z : Bool) (L : List Int) (h0 : Int) (h1z : Bool) (h1l : List Int) (h2 : Bool) (h3 : Int) (hL : L.length ≤ 1000000) : ∃ r, Ev (fun q => zjv q z L h0 h1z h1l h2 h3) r ∧ (0 ≤ r ↔ ¬ cutsB L) := by
 obtain ⟨r, h, h4⟩ := zbuu z L h0 h1z h1l h2 h3 hL L.length 0 (by omega)
 exact ⟨r, Ev.succ h (fun q => rfl), by simpa using h4⟩
def prs (least : Int) : Int → List Int → Bool
 | last, a :: b :: t => decide (last < a) && (decide (a ≤ 255) && (decide (least ≤ b) && (decide (b ≤ 1099511627776) && prs least a t)))
 | _, _ => true
def pairsOk (least : Int) (l : List Int) : Bool := prs least (-1) l && (decide (l.length % 2 = 0) && decide (l.length ≤ 128))
theorem zbuw (z : Bool) (L : List Int) (least : Int) (hL : L.length ≤ 1000000) : ∀ (k i : Nat) (last : Int), L.length ≤ i + 2 * k → i ≤ 2000000 →
  Ev (fun q => zjs q z L least last (i : Int)) (prs least last (L.drop i) && (decide (L.length % 2 = 0) && decide (L.length ≤ 128)))
 | k, i, last, hk, hi9 => by
  have w1 : wrp .i64 ((i : Int) + 1) = ((i + 1 : Nat) : Int) := by rw [zbsv (by omega) (by omega)]; omega
  have w2 : wrp .i64 ((i : Int) + 2) = ((i + 2 : Nat) : Int) := by rw [zbsv (by omega) (by omega)]; omega
  by_cases h : i + 1 < L.length
  ·cases k with
   | zero => omega
   | succ k =>
    have he : L[((i : Int)).toNat]? = some L[i] := by rw [y29]; exact y8 (by omega)
    have he2 : L[(wrp .i64 ((i : Int) + 1)).toNat]? = some L[i + 1] := by rw [w1, y29]; exact y8 h
    have hd : L.drop i = L[i] :: L[i + 1] :: L.drop (i + 2) := by rw [y10 (by omega), y10 h]
    rw [hd]
    simp only [prs]
    refine Ev.succ (Ev.pos (by rw [w1]; omega) (Ev.po (Ev.opt he (Ev.ite (fun c => Ev.ret' ?_) fun c => Ev.ite (fun c2 => Ev.ret' ?_) fun c2 => Ev.pos (by rw [w1]; omega) (Ev.opt he2 (Ev.ite (fun c3 => Ev.ret' ?_) fun c3 => Ev.ite (fun c4 => Ev.ret' ?_) fun c4 => ?_)))))) (fun q => rfl)
    ·rw [decide_eq_false (show ¬ last < L[i] by omega)]; rfl
    ·rw [decide_eq_false (show ¬ L[i] ≤ 255 by omega)]; simp
    ·rw [decide_eq_false (show ¬ least ≤ L[i + 1] by omega)]; simp
    ·rw [decide_eq_false (show ¬ L[i + 1] ≤ 1099511627776 by omega)]; simp
    ·rw [decide_eq_true (show last < L[i] by omega), decide_eq_true (show L[i] ≤ 255 by omega), decide_eq_true (show least ≤ L[i + 1] by omega), decide_eq_true (show L[i + 1] ≤ 1099511627776 by omega), w2]
     simp only [y61]
     exact zbuw z L least hL k (i + 2) L[i] (by omega) (by omega)
  ·have hp : prs least last (L.drop i) = true := by
    have hl : (L.drop i).length ≤ 1 := by rw [y14]; omega
    generalize L.drop i = X at hl
    match X, hl with
    | [], _ => rfl
    | [a], _ => rfl
   rw [hp, y61]
   have ht : Int.tmod (L.length : Int) 2 = ((L.length % 2 : Nat) : Int) := by rw [Int.tmod_eq_emod_of_nonneg (by omega)]; omega
   refine Ev.succ (Ev.neg (by rw [w1]; omega) (Ev.ite (fun c => Ev.ret' ?_) fun c => Ev.ret' ?_)) (fun q => rfl)
   ·rw [ht] at c
    rw [decide_eq_true (show L.length % 2 = 0 by omega), y61]
    by_cases h4 : L.length ≤ 128
    ·rw [decide_eq_true h4, decide_eq_true (by omega)]
    ·rw [decide_eq_false h4, decide_eq_false (by omega)]
   ·rw [ht] at c
    rw [decide_eq_false (show ¬ L.length % 2 = 0 by omega)]; rfl
theorem zbux (s : Sl Int) (least : Int) (hL : s.l.length ≤ 1000000) : Ev (fun q => zjt q s least) (pairsOk least s.l) := by
 have := zbuw s.z s.l least hL s.l.length 0 (-1) (by omega) (by omega)
 exact Ev.succ this (fun q => rfl)
def kindOk (k : Int) (l : List Int) : Bool :=
 if k = 0 ∨ k = 1 then decide (l.length = 1 ∧ cutsB l) else if k = 2 ∨ k = 3 then decide (l.length ≤ 64 ∧ cutsB l) else if k = 4 then pairsOk (-1099511627776) l else if k = 5 then pairsOk 0 l else false
def mayS (s : zjj) : Bool := if s.To < 0 then false else if 3 ≤ s.To then false else if s.Sealed = true then kindOk s.Kind s.L.l else if s.To = 0 then kindOk s.Kind s.L.l else false
theorem zbuy (s : zjj) (hL : s.L.l.length ≤ 1000000) : Ev (fun q => ((zjv q s.L.z s.L.l s.Kind s.L.z s.L.l s.Sealed s.To).bind fun r1 => (if s.Kind = 0 then (if (s.L.l.length : Int) = 1 then (some (!(decide (0 ≤ r1)))) else (some false)) else (if s.Kind = 1 then (if (s.L.l.length : Int) = 1 then (some (!(decide (0 ≤ r1)))) else (some false)) else (if s.Kind = 2 then (if (s.L.l.length : Int) ≤ 64 then (some (!(decide (0 ≤ r1)))) else (some false)) else (if s.Kind = 3 then (if (s.L.l.length : Int) ≤ 64 then (some (!(decide (0 ≤ r1)))) else (some false)) else (if s.Kind = 4 then ((zjt q s.L (-1099511627776)).bind fun r2 => (some r2)) else (if s.Kind = 5 then ((zjt q s.L 0).bind fun r3 => (some r3)) else (some false))))))))) (kindOk s.Kind s.L.l) := by
 obtain ⟨r, h, hr⟩ := zbuv s.L.z s.L.l s.Kind s.L.z s.L.l s.Sealed s.To hL
 have one : ∀ {P : Prop} [Decidable P], P → Ev (fun _ : Nat => (some (!(decide (0 ≤ r))) : Option Bool)) (decide (P ∧ cutsB s.L.l)) := fun {P} _ hp => Ev.ret' (by
  by_cases hc : cutsB s.L.l
  ·rw [decide_eq_false (fun e => hr.1 e hc)]; symm; simp only [Bool.not_false, decide_eq_true_eq]; exact ⟨hp, hc⟩
  ·rw [decide_eq_true (hr.2 hc)]; symm; simp only [Bool.not_true, decide_eq_false_iff_not]; exact fun e => hc e.2)
 have no : ∀ {P : Prop} [Decidable P], ¬ P → Ev (fun _ : Nat => (some false : Option Bool)) (decide (P ∧ cutsB s.L.l)) := fun {P} _ hp => Ev.ret' (by
  symm; simp only [decide_eq_false_iff_not]; exact fun e => hp e.1)
 refine Ev.bind h ?_
 unfold kindOk
 by_cases k0 : s.Kind = 0
 ·rw [if_pos (show s.Kind = 0 ∨ s.Kind = 1 from .inl k0)]
  by_cases hl : s.L.l.length = 1
  ·exact Ev.pos k0 (Ev.po (one hl))
  ·exact Ev.pos k0 (Ev.ne (no hl))
 by_cases k1 : s.Kind = 1
 ·rw [if_pos (show s.Kind = 0 ∨ s.Kind = 1 from .inr k1)]
  by_cases hl : s.L.l.length = 1
  ·exact Ev.neg k0 (Ev.pos k1 (Ev.po (one hl)))
  ·exact Ev.neg k0 (Ev.pos k1 (Ev.ne (no hl)))
 rw [if_neg (show ¬ (s.Kind = 0 ∨ s.Kind = 1) by omega)]
 by_cases k2 : s.Kind = 2
 ·rw [if_pos (show s.Kind = 2 ∨ s.Kind = 3 from .inl k2)]
  by_cases hl : s.L.l.length ≤ 64
  ·exact Ev.neg k0 (Ev.neg k1 (Ev.pos k2 (Ev.po (one hl))))
  ·exact Ev.neg k0 (Ev.neg k1 (Ev.pos k2 (Ev.ne (no hl))))
 by_cases k3 : s.Kind = 3
 ·rw [if_pos (show s.Kind = 2 ∨ s.Kind = 3 from .inr k3)]
  by_cases hl : s.L.l.length ≤ 64
  ·exact Ev.neg k0 (Ev.neg k1 (Ev.neg k2 (Ev.pos k3 (Ev.po (one hl)))))
  ·exact Ev.neg k0 (Ev.neg k1 (Ev.neg k2 (Ev.pos k3 (Ev.ne (no hl)))))
 rw [if_neg (show ¬ (s.Kind = 2 ∨ s.Kind = 3) by omega)]
 refine Ev.neg k0 (Ev.neg k1 (Ev.neg k2 (Ev.neg k3 (Ev.ite (fun k4 => ?_) fun k4 => Ev.ite (fun k5 => ?_) fun k5 => ?_))))
 ·rw [if_pos k4]; exact Ev.bind (zbux _ _ hL) (Ev.ret _)
 ·rw [if_neg k4, if_pos k5]; exact Ev.bind (zbux _ _ hL) (Ev.ret _)
 ·rw [if_neg k4, if_neg k5]; exact Ev.ret _
theorem zbuz (s : zjj) (hL : s.L.l.length ≤ 1000000) : Ev (fun q => zjw q s) (mayS s) := by
 have hb := zbuy s hL
 unfold mayS
 refine Ev.succ (Ev.ite (fun h => ?_) fun h => Ev.ite (fun h2 => ?_) fun h2 => Ev.ite (fun h3 => ?_) fun h3 => Ev.ite (fun h4 => ?_) fun h4 => ?_) (fun q => rfl)
 ·rw [if_pos h]; exact Ev.ret _
 ·rw [if_neg h, if_pos h2]; exact Ev.ret _
 ·rw [if_neg h, if_neg h2, if_pos h3]; exact hb
 ·rw [if_neg h, if_neg h2, if_neg h3, if_pos h4]; exact hb
 ·rw [if_neg h, if_neg h2, if_neg h3, if_neg h4]; exact Ev.ret _
def entOk (e : zjk) : Bool := decide (0 ≤ e.Proc) && (decide (e.Proc ≤ 64) && (decide (0 ≤ e.Seq) && (decide (e.Seq < 4611686018427387904) && (decide (-1125899906842624 ≤ e.Resp) && decide (e.Resp ≤ 1125899906842624)))))
theorem zbu0 (e : zjk) : Ev (fun q => zjx q e) (entOk e) := by
 unfold entOk
 exact Ev.succ (Ev.ite (fun h1 => Ev.ite (fun h2 => Ev.ite (fun h3 => Ev.ite (fun h4 => Ev.ite (fun h5 => Ev.ret' (by simp [*])) fun h5 => Ev.ret' (by simp [*])) fun h4 => Ev.ret' (by simp [*])) fun h3 => Ev.ret' (by simp [*])) fun h2 => Ev.ret' (by simp [*])) fun h1 => Ev.ret' (by simp [*])) (fun q => rfl)
def tabB : Int → List zjk → Bool
 | _, [] => true
 | last, e :: t => entOk e && (decide (last < e.Proc) && tabB e.Proc t)
theorem zbu1 (z z2 : Bool) (L : List zjk) (hL : L.length ≤ 1000000) : ∀ (k i : Nat) (last : Int), L.length = i + k → (∀ e, 0 < i → L[i - 1]? = some e → e.Proc = last) → (i = 0 → last = -1) →
  Ev (fun q => zjy q z L z2 L (L.length : Int) (i : Int)) (tabB last (L.drop i))
 | 0, i, last, hk, h1, h0 => by
  refine Ev.succ (Ev.ne (Ev.ret' ?_)) (fun q => rfl)
  rw [y13 (by omega)]; rfl
 | k + 1, i, last, hk, h1, h0 => by
  have hi : i < L.length := by omega
  have he : L[((i : Int)).toNat]? = some L[i] := by simp [hi]
  rw [y10 hi]
  simp only [tabB]
  have w1 : wrp .i64 ((i : Int) + 1) = ((i + 1 : Nat) : Int) := by rw [zbsv (by omega) (by omega)]; omega
  have ih := zbu1 z z2 L hL k (i + 1) L[i].Proc (by omega) (fun e _ hx => by
   rw [Nat.add_sub_cancel, y8 hi] at hx
   simp only [y5] at hx; rw [hx]) (by omega)
  refine Ev.succ (Ev.po (Ev.po (Ev.opt he (Ev.bind (zbu0 _) (Ev.ite (fun c => Ev.ite (fun c2 => ?_) fun c2 => ?_) fun c => Ev.ret' ?_))))) (fun q => rfl)
  ·have w3 : wrp .i64 ((i : Int) - 1) = ((i - 1 : Nat) : Int) := by rw [zbsv (by omega) (by omega)]; omega
   have he3 : L[(wrp .i64 ((i : Int) - 1)).toNat]? = some L[i - 1] := by rw [w3, y29]; exact y8 (by omega)
   have hq := h1 L[i - 1] (by omega) (y8 (by omega))
   refine Ev.pos (by rw [w3]; omega) (Ev.opt he3 (Ev.ite (fun c4 => Ev.ret' ?_) fun c4 => ?_))
   ·rw [c, decide_eq_false (show ¬ last < L[i].Proc by omega)]; rfl
   ·rw [c, decide_eq_true (show last < L[i].Proc by omega), w1]; simpa using ih
  ·have := h0 (by omega)
   have hp : 0 ≤ L[i].Proc := by unfold entOk at c; simp only [y7, decide_eq_true_eq] at c; exact c.1
   rw [c, decide_eq_true (show last < L[i].Proc by omega), w1]; simpa using ih
  ·simp only [Bool.not_eq_true] at c; rw [c]; rfl
theorem zbu2 (s : Sl zjk) (hL : s.l.length ≤ 1000000) : Ev (fun q => zjz q s) (tabB (-1) s.l) :=
 Ev.succ (zbu1 s.z s.z s.l hL s.l.length 0 (-1) (by omega) (fun e h => by omega) (fun _ => rfl)) (fun q => rfl)
def mayN (s : zjl) : Bool := decide (0 ≤ s.Index) && (decide (s.Index < 4611686018427387904) && (mayS s.State && tabB (-1) s.Table.l))
theorem zbu3 (s : zjl) (h1 : s.State.L.l.length ≤ 1000000) (h2 : s.Table.l.length ≤ 1000000) : Ev (fun q => zj0 q s) (mayN s) := by
 unfold mayN
 refine Ev.succ (Ev.ite (fun c1 => Ev.ite (fun c2 => Ev.bind (zbuz _ h1) (Ev.ite (fun c3 => Ev.bind (zbu2 _ h2) (Ev.ret' ?_)) fun c3 => Ev.ret' ?_)) fun c2 => Ev.ret' ?_) fun c1 => Ev.ret' ?_) (fun q => rfl)
 ·simp [c1, c2, c3]
 ·simp [c3]
 ·simp [c2]
 ·simp [c1]
instance : DecidableEq zjk := fun a b => if h : a.Proc = b.Proc ∧ a.Seq = b.Seq ∧ a.Resp = b.Resp then isTrue (by cases a; cases b; simp_all) else isFalse (fun e => h (by rw [e]; exact ⟨rfl, rfl, rfl⟩))
theorem zbu4 {a b : zjk} (h1 : a.Proc = b.Proc) (h2 : a.Seq = b.Seq) (h3 : a.Resp = b.Resp) : a = b := by cases a; cases b; simp_all
/-- A process's entry. -/
def findE (p : Int) : List zjk → Option zjk
 | [] => none
 | e :: t => if e.Proc = p then some e else findE p t
theorem zbu5 (z : Bool) (L : List zjk) (p : Int) (hL : L.length ≤ 1000000) : ∀ (k i : Nat), L.length = i + k →
  ∃ r, Ev (fun q => zj1 q z L (L.length : Int) (i : Int) p) r ∧ ((r < 0 ∧ findE p (L.drop i) = none) ∨ (0 ≤ r ∧ ∃ e, L[r.toNat]? = some e ∧ findE p (L.drop i) = some e))
 | 0, i, hk => by
  refine ⟨-1, Ev.succ (Ev.ne (Ev.ret _)) (fun q => rfl), .inl ⟨by omega, ?_⟩⟩
  rw [y13 (by omega)]; rfl
 | k + 1, i, hk => by
  have hi : i < L.length := by omega
  have he : L[((i : Int)).toNat]? = some L[i] := by simp [hi]
  rw [y10 hi]
  simp only [findE]
  by_cases h : L[i].Proc = p
  ·rw [if_pos h]
   exact ⟨i, Ev.succ (Ev.po (Ev.po (Ev.opt he (Ev.pos h (Ev.ret _))))) (fun q => rfl), .inr ⟨by omega, L[i], he, rfl⟩⟩
  ·rw [if_neg h]
   obtain ⟨r, hr, hr2⟩ := zbu5 z L p hL k (i + 1) (by omega)
   rw [show ((i + 1 : Nat) : Int) = wrp .i64 ((i : Int) + 1) by rw [zbsv (by omega) (by omega)]; omega] at hr
   exact ⟨r, Ev.succ (Ev.po (Ev.po (Ev.opt he (Ev.neg h hr)))) (fun q => rfl), hr2⟩
theorem zbu6 (s : Sl zjk) (p : Int) (hL : s.l.length ≤ 1000000) : ∃ r, Ev (fun q => zj3 q s p) r ∧ ((r < 0 ∧ findE p s.l = none) ∨ (0 ≤ r ∧ ∃ e, s.l[r.toNat]? = some e ∧ findE p s.l = some e)) := by
 obtain ⟨r, h, h2⟩ := zbu5 s.z s.l p hL s.l.length 0 (by omega)
 rw [y39] at h2
 exact ⟨r, Ev.succ (Ev.bind (Ev.succ h (fun q => rfl)) (Ev.ret _)) (fun q => rfl), h2⟩
/-- How many numbers two lists begin with alike. -/
def com : List Int → List Int → Nat
 | a :: x, b :: y => if a = b then com x y + 1 else 0
 | _, _ => 0
theorem com_le : ∀ (x y : List Int), com x y ≤ x.length ∧ com x y ≤ y.length
 | [], y => by simp [com]
 | a :: x, [] => by simp [com]
 | a :: x, b :: y => by
  simp only [com]
  split
  ·have := com_le x y; simp only [y22]; omega
  ·simp
theorem zbu7 {x y : List Int} {i : Nat} (hx : i < x.length) (hy : i < y.length) : com (x.drop i) (y.drop i) = if x[i] = y[i] then com (x.drop (i + 1)) (y.drop (i + 1)) + 1 else 0 := by
 rw [y10 hx, y10 hy]; rfl
theorem zbu8 {x y : List Int} {i : Nat} (h : x.length ≤ i ∨ y.length ≤ i) : com (x.drop i) (y.drop i) = 0 := by
 rcases h with h | h
 ·rw [y13 h]; cases y.drop i <;> rfl
 ·rw [y13 h]; cases x.drop i <;> rfl
theorem zbu9 (z1 z2 : Bool) (x y : List Int) (hL : x.length ≤ 1000000) : ∀ (k i : Nat), x.length = i + k →
  Ev (fun q => zj4 q z1 x z2 y (i : Int)) ((i + com (x.drop i) (y.drop i) : Nat) : Int)
 | 0, i, hk => by
  refine Ev.succ (Ev.ne (Ev.ret' ?_)) (fun q => rfl)
  rw [zbu8 (.inl (by omega))]; rfl
 | k + 1, i, hk => by
  have hi : i < x.length := by omega
  have he : x[((i : Int)).toNat]? = some x[i] := by simp [hi]
  by_cases hy : i < y.length
  ·have he2 : y[((i : Int)).toNat]? = some y[i] := by simp [hy]
   rw [zbu7 hi hy]
   refine Ev.succ (Ev.po (Ev.po (Ev.po (Ev.opt he (Ev.opt he2 (Ev.ite (fun h => ?_) fun h => ?_)))))) (fun q => rfl)
   ·rw [if_pos h]
    have := zbu9 z1 z2 x y hL k (i + 1) (by omega)
    rw [show ((i + 1 : Nat) : Int) = wrp .i64 ((i : Int) + 1) by rw [zbsv (by omega) (by omega)]; omega] at this
    refine Ev.cast this ?_
    omega
   ·rw [if_neg h]; exact Ev.ret' (by omega)
  ·rw [zbu8 (.inr (by omega))]
   exact Ev.succ (Ev.po (Ev.ne (Ev.ret' (by omega)))) (fun q => rfl)
theorem zbva (a b : Sl Int) (hL : a.l.length ≤ 1000000) : Ev (fun q => zj5 q a b) ((com a.l b.l : Nat) : Int) := by
 have := zbu9 a.z b.z a.l b.l hL a.l.length 0 (by omega)
 exact Ev.succ (Ev.cast this (by simp)) (fun q => rfl)
theorem zbvb {x : List Int} {i : Nat} (h : i < x.length) : x[x.length - 1 - i]? = some (x.reverse[i]'(by rw [List.length_reverse]; exact h)) := by
 rw [List.getElem_reverse, y8 (by omega)]
theorem zbvc (z1 z2 : Bool) (x y : List Int) (hL : x.length ≤ 1000000) (hL2 : y.length ≤ 1000000) : ∀ (k i : Nat), x.length = i + k →
  Ev (fun q => zj6 q z1 x z2 y (i : Int)) ((i + com (x.reverse.drop i) (y.reverse.drop i) : Nat) : Int)
 | 0, i, hk => by
  refine Ev.succ (Ev.ne (Ev.ret' ?_)) (fun q => rfl)
  rw [zbu8 (.inl (by rw [List.length_reverse]; omega))]; rfl
 | k + 1, i, hk => by
  have hi : i < x.length := by omega
  have hir : i < x.reverse.length := by rw [List.length_reverse]; exact hi
  have w1 : wrp .i64 (wrp .i64 ((x.length : Int) - 1) - (i : Int)) = ((x.length - 1 - i : Nat) : Int) := by rw [zbsv (x := (x.length : Int) - 1) (by omega) (by omega), zbsv (by omega) (by omega)]; omega
  have he : x[(wrp .i64 (wrp .i64 ((x.length : Int) - 1) - (i : Int))).toNat]? = some x.reverse[i] := by rw [w1, y29]; exact zbvb hi
  by_cases hy : i < y.length
  ·have hyr : i < y.reverse.length := by rw [List.length_reverse]; exact hy
   have w2 : wrp .i64 (wrp .i64 ((y.length : Int) - 1) - (i : Int)) = ((y.length - 1 - i : Nat) : Int) := by rw [zbsv (x := (y.length : Int) - 1) (by omega) (by omega), zbsv (by omega) (by omega)]; omega
   have he2 : y[(wrp .i64 (wrp .i64 ((y.length : Int) - 1) - (i : Int))).toNat]? = some y.reverse[i] := by rw [w2, y29]; exact zbvb hy
   rw [zbu7 hir hyr]
   refine Ev.succ (Ev.po (Ev.po (Ev.pos (by rw [w1]; omega) (Ev.opt he (Ev.pos (by rw [w2]; omega) (Ev.opt he2 (Ev.ite (fun h => ?_) fun h => ?_))))))) (fun q => rfl)
   ·rw [if_pos h]
    have := zbvc z1 z2 x y hL hL2 k (i + 1) (by omega)
    rw [show ((i + 1 : Nat) : Int) = wrp .i64 ((i : Int) + 1) by rw [zbsv (by omega) (by omega)]; omega] at this
    refine Ev.cast this ?_
    omega
   ·rw [if_neg h]; exact Ev.ret' (by omega)
  ·rw [zbu8 (.inr (by rw [List.length_reverse]; omega))]
   exact Ev.succ (Ev.po (Ev.ne (Ev.ret' (by omega)))) (fun q => rfl)
theorem zbvd (a b : Sl Int) (hL : a.l.length ≤ 1000000) (hL2 : b.l.length ≤ 1000000) : Ev (fun q => zj7 q a b) ((com a.l.reverse b.l.reverse : Nat) : Int) := by
 have := zbvc a.z b.z a.l b.l hL hL2 a.l.length 0 (by omega)
 exact Ev.succ (Ev.cast this (by simp)) (fun q => rfl)
/-- The entries that are new. -/
def newT (ta : List zjk) : List zjk → List zjk
 | [] => []
 | e :: t => if findE e.Proc ta = some e then newT ta t else e :: newT ta t
def lacksB (ta tb : List zjk) : Bool := match ta with
 | [] => false
 | e :: t => decide (findE e.Proc tb = none) || lacksB t tb
theorem zbve (z : Bool) (L : List zjk) (x0 x1 : Int) (x2z : Bool) (x2l : List Int) (x3 : Bool) (x4 : Int) (x5z : Bool) (x5l : List zjk) (y0 y1 : Int) (y2z : Bool) (y2l : List Int) (y3 : Bool) (y4 : Int) (tz : Bool) (T : List zjk) (hL : L.length ≤ 1000000) (hT : T.length ≤ 1000000) : ∀ (k i : Nat), L.length = i + k →
  ∃ r, Ev (fun q => zj9 q z L (L.length : Int) (i : Int) x0 x1 x2z x2l x3 x4 x5z x5l y0 y1 y2z y2l y3 y4 tz T) r ∧ (0 ≤ r ↔ lacksB (L.drop i) T = true)
 | 0, i, hk => by
  refine ⟨-1, Ev.succ (Ev.ne (Ev.ret _)) (fun q => rfl), ?_⟩
  rw [y13 (by omega)]; simp [lacksB]
 | k + 1, i, hk => by
  have hi : i < L.length := by omega
  have he : L[((i : Int)).toNat]? = some L[i] := by simp [hi]
  obtain ⟨r, hr, hr2⟩ := zbu6 ⟨tz, T⟩ L[i].Proc hT
  rw [y10 hi]
  simp only [lacksB]
  rcases hr2 with ⟨h1, h2⟩ | ⟨h1, e, h2, h3⟩
  ·refine ⟨i, Ev.succ (Ev.po (Ev.po (Ev.opt he (Ev.bind hr (Ev.pos h1 (Ev.ret _)))))) (fun q => rfl), ?_⟩
   simp only at h2
   rw [decide_eq_true h2]; simp
  ·obtain ⟨r', hr', hr2'⟩ := zbve z L x0 x1 x2z x2l x3 x4 x5z x5l y0 y1 y2z y2l y3 y4 tz T hL hT k (i + 1) (by omega)
   rw [show ((i + 1 : Nat) : Int) = wrp .i64 ((i : Int) + 1) by rw [zbsv (by omega) (by omega)]; omega] at hr'
   refine ⟨r', Ev.succ (Ev.po (Ev.po (Ev.opt he (Ev.bind hr (Ev.neg (by omega) hr'))))) (fun q => rfl), ?_⟩
   simp only at h3
   rw [decide_eq_false (by rw [h3]; exact fun c => by cases c), Bool.false_or]
   exact hr2'
theorem zbvf (z0 : Bool) (L : List (Sl Int)) (z : Bool) (hL : L.length ≤ 1099511627776) : ∀ (k i : Nat) (m : Nat) (l : List Int), L.length = i + k → m + (flat (L.drop i)).length ≤ l.length →
  Ev (fun q => zke q m z0 L (L.length : Int) (i : Int) z l) ⟨z, true, l.take m ++ flat (L.drop i)⟩
 | 0, i, m, l, hk, hl => by
  refine Ev.succ (Ev.ne (Ev.ret' ?_)) (fun q => rfl)
  rw [y13 (by omega)]; simp [flat]
 | k + 1, i, m, l, hk, hl => by
  have hi : i < L.length := by omega
  have hg : L[(i : Int).toNat]? = some L[i] := by simpa using y8 hi
  rw [y10 hi, zbtz, y11] at hl
  refine Ev.succ (Ev.po (Ev.po (Ev.opt hg (Ev.pos (by omega) ?_)))) (fun q => rfl)
  rw [zbsv (by omega) (by omega), show ((i : Int) + 1) = ((i + 1 : Nat) : Int) by omega]
  refine (zbvf z0 L z hL k (i + 1) (m + L[i].l.length) _ (by omega) ?_).cast ?_
  ·simp only [y11, y21, y14]; omega
  ·congr 1
   rw [y10 hi, zbtz, ← y34]
   congr 1
   rw [List.take_append_of_le_length (by simp only [y11, y21]; omega), List.take_of_length_le (by simp only [y11, y21]; omega)]
theorem zbvg (z0 : Bool) (L : List (Sl Int)) (hL : L.length ≤ 1099511627776) : ∀ (k i : Nat) (z : Bool) (l : List Int), L.length = i + k → l.length + (flat (L.drop i)).length ≤ 4294967296 →
  ∃ z', Ev (fun q => zkf q z0 L (L.length : Int) (i : Int) z l) ⟨z', true, l ++ flat (L.drop i)⟩
 | 0, i, z, l, hk, hl => ⟨z, by
  refine Ev.succ (Ev.ne (Ev.ret' ?_)) (fun q => rfl)
  rw [y13 (by omega)]; simp [flat]⟩
 | k + 1, i, z, l, hk, hl => by
  have hi : i < L.length := by omega
  have hg : L[(i : Int).toNat]? = some L[i] := by simpa using y8 hi
  rw [y10 hi, zbtz, y11] at hl
  obtain ⟨z', h⟩ := zbvg z0 L hL k (i + 1) (z && (decide (L[i].l.length = 0))) (l ++ L[i].l) (by omega) (by simp only [y11]; omega)
  refine ⟨z', Ev.succ (Ev.po (Ev.po (Ev.opt hg (Ev.pos (by omega) ?_)))) (fun q => rfl)⟩
  rw [zbsv (by omega) (by omega), show ((i : Int) + 1) = ((i + 1 : Nat) : Int) by omega]
  refine h.cast ?_
  rw [y10 hi, zbtz]; simp
theorem zbvh (z0 z9 : Bool) (L : List (Sl Int)) (hL : L.length ≤ 1099511627776) (hf : (flat L).length ≤ 4294967296) : ∀ (k i : Nat) (m : Nat), L.length = i + k → m + (flat (L.drop i)).length = (flat L).length →
  ∃ z', Ev (fun q => zkh q z0 L (m : Int) z9 L (L.length : Int) (i : Int)) ⟨z', true, flat L⟩
 | 0, i, m, hk, hm => by
  rw [y13 (by omega)] at hm
  have hm2 : m = (flat L).length := by simpa [flat] using hm
  have w : wrp .i64 ((m : Int) - wrp .i64 0) = (m : Int) := by rw [zbsv (x := 0) (by omega) (by omega), zbsv (by omega) (by omega)]; omega
  by_cases h0 : 0 < m
  ·refine ⟨decide (wrp .i64 ((m : Int) - wrp .i64 0) = 0), Ev.succ (Ev.ne (Ev.ne (Ev.pos (by rw [w]; omega) (Ev.pos (by rw [w]; omega) (Ev.pos (by rw [w]; omega) (Ev.neg (by rw [w]; omega) ?_)))))) (fun q => rfl)⟩
   rw [w]
   have := zbvf z0 L (decide ((m : Int) = 0)) hL L.length 0 0 (List.replicate (m : Int).toNat 0) (by omega) (by simp; omega)
   rw [y39] at this
   exact this
  ·have hnil : flat L = [] := y36 (by omega)
   match L, hk with
   | [], _ =>
    refine ⟨true, Ev.succ (Ev.neg (by simp) (Ev.neg (by omega) ?_)) (fun q => rfl)⟩
    rw [w]
    refine Ev.neg (by omega) ?_
    exact Ev.succ (g := fun _ => some ⟨true, true, []⟩) (Ev.ret' (by simp [flat])) (fun q => rfl)
   | a :: L', hk =>
    rw [zbtz] at hnil
    obtain ⟨z', h⟩ := zbvg z0 (a :: L') hL L'.length 1 (decide (a.l.length = 0)) a.l (by simp; omega) (by
     have : flat (List.drop 1 (a :: L')) = flat L' := rfl
     rw [this, ← y11, hnil]; simp)
    refine ⟨z', Ev.succ (Ev.ne (Ev.neg (by omega) ?_)) (fun q => rfl)⟩
    rw [w]
    refine Ev.ne (Ev.succ (Ev.pos (by simp) (Ev.opt (s := a) rfl (Ev.pos ?_ ?_))) (fun q => rfl))
    ·have : a.l.length ≤ (a.l ++ flat L').length := by simp
     rw [hnil] at this; simp at this; simp [this]
    ·rw [zbsv (by omega) (by omega)]
     refine h.cast ?_
     rw [zbtz]; rfl
 | k + 1, i, m, hk, hm => by
  have hi : i < L.length := by omega
  have hg : L[(i : Int).toNat]? = some L[i] := by simpa using y8 hi
  rw [y10 hi, zbtz, y11] at hm
  obtain ⟨z', h⟩ := zbvh z0 z9 L hL hf k (i + 1) (m + L[i].l.length) (by omega) (by omega)
  refine ⟨z', Ev.succ (Ev.po (Ev.po (Ev.opt hg ?_))) (fun q => rfl)⟩
  have w : wrp .i64 ((m : Int) + (L[i].l.length : Int)) = ((m + L[i].l.length : Nat) : Int) := by rw [zbsv (by omega) (by omega)]; omega
  rw [w, zbsv (by omega) (by omega), show ((i : Int) + 1) = ((i + 1 : Nat) : Int) by omega]
  exact Ev.neg (by omega) h
theorem zbvi (s : Sl (Sl Int)) (hL : s.l.length ≤ 1099511627776) (hf : (flat s.l).length ≤ 4294967296) : ∃ z', Ev (fun q => zki q s) ⟨z', true, flat s.l⟩ := by
 obtain ⟨z', h⟩ := zbvh s.z s.z s.l hL hf s.l.length 0 0 (by omega) (by simp)
 exact ⟨z', Ev.succ h (fun q => rfl)⟩
theorem zbvj (z z2 : Bool) (A B : List Int) (hl : A.length = B.length) (hL : A.length ≤ 1099511627776) : ∀ (k i : Nat), A.length = i + k → Ev (fun q => zkv q z A z2 B (A.length : Int) (i : Int)) (decide (A.drop i = B.drop i))
 | 0, i, hk => by
  refine Ev.succ (Ev.ne (Ev.ret' ?_)) (fun q => rfl)
  rw [y13 (by omega), y13 (by omega)]; simp
 | k + 1, i, hk => by
  have hi : i < A.length := by omega
  have hi2 : i < B.length := by omega
  have hg : A[(i : Int).toNat]? = some A[i] := by simpa using y8 hi
  have hg2 : B[(i : Int).toNat]? = some B[i] := by simpa using y8 hi2
  refine Ev.succ (Ev.po (Ev.po (Ev.opt hg (Ev.opt hg2 ?_)))) (fun q => rfl)
  rw [y10 hi, y10 hi2]
  refine Ev.ite (fun h => ?_) fun h => Ev.ret' (by symm; rw [decide_eq_false_iff_not]; intro e; exact h (List.cons.inj e).1)
  rw [zbsv (by omega) (by omega), show ((i : Int) + 1) = ((i + 1 : Nat) : Int) by omega]
  refine (zbvj z z2 A B hl hL k (i + 1) (by omega)).cast ?_
  rw [decide_eq_decide, List.cons.injEq]; simp only [h, true_and]
theorem zbvk (a b : Sl Int) (hL : a.l.length ≤ 1099511627776) : Ev (fun q => zkw q a b) (decide (a.l = b.l)) := by
 refine Ev.succ (Ev.ite (fun h => ?_) fun h => Ev.ret' ?_) (fun q => rfl)
 ·have := zbvj a.z b.z a.l b.l (by omega) hL a.l.length 0 (by omega)
  rw [y39, y39] at this; exact this
 ·symm; rw [decide_eq_false_iff_not]; intro e; rw [e] at h; exact h rfl
theorem zbvl {ta t : List zjk} {e : zjk} (h : findE e.Proc ta ≠ some e) : newT ta (e :: t) = e :: newT ta t := by simp only [newT]; rw [if_neg h]
theorem zbvm {ta t : List zjk} {e : zjk} (h : findE e.Proc ta = some e) : newT ta (e :: t) = newT ta t := by simp only [newT]; rw [if_pos h]
theorem zbvn (s : Sl Int) (hz : s.z = true → s.l = []) (hl : s.l.length ≤ 4294967296) : ∃ z, Ev (fun q => zj8 q s) ⟨z, true, s.l⟩ := by
 by_cases h : s.z = true
 ·exact ⟨true, Ev.succ (Ev.pos h (Ev.ret' (by rw [hz h]))) (fun q => rfl)⟩
 ·exact ⟨false, Ev.succ (Ev.neg h (Ev.pos hl (Ev.ret _))) (fun q => rfl)⟩
theorem zbvo (z : Bool) (L : List zjk) (x0 x1 : Int) (x2z : Bool) (x2l : List Int) (x3 : Bool) (x4 : Int) (tz : Bool) (ta : List zjk) (d0 d1 d2 d3 : Int) (d5 : Bool) (d6 : Int) (hz : Bool) (hm : List Int) (hx : Bool) (hL : L.length ≤ 1000000) (hT : ta.length ≤ 1000000) : ∀ (k i : Nat) (acc : List zjk), L.length = i + k → acc.length ≤ i →
  Ev (fun q => zkb q z L (L.length : Int) (i : Int) x0 x1 x2z x2l x3 x4 tz ta d0 d1 d2 d3 d5 d6 hz hm hx acc) (⟨d0, d1, d2, d3, ⟨hz, hm⟩, d5, d6, ⟨false, acc ++ newT ta (L.drop i)⟩⟩, 0)
 | 0, i, acc, hk, ha => by
  refine Ev.succ (Ev.ne (Ev.ret' ?_)) (fun q => rfl)
  rw [y13 (by omega)]; simp [newT]
 | k + 1, i, acc, hk, ha => by
  have hi : i < L.length := by omega
  have he : L[((i : Int)).toNat]? = some L[i] := by simp [hi]
  have w1 : wrp .i64 ((i : Int) + 1) = ((i + 1 : Nat) : Int) := by rw [zbsv (by omega) (by omega)]; omega
  obtain ⟨r, hr, hr2⟩ := zbu6 ⟨tz, ta⟩ L[i].Proc hT
  simp only at hr2
  have ihN := zbvo z L x0 x1 x2z x2l x3 x4 tz ta d0 d1 d2 d3 d5 d6 hz hm hx hL hT k (i + 1) (acc ++ [L[i]]) (by omega) (by simp; omega)
  have ihO := zbvo z L x0 x1 x2z x2l x3 x4 tz ta d0 d1 d2 d3 d5 d6 hz hm hx hL hT k (i + 1) acc (by omega) (by omega)
  rw [← w1] at ihN ihO
  rw [y10 hi]
  refine Ev.succ (Ev.po (Ev.po (Ev.opt he (Ev.bind hr ?_)))) (fun q => rfl)
  have new : findE L[i].Proc ta ≠ some L[i] → Ev (fun q => if (acc.length + 1) ≤ 4294967296 then (zkb q z L (L.length : Int) (wrp .i64 ((i : Int) + 1)) x0 x1 x2z x2l x3 x4 tz ta d0 d1 d2 d3 d5 d6 hz hm hx (acc ++ [L[i]])) else none) (⟨d0, d1, d2, d3, ⟨hz, hm⟩, d5, d6, ⟨false, acc ++ newT ta (L[i] :: L.drop (i + 1))⟩⟩, 0) := fun hne => by
   rw [zbvl hne]
   exact Ev.po (Ev.cast ihN (by simp))
  rcases hr2 with ⟨q1, q2⟩ | ⟨q1, e, q2, q3⟩
  ·exact Ev.pos q1 (new (by rw [q2]; exact fun c => by cases c))
  ·refine Ev.ne (Ev.pos q1 (Ev.opt q2 (Ev.ite (fun c1 => Ev.ite (fun c2 => Ev.ite (fun c3 => ?_) fun c3 => ?_) fun c2 => ?_) fun c1 => ?_)))
   ·rw [zbvm (by rw [q3, zbu4 c1 c2 c3])]; exact ihO
   ·exact new (by rw [q3]; intro c; cases c; exact c3 rfl)
   ·exact new (by rw [q3]; intro c; cases c; exact c2 rfl)
   ·exact new (by rw [q3]; intro c; cases c; exact c1 rfl)
theorem zbvp (z : Bool) (L : List zjk) (x0 x1 : Int) (x2z : Bool) (x2l : List Int) (x3 : Bool) (x4 : Int) (tz : Bool) (ta : List zjk) (d0 d1 d2 d3 : Int) (d5 : Bool) (d6 : Int) (hz : Bool) (hm : List Int) (hx : Bool) (hL : L.length ≤ 1000000) (hT : ta.length ≤ 1000000) : ∀ (k i : Nat), L.length = i + k →
  ∃ z', Ev (fun q => zkc q z L (L.length : Int) (i : Int) x0 x1 x2z x2l x3 x4 tz ta d0 d1 d2 d3 d5 d6 hz hm hx) (⟨d0, d1, d2, d3, ⟨hz, hm⟩, d5, d6, ⟨z', newT ta (L.drop i)⟩⟩, 0)
 | 0, i, hk => by
  refine ⟨true, Ev.succ (Ev.ne (Ev.ret' ?_)) (fun q => rfl)⟩
  rw [y13 (by omega)]; simp [newT]
 | k + 1, i, hk => by
  have hi : i < L.length := by omega
  have he : L[((i : Int)).toNat]? = some L[i] := by simp [hi]
  have w1 : wrp .i64 ((i : Int) + 1) = ((i + 1 : Nat) : Int) := by rw [zbsv (by omega) (by omega)]; omega
  obtain ⟨r, hr, hr2⟩ := zbu6 ⟨tz, ta⟩ L[i].Proc hT
  simp only at hr2
  have ihN := zbvo z L x0 x1 x2z x2l x3 x4 tz ta d0 d1 d2 d3 d5 d6 hz hm hx hL hT k (i + 1) [L[i]] (by omega) (by simp)
  obtain ⟨z', ihO⟩ := zbvp z L x0 x1 x2z x2l x3 x4 tz ta d0 d1 d2 d3 d5 d6 hz hm hx hL hT k (i + 1) (by omega)
  rw [← w1] at ihN ihO
  rw [y10 hi]
  have fin : ∀ {r' : zjm × Int} , Ev (fun q => if r < 0 then (zkb q z L (L.length : Int) (wrp .i64 ((i : Int) + 1)) x0 x1 x2z x2l x3 x4 tz ta d0 d1 d2 d3 d5 d6 hz hm hx [L[i]]) else (if 0 ≤ r then ((ta[r.toNat]?).bind fun e9 => (if e9.Proc = L[i].Proc then (if e9.Seq = L[i].Seq then (if e9.Resp = L[i].Resp then (zkc q z L (L.length : Int) (wrp .i64 ((i : Int) + 1)) x0 x1 x2z x2l x3 x4 tz ta d0 d1 d2 d3 d5 d6 hz hm hx) else (zkb q z L (L.length : Int) (wrp .i64 ((i : Int) + 1)) x0 x1 x2z x2l x3 x4 tz ta d0 d1 d2 d3 d5 d6 hz hm hx [L[i]])) else (zkb q z L (L.length : Int) (wrp .i64 ((i : Int) + 1)) x0 x1 x2z x2l x3 x4 tz ta d0 d1 d2 d3 d5 d6 hz hm hx [L[i]])) else (zkb q z L (L.length : Int) (wrp .i64 ((i : Int) + 1)) x0 x1 x2z x2l x3 x4 tz ta d0 d1 d2 d3 d5 d6 hz hm hx [L[i]]))) else none)) r' → Ev (fun q => zkc q z L (L.length : Int) (i : Int) x0 x1 x2z x2l x3 x4 tz ta d0 d1 d2 d3 d5 d6 hz hm hx) r' := fun h => Ev.succ (Ev.po (Ev.po (Ev.opt he (Ev.bind hr h)))) (fun q => rfl)
  rcases hr2 with ⟨q1, q2⟩ | ⟨q1, e, q2, q3⟩
  ·rw [zbvl (by rw [q2]; exact fun c => by cases c)]
   exact ⟨false, fin (Ev.pos q1 ihN)⟩
  ·by_cases c : e = L[i]
   ·rw [zbvm (by rw [q3, c])]
    exact ⟨z', fin (Ev.ne (Ev.pos q1 (Ev.opt q2 (Ev.pos (by rw [c]) (Ev.pos (by rw [c]) (Ev.pos (by rw [c]) ihO))))))⟩
   ·rw [zbvl (by rw [q3]; intro c2; cases c2; exact c rfl)]
    refine ⟨false, fin (Ev.ne (Ev.pos q1 (Ev.opt q2 (Ev.ite (fun c1 => Ev.ite (fun c2 => Ev.ite (fun c3 => absurd (zbu4 c1 c2 c3) c) fun c3 => ihN) fun c2 => ihN) fun c1 => ihN))))⟩
/-- What stays ahead, what stays behind, what stands between. -/
def ahN (x y : List Int) : Nat := com x y
def beN (x y : List Int) : Nat := com (x.drop (com x y)).reverse (y.drop (com x y)).reverse
def midL (x y : List Int) : List Int := (y.drop (com x y)).take ((y.drop (com x y)).length - beN x y)
def noD : zjm := ⟨0, 0, 0, 0, ⟨true, []⟩, false, 0, ⟨true, []⟩⟩
def diffR (a b : zjl) (zm zt : Bool) : zjm × Int :=
 if mayN a = true ∧ mayN b = true ∧ a.State.Kind = b.State.Kind then
  (if lacksB a.Table.l b.Table.l = true ∨ b.Index < a.Index then (noD, 15) else (⟨a.Index, b.Index, ((ahN a.State.L.l b.State.L.l : Nat) : Int), ((beN a.State.L.l b.State.L.l : Nat) : Int), ⟨zm, midL a.State.L.l b.State.L.l⟩, b.State.Sealed, b.State.To, ⟨zt, newT a.Table.l b.Table.l⟩⟩, 0))
 else (noD, 1)
theorem beN_le (x y : List Int) : ahN x y ≤ x.length ∧ ahN x y ≤ y.length ∧ beN x y ≤ x.length - ahN x y ∧ beN x y ≤ y.length - ahN x y := by
 have h1 := com_le x y
 have h2 := com_le (x.drop (com x y)).reverse (y.drop (com x y)).reverse
 simp only [List.length_reverse, y14] at h2
 unfold ahN beN; omega
theorem zbvq (a b : zjl) (h1 : a.State.L.l.length ≤ 1000000) (h2 : a.Table.l.length ≤ 1000000) (h3 : b.State.L.l.length ≤ 1000000) (h4 : b.Table.l.length ≤ 1000000) (hz : b.State.L.z = true → b.State.L.l = []) : ∃ zm zt, Ev (fun q => zkd q a b) (diffR a b zm zt) := by
 unfold diffR
 by_cases c1 : mayN a = true
 ·by_cases c2 : mayN b = true
  ·by_cases c3 : a.State.Kind = b.State.Kind
   ·simp only [if_pos (show mayN a = true ∧ mayN b = true ∧ a.State.Kind = b.State.Kind from ⟨c1, c2, c3⟩)]
    by_cases c4 : b.Index < a.Index
    ·refine ⟨true, true, Ev.succ (Ev.bind (zbu3 a h1 h2) (Ev.pos c1 (Ev.bind (zbu3 b h3 h4) (Ev.pos c2 (Ev.pos c3 (Ev.pos c4 (Ev.ret' ?_))))))) (fun q => rfl)⟩
     rw [if_pos (.inr c4)]; rfl
    ·obtain ⟨r, hr, hr2⟩ := zbve a.Table.z a.Table.l a.Index a.State.Kind a.State.L.z a.State.L.l a.State.Sealed a.State.To a.Table.z a.Table.l b.Index b.State.Kind b.State.L.z b.State.L.l b.State.Sealed b.State.To b.Table.z b.Table.l h2 h4 a.Table.l.length 0 (by omega)
     rw [y39] at hr2
     have hr' : Ev (fun q => zka q a.Table.z a.Table.l a.Index a.State.Kind a.State.L.z a.State.L.l a.State.Sealed a.State.To a.Table.z a.Table.l b.Index b.State.Kind b.State.L.z b.State.L.l b.State.Sealed b.State.To b.Table.z b.Table.l) r := Ev.succ hr (fun q => rfl)
     by_cases c5 : lacksB a.Table.l b.Table.l = true
     ·refine ⟨true, true, Ev.succ (Ev.bind (zbu3 a h1 h2) (Ev.pos c1 (Ev.bind (zbu3 b h3 h4) (Ev.pos c2 (Ev.pos c3 (Ev.neg c4 (Ev.bind hr' (Ev.pos (hr2.2 c5) (Ev.ret' ?_))))))))) (fun q => rfl)⟩
      rw [if_pos (.inl c5)]; rfl
     ·simp only [if_neg (show ¬ (lacksB a.Table.l b.Table.l = true ∨ b.Index < a.Index) from fun e => e.elim c5 c4)]
      obtain ⟨q1, q2, q3, q4⟩ := beN_le a.State.L.l b.State.L.l
      have hA := zbva a.State.L b.State.L h1
      have hB := zbvd ⟨a.State.L.z, a.State.L.l.drop (com a.State.L.l b.State.L.l)⟩ ⟨b.State.L.z, b.State.L.l.drop (com a.State.L.l b.State.L.l)⟩ (by simp only [y14]; omega) (by simp only [y14]; omega)
      unfold ahN at q1 q2 q3 q4
      have w : wrp .i64 (((b.State.L.l.length - com a.State.L.l b.State.L.l : Nat) : Int) - (((beN a.State.L.l b.State.L.l : Nat) : Int))) = ((b.State.L.l.length - com a.State.L.l b.State.L.l - beN a.State.L.l b.State.L.l : Nat) : Int) := by rw [zbsv (by omega) (by omega)]; omega
      obtain ⟨zm, hC⟩ := zbvn ⟨b.State.L.z, (b.State.L.l.drop (com a.State.L.l b.State.L.l)).take (b.State.L.l.length - com a.State.L.l b.State.L.l - beN a.State.L.l b.State.L.l)⟩ (fun h => by simp only at h ⊢; rw [hz h]; simp) (by simp only [y21, y14]; omega)
      obtain ⟨zt, hD⟩ := zbvp b.Table.z b.Table.l a.Index a.State.Kind a.State.L.z a.State.L.l a.State.Sealed a.State.To a.Table.z a.Table.l a.Index b.Index ((ahN a.State.L.l b.State.L.l : Nat) : Int) ((beN a.State.L.l b.State.L.l : Nat) : Int) b.State.Sealed b.State.To zm ((b.State.L.l.drop (com a.State.L.l b.State.L.l)).take (b.State.L.l.length - com a.State.L.l b.State.L.l - beN a.State.L.l b.State.L.l)) true h4 h2 b.Table.l.length 0 (by omega)
      rw [y39] at hD
      refine ⟨zm, zt, Ev.succ (Ev.bind (zbu3 a h1 h2) (Ev.pos c1 (Ev.bind (zbu3 b h3 h4) (Ev.pos c2 (Ev.pos c3 (Ev.neg c4 (Ev.bind hr' (Ev.neg (fun e => c5 (hr2.1 e)) (Ev.bind hA (Ev.po (Ev.po (Ev.pos (by omega) ?_)))))))))))) (fun q => rfl)⟩
      simp only [y29]
      refine Ev.bind hB ?_
      show Ev (fun q => if 0 ≤ (wrp .i64 (((b.State.L.l.length - com a.State.L.l b.State.L.l : Nat) : Int) - (((beN a.State.L.l b.State.L.l : Nat) : Int)))) then (if (wrp .i64 (((b.State.L.l.length - com a.State.L.l b.State.L.l : Nat) : Int) - (((beN a.State.L.l b.State.L.l : Nat) : Int)))).toNat ≤ (b.State.L.l.length - com a.State.L.l b.State.L.l) then ((zj8 q ⟨b.State.L.z, (List.take ((wrp .i64 (((b.State.L.l.length - com a.State.L.l b.State.L.l : Nat) : Int) - (((beN a.State.L.l b.State.L.l : Nat) : Int)))).toNat) (List.drop (com a.State.L.l b.State.L.l) b.State.L.l))⟩).bind fun r6 => (zkc q b.Table.z b.Table.l (b.Table.l.length : Int) 0 a.Index a.State.Kind a.State.L.z a.State.L.l a.State.Sealed a.State.To a.Table.z a.Table.l a.Index b.Index ((com a.State.L.l b.State.L.l : Nat) : Int) ((beN a.State.L.l b.State.L.l : Nat) : Int) b.State.Sealed b.State.To r6.n r6.xs r6.x)) else none) else none) _
      rw [w]
      simp only [y29]
      refine Ev.po (Ev.po (Ev.bind hC (Ev.cast hD ?_)))
      unfold midL
      rw [y14]
   ·refine ⟨true, true, Ev.succ (Ev.bind (zbu3 a h1 h2) (Ev.pos c1 (Ev.bind (zbu3 b h3 h4) (Ev.pos c2 (Ev.neg c3 (Ev.ret' ?_)))))) (fun q => rfl)⟩
    rw [if_neg (fun e => c3 e.2.2)]; rfl
  ·refine ⟨true, true, Ev.succ (Ev.bind (zbu3 a h1 h2) (Ev.pos c1 (Ev.bind (zbu3 b h3 h4) (Ev.neg c2 (Ev.ret' ?_))))) (fun q => rfl)⟩
   rw [if_neg (fun e => c2 e.2.1)]; rfl
 ·refine ⟨true, true, Ev.succ (Ev.bind (zbu3 a h1 h2) (Ev.neg c1 (Ev.ret' ?_))) (fun q => rfl)⟩
  rw [if_neg (fun e => c1 e.1)]; rfl
theorem mayA : mayN ⟨0, ⟨3, ⟨false, [1, 2]⟩, false, 0⟩, ⟨true, []⟩⟩ = true := by
 simp [mayN, mayS, kindOk, tabB, cutsB, cutI]
theorem mayB : ∀ z z2, mayN ⟨1, ⟨3, ⟨z, [1, 2, 9]⟩, false, 0⟩, ⟨z2, []⟩⟩ = true := by
 intro z z2; simp [mayN, mayS, kindOk, tabB, cutsB, cutI]
theorem zbvr : Ev (fun q => zk1 q) true := by
 obtain ⟨zm, zt, hD⟩ := zbvq ⟨0, ⟨3, ⟨false, [1, 2]⟩, false, 0⟩, ⟨true, []⟩⟩ ⟨1, ⟨3, ⟨false, [1, 2, 9]⟩, false, 0⟩, ⟨true, []⟩⟩ (by simp) (by simp) (by simp) (by simp) (fun h => by cases h)
 have hR : diffR ⟨0, ⟨3, ⟨false, [1, 2]⟩, false, 0⟩, ⟨true, []⟩⟩ ⟨1, ⟨3, ⟨false, [1, 2, 9]⟩, false, 0⟩, ⟨true, []⟩⟩ zm zt = (⟨0, 1, 2, 0, ⟨zm, [9]⟩, false, 0, ⟨zt, []⟩⟩, 0) := by
  unfold diffR
  rw [if_pos ⟨mayA, mayB _ _, rfl⟩, if_neg (by simp [lacksB])]
  simp [ahN, beN, midL, com, newT]
 rw [hR] at hD
 obtain ⟨zc, hC⟩ := zbvi ⟨false, [⟨false, [1, 2]⟩, ⟨zm, [9]⟩, ⟨false, []⟩]⟩ (by simp) (by simp [flat])
 have hM := zbu3 ⟨1, ⟨3, ⟨zc, [1, 2, 9]⟩, false, 0⟩, ⟨true, []⟩⟩ (by simp) (by simp)
 rw [mayB] at hM
 have w1 : wrp .i64 (2 - 2) = 0 := by rw [zbsv (by omega) (by omega)]; rfl
 have w2 : wrp .i64 (2 - 0) = 2 := by rw [zbsv (by omega) (by omega)]; rfl
 have hA : Ev (fun q => zku q ⟨0, ⟨3, ⟨false, [1, 2]⟩, false, 0⟩, ⟨true, []⟩⟩ ⟨0, 1, 2, 0, ⟨zm, [9]⟩, false, 0, ⟨zt, []⟩⟩) (⟨1, ⟨3, ⟨zc, [1, 2, 9]⟩, false, 0⟩, ⟨true, []⟩⟩, 0) := by
  have h1 := zbu3 ⟨0, ⟨3, ⟨false, [1, 2]⟩, false, 0⟩, ⟨true, []⟩⟩ (by simp) (by simp)
  rw [mayA] at h1
  refine Ev.succ (g := fun q => (zj0 q ⟨0, ⟨3, ⟨false, [1, 2]⟩, false, 0⟩, ⟨true, []⟩⟩).bind fun r1 => if r1 = true then (if (wrp .i64 (2 - 2)) < 0 then some (⟨0, ⟨0, ⟨true, []⟩, false, 0⟩, ⟨true, []⟩⟩, 1) else if 0 ≤ (wrp .i64 (2 - 0)) then (if (wrp .i64 (2 - 0)) ≤ 2 then ((zki q ⟨false, [⟨false, [1, 2]⟩, ⟨zm, [9]⟩, ⟨false, List.drop ((wrp .i64 (2 - 0)).toNat) [1, 2]⟩]⟩).bind fun r2 => zkt q zt [] 0 1 3 false 0 true [] r2.n r2.xs r2.x) else none) else none) else some (⟨0, ⟨0, ⟨true, []⟩, false, 0⟩, ⟨true, []⟩⟩, 1)) ?_ (fun q => rfl)
  refine Ev.bind h1 (Ev.pos rfl ?_)
  rw [w1, w2]
  refine Ev.ne (Ev.po (Ev.po (Ev.bind hC ?_)))
  refine Ev.succ (g := fun q => (zj0 q ⟨1, ⟨3, ⟨zc, [1, 2, 9]⟩, false, 0⟩, ⟨true, []⟩⟩).bind fun r5 => if r5 = true then some (⟨1, ⟨3, ⟨zc, [1, 2, 9]⟩, false, 0⟩, ⟨true, []⟩⟩, 0) else some (⟨0, ⟨0, ⟨true, []⟩, false, 0⟩, ⟨true, []⟩⟩, 1)) ?_ (fun q => rfl)
  exact Ev.bind hM (Ev.pos rfl (Ev.ret _))
 have hE := zbvk ⟨false, [1, 2, 9]⟩ ⟨zc, [1, 2, 9]⟩ (by simp)
 have hObj : Ev (fun q => zkx q ⟨3, ⟨false, [1, 2, 9]⟩, false, 0⟩ ⟨3, ⟨zc, [1, 2, 9]⟩, false, 0⟩) true := Ev.succ (g := fun q => (zkw q ⟨false, [1, 2, 9]⟩ ⟨zc, [1, 2, 9]⟩).bind fun r1 => some r1) (Ev.bind hE (Ev.ret' (by simp))) (fun q => rfl)
 have hEnt : Ev (fun q => zkz q ⟨true, []⟩ ⟨true, []⟩) true := Ev.succ (g := fun q => zky q true [] true [] 0 0) (Ev.succ (g := fun _ => some true) (Ev.ret _) (fun q => rfl)) (fun q => rfl)
 have hS : Ev (fun q => zk0 q ⟨1, ⟨3, ⟨false, [1, 2, 9]⟩, false, 0⟩, ⟨true, []⟩⟩ ⟨1, ⟨3, ⟨zc, [1, 2, 9]⟩, false, 0⟩, ⟨true, []⟩⟩) true :=
  Ev.succ (g := fun q => (zkx q ⟨3, ⟨false, [1, 2, 9]⟩, false, 0⟩ ⟨3, ⟨zc, [1, 2, 9]⟩, false, 0⟩).bind fun r1 => if r1 = true then ((zkz q ⟨true, []⟩ ⟨true, []⟩).bind fun r2 => some r2) else some false) (Ev.bind hObj (Ev.pos rfl (Ev.bind hEnt (Ev.ret _)))) (fun q => rfl)
 refine Ev.succ (Ev.bind hD (Ev.bind hA ?_)) (fun q => rfl)
 exact Ev.pos rfl (Ev.pos rfl (Ev.pos rfl (Ev.pos rfl (Ev.pos rfl (Ev.opt rfl (Ev.pos rfl (Ev.bind hS (Ev.ret _))))))))
theorem zbvs {e : zjk} (h : entOk e = true) : 0 ≤ e.Proc ∧ e.Proc ≤ 64 ∧ 0 ≤ e.Seq ∧ e.Seq < 4611686018427387904 ∧ -1125899906842624 ≤ e.Resp ∧ e.Resp ≤ 1125899906842624 := by
 simpa only [entOk, y7, decide_eq_true_eq] using h
theorem zbvt : ∀ {t : List zjk} {last : Int}, tabB last t = true → ∀ e ∈ t, entOk e = true
 | [], last, h, e, he => by cases he
 | a :: t, last, h, e, he => by
  simp only [tabB, y7] at h
  rcases List.mem_cons.1 he with r | r
  ·rw [r]; exact h.1
  ·exact zbvt h.2.2 e r
/-- A table has at most 65 entries. -/
theorem zbvu : ∀ {t : List zjk} {last : Int}, tabB last t = true → -1 ≤ last → (t.length : Int) + last ≤ 64 ∨ t = []
 | [], last, h, h1 => .inr rfl
 | a :: t, last, h, h1 => by
  simp only [tabB, y7, decide_eq_true_eq] at h
  have ha := zbvs h.1
  rcases zbvu h.2.2 (by omega) with e | e
  ·left; rw [y22]; omega
  ·left; rw [e]; simp only [y22, y26]; omega
def numsB (l : List Int) : List Int := l.flatMap putS
theorem zbvv (x : Int) (l : List Int) : numsB (x :: l) = putS x ++ numsB l := by simp [numsB]
def inT (l : List Int) : Prop := ∀ x ∈ l, -1099511627776 ≤ x ∧ x ≤ 1099511627776
theorem inT_R {l : List Int} (h : inT l) {x : Int} (hx : x ∈ l) : inR .i64 x := by have := h x hx; exact zbtc (by omega) (by omega)
theorem zbvw (n : Int) : isB (putS n) := zbt4 _
def entB (e : zjk) : List Int := put e.Proc ++ (put e.Seq ++ putS e.Resp)
def tabE (l : List zjk) : List Int := l.flatMap entB
theorem zbvx (e : zjk) (l : List zjk) : tabE (e :: l) = entB e ++ tabE l := by simp [tabE]
def entsOk (l : List zjk) : Prop := ∀ e ∈ l, entOk e = true
theorem zbvy {e : zjk} (h : entOk e = true) : inR .i64 e.Resp := by have := zbvs h; exact zbtc (by omega) (by omega)
theorem zbvz {e : zjk} (h : entOk e = true) : (entB e).length ≤ 30 := by
 have h1 := zbs4 e.Proc; have h2 := zbs4 e.Seq; have h3 := zbtb (zbvy h)
 simp only [entB, y11]; omega
theorem zbv0 {e : zjk} : isB (entB e) := zbt6.2 ⟨zbt5 _, zbt6.2 ⟨zbt5 _, zbvw _⟩⟩
theorem zbv1 (l : List Int) : (encF l).length = (put (l.length : Int)).length + l.length + 4 := by
 simp only [encF, fix4, y11, y22, y26]; omega
theorem zbv2 (n : Int) : 1 ≤ (putS n).length := zbs1 _
theorem zbv3 {l : List Int} (hb : isB l) (h : (getN l).2 ≠ 0) : l.take (getN l).2.toNat = put (getN l).1 := by
 unfold getN at h ⊢
 cases e : rd 0 l with
 | none => simp [e] at h
 | some p =>
  simp only [e] at h ⊢
  split
  ·rename_i h2; rw [if_pos h2] at h; simp at h
  ·rename_i h2
   have := (rd_inv hb (show rd 0 l = some (p.1, p.2) from e)).1
   simp only [y29]
   rw [this, put_ok (by omega) (by omega), y29]
theorem zbv4 {l : List Int} (hb : isB l) (h : (getS l).2 ≠ 0) : l.take (getS l).2.toNat = putS (getS l).1 := by
 unfold getS at h ⊢
 cases e : rd 0 l with
 | none => simp [e] at h
 | some p =>
  have := (rd_inv hb (show rd 0 l = some (p.1, p.2) from e)).1
  simp only [y29]
  rw [this, putS, zbuo]
theorem zbv5 {l : List Int} (hb : isB l) (h : 0 < (getN l).2) : l = put (getN l).1 ++ l.drop (getN l).2.toNat := by
 rw [← zbv3 hb (by omega), List.take_append_drop]
theorem zbv6 {l : List Int} (hb : isB l) (h : 0 < (getS l).2) : l = putS (getS l).1 ++ l.drop (getS l).2.toNat := by
 rw [← zbv4 hb (by omega), List.take_append_drop]
theorem zbv7 (z : Bool) {l : List Int} (hb : isB l) : Ev (fun q => zk8 q ⟨z, l⟩) (getN l) := zbub ⟨z, l⟩ hb
theorem zbv8 (z : Bool) {l : List Int} (hb : isB l) : Ev (fun q => zlo q ⟨z, l⟩) (getS l) := zbur ⟨z, l⟩ hb
def idxOk (n : Int) : Bool := decide (0 ≤ n) && decide (n < 4611686018427387904)
theorem zbv9 {n : Int} (h : idxOk n = true) : 0 ≤ n ∧ n < 4611686018427387904 := by simpa only [idxOk, y7, decide_eq_true_eq] using h
theorem zbwa (n : Int) : Ev (fun q => zmr q n) (!(idxOk n)) := by
 unfold idxOk
 refine Ev.succ (Ev.ite (fun c => Ev.ret' ?_) fun c => Ev.ret' ?_) (fun q => rfl)
 ·rw [decide_eq_false (show ¬ 0 ≤ n by omega)]; rfl
 ·rw [decide_eq_true (show 0 ≤ n by omega)]
  by_cases h : n < 4611686018427387904
  ·rw [decide_eq_true h, decide_eq_false (by omega)]; rfl
  ·rw [decide_eq_false h, decide_eq_true (by omega)]; rfl
theorem zbwb (z : Bool) (L : List Int) (hL : L.length ≤ 1000000) : ∀ (k i : Nat), L.length = i + k →
  ∃ r, Ev (fun q => zms q z L (L.length : Int) (i : Int)) r ∧ ((L.drop i).all idxOk = !(decide (0 ≤ r)))
 | 0, i, hk => by
  refine ⟨-1, Ev.succ (Ev.ne (Ev.ret _)) (fun q => rfl), ?_⟩
  rw [y13 (by omega)]; rfl
 | k + 1, i, hk => by
  have hi : i < L.length := by omega
  have he : L[((i : Int)).toNat]? = some L[i] := by simp [hi]
  rw [y10 hi, List.all_cons]
  by_cases h : idxOk L[i] = true
  ·obtain ⟨r, hr, h2⟩ := zbwb z L hL k (i + 1) (by omega)
   rw [show ((i + 1 : Nat) : Int) = wrp .i64 ((i : Int) + 1) by rw [zbsv (by omega) (by omega)]; omega] at hr
   refine ⟨r, Ev.succ (Ev.po (Ev.po (Ev.opt he (Ev.bind (zbwa _) (Ev.neg (by rw [h]; simp) hr))))) (fun q => rfl), ?_⟩
   rw [h, h2]; rfl
  ·refine ⟨i, Ev.succ (Ev.po (Ev.po (Ev.opt he (Ev.bind (zbwa _) (Ev.pos (by simp only [Bool.not_eq_true] at h; rw [h]; rfl) (Ev.ret _)))))) (fun q => rfl), ?_⟩
   simp only [Bool.not_eq_true] at h
   rw [h, decide_eq_true (by omega)]; rfl
theorem zbwc (s : Sl Int) (hL : s.l.length ≤ 1000000) : Ev (fun q => zmu q s) (s.l.all idxOk) := by
 obtain ⟨r, h1, h2⟩ := zbwb s.z s.l hL s.l.length 0 (by omega)
 rw [y39] at h2
 rw [h2]
 exact Ev.succ (Ev.bind (Ev.succ h1 (fun q => rfl)) (Ev.ret _)) (fun q => rfl)
def midOk (n : Int) : Bool := decide (-1099511627776 ≤ n) && decide (n ≤ 1099511627776)
theorem zbwd {l : List Int} (h : l.all midOk = true) : inT l := fun x hx => by
 have := List.all_eq_true.1 h x hx
 simpa only [midOk, y7, decide_eq_true_eq] using this
theorem zbwe (n : Int) : Ev (fun q => zmv q n) (!(midOk n)) := by
 unfold midOk
 refine Ev.succ (Ev.ite (fun c => Ev.ret' ?_) fun c => Ev.ret' ?_) (fun q => rfl)
 ·rw [decide_eq_false (show ¬ -1099511627776 ≤ n by omega)]; rfl
 ·rw [decide_eq_true (show -1099511627776 ≤ n by omega)]
  by_cases h : n ≤ 1099511627776
  ·rw [decide_eq_true h, decide_eq_false (by omega)]; rfl
  ·rw [decide_eq_false h, decide_eq_true (by omega)]; rfl
theorem zbwf (z : Bool) (L : List Int) (h0 h1 h2 h3 : Int) (h4z : Bool) (h4l : List Int) (h5 : Bool) (h6 : Int) (h7z : Bool) (h7l : List zjk) (h1l : List Int) (hL : L.length ≤ 1000000) : ∀ (k i : Nat), L.length = i + k →
  ∃ r, Ev (fun q => zmy q z L (L.length : Int) (i : Int) h0 h1 h2 h3 h4z h4l h5 h6 h7z h7l h1l) r ∧ ((L.drop i).all midOk = !(decide (0 ≤ r)))
 | 0, i, hk => by
  refine ⟨-1, Ev.succ (Ev.ne (Ev.ret _)) (fun q => rfl), ?_⟩
  rw [y13 (by omega)]; rfl
 | k + 1, i, hk => by
  have hi : i < L.length := by omega
  have he : L[((i : Int)).toNat]? = some L[i] := by simp [hi]
  rw [y10 hi, List.all_cons]
  by_cases h : midOk L[i] = true
  ·obtain ⟨r, hr, hr2⟩ := zbwf z L h0 h1 h2 h3 h4z h4l h5 h6 h7z h7l h1l hL k (i + 1) (by omega)
   rw [show ((i + 1 : Nat) : Int) = wrp .i64 ((i : Int) + 1) by rw [zbsv (by omega) (by omega)]; omega] at hr
   refine ⟨r, Ev.succ (Ev.po (Ev.po (Ev.opt he (Ev.bind (zbwe _) (Ev.neg (by rw [h]; simp) hr))))) (fun q => rfl), ?_⟩
   rw [h, hr2]; rfl
  ·refine ⟨i, Ev.succ (Ev.po (Ev.po (Ev.opt he (Ev.bind (zbwe _) (Ev.pos (by simp only [Bool.not_eq_true] at h; rw [h]; rfl) (Ev.ret _)))))) (fun q => rfl), ?_⟩
   simp only [Bool.not_eq_true] at h
   rw [h, decide_eq_true (by omega)]; rfl
theorem zbwg (z z2 : Bool) (L : List zjk) (hL : L.length ≤ 1000000) : ∀ (k i : Nat) (last : Int), L.length = i + k → (∀ e, 0 < i → L[i - 1]? = some e → e.Proc = last) → (i = 0 → last = -1) →
  Ev (fun q => zmw q z L z2 L (L.length : Int) (i : Int)) (tabB last (L.drop i))
 | 0, i, last, hk, h1, h0 => by
  refine Ev.succ (Ev.ne (Ev.ret' ?_)) (fun q => rfl)
  rw [y13 (by omega)]; rfl
 | k + 1, i, last, hk, h1, h0 => by
  have hi : i < L.length := by omega
  have he : L[((i : Int)).toNat]? = some L[i] := by simp [hi]
  rw [y10 hi]
  simp only [tabB]
  have w1 : wrp .i64 ((i : Int) + 1) = ((i + 1 : Nat) : Int) := by rw [zbsv (by omega) (by omega)]; omega
  have ih := zbwg z z2 L hL k (i + 1) L[i].Proc (by omega) (fun e _ hx => by
   rw [Nat.add_sub_cancel, y8 hi] at hx
   simp only [y5] at hx; rw [hx]) (by omega)
  have hx := zbwc ⟨false, [L[i].Proc, L[i].Seq]⟩ (by simp)
  have hxe : ([L[i].Proc, L[i].Seq].all idxOk = true) ↔ (0 ≤ L[i].Proc ∧ L[i].Proc < 4611686018427387904 ∧ 0 ≤ L[i].Seq ∧ L[i].Seq < 4611686018427387904) := by
   simp only [List.all_cons, List.all_nil, idxOk, y7, decide_eq_true_eq, and_true, and_assoc]
  have eok : entOk L[i] = true ↔ (0 ≤ L[i].Proc ∧ L[i].Proc ≤ 64 ∧ 0 ≤ L[i].Seq ∧ L[i].Seq < 4611686018427387904 ∧ -1125899906842624 ≤ L[i].Resp ∧ L[i].Resp ≤ 1125899906842624) := ⟨zbvs, fun h => by simpa only [entOk, y7, decide_eq_true_eq] using h⟩
  have no : ¬ entOk L[i] = true → false = (entOk L[i] && (decide (last < L[i].Proc) && tabB L[i].Proc (L.drop (i + 1)))) := fun h => by
   simp only [Bool.not_eq_true] at h; rw [h]; rfl
  refine Ev.succ (Ev.po (Ev.po (Ev.opt he (Ev.bind hx (Ev.ite (fun c1 => Ev.ite (fun c2 => Ev.ret' ?_) fun c2 => Ev.ite (fun c3 => Ev.ret' ?_) fun c3 => Ev.ite (fun c4 => Ev.ret' ?_) fun c4 => Ev.ite (fun c5 => ?_) fun c5 => ?_) fun c1 => Ev.ret' ?_))))) (fun q => rfl)
  ·exact no (fun h => by have := eok.1 h; omega)
  ·exact no (fun h => by have := eok.1 h; omega)
  ·exact no (fun h => by have := eok.1 h; omega)
  ·have c := hxe.1 c1
   have hk1 : entOk L[i] = true := eok.2 (by omega)
   have w3 : wrp .i64 ((i : Int) - 1) = ((i - 1 : Nat) : Int) := by rw [zbsv (by omega) (by omega)]; omega
   have he3 : L[(wrp .i64 ((i : Int) - 1)).toNat]? = some L[i - 1] := by rw [w3, y29]; exact y8 (by omega)
   have hq := h1 L[i - 1] (by omega) (y8 (by omega))
   refine Ev.pos (by rw [w3]; omega) (Ev.opt he3 (Ev.ite (fun c6 => Ev.ret' ?_) fun c6 => ?_))
   ·rw [hk1, decide_eq_false (show ¬ last < L[i].Proc by omega)]; rfl
   ·rw [hk1, decide_eq_true (show last < L[i].Proc by omega), w1]; simpa using ih
  ·have c := hxe.1 c1
   have hk1 : entOk L[i] = true := eok.2 (by omega)
   have := h0 (by omega)
   rw [hk1, decide_eq_true (show last < L[i].Proc by omega), w1]; simpa using ih
  ·exact no (fun h => c1 (hxe.2 (by have := eok.1 h; omega)))
theorem zbwh (s : Sl zjk) (hL : s.l.length ≤ 1000000) : Ev (fun q => zmx q s) (tabB (-1) s.l) :=
 Ev.succ (zbwg s.z s.z s.l hL s.l.length 0 (-1) (by omega) (fun e h => by omega) (fun _ => rfl)) (fun q => rfl)
def mayL (d : zjm) : Bool := [d.From, d.To, d.Ahead, d.Behind].all idxOk && (decide (d.Mid.l.length ≤ 128) && (d.Mid.l.all midOk && (decide (0 ≤ d.Engine) && (decide (d.Engine < 3) && ((d.Sealed || decide (d.Engine = 0)) && tabB (-1) d.Table.l)))))
theorem zbwi (d : zjm) (h1 : d.Mid.l.length ≤ 1000000) (h2 : d.Table.l.length ≤ 1000000) : Ev (fun q => zm0 q d) (mayL d) := by
 have hx := zbwc ⟨false, [d.From, d.To, d.Ahead, d.Behind]⟩ (by simp)
 obtain ⟨r, hr, hr2⟩ := zbwf d.Mid.z d.Mid.l d.From d.To d.Ahead d.Behind d.Mid.z d.Mid.l d.Sealed d.Engine d.Table.z d.Table.l [d.From, d.To, d.Ahead, d.Behind] h1 d.Mid.l.length 0 (by omega)
 rw [y39] at hr2
 have hr : Ev (fun q => zmz q d.Mid.z d.Mid.l d.From d.To d.Ahead d.Behind d.Mid.z d.Mid.l d.Sealed d.Engine d.Table.z d.Table.l [d.From, d.To, d.Ahead, d.Behind]) r := Ev.succ hr (fun q => rfl)
 unfold mayL
 rw [hr2]
 refine Ev.succ (Ev.bind hx (Ev.ite (fun c1 => Ev.ite (fun c2 => Ev.bind hr (Ev.ite (fun c3 => Ev.ret' ?_) fun c3 => Ev.ite (fun c4 => Ev.ite (fun c5 => Ev.ite (fun c6 => Ev.bind (zbwh _ h2) (Ev.ret' ?_)) fun c6 => Ev.ite (fun c7 => Ev.bind (zbwh _ h2) (Ev.ret' ?_)) fun c7 => Ev.ret' ?_) fun c5 => Ev.ret' ?_) fun c4 => Ev.ret' ?_)) fun c2 => Ev.ret' ?_) fun c1 => Ev.ret' ?_)) (fun q => rfl)
 ·rw [decide_eq_true c3]; simp
 ·simp only at c1; rw [c1, decide_eq_true (show d.Mid.l.length ≤ 128 by omega), decide_eq_false c3, decide_eq_true c4, decide_eq_true c5, c6]; simp
 ·simp only at c1; rw [c1, decide_eq_true (show d.Mid.l.length ≤ 128 by omega), decide_eq_false c3, decide_eq_true c4, decide_eq_true c5, decide_eq_true c7]; simp
 ·simp only [Bool.not_eq_true] at c6; rw [c6, decide_eq_false c7]; simp
 ·rw [decide_eq_false c5]; simp
 ·rw [decide_eq_false c4]; simp
 ·rw [decide_eq_false (show ¬ d.Mid.l.length ≤ 128 by omega)]; simp
 ·simp only [Bool.not_eq_true] at c1; rw [c1]; rfl
theorem zbwj {d : zjm} (h : mayL d = true) : (0 ≤ d.From ∧ d.From < 4611686018427387904) ∧ (0 ≤ d.To ∧ d.To < 4611686018427387904) ∧ (0 ≤ d.Ahead ∧ d.Ahead < 4611686018427387904) ∧ (0 ≤ d.Behind ∧ d.Behind < 4611686018427387904) ∧ d.Mid.l.length ≤ 128 ∧ inT d.Mid.l ∧ 0 ≤ d.Engine ∧ d.Engine < 3 ∧ (d.Sealed = true ∨ d.Engine = 0) ∧ tabB (-1) d.Table.l = true := by
 simp only [mayL, List.all_cons, List.all_nil, Bool.and_true, y7, decide_eq_true_eq, y42] at h
 obtain ⟨⟨a, b, c, d1⟩, e, f, g, i, j, k⟩ := h
 exact ⟨zbv9 a, zbv9 b, zbv9 c, zbv9 d1, e, zbwd f, g, i, j, k⟩
def putsB (l : List Int) : List Int := l.flatMap put
theorem zbwk (x : Int) (l : List Int) : putsB (x :: l) = put x ++ putsB l := by simp [putsB]
theorem zbwl : ∀ l : List Int, (putsB l).length ≤ 10 * l.length
 | [] => by simp [putsB]
 | x :: l => by have := zbwl l; have := zbs4 x; rw [zbwk, y11, y22]; omega
theorem zbwm : ∀ {l : List Int}, isB (putsB l)
 | [] => fun c hc => by simp [putsB] at hc
 | x :: l => by rw [zbwk]; exact zbt6.2 ⟨zbt5 _, zbwm⟩
theorem zbwn (z : Bool) (L : List Int) (hL : L.length ≤ 100) (ho : L.all idxOk = true) : ∀ (k i : Nat) (l : List Int) (x : Bool), L.length = i + k → l.length ≤ 1000000 + 10 * i →
  Ev (fun q => zm5 q z L (L.length : Int) (i : Int) false l x) ⟨false, x, l ++ putsB (L.drop i)⟩
 | 0, i, l, x, hk, hl => by
  refine Ev.succ (Ev.ne (Ev.ret' ?_)) (fun q => rfl)
  rw [y13 (by omega)]; simp [putsB]
 | k + 1, i, l, x, hk, hl => by
  have hi : i < L.length := by omega
  have he : L[((i : Int)).toNat]? = some L[i] := by simp [hi]
  have hr := zbv9 (List.all_eq_true.1 ho L[i] (y27 hi))
  have hp := zbs4 L[i]
  have ih := zbwn z L hL ho k (i + 1) (l ++ put L[i]) x (by omega) (by rw [y11]; omega)
  rw [show ((i + 1 : Nat) : Int) = wrp .i64 ((i : Int) + 1) by rw [zbsv (by omega) (by omega)]; omega] at ih
  refine Ev.succ (Ev.po (Ev.po (Ev.opt he (Ev.bind (zbs5 ⟨false, x, l⟩ hr.1 hr.2 (by simp only; omega)) (Ev.cast ih ?_))))) (fun q => rfl)
  rw [y10 hi, zbwk, y34]
theorem zbwo (b : Ow Int) (s : Sl Int) (h0 : s.l.length ≠ 0) (hL : s.l.length ≤ 100) (ho : s.l.all idxOk = true) (hl : b.xs.length ≤ 1000000) : Ev (fun q => zm7 q b s) ⟨false, b.x, b.xs ++ putsB s.l⟩ := by
 obtain ⟨a, ha⟩ : ∃ a, s.l[0]? = some a := ⟨s.l[0]'(by omega), y8 (by omega)⟩
 have hm : a ∈ s.l := y56 ha
 have hr := zbv9 (List.all_eq_true.1 ho a hm)
 have hp := zbs4 a
 have ih := zbwn s.z s.l hL ho (s.l.length - 1) 1 (b.xs ++ put a) b.x (by omega) (by rw [y11]; omega)
 rw [show ((1 : Nat) : Int) = wrp .i64 1 by rw [zbsv (by omega) (by omega)]; rfl] at ih
 have h0 : Ev (fun q => zm6 q s.z s.l (s.l.length : Int) b.n b.xs b.x) ⟨false, b.x, b.xs ++ putsB s.l⟩ := by
  refine Ev.succ (Ev.po (Ev.opt ha (Ev.bind (zbs5 ⟨b.n, b.x, b.xs⟩ hr.1 hr.2 (by simp only; omega)) (Ev.cast ih ?_)))) (fun q => rfl)
  have : s.l = a :: s.l.drop 1 := by
   cases hs : s.l with
   | nil => rw [hs] at ha; cases ha
   | cons c t => rw [hs] at ha; simp only [y38, y5] at ha; rw [ha]; rfl
  rw [show putsB s.l = put a ++ putsB (s.l.drop 1) by rw [← zbwk, ← this], y34]
 exact Ev.succ h0 (fun q => rfl)
def sealL (d : zjm) : Int := if d.Sealed = true then 1 + d.Engine else 0
/-- The data of a delta's frame. -/
def delD (d : zjm) : List Int := ((putsB [d.From, d.To, d.Ahead, d.Behind, (d.Mid.l.length : Int)] ++ numsB d.Mid.l) ++ putsB [sealL d, (d.Table.l.length : Int)]) ++ tabE d.Table.l
theorem zbwp (z : Bool) (L : List zjk) (hL : L.length ≤ 1000) (hT : entsOk L) : ∀ (k i : Nat) (l : List Int), L.length = i + k → l.length ≤ 10000 + 30 * i → isB l →
  ∃ z', Ev (fun q => zng q z L (L.length : Int) (i : Int) false l true) (⟨z', true, encF (l ++ tabE (L.drop i))⟩, 0)
 | 0, i, l, hk, hl, hb => by
  obtain ⟨z', hF⟩ := zbt7 ⟨false, l⟩ hb (by simp only; omega)
  refine ⟨z', Ev.succ (Ev.ne (Ev.bind hF (Ev.ret' ?_))) (fun q => rfl)⟩
  rw [y13 (by omega)]; simp [tabE]
 | k + 1, i, l, hk, hl, hb => by
  have hi : i < L.length := by omega
  have he : L[((i : Int)).toNat]? = some L[i] := by simp [hi]
  have hr := hT L[i] (y27 hi)
  have ho := zbvs hr
  have hE : l ++ putsB [L[i].Proc, L[i].Seq] ++ putS L[i].Resp = l ++ entB L[i] := by simp [putsB, entB]
  have hp := zbwl [L[i].Proc, L[i].Seq]; have p3 := zbtb (zbvy hr); have p4 := zbvz hr
  obtain ⟨z', ih⟩ := zbwp z L hL hT k (i + 1) (l ++ entB L[i]) (by omega) (by rw [y11]; omega) (zbt6.2 ⟨hb, zbv0⟩)
  rw [show ((i + 1 : Nat) : Int) = wrp .i64 ((i : Int) + 1) by rw [zbsv (by omega) (by omega)]; omega] at ih
  refine ⟨z', Ev.succ (Ev.po (Ev.po (Ev.opt he (Ev.bind (zbwo ⟨false, true, l⟩ ⟨false, [L[i].Proc, L[i].Seq]⟩ (by simp) (by simp) ?_ (by simp only; omega)) (Ev.bind (zbs9 _ (zbvy hr) (by simp only [y11, y22, y26] at hp ⊢; omega)) (Ev.cast (by rw [← hE] at ih; exact ih) ?_)))))) (fun q => rfl)⟩
  ·simp only [List.all_cons, List.all_nil, idxOk, y7, decide_eq_true_eq, and_true]; omega
  ·rw [y10 hi, zbvx, hE, y34]
theorem zbwq {d : zjm} (h : mayL d = true) : d.Mid.l.length ≤ 128 ∧ d.Table.l.length ≤ 65 ∧ 0 ≤ sealL d ∧ sealL d ≤ 3 := by
 have ho := zbwj h
 have h3 := zbvu ho.2.2.2.2.2.2.2.2.2 (by omega)
 refine ⟨ho.2.2.2.2.1, ?_, ?_⟩
 ·rcases h3 with e | e
  ·omega
  ·rw [e]; simp
 ·unfold sealL; split <;> omega
theorem zbwr {d : zjm} (hm : mayL d = true) : ∀ (k i : Nat) (l : List Int), d.Mid.l.length = i + k → l.length ≤ 1000 + 10 * i → isB l →
  ∃ z', Ev (fun q => znh q d.Mid.z d.Mid.l (d.Mid.l.length : Int) (i : Int) d.From d.To d.Ahead d.Behind d.Mid.z d.Mid.l d.Sealed d.Engine d.Table.z d.Table.l false l true) (⟨z', true, encF (((l ++ numsB (d.Mid.l.drop i)) ++ putsB [sealL d, (d.Table.l.length : Int)]) ++ tabE d.Table.l)⟩, 0)
 | 0, i, l, hk, hl, hb => by
  have ho := zbwj hm
  have hn := zbwq hm
  rw [y13 (by omega)]
  have hp := zbwl [sealL d, (d.Table.l.length : Int)]
  simp only [y22, y26] at hp
  obtain ⟨z', h1⟩ := zbwp d.Table.z d.Table.l (by omega) (zbvt ho.2.2.2.2.2.2.2.2.2) d.Table.l.length 0 (l ++ putsB [sealL d, (d.Table.l.length : Int)]) (by omega) (by rw [y11]; omega) (zbt6.2 ⟨hb, zbwm⟩)
  rw [y39] at h1
  have hP := zbwo ⟨false, true, l⟩ ⟨false, [sealL d, (d.Table.l.length : Int)]⟩ (by simp) (by simp) (by simp only [List.all_cons, List.all_nil, idxOk, y7, decide_eq_true_eq, and_true]; omega) (by simp only; omega)
  have e0 : numsB [] = [] := rfl
  rw [e0, List.append_nil]
  refine ⟨z', Ev.succ (Ev.ne (Ev.ite (fun c => ?_) fun c => ?_)) (fun q => rfl)⟩
  ·have e : wrp .i64 (1 + d.Engine) = sealL d := by unfold sealL; rw [if_pos c, zbsv (by omega) (by omega)]
   rw [e]
   exact Ev.bind hP h1
  ·have e : sealL d = 0 := by unfold sealL; rw [if_neg c]
   have := Ev.bind (k := fun q r6 => (zng q d.Table.z d.Table.l (d.Table.l.length : Int) 0 r6.n r6.xs r6.x)) hP h1
   rw [e] at this ⊢
   exact this
 | k + 1, i, l, hk, hl, hb => by
  have ho := zbwj hm
  have hn := zbwq hm
  have hi : i < d.Mid.l.length := by omega
  have he : d.Mid.l[((i : Int)).toNat]? = some d.Mid.l[i] := by simp [hi]
  have hr := inT_R ho.2.2.2.2.2.1 (y27 hi)
  have hp := zbtb hr
  obtain ⟨z', ih⟩ := zbwr hm k (i + 1) (l ++ putS d.Mid.l[i]) (by omega) (by rw [y11]; omega) (zbt6.2 ⟨hb, zbvw _⟩)
  rw [show ((i + 1 : Nat) : Int) = wrp .i64 ((i : Int) + 1) by rw [zbsv (by omega) (by omega)]; omega] at ih
  refine ⟨z', Ev.succ (Ev.po (Ev.po (Ev.opt he (Ev.bind (zbs9 ⟨false, true, l⟩ hr (by simp only; omega)) (Ev.cast ih ?_))))) (fun q => rfl)⟩
  rw [y10 hi, zbvv, y34 l]
theorem zbws (d : zjm) (h1 : d.Mid.l.length ≤ 1000000) (h2 : d.Table.l.length ≤ 1000000) : ∃ z, Ev (fun q => zni q d) (if mayL d = true then (⟨z, true, encF (delD d)⟩, 0) else (⟨true, true, []⟩, 1)) := by
 by_cases h : mayL d = true
 ·have ho := zbwj h
  have hn := zbwq h
  have hp := zbwl [d.From, d.To, d.Ahead, d.Behind, (d.Mid.l.length : Int)]
  simp only [y22, y26] at hp
  have hP := zbwo ⟨true, true, []⟩ ⟨false, [d.From, d.To, d.Ahead, d.Behind, (d.Mid.l.length : Int)]⟩ (by simp) (by simp) (by simp only [List.all_cons, List.all_nil, idxOk, y7, decide_eq_true_eq, and_true]; omega) (by simp)
  obtain ⟨z, hE⟩ := zbwr h d.Mid.l.length 0 (putsB [d.From, d.To, d.Ahead, d.Behind, (d.Mid.l.length : Int)]) (by omega) (by omega) zbwm
  rw [y39] at hE
  refine ⟨z, ?_⟩
  rw [if_pos h]
  exact Ev.succ (Ev.bind (zbwi d h1 h2) (Ev.pos h (Ev.bind hP hE))) (fun q => rfl)
 ·refine ⟨true, ?_⟩
  rw [if_neg h]
  exact Ev.succ (Ev.bind (zbwi d h1 h2) (Ev.neg h (Ev.ret _))) (fun q => rfl)
def gN (r : List Int × Bool) : Int × List Int × Bool := ((getN r.1).1, r.1.drop (getN r.1).2.toNat, r.2 && decide (0 < (getN r.1).2))
def gS (r : List Int × Bool) : Int × List Int × Bool := ((getS r.1).1, r.1.drop (getS r.1).2.toNat, r.2 && decide (0 < (getS r.1).2))
theorem gN_isB {r : List Int × Bool} (h : isB r.1) : isB (gN r).2.1 := zbuj h _
theorem gS_isB {r : List Int × Bool} (h : isB r.1) : isB (gS r).2.1 := zbuj h _
section
variable {R : Type}
theorem getK (z : Bool) {b : List Int} (hb : isB b) (f : Bool) {K : Nat → Int → List Int → Bool → Option R} {r : R} (h : Ev (fun q => K q (gN (b, f)).1 (gN (b, f)).2.1 (gN (b, f)).2.2) r) :
  Ev (fun q => (zk8 q ⟨z, b⟩).bind fun r2 => (if f = true then (if 0 ≤ r2.2 then (if r2.2 ≤ (b.length : Int) then K q r2.1 (List.drop r2.2.toNat b) (decide (0 < r2.2)) else none) else none) else (if 0 ≤ r2.2 then (if r2.2 ≤ (b.length : Int) then K q r2.1 (List.drop r2.2.toNat b) false else none) else none))) r := by
 have hl := zbuc (l := b)
 refine Ev.bind (zbv7 z hb) (Ev.ite (fun c => Ev.pos hl.1 (Ev.pos hl.2.1 ?_)) fun c => Ev.pos hl.1 (Ev.pos hl.2.1 ?_))
 ·rw [c] at h; simpa only [gN, y61] using h
 ·have c' : f = false := by simpa using c
  rw [c'] at h; simpa only [gN, Bool.false_and] using h
theorem getK0 (z : Bool) {b : List Int} (hb : isB b) {K : Nat → Int → List Int → Bool → Option R} {r : R} (h : Ev (fun q => K q (gN (b, true)).1 (gN (b, true)).2.1 (gN (b, true)).2.2) r) :
  Ev (fun q => (zk8 q ⟨z, b⟩).bind fun r2 => (if 0 ≤ r2.2 then (if r2.2 ≤ (b.length : Int) then K q r2.1 (List.drop r2.2.toNat b) (decide (0 < r2.2)) else none) else none)) r := by
 have hl := zbuc (l := b)
 refine Ev.bind (zbv7 z hb) (Ev.pos hl.1 (Ev.pos hl.2.1 ?_))
 simpa only [gN, y61] using h
theorem getSK (z : Bool) {b : List Int} (hb : isB b) (f : Bool) {K : Nat → Int → List Int → Bool → Option R} {r : R} (h : Ev (fun q => K q (gS (b, f)).1 (gS (b, f)).2.1 (gS (b, f)).2.2) r) :
  Ev (fun q => (zlo q ⟨z, b⟩).bind fun r2 => (if f = true then (if 0 ≤ r2.2 then (if r2.2 ≤ (b.length : Int) then K q r2.1 (List.drop r2.2.toNat b) (decide (0 < r2.2)) else none) else none) else (if 0 ≤ r2.2 then (if r2.2 ≤ (b.length : Int) then K q r2.1 (List.drop r2.2.toNat b) false else none) else none))) r := by
 have hl := zbus (l := b)
 refine Ev.bind (zbv8 z hb) (Ev.ite (fun c => Ev.pos hl.1 (Ev.pos hl.2.1 ?_)) fun c => Ev.pos hl.1 (Ev.pos hl.2.1 ?_))
 ·rw [c] at h; simpa only [gS, y61] using h
 ·have c' : f = false := by simpa using c
  rw [c'] at h; simpa only [gS, Bool.false_and] using h
end
theorem zbwt (h0_0 : Int) (h0_1 : Int) (h0_2 : Int) (h0_3 : Int) (h1_0z : Bool) (h1_0l : (List Int)) (h1_1 : Bool) (h2_0 : Int) : Ev (fun q => zlp q h0_0 h0_1 h0_2 h0_3 h1_0z h1_0l h1_1 h2_0) (h0_0, h0_1, h0_2, h0_3, h1_0l, h1_1, h2_0) := Ev.succ (Ev.ret _) (fun q => rfl)
theorem zbwu (h0_0 : Int) (h0_1 : Int) (h0_2 : Int) (h0_3 : Int) (h1_0z : Bool) (h1_0l : (List Int)) (h1_1 : Bool) (hb : isB h1_0l) : Ev (fun q => zlq q h0_0 h0_1 h0_2 h0_3 h1_0z h1_0l h1_1) (h0_0, h0_1, h0_2, h0_3, (gN (h1_0l, h1_1)).2.1, (gN (h1_0l, h1_1)).2.2, (gN (h1_0l, h1_1)).1) := Ev.succ (getK h1_0z hb h1_1 (K := fun q v' b' f' => zlp q h0_0 h0_1 h0_2 h0_3 h1_0z b' f' v') (zbwt h0_0 h0_1 h0_2 h0_3 h1_0z (gN (h1_0l, h1_1)).2.1 (gN (h1_0l, h1_1)).2.2 (gN (h1_0l, h1_1)).1)) (fun q => rfl)
theorem zbwv (h0_0 : Int) (h0_1 : Int) (h0_2 : Int) (h1_0z : Bool) (h1_0l : (List Int)) (h1_1 : Bool) (hb : isB h1_0l) : Ev (fun q => zlr q h0_0 h0_1 h0_2 h1_0z h1_0l h1_1) (h0_0, h0_1, h0_2, (gN (h1_0l, h1_1)).1, (gN ((gN (h1_0l, h1_1)).2.1, (gN (h1_0l, h1_1)).2.2)).2.1, (gN ((gN (h1_0l, h1_1)).2.1, (gN (h1_0l, h1_1)).2.2)).2.2, (gN ((gN (h1_0l, h1_1)).2.1, (gN (h1_0l, h1_1)).2.2)).1) := Ev.succ (getK h1_0z hb h1_1 (K := fun q v' b' f' => zlq q h0_0 h0_1 h0_2 v' h1_0z b' f') (zbwu h0_0 h0_1 h0_2 (gN (h1_0l, h1_1)).1 h1_0z (gN (h1_0l, h1_1)).2.1 (gN (h1_0l, h1_1)).2.2 (gN_isB hb))) (fun q => rfl)
theorem zbww (h0_0 : Int) (h0_1 : Int) (h1_0z : Bool) (h1_0l : (List Int)) (h1_1 : Bool) (hb : isB h1_0l) : Ev (fun q => zls q h0_0 h0_1 h1_0z h1_0l h1_1) (h0_0, h0_1, (gN (h1_0l, h1_1)).1, (gN ((gN (h1_0l, h1_1)).2.1, (gN (h1_0l, h1_1)).2.2)).1, (gN ((gN ((gN (h1_0l, h1_1)).2.1, (gN (h1_0l, h1_1)).2.2)).2.1, (gN ((gN (h1_0l, h1_1)).2.1, (gN (h1_0l, h1_1)).2.2)).2.2)).2.1, (gN ((gN ((gN (h1_0l, h1_1)).2.1, (gN (h1_0l, h1_1)).2.2)).2.1, (gN ((gN (h1_0l, h1_1)).2.1, (gN (h1_0l, h1_1)).2.2)).2.2)).2.2, (gN ((gN ((gN (h1_0l, h1_1)).2.1, (gN (h1_0l, h1_1)).2.2)).2.1, (gN ((gN (h1_0l, h1_1)).2.1, (gN (h1_0l, h1_1)).2.2)).2.2)).1) := Ev.succ (getK h1_0z hb h1_1 (K := fun q v' b' f' => zlr q h0_0 h0_1 v' h1_0z b' f') (zbwv h0_0 h0_1 (gN (h1_0l, h1_1)).1 h1_0z (gN (h1_0l, h1_1)).2.1 (gN (h1_0l, h1_1)).2.2 (gN_isB hb))) (fun q => rfl)
theorem zbwx (h0_0 : Int) (h1_0z : Bool) (h1_0l : (List Int)) (h1_1 : Bool) (hb : isB h1_0l) : Ev (fun q => zlt q h0_0 h1_0z h1_0l h1_1) (h0_0, (gN (h1_0l, h1_1)).1, (gN ((gN (h1_0l, h1_1)).2.1, (gN (h1_0l, h1_1)).2.2)).1, (gN ((gN ((gN (h1_0l, h1_1)).2.1, (gN (h1_0l, h1_1)).2.2)).2.1, (gN ((gN (h1_0l, h1_1)).2.1, (gN (h1_0l, h1_1)).2.2)).2.2)).1, (gN ((gN ((gN ((gN (h1_0l, h1_1)).2.1, (gN (h1_0l, h1_1)).2.2)).2.1, (gN ((gN (h1_0l, h1_1)).2.1, (gN (h1_0l, h1_1)).2.2)).2.2)).2.1, (gN ((gN ((gN (h1_0l, h1_1)).2.1, (gN (h1_0l, h1_1)).2.2)).2.1, (gN ((gN (h1_0l, h1_1)).2.1, (gN (h1_0l, h1_1)).2.2)).2.2)).2.2)).2.1, (gN ((gN ((gN ((gN (h1_0l, h1_1)).2.1, (gN (h1_0l, h1_1)).2.2)).2.1, (gN ((gN (h1_0l, h1_1)).2.1, (gN (h1_0l, h1_1)).2.2)).2.2)).2.1, (gN ((gN ((gN (h1_0l, h1_1)).2.1, (gN (h1_0l, h1_1)).2.2)).2.1, (gN ((gN (h1_0l, h1_1)).2.1, (gN (h1_0l, h1_1)).2.2)).2.2)).2.2)).2.2, (gN ((gN ((gN ((gN (h1_0l, h1_1)).2.1, (gN (h1_0l, h1_1)).2.2)).2.1, (gN ((gN (h1_0l, h1_1)).2.1, (gN (h1_0l, h1_1)).2.2)).2.2)).2.1, (gN ((gN ((gN (h1_0l, h1_1)).2.1, (gN (h1_0l, h1_1)).2.2)).2.1, (gN ((gN (h1_0l, h1_1)).2.1, (gN (h1_0l, h1_1)).2.2)).2.2)).2.2)).1) := Ev.succ (getK h1_0z hb h1_1 (K := fun q v' b' f' => zls q h0_0 v' h1_0z b' f') (zbww h0_0 (gN (h1_0l, h1_1)).1 h1_0z (gN (h1_0l, h1_1)).2.1 (gN (h1_0l, h1_1)).2.2 (gN_isB hb))) (fun q => rfl)
theorem zbwy (h1_0z : Bool) (h1_0l : (List Int)) (hb : isB h1_0l) : Ev (fun q => zlu q h1_0z h1_0l) ((gN (h1_0l, true)).1, (gN ((gN (h1_0l, true)).2.1, (gN (h1_0l, true)).2.2)).1, (gN ((gN ((gN (h1_0l, true)).2.1, (gN (h1_0l, true)).2.2)).2.1, (gN ((gN (h1_0l, true)).2.1, (gN (h1_0l, true)).2.2)).2.2)).1, (gN ((gN ((gN ((gN (h1_0l, true)).2.1, (gN (h1_0l, true)).2.2)).2.1, (gN ((gN (h1_0l, true)).2.1, (gN (h1_0l, true)).2.2)).2.2)).2.1, (gN ((gN ((gN (h1_0l, true)).2.1, (gN (h1_0l, true)).2.2)).2.1, (gN ((gN (h1_0l, true)).2.1, (gN (h1_0l, true)).2.2)).2.2)).2.2)).1, (gN ((gN ((gN ((gN ((gN (h1_0l, true)).2.1, (gN (h1_0l, true)).2.2)).2.1, (gN ((gN (h1_0l, true)).2.1, (gN (h1_0l, true)).2.2)).2.2)).2.1, (gN ((gN ((gN (h1_0l, true)).2.1, (gN (h1_0l, true)).2.2)).2.1, (gN ((gN (h1_0l, true)).2.1, (gN (h1_0l, true)).2.2)).2.2)).2.2)).2.1, (gN ((gN ((gN ((gN (h1_0l, true)).2.1, (gN (h1_0l, true)).2.2)).2.1, (gN ((gN (h1_0l, true)).2.1, (gN (h1_0l, true)).2.2)).2.2)).2.1, (gN ((gN ((gN (h1_0l, true)).2.1, (gN (h1_0l, true)).2.2)).2.1, (gN ((gN (h1_0l, true)).2.1, (gN (h1_0l, true)).2.2)).2.2)).2.2)).2.2)).2.1, (gN ((gN ((gN ((gN ((gN (h1_0l, true)).2.1, (gN (h1_0l, true)).2.2)).2.1, (gN ((gN (h1_0l, true)).2.1, (gN (h1_0l, true)).2.2)).2.2)).2.1, (gN ((gN ((gN (h1_0l, true)).2.1, (gN (h1_0l, true)).2.2)).2.1, (gN ((gN (h1_0l, true)).2.1, (gN (h1_0l, true)).2.2)).2.2)).2.2)).2.1, (gN ((gN ((gN ((gN (h1_0l, true)).2.1, (gN (h1_0l, true)).2.2)).2.1, (gN ((gN (h1_0l, true)).2.1, (gN (h1_0l, true)).2.2)).2.2)).2.1, (gN ((gN ((gN (h1_0l, true)).2.1, (gN (h1_0l, true)).2.2)).2.1, (gN ((gN (h1_0l, true)).2.1, (gN (h1_0l, true)).2.2)).2.2)).2.2)).2.2)).2.2, (gN ((gN ((gN ((gN ((gN (h1_0l, true)).2.1, (gN (h1_0l, true)).2.2)).2.1, (gN ((gN (h1_0l, true)).2.1, (gN (h1_0l, true)).2.2)).2.2)).2.1, (gN ((gN ((gN (h1_0l, true)).2.1, (gN (h1_0l, true)).2.2)).2.1, (gN ((gN (h1_0l, true)).2.1, (gN (h1_0l, true)).2.2)).2.2)).2.2)).2.1, (gN ((gN ((gN ((gN (h1_0l, true)).2.1, (gN (h1_0l, true)).2.2)).2.1, (gN ((gN (h1_0l, true)).2.1, (gN (h1_0l, true)).2.2)).2.2)).2.1, (gN ((gN ((gN (h1_0l, true)).2.1, (gN (h1_0l, true)).2.2)).2.1, (gN ((gN (h1_0l, true)).2.1, (gN (h1_0l, true)).2.2)).2.2)).2.2)).2.2)).1) := Ev.succ (getK0 h1_0z hb (K := fun q v' b' f' => zlt q v' h1_0z b' f') (zbwx (gN (h1_0l, true)).1 h1_0z (gN (h1_0l, true)).2.1 (gN (h1_0l, true)).2.2 (gN_isB hb))) (fun q => rfl)
theorem s0_ev (h1_0z : Bool) (h1_0l : (List Int)) (hb : isB h1_0l) : Ev (fun q => zlv q h1_0z h1_0l) ((gN (h1_0l, true)).1, (gN ((gN (h1_0l, true)).2.1, (gN (h1_0l, true)).2.2)).1, (gN ((gN ((gN (h1_0l, true)).2.1, (gN (h1_0l, true)).2.2)).2.1, (gN ((gN (h1_0l, true)).2.1, (gN (h1_0l, true)).2.2)).2.2)).1, (gN ((gN ((gN ((gN (h1_0l, true)).2.1, (gN (h1_0l, true)).2.2)).2.1, (gN ((gN (h1_0l, true)).2.1, (gN (h1_0l, true)).2.2)).2.2)).2.1, (gN ((gN ((gN (h1_0l, true)).2.1, (gN (h1_0l, true)).2.2)).2.1, (gN ((gN (h1_0l, true)).2.1, (gN (h1_0l, true)).2.2)).2.2)).2.2)).1, (gN ((gN ((gN ((gN ((gN (h1_0l, true)).2.1, (gN (h1_0l, true)).2.2)).2.1, (gN ((gN (h1_0l, true)).2.1, (gN (h1_0l, true)).2.2)).2.2)).2.1, (gN ((gN ((gN (h1_0l, true)).2.1, (gN (h1_0l, true)).2.2)).2.1, (gN ((gN (h1_0l, true)).2.1, (gN (h1_0l, true)).2.2)).2.2)).2.2)).2.1, (gN ((gN ((gN ((gN (h1_0l, true)).2.1, (gN (h1_0l, true)).2.2)).2.1, (gN ((gN (h1_0l, true)).2.1, (gN (h1_0l, true)).2.2)).2.2)).2.1, (gN ((gN ((gN (h1_0l, true)).2.1, (gN (h1_0l, true)).2.2)).2.1, (gN ((gN (h1_0l, true)).2.1, (gN (h1_0l, true)).2.2)).2.2)).2.2)).2.2)).2.1, (gN ((gN ((gN ((gN ((gN (h1_0l, true)).2.1, (gN (h1_0l, true)).2.2)).2.1, (gN ((gN (h1_0l, true)).2.1, (gN (h1_0l, true)).2.2)).2.2)).2.1, (gN ((gN ((gN (h1_0l, true)).2.1, (gN (h1_0l, true)).2.2)).2.1, (gN ((gN (h1_0l, true)).2.1, (gN (h1_0l, true)).2.2)).2.2)).2.2)).2.1, (gN ((gN ((gN ((gN (h1_0l, true)).2.1, (gN (h1_0l, true)).2.2)).2.1, (gN ((gN (h1_0l, true)).2.1, (gN (h1_0l, true)).2.2)).2.2)).2.1, (gN ((gN ((gN (h1_0l, true)).2.1, (gN (h1_0l, true)).2.2)).2.1, (gN ((gN (h1_0l, true)).2.1, (gN (h1_0l, true)).2.2)).2.2)).2.2)).2.2)).2.2, (gN ((gN ((gN ((gN ((gN (h1_0l, true)).2.1, (gN (h1_0l, true)).2.2)).2.1, (gN ((gN (h1_0l, true)).2.1, (gN (h1_0l, true)).2.2)).2.2)).2.1, (gN ((gN ((gN (h1_0l, true)).2.1, (gN (h1_0l, true)).2.2)).2.1, (gN ((gN (h1_0l, true)).2.1, (gN (h1_0l, true)).2.2)).2.2)).2.2)).2.1, (gN ((gN ((gN ((gN (h1_0l, true)).2.1, (gN (h1_0l, true)).2.2)).2.1, (gN ((gN (h1_0l, true)).2.1, (gN (h1_0l, true)).2.2)).2.2)).2.1, (gN ((gN ((gN (h1_0l, true)).2.1, (gN (h1_0l, true)).2.2)).2.1, (gN ((gN (h1_0l, true)).2.1, (gN (h1_0l, true)).2.2)).2.2)).2.2)).2.2)).1) := Ev.succ (zbwy h1_0z h1_0l hb) (fun q => rfl)
theorem zbwz (h0_0 : Int) (h0_1 : Int) (h0_2 : Int) (h0_3 : Int) (h1_0z : Bool) (h1_0l : (List Int)) (h1_1 : Bool) (h2_0 : Int) (h3_0 : Int) : Ev (fun q => zlw q h0_0 h0_1 h0_2 h0_3 h1_0z h1_0l h1_1 h2_0 h3_0) (h1_0l, h1_1, h2_0, h3_0) := Ev.succ (Ev.ret _) (fun q => rfl)
theorem zbw0 (h0_0 : Int) (h0_1 : Int) (h0_2 : Int) (h0_3 : Int) (h1_0z : Bool) (h1_0l : (List Int)) (h1_1 : Bool) (h2_0 : Int) (hb : isB h1_0l) : Ev (fun q => zlx q h0_0 h0_1 h0_2 h0_3 h1_0z h1_0l h1_1 h2_0) ((gN (h1_0l, h1_1)).2.1, (gN (h1_0l, h1_1)).2.2, h2_0, (gN (h1_0l, h1_1)).1) := Ev.succ (getK h1_0z hb h1_1 (K := fun q v' b' f' => zlw q h0_0 h0_1 h0_2 h0_3 h1_0z b' f' h2_0 v') (zbwz h0_0 h0_1 h0_2 h0_3 h1_0z (gN (h1_0l, h1_1)).2.1 (gN (h1_0l, h1_1)).2.2 h2_0 (gN (h1_0l, h1_1)).1)) (fun q => rfl)
theorem zbw1 (h0_0 : Int) (h0_1 : Int) (h0_2 : Int) (h0_3 : Int) (h1_0z : Bool) (h1_0l : (List Int)) (h1_1 : Bool) (hb : isB h1_0l) : Ev (fun q => zly q h0_0 h0_1 h0_2 h0_3 h1_0z h1_0l h1_1) ((gN ((gN (h1_0l, h1_1)).2.1, (gN (h1_0l, h1_1)).2.2)).2.1, (gN ((gN (h1_0l, h1_1)).2.1, (gN (h1_0l, h1_1)).2.2)).2.2, (gN (h1_0l, h1_1)).1, (gN ((gN (h1_0l, h1_1)).2.1, (gN (h1_0l, h1_1)).2.2)).1) := Ev.succ (getK h1_0z hb h1_1 (K := fun q v' b' f' => zlx q h0_0 h0_1 h0_2 h0_3 h1_0z b' f' v') (zbw0 h0_0 h0_1 h0_2 h0_3 h1_0z (gN (h1_0l, h1_1)).2.1 (gN (h1_0l, h1_1)).2.2 (gN (h1_0l, h1_1)).1 (gN_isB hb))) (fun q => rfl)
theorem s1_ev (h0_0 : Int) (h0_1 : Int) (h0_2 : Int) (h0_3 : Int) (h1_0z : Bool) (h1_0l : (List Int)) (h1_1 : Bool) (hb : isB h1_0l) : Ev (fun q => zlz q h0_0 h0_1 h0_2 h0_3 h1_0z h1_0l h1_1) ((gN ((gN (h1_0l, h1_1)).2.1, (gN (h1_0l, h1_1)).2.2)).2.1, (gN ((gN (h1_0l, h1_1)).2.1, (gN (h1_0l, h1_1)).2.2)).2.2, (gN (h1_0l, h1_1)).1, (gN ((gN (h1_0l, h1_1)).2.1, (gN (h1_0l, h1_1)).2.2)).1) := Ev.succ (zbw1 h0_0 h0_1 h0_2 h0_3 h1_0z h1_0l h1_1 hb) (fun q => rfl)
theorem zbw2 (h0_0 : Int) (h0_1 : Int) (h0_2 : Int) (h0_3 : Int) (h1_0z : Bool) (h1_0l : (List Int)) (h1_1 : Bool) (h2_0 : Int) (h3_0 : Int) (h4l : (List Int)) : Ev (fun q => zl0 q h0_0 h0_1 h0_2 h0_3 h1_0z h1_0l h1_1 h2_0 h3_0 h4l) (h4l.length, h1_0l, h1_1, h2_0, h3_0) := Ev.succ (Ev.ret _) (fun q => rfl)
theorem zbw3 (h0_0 : Int) (h0_1 : Int) (h0_2 : Int) (h0_3 : Int) (h1_0z : Bool) (h1_0l : (List Int)) (h1_1 : Bool) (h2_0 : Int) (h4l : (List Int)) (hb : isB h1_0l) : Ev (fun q => zl1 q h0_0 h0_1 h0_2 h0_3 h1_0z h1_0l h1_1 h2_0 h4l) (h4l.length, (gN (h1_0l, h1_1)).2.1, (gN (h1_0l, h1_1)).2.2, h2_0, (gN (h1_0l, h1_1)).1) := Ev.succ (getK h1_0z hb h1_1 (K := fun q v' b' f' => zl0 q h0_0 h0_1 h0_2 h0_3 h1_0z b' f' h2_0 v' h4l) (zbw2 h0_0 h0_1 h0_2 h0_3 h1_0z (gN (h1_0l, h1_1)).2.1 (gN (h1_0l, h1_1)).2.2 h2_0 (gN (h1_0l, h1_1)).1 h4l)) (fun q => rfl)
theorem zbw4 (h0_0 : Int) (h0_1 : Int) (h0_2 : Int) (h0_3 : Int) (h1_0z : Bool) (h1_0l : (List Int)) (h1_1 : Bool) (h4l : (List Int)) (hb : isB h1_0l) : Ev (fun q => zl2 q h0_0 h0_1 h0_2 h0_3 h1_0z h1_0l h1_1 h4l) (h4l.length, (gN ((gN (h1_0l, h1_1)).2.1, (gN (h1_0l, h1_1)).2.2)).2.1, (gN ((gN (h1_0l, h1_1)).2.1, (gN (h1_0l, h1_1)).2.2)).2.2, (gN (h1_0l, h1_1)).1, (gN ((gN (h1_0l, h1_1)).2.1, (gN (h1_0l, h1_1)).2.2)).1) := Ev.succ (getK h1_0z hb h1_1 (K := fun q v' b' f' => zl1 q h0_0 h0_1 h0_2 h0_3 h1_0z b' f' v' h4l) (zbw3 h0_0 h0_1 h0_2 h0_3 h1_0z (gN (h1_0l, h1_1)).2.1 (gN (h1_0l, h1_1)).2.2 (gN (h1_0l, h1_1)).1 h4l (gN_isB hb))) (fun q => rfl)
theorem s2_ev (h0_0 : Int) (h0_1 : Int) (h0_2 : Int) (h0_3 : Int) (h1_0z : Bool) (h1_0l : (List Int)) (h1_1 : Bool) (h4l : (List Int)) (hb : isB h1_0l) : Ev (fun q => zl3 q h0_0 h0_1 h0_2 h0_3 h1_0z h1_0l h1_1 h4l) (h4l.length, (gN ((gN (h1_0l, h1_1)).2.1, (gN (h1_0l, h1_1)).2.2)).2.1, (gN ((gN (h1_0l, h1_1)).2.1, (gN (h1_0l, h1_1)).2.2)).2.2, (gN (h1_0l, h1_1)).1, (gN ((gN (h1_0l, h1_1)).2.1, (gN (h1_0l, h1_1)).2.2)).1) := Ev.succ (zbw4 h0_0 h0_1 h0_2 h0_3 h1_0z h1_0l h1_1 h4l hb) (fun q => rfl)
theorem zbw5 (h0_0 : Int) (h0_1 : Int) (h0_2 : Int) (h0_3 : Int) (h0_5 : Bool) (h0_6 : Int) (h1_0z : Bool) (h1_0l : (List Int)) (h1_1 : Bool) (h2_0 : Int) (h3_0 : Int) (h3_1 : Int) : Ev (fun q => zl4 q h0_0 h0_1 h0_2 h0_3 h0_5 h0_6 h1_0z h1_0l h1_1 h2_0 h3_0 h3_1) (h1_0l, h1_1, h3_0, h3_1) := Ev.succ (Ev.ret _) (fun q => rfl)
theorem zbw6 (h0_0 : Int) (h0_1 : Int) (h0_2 : Int) (h0_3 : Int) (h0_5 : Bool) (h0_6 : Int) (h1_0z : Bool) (h1_0l : (List Int)) (h1_1 : Bool) (h2_0 : Int) (h3_0 : Int) (hb : isB h1_0l) : Ev (fun q => zl5 q h0_0 h0_1 h0_2 h0_3 h0_5 h0_6 h1_0z h1_0l h1_1 h2_0 h3_0) ((gN (h1_0l, h1_1)).2.1, (gN (h1_0l, h1_1)).2.2, h3_0, (gN (h1_0l, h1_1)).1) := Ev.succ (getK h1_0z hb h1_1 (K := fun q v' b' f' => zl4 q h0_0 h0_1 h0_2 h0_3 h0_5 h0_6 h1_0z b' f' h2_0 h3_0 v') (zbw5 h0_0 h0_1 h0_2 h0_3 h0_5 h0_6 h1_0z (gN (h1_0l, h1_1)).2.1 (gN (h1_0l, h1_1)).2.2 h2_0 h3_0 (gN (h1_0l, h1_1)).1)) (fun q => rfl)
theorem zbw7 (h0_0 : Int) (h0_1 : Int) (h0_2 : Int) (h0_3 : Int) (h0_5 : Bool) (h0_6 : Int) (h1_0z : Bool) (h1_0l : (List Int)) (h1_1 : Bool) (h2_0 : Int) (hb : isB h1_0l) : Ev (fun q => zl6 q h0_0 h0_1 h0_2 h0_3 h0_5 h0_6 h1_0z h1_0l h1_1 h2_0) ((gN ((gN (h1_0l, h1_1)).2.1, (gN (h1_0l, h1_1)).2.2)).2.1, (gN ((gN (h1_0l, h1_1)).2.1, (gN (h1_0l, h1_1)).2.2)).2.2, (gN (h1_0l, h1_1)).1, (gN ((gN (h1_0l, h1_1)).2.1, (gN (h1_0l, h1_1)).2.2)).1) := Ev.succ (getK h1_0z hb h1_1 (K := fun q v' b' f' => zl5 q h0_0 h0_1 h0_2 h0_3 h0_5 h0_6 h1_0z b' f' h2_0 v') (zbw6 h0_0 h0_1 h0_2 h0_3 h0_5 h0_6 h1_0z (gN (h1_0l, h1_1)).2.1 (gN (h1_0l, h1_1)).2.2 h2_0 (gN (h1_0l, h1_1)).1 (gN_isB hb))) (fun q => rfl)
theorem s3_ev (h0_0 : Int) (h0_1 : Int) (h0_2 : Int) (h0_3 : Int) (h0_5 : Bool) (h0_6 : Int) (h1_0z : Bool) (h1_0l : (List Int)) (h1_1 : Bool) (h2_0 : Int) (hb : isB h1_0l) : Ev (fun q => zl7 q h0_0 h0_1 h0_2 h0_3 h0_5 h0_6 h1_0z h1_0l h1_1 h2_0) ((gN ((gN (h1_0l, h1_1)).2.1, (gN (h1_0l, h1_1)).2.2)).2.1, (gN ((gN (h1_0l, h1_1)).2.1, (gN (h1_0l, h1_1)).2.2)).2.2, (gN (h1_0l, h1_1)).1, (gN ((gN (h1_0l, h1_1)).2.1, (gN (h1_0l, h1_1)).2.2)).1) := Ev.succ (zbw7 h0_0 h0_1 h0_2 h0_3 h0_5 h0_6 h1_0z h1_0l h1_1 h2_0 hb) (fun q => rfl)
theorem zbw8 (h0_0 : Int) (h0_1 : Int) (h0_2 : Int) (h0_3 : Int) (h0_4len : Nat) (h0_5 : Bool) (h0_6 : Int) (h1_0z : Bool) (h1_0l : (List Int)) (h1_1 : Bool) (h2_0 : Int) (h3l : (List Int)) (h4_0 : Int) (h4_1 : Int) : Ev (fun q => zl8 q h0_0 h0_1 h0_2 h0_3 h0_4len h0_5 h0_6 h1_0z h1_0l h1_1 h2_0 h3l h4_0 h4_1) (h1_0l, h1_1, h4_0, h4_1) := Ev.succ (Ev.ret _) (fun q => rfl)
theorem zbw9 (h0_0 : Int) (h0_1 : Int) (h0_2 : Int) (h0_3 : Int) (h0_4len : Nat) (h0_5 : Bool) (h0_6 : Int) (h1_0z : Bool) (h1_0l : (List Int)) (h1_1 : Bool) (h2_0 : Int) (h3l : (List Int)) (h4_0 : Int) (hb : isB h1_0l) : Ev (fun q => zl9 q h0_0 h0_1 h0_2 h0_3 h0_4len h0_5 h0_6 h1_0z h1_0l h1_1 h2_0 h3l h4_0) ((gN (h1_0l, h1_1)).2.1, (gN (h1_0l, h1_1)).2.2, h4_0, (gN (h1_0l, h1_1)).1) := Ev.succ (getK h1_0z hb h1_1 (K := fun q v' b' f' => zl8 q h0_0 h0_1 h0_2 h0_3 h0_4len h0_5 h0_6 h1_0z b' f' h2_0 h3l h4_0 v') (zbw8 h0_0 h0_1 h0_2 h0_3 h0_4len h0_5 h0_6 h1_0z (gN (h1_0l, h1_1)).2.1 (gN (h1_0l, h1_1)).2.2 h2_0 h3l h4_0 (gN (h1_0l, h1_1)).1)) (fun q => rfl)
theorem zbxa (h0_0 : Int) (h0_1 : Int) (h0_2 : Int) (h0_3 : Int) (h0_4len : Nat) (h0_5 : Bool) (h0_6 : Int) (h1_0z : Bool) (h1_0l : (List Int)) (h1_1 : Bool) (h2_0 : Int) (h3l : (List Int)) (hb : isB h1_0l) : Ev (fun q => zma q h0_0 h0_1 h0_2 h0_3 h0_4len h0_5 h0_6 h1_0z h1_0l h1_1 h2_0 h3l) ((gN ((gN (h1_0l, h1_1)).2.1, (gN (h1_0l, h1_1)).2.2)).2.1, (gN ((gN (h1_0l, h1_1)).2.1, (gN (h1_0l, h1_1)).2.2)).2.2, (gN (h1_0l, h1_1)).1, (gN ((gN (h1_0l, h1_1)).2.1, (gN (h1_0l, h1_1)).2.2)).1) := Ev.succ (getK h1_0z hb h1_1 (K := fun q v' b' f' => zl9 q h0_0 h0_1 h0_2 h0_3 h0_4len h0_5 h0_6 h1_0z b' f' h2_0 h3l v') (zbw9 h0_0 h0_1 h0_2 h0_3 h0_4len h0_5 h0_6 h1_0z (gN (h1_0l, h1_1)).2.1 (gN (h1_0l, h1_1)).2.2 h2_0 h3l (gN (h1_0l, h1_1)).1 (gN_isB hb))) (fun q => rfl)
theorem s4_ev (h0_0 : Int) (h0_1 : Int) (h0_2 : Int) (h0_3 : Int) (h0_4len : Nat) (h0_5 : Bool) (h0_6 : Int) (h1_0z : Bool) (h1_0l : (List Int)) (h1_1 : Bool) (h2_0 : Int) (h3l : (List Int)) (hb : isB h1_0l) : Ev (fun q => zmb q h0_0 h0_1 h0_2 h0_3 h0_4len h0_5 h0_6 h1_0z h1_0l h1_1 h2_0 h3l) ((gN ((gN (h1_0l, h1_1)).2.1, (gN (h1_0l, h1_1)).2.2)).2.1, (gN ((gN (h1_0l, h1_1)).2.1, (gN (h1_0l, h1_1)).2.2)).2.2, (gN (h1_0l, h1_1)).1, (gN ((gN (h1_0l, h1_1)).2.1, (gN (h1_0l, h1_1)).2.2)).1) := Ev.succ (zbxa h0_0 h0_1 h0_2 h0_3 h0_4len h0_5 h0_6 h1_0z h1_0l h1_1 h2_0 h3l hb) (fun q => rfl)
theorem zbxb (h0_0 : Int) (h0_1 : Int) (h0_2 : Int) (h0_3 : Int) (h0_5 : Bool) (h0_6 : Int) (h1_0z : Bool) (h1_0l : (List Int)) (h1_1 : Bool) (h2_0 : Int) (h3l : (List zjk)) (h4_0 : Int) (h4_1 : Int) : Ev (fun q => zmc q h0_0 h0_1 h0_2 h0_3 h0_5 h0_6 h1_0z h1_0l h1_1 h2_0 h3l h4_0 h4_1) (h3l.length, h1_0l, h1_1, h4_0, h4_1) := Ev.succ (Ev.ret _) (fun q => rfl)
theorem zbxc (h0_0 : Int) (h0_1 : Int) (h0_2 : Int) (h0_3 : Int) (h0_5 : Bool) (h0_6 : Int) (h1_0z : Bool) (h1_0l : (List Int)) (h1_1 : Bool) (h2_0 : Int) (h3l : (List zjk)) (h4_0 : Int) (hb : isB h1_0l) : Ev (fun q => zmd q h0_0 h0_1 h0_2 h0_3 h0_5 h0_6 h1_0z h1_0l h1_1 h2_0 h3l h4_0) (h3l.length, (gN (h1_0l, h1_1)).2.1, (gN (h1_0l, h1_1)).2.2, h4_0, (gN (h1_0l, h1_1)).1) := Ev.succ (getK h1_0z hb h1_1 (K := fun q v' b' f' => zmc q h0_0 h0_1 h0_2 h0_3 h0_5 h0_6 h1_0z b' f' h2_0 h3l h4_0 v') (zbxb h0_0 h0_1 h0_2 h0_3 h0_5 h0_6 h1_0z (gN (h1_0l, h1_1)).2.1 (gN (h1_0l, h1_1)).2.2 h2_0 h3l h4_0 (gN (h1_0l, h1_1)).1)) (fun q => rfl)
theorem zbxd (h0_0 : Int) (h0_1 : Int) (h0_2 : Int) (h0_3 : Int) (h0_5 : Bool) (h0_6 : Int) (h1_0z : Bool) (h1_0l : (List Int)) (h1_1 : Bool) (h2_0 : Int) (h3l : (List zjk)) (hb : isB h1_0l) : Ev (fun q => zme q h0_0 h0_1 h0_2 h0_3 h0_5 h0_6 h1_0z h1_0l h1_1 h2_0 h3l) (h3l.length, (gN ((gN (h1_0l, h1_1)).2.1, (gN (h1_0l, h1_1)).2.2)).2.1, (gN ((gN (h1_0l, h1_1)).2.1, (gN (h1_0l, h1_1)).2.2)).2.2, (gN (h1_0l, h1_1)).1, (gN ((gN (h1_0l, h1_1)).2.1, (gN (h1_0l, h1_1)).2.2)).1) := Ev.succ (getK h1_0z hb h1_1 (K := fun q v' b' f' => zmd q h0_0 h0_1 h0_2 h0_3 h0_5 h0_6 h1_0z b' f' h2_0 h3l v') (zbxc h0_0 h0_1 h0_2 h0_3 h0_5 h0_6 h1_0z (gN (h1_0l, h1_1)).2.1 (gN (h1_0l, h1_1)).2.2 h2_0 h3l (gN (h1_0l, h1_1)).1 (gN_isB hb))) (fun q => rfl)
theorem s5_ev (h0_0 : Int) (h0_1 : Int) (h0_2 : Int) (h0_3 : Int) (h0_5 : Bool) (h0_6 : Int) (h1_0z : Bool) (h1_0l : (List Int)) (h1_1 : Bool) (h2_0 : Int) (h3l : (List zjk)) (hb : isB h1_0l) : Ev (fun q => zmf q h0_0 h0_1 h0_2 h0_3 h0_5 h0_6 h1_0z h1_0l h1_1 h2_0 h3l) (h3l.length, (gN ((gN (h1_0l, h1_1)).2.1, (gN (h1_0l, h1_1)).2.2)).2.1, (gN ((gN (h1_0l, h1_1)).2.1, (gN (h1_0l, h1_1)).2.2)).2.2, (gN (h1_0l, h1_1)).1, (gN ((gN (h1_0l, h1_1)).2.1, (gN (h1_0l, h1_1)).2.2)).1) := Ev.succ (zbxd h0_0 h0_1 h0_2 h0_3 h0_5 h0_6 h1_0z h1_0l h1_1 h2_0 h3l hb) (fun q => rfl)
theorem zbxe (h0_0 : Int) (h0_1 : Int) (h0_2 : Int) (h0_3 : Int) (h0_4len : Nat) (h0_5 : Bool) (h0_6 : Int) (h1_0z : Bool) (h1_0l : (List Int)) (h1_1 : Bool) (h2_0 : Int) (h3l : (List Int)) (h4l : (List zjk)) (h5_0 : Int) (h5_1 : Int) : Ev (fun q => zmg q h0_0 h0_1 h0_2 h0_3 h0_4len h0_5 h0_6 h1_0z h1_0l h1_1 h2_0 h3l h4l h5_0 h5_1) (h4l.length, h1_0l, h1_1, h5_0, h5_1) := Ev.succ (Ev.ret _) (fun q => rfl)
theorem zbxf (h0_0 : Int) (h0_1 : Int) (h0_2 : Int) (h0_3 : Int) (h0_4len : Nat) (h0_5 : Bool) (h0_6 : Int) (h1_0z : Bool) (h1_0l : (List Int)) (h1_1 : Bool) (h2_0 : Int) (h3l : (List Int)) (h4l : (List zjk)) (h5_0 : Int) (hb : isB h1_0l) : Ev (fun q => zmh q h0_0 h0_1 h0_2 h0_3 h0_4len h0_5 h0_6 h1_0z h1_0l h1_1 h2_0 h3l h4l h5_0) (h4l.length, (gN (h1_0l, h1_1)).2.1, (gN (h1_0l, h1_1)).2.2, h5_0, (gN (h1_0l, h1_1)).1) := Ev.succ (getK h1_0z hb h1_1 (K := fun q v' b' f' => zmg q h0_0 h0_1 h0_2 h0_3 h0_4len h0_5 h0_6 h1_0z b' f' h2_0 h3l h4l h5_0 v') (zbxe h0_0 h0_1 h0_2 h0_3 h0_4len h0_5 h0_6 h1_0z (gN (h1_0l, h1_1)).2.1 (gN (h1_0l, h1_1)).2.2 h2_0 h3l h4l h5_0 (gN (h1_0l, h1_1)).1)) (fun q => rfl)
theorem zbxg (h0_0 : Int) (h0_1 : Int) (h0_2 : Int) (h0_3 : Int) (h0_4len : Nat) (h0_5 : Bool) (h0_6 : Int) (h1_0z : Bool) (h1_0l : (List Int)) (h1_1 : Bool) (h2_0 : Int) (h3l : (List Int)) (h4l : (List zjk)) (hb : isB h1_0l) : Ev (fun q => zmi q h0_0 h0_1 h0_2 h0_3 h0_4len h0_5 h0_6 h1_0z h1_0l h1_1 h2_0 h3l h4l) (h4l.length, (gN ((gN (h1_0l, h1_1)).2.1, (gN (h1_0l, h1_1)).2.2)).2.1, (gN ((gN (h1_0l, h1_1)).2.1, (gN (h1_0l, h1_1)).2.2)).2.2, (gN (h1_0l, h1_1)).1, (gN ((gN (h1_0l, h1_1)).2.1, (gN (h1_0l, h1_1)).2.2)).1) := Ev.succ (getK h1_0z hb h1_1 (K := fun q v' b' f' => zmh q h0_0 h0_1 h0_2 h0_3 h0_4len h0_5 h0_6 h1_0z b' f' h2_0 h3l h4l v') (zbxf h0_0 h0_1 h0_2 h0_3 h0_4len h0_5 h0_6 h1_0z (gN (h1_0l, h1_1)).2.1 (gN (h1_0l, h1_1)).2.2 h2_0 h3l h4l (gN (h1_0l, h1_1)).1 (gN_isB hb))) (fun q => rfl)
theorem s6_ev (h0_0 : Int) (h0_1 : Int) (h0_2 : Int) (h0_3 : Int) (h0_4len : Nat) (h0_5 : Bool) (h0_6 : Int) (h1_0z : Bool) (h1_0l : (List Int)) (h1_1 : Bool) (h2_0 : Int) (h3l : (List Int)) (h4l : (List zjk)) (hb : isB h1_0l) : Ev (fun q => zmj q h0_0 h0_1 h0_2 h0_3 h0_4len h0_5 h0_6 h1_0z h1_0l h1_1 h2_0 h3l h4l) (h4l.length, (gN ((gN (h1_0l, h1_1)).2.1, (gN (h1_0l, h1_1)).2.2)).2.1, (gN ((gN (h1_0l, h1_1)).2.1, (gN (h1_0l, h1_1)).2.2)).2.2, (gN (h1_0l, h1_1)).1, (gN ((gN (h1_0l, h1_1)).2.1, (gN (h1_0l, h1_1)).2.2)).1) := Ev.succ (zbxg h0_0 h0_1 h0_2 h0_3 h0_4len h0_5 h0_6 h1_0z h1_0l h1_1 h2_0 h3l h4l hb) (fun q => rfl)
def entsR : Nat → List Int × Bool → List zjk × List Int × Bool
 | 0, r => ([], r)
 | k + 1, r => if r.2 = true then (⟨(gN r).1, (gN (gN r).2).1, (gS (gN (gN r).2).2).1⟩ :: (entsR k (gS (gN (gN r).2).2).2).1, (entsR k (gS (gN (gN r).2).2).2).2) else ([], r)
theorem zbxh (k : Nat) {r : List Int × Bool} (h : r.2 ≠ true) : entsR k r = ([], r) := by
 cases k with
 | zero => rfl
 | succ k => simp only [entsR]; rw [if_neg h]
theorem zbxi (k : Nat) (b : List Int) : entsR (k + 1) (b, true) = (⟨(gN (b, true)).1, (gN (gN (b, true)).2).1, (gS (gN (gN (b, true)).2).2).1⟩ :: (entsR k (gS (gN (gN (b, true)).2).2).2).1, (entsR k (gS (gN (gN (b, true)).2).2).2).2) := by
 rw [entsR, if_pos rfl]
theorem zbxj {r : List Int × Bool} (h : (gN r).2.2 = true) : r.2 = true ∧ 0 < (getN r.1).2 ∧ (gN r).2.1.length + 1 ≤ r.1.length := by
 have hl := zbuc (l := r.1)
 simp only [gN, y7, decide_eq_true_eq, y14] at h ⊢
 exact ⟨h.1, h.2, by omega⟩
theorem zbxk {r : List Int × Bool} (h : (gS r).2.2 = true) : r.2 = true ∧ 0 < (getS r.1).2 ∧ (gS r).2.1.length + 1 ≤ r.1.length := by
 have hl := zbus (l := r.1)
 simp only [gS, y7, decide_eq_true_eq, y14] at h ⊢
 exact ⟨h.1, h.2, by omega⟩
/-- What follows the numbers. -/
def tlD (d0 d1 d2 d3 : Int) (mid : Sl Int) (r : List Int × Bool) : zjm × Bool :=
 if 3 < (gN r).1 then (⟨d0, d1, d2, d3, mid, false, 0, ⟨true, []⟩⟩, false) else
 (⟨d0, d1, d2, d3, mid, decide (0 < (gN r).1), if (gN r).1 - 1 < 0 then 0 else (gN r).1 - 1, ⟨(entsR (gN (gN r).2).1.toNat (gN (gN r).2).2).1.isEmpty, (entsR (gN (gN r).2).1.toNat (gN (gN r).2).2).1⟩⟩,
  (entsR (gN (gN r).2).1.toNat (gN (gN r).2).2).2.2 && decide (((entsR (gN (gN r).2).1.toNat (gN (gN r).2).2).2.1.length : Int) = 0))
theorem zbxl (d0 d1 d2 d3 : Int) (len : Nat) (s5 : Bool) (s6 : Int) (z : Bool) (many : Nat) (hm : many < 4611686018427387904) (h3l : List Int) : ∀ (k i : Nat) (b : List Int) (f : Bool) (acc : List zjk), many = i + k → isB b → (f = true → acc.length + b.length ≤ 1000000) →
  Ev (fun q => zmk q (i : Int) d0 d1 d2 d3 len s5 s6 z b f (many : Int) h3l acc) ((⟨d0, d1, d2, d3, ⟨false, h3l⟩, s5, s6, ⟨false, acc ++ (entsR k (b, f)).1⟩⟩ : zjm), (entsR k (b, f)).2.2 && decide (((entsR k (b, f)).2.1.length : Int) = 0))
 | 0, i, b, f, acc, hk, hb, ha => by
  simp only [entsR, List.append_nil]
  refine Ev.succ (Ev.ne (Ev.ite (fun c => Ev.ret' ?_) fun c => Ev.ret' ?_)) (fun q => rfl)
  ·rw [c]; rfl
  ·rw [show f = false by simpa using c]; rfl
 | k + 1, i, b, f, acc, hk, hb, ha => by
  by_cases c : f = true
  ·have hS := s6_ev d0 d1 d2 d3 len s5 s6 z b f (many : Int) h3l acc hb
   rw [c] at hS ⊢
   have hb1 := gN_isB (r := (b, true)) hb
   have hb2 := gN_isB (r := (gN (b, true)).2) hb1
   have ih := zbxl d0 d1 d2 d3 len s5 s6 z many hm h3l k (i + 1) (gS (gN (gN (b, true)).2).2).2.1 (gS (gN (gN (b, true)).2).2).2.2 (acc ++ [⟨(gN (b, true)).1, (gN (gN (b, true)).2).1, (gS (gN (gN (b, true)).2).2).1⟩]) (by omega) (gS_isB (r := (gN (gN (b, true)).2).2) hb2) (fun e => by
    have g3 := zbxk e
    have g2 := zbxj g3.1
    have g1 := zbxj g2.1
    have := ha c
    simp only [y11, y22, y26] at g1 ⊢; omega)
   rw [show ((i + 1 : Nat) : Int) = wrp .i64 ((i : Int) + 1) by rw [zbsv (by omega) (by omega)]; omega] at ih
   have hal := ha c
   have hK := getSK z hb2 (gN (gN (b, true)).2).2.2 (K := fun q v' b' f' => (if (acc.length + 1) ≤ 4294967296 then (zmk q (wrp .i64 ((i : Int) + 1)) d0 d1 d2 d3 len s5 s6 z b' f' (many : Int) h3l (acc ++ [(⟨(gN (b, true)).1, (gN (gN (b, true)).2).1, v'⟩ : zjk)])) else none)) (Ev.pos (by omega) ih)
   rw [zbxi]
   refine Ev.succ (Ev.po (Ev.pos rfl (Ev.bind hS (Ev.cast hK ?_)))) (fun q => rfl)
   simp only [y34, List.singleton_append]
  ·rw [zbxh _ (show (b, f).2 ≠ true from c), List.append_nil]
   have c' : f = false := by simpa using c
   refine Ev.succ (Ev.po (Ev.neg c (Ev.ret' ?_))) (fun q => rfl)
   rw [c']; rfl
theorem zbxm (d0 d1 d2 d3 : Int) (len : Nat) (s5 : Bool) (s6 : Int) (z : Bool) (many : Nat) (hm : many < 4611686018427387904) (h3l : List Int) (b : List Int) (f : Bool) (hb : isB b) (hl : b.length ≤ 100000) :
  Ev (fun q => zml q d0 d1 d2 d3 len s5 s6 z b f (many : Int) h3l) ((⟨d0, d1, d2, d3, ⟨false, h3l⟩, s5, s6, ⟨(entsR many (b, f)).1.isEmpty, (entsR many (b, f)).1⟩⟩ : zjm), (entsR many (b, f)).2.2 && decide (((entsR many (b, f)).2.1.length : Int) = 0)) := by
 by_cases h0 : many = 0
 ·have hn : entsR many (b, f) = ([], (b, f)) := by rw [h0]; rfl
  rw [hn]
  refine Ev.succ (Ev.ne (Ev.ite (fun c => Ev.ret' ?_) fun c => Ev.ret' ?_)) (fun q => rfl)
  ·rw [c]; rfl
  ·rw [show f = false by simpa using c]; rfl
 ·obtain ⟨k, hk⟩ : ∃ k, many = k + 1 := ⟨many - 1, by omega⟩
  by_cases c : f = true
  ·have hS := s4_ev d0 d1 d2 d3 len s5 s6 z b f (many : Int) h3l hb
   rw [c] at hS ⊢
   have hb1 := gN_isB (r := (b, true)) hb
   have hb2 := gN_isB (r := (gN (b, true)).2) hb1
   have ih := zbxl d0 d1 d2 d3 len s5 s6 z many hm h3l k 1 (gS (gN (gN (b, true)).2).2).2.1 (gS (gN (gN (b, true)).2).2).2.2 [⟨(gN (b, true)).1, (gN (gN (b, true)).2).1, (gS (gN (gN (b, true)).2).2).1⟩] (by omega) (gS_isB (r := (gN (gN (b, true)).2).2) hb2) (fun e => by
    have g3 := zbxk e
    have g2 := zbxj g3.1
    have g1 := zbxj g2.1
    simp only [y11, y22, y26] at g1 ⊢; omega)
   rw [show ((1 : Nat) : Int) = wrp .i64 1 by rw [zbsv (by omega) (by omega)]; rfl] at ih
   have hK := getSK z hb2 (gN (gN (b, true)).2).2.2 (K := fun q v' b' f' => (zmk q (wrp .i64 1) d0 d1 d2 d3 len s5 s6 z b' f' (many : Int) h3l [(⟨(gN (b, true)).1, (gN (gN (b, true)).2).1, v'⟩ : zjk)])) ih
   have hE := zbxi k b
   rw [← hk] at hE
   rw [hE]
   exact Ev.succ (Ev.po (Ev.pos rfl (Ev.bind hS hK))) (fun q => rfl)
  ·rw [zbxh _ (show (b, f).2 ≠ true from c)]
   have c' : f = false := by simpa using c
   refine Ev.succ (Ev.po (Ev.neg c (Ev.ret' ?_))) (fun q => rfl)
   rw [c']; rfl
theorem zbxn (d0 d1 d2 d3 : Int) (s5 : Bool) (s6 : Int) (z : Bool) (many : Nat) (hm : many < 4611686018427387904) : ∀ (k i : Nat) (b : List Int) (f : Bool) (acc : List zjk), many = i + k → isB b → (f = true → acc.length + b.length ≤ 1000000) →
  Ev (fun q => zmn q (i : Int) d0 d1 d2 d3 s5 s6 z b f (many : Int) acc) ((⟨d0, d1, d2, d3, ⟨true, []⟩, s5, s6, ⟨false, acc ++ (entsR k (b, f)).1⟩⟩ : zjm), (entsR k (b, f)).2.2 && decide (((entsR k (b, f)).2.1.length : Int) = 0))
 | 0, i, b, f, acc, hk, hb, ha => by
  simp only [entsR, List.append_nil]
  refine Ev.succ (Ev.ne (Ev.ite (fun c => Ev.ret' ?_) fun c => Ev.ret' ?_)) (fun q => rfl)
  ·rw [c]; rfl
  ·rw [show f = false by simpa using c]; rfl
 | k + 1, i, b, f, acc, hk, hb, ha => by
  by_cases c : f = true
  ·have hS := s5_ev d0 d1 d2 d3 s5 s6 z b f (many : Int) acc hb
   rw [c] at hS ⊢
   have hb1 := gN_isB (r := (b, true)) hb
   have hb2 := gN_isB (r := (gN (b, true)).2) hb1
   have ih := zbxn d0 d1 d2 d3 s5 s6 z many hm k (i + 1) (gS (gN (gN (b, true)).2).2).2.1 (gS (gN (gN (b, true)).2).2).2.2 (acc ++ [⟨(gN (b, true)).1, (gN (gN (b, true)).2).1, (gS (gN (gN (b, true)).2).2).1⟩]) (by omega) (gS_isB (r := (gN (gN (b, true)).2).2) hb2) (fun e => by
    have g3 := zbxk e
    have g2 := zbxj g3.1
    have g1 := zbxj g2.1
    have := ha c
    simp only [y11, y22, y26] at g1 ⊢; omega)
   rw [show ((i + 1 : Nat) : Int) = wrp .i64 ((i : Int) + 1) by rw [zbsv (by omega) (by omega)]; omega] at ih
   have hal := ha c
   have hK := getSK z hb2 (gN (gN (b, true)).2).2.2 (K := fun q v' b' f' => (if (acc.length + 1) ≤ 4294967296 then (zmn q (wrp .i64 ((i : Int) + 1)) d0 d1 d2 d3 s5 s6 z b' f' (many : Int) (acc ++ [(⟨(gN (b, true)).1, (gN (gN (b, true)).2).1, v'⟩ : zjk)])) else none)) (Ev.pos (by omega) ih)
   rw [zbxi]
   refine Ev.succ (Ev.po (Ev.pos rfl (Ev.bind hS (Ev.cast hK ?_)))) (fun q => rfl)
   simp only [y34, List.singleton_append]
  ·rw [zbxh _ (show (b, f).2 ≠ true from c), List.append_nil]
   have c' : f = false := by simpa using c
   refine Ev.succ (Ev.po (Ev.neg c (Ev.ret' ?_))) (fun q => rfl)
   rw [c']; rfl
theorem zbxo (d0 d1 d2 d3 : Int) (s5 : Bool) (s6 : Int) (z : Bool) (many : Nat) (hm : many < 4611686018427387904) (b : List Int) (f : Bool) (hb : isB b) (hl : b.length ≤ 100000) :
  Ev (fun q => zmo q d0 d1 d2 d3 s5 s6 z b f (many : Int)) ((⟨d0, d1, d2, d3, ⟨true, []⟩, s5, s6, ⟨(entsR many (b, f)).1.isEmpty, (entsR many (b, f)).1⟩⟩ : zjm), (entsR many (b, f)).2.2 && decide (((entsR many (b, f)).2.1.length : Int) = 0)) := by
 by_cases h0 : many = 0
 ·have hn : entsR many (b, f) = ([], (b, f)) := by rw [h0]; rfl
  rw [hn]
  refine Ev.succ (Ev.ne (Ev.ite (fun c => Ev.ret' ?_) fun c => Ev.ret' ?_)) (fun q => rfl)
  ·rw [c]; rfl
  ·rw [show f = false by simpa using c]; rfl
 ·obtain ⟨k, hk⟩ : ∃ k, many = k + 1 := ⟨many - 1, by omega⟩
  by_cases c : f = true
  ·have hS := s3_ev d0 d1 d2 d3 s5 s6 z b f (many : Int) hb
   rw [c] at hS ⊢
   have hb1 := gN_isB (r := (b, true)) hb
   have hb2 := gN_isB (r := (gN (b, true)).2) hb1
   have ih := zbxn d0 d1 d2 d3 s5 s6 z many hm k 1 (gS (gN (gN (b, true)).2).2).2.1 (gS (gN (gN (b, true)).2).2).2.2 [⟨(gN (b, true)).1, (gN (gN (b, true)).2).1, (gS (gN (gN (b, true)).2).2).1⟩] (by omega) (gS_isB (r := (gN (gN (b, true)).2).2) hb2) (fun e => by
    have g3 := zbxk e
    have g2 := zbxj g3.1
    have g1 := zbxj g2.1
    simp only [y11, y22, y26] at g1 ⊢; omega)
   rw [show ((1 : Nat) : Int) = wrp .i64 1 by rw [zbsv (by omega) (by omega)]; rfl] at ih
   have hK := getSK z hb2 (gN (gN (b, true)).2).2.2 (K := fun q v' b' f' => (zmn q (wrp .i64 1) d0 d1 d2 d3 s5 s6 z b' f' (many : Int) [(⟨(gN (b, true)).1, (gN (gN (b, true)).2).1, v'⟩ : zjk)])) ih
   have hE := zbxi k b
   rw [← hk] at hE
   rw [hE]
   exact Ev.succ (Ev.po (Ev.pos rfl (Ev.bind hS hK))) (fun q => rfl)
  ·rw [zbxh _ (show (b, f).2 ≠ true from c)]
   have c' : f = false := by simpa using c
   refine Ev.succ (Ev.po (Ev.neg c (Ev.ret' ?_))) (fun q => rfl)
   rw [c']; rfl
def numsR : Nat → List Int × Bool → List Int × List Int × Bool
 | 0, r => ([], r)
 | k + 1, r => ((gS r).1 :: (numsR k (gS r).2).1, (numsR k (gS r).2).2)
theorem zbxp : ∀ {k : Nat} {r : List Int × Bool}, isB r.1 → isB (numsR k r).2.1 ∧ (numsR k r).2.1.length ≤ r.1.length
 | 0, r, h => ⟨h, y15 _⟩
 | k + 1, r, h => by
  have := zbxp (k := k) (gS_isB h)
  have hl : (gS r).2.1.length ≤ r.1.length := by simp only [gS, y14]; omega
  exact ⟨this.1, Nat.le_trans this.2 hl⟩
theorem gN_le (r : List Int × Bool) : (gN r).2.1.length ≤ r.1.length := by simp only [gN, y14]; omega
theorem sealW {n : Int} (h1 : 0 ≤ n) (h2 : n < 4611686018427387904) : (if (wrp .i64 (n - 1)) < 0 then 0 else (wrp .i64 (n - 1))) = (if n - 1 < 0 then 0 else n - 1) := by
 rw [zbsv (by omega) (by omega)]
theorem gN_rng (r : List Int × Bool) : 0 ≤ (gN r).1 ∧ (gN r).1 < 4611686018427387904 := (zbuc (l := r.1)).2.2.2
theorem zbxq (d0 d1 d2 d3 : Int) (z : Bool) (m : Int) (i : Int) (b : List Int) (f : Bool) (acc : List Int) (hi : ¬ i < m) (hb : isB b) (hl : b.length ≤ 100000) : Ev (fun q => zmm q m i d0 d1 d2 d3 z b f acc) (tlD d0 d1 d2 d3 ⟨false, acc⟩ (b, f)) := by
 have hS := s2_ev d0 d1 d2 d3 z b f acc hb
 have hb1 := gN_isB (r := (b, f)) hb
 have hb2 := gN_isB (r := (gN (b, f)).2) hb1
 have l1 := gN_le (b, f); have l2 := gN_le (gN (b, f)).2
 have r1 := gN_rng (b, f); have r2 := gN_rng (gN (b, f)).2
 unfold tlD
 refine Ev.succ (Ev.neg hi (Ev.bind hS (Ev.ite (fun c => Ev.ret' ?_) fun c => ?_))) (fun q => rfl)
 ·rw [if_pos c]
 ·rw [if_neg c]
  have h3 := zbxm d0 d1 d2 d3 acc.length (decide (0 < (gN (b, f)).1)) (if (gN (b, f)).1 - 1 < 0 then 0 else (gN (b, f)).1 - 1) z (gN (gN (b, f)).2).1.toNat (by omega) acc (gN (gN (b, f)).2).2.1 (gN (gN (b, f)).2).2.2 hb2 (by simp only at l1; omega)
  rw [← sealW r1.1 r1.2, show ((((gN (gN (b, f)).2).1.toNat : Nat)) : Int) = (gN (gN (b, f)).2).1 by omega] at h3
  refine Ev.cast h3 ?_
  rw [sealW r1.1 r1.2]
theorem zbxr (d0 d1 d2 d3 : Int) (z : Bool) (m : Int) (b : List Int) (f : Bool) (hi : ¬ 0 < m) (hb : isB b) (hl : b.length ≤ 100000) : Ev (fun q => zmp q m d0 d1 d2 d3 z b f) (tlD d0 d1 d2 d3 ⟨true, []⟩ (b, f)) := by
 have hS := s1_ev d0 d1 d2 d3 z b f hb
 have hb1 := gN_isB (r := (b, f)) hb
 have hb2 := gN_isB (r := (gN (b, f)).2) hb1
 have l1 := gN_le (b, f); have l2 := gN_le (gN (b, f)).2
 have r1 := gN_rng (b, f); have r2 := gN_rng (gN (b, f)).2
 unfold tlD
 refine Ev.succ (Ev.neg hi (Ev.bind hS (Ev.ite (fun c => Ev.ret' ?_) fun c => ?_))) (fun q => rfl)
 ·rw [if_pos c]
 ·rw [if_neg c]
  have h3 := zbxo d0 d1 d2 d3 (decide (0 < (gN (b, f)).1)) (if (gN (b, f)).1 - 1 < 0 then 0 else (gN (b, f)).1 - 1) z (gN (gN (b, f)).2).1.toNat (by omega) (gN (gN (b, f)).2).2.1 (gN (gN (b, f)).2).2.2 hb2 (by simp only at l1; omega)
  rw [← sealW r1.1 r1.2, show ((((gN (gN (b, f)).2).1.toNat : Nat)) : Int) = (gN (gN (b, f)).2).1 by omega] at h3
  refine Ev.cast h3 ?_
  rw [sealW r1.1 r1.2]
theorem zbxs (d0 d1 d2 d3 : Int) (z : Bool) (m : Nat) (hm : m ≤ 128) : ∀ (k i : Nat) (b : List Int) (f : Bool) (acc : List Int), m = i + k → acc.length = i → isB b → b.length ≤ 100000 →
  Ev (fun q => zmm q (m : Int) (i : Int) d0 d1 d2 d3 z b f acc) (tlD d0 d1 d2 d3 ⟨false, acc ++ (numsR k (b, f)).1⟩ (numsR k (b, f)).2)
 | 0, i, b, f, acc, hk, ha, hb, hl => by
  simp only [numsR, List.append_nil]
  exact zbxq d0 d1 d2 d3 z (m : Int) (i : Int) b f acc (by omega) hb hl
 | k + 1, i, b, f, acc, hk, ha, hb, hl => by
  have hb1 := gS_isB (r := (b, f)) hb
  have hl1 : (gS (b, f)).2.1.length ≤ b.length := by simp only [gS, y14]; omega
  have ih := zbxs d0 d1 d2 d3 z m hm k (i + 1) (gS (b, f)).2.1 (gS (b, f)).2.2 (acc ++ [(gS (b, f)).1]) (by omega) (by rw [y11, List.length_singleton]; omega) hb1 (by omega)
  rw [show ((i + 1 : Nat) : Int) = wrp .i64 ((i : Int) + 1) by rw [zbsv (by omega) (by omega)]; omega] at ih
  have hK := getSK z hb f (K := fun q v' b' f' => (if (acc.length + 1) ≤ 4294967296 then (zmm q (m : Int) (wrp .i64 ((i : Int) + 1)) d0 d1 d2 d3 z b' f' (acc ++ [v'])) else none)) (Ev.pos (by omega) ih)
  refine Ev.succ (Ev.po (Ev.cast hK ?_)) (fun q => rfl)
  simp only [numsR, y34, List.singleton_append]
theorem zbxt (d0 d1 d2 d3 : Int) (z : Bool) (m : Nat) (hm : m ≤ 128) (b : List Int) (f : Bool) (hb : isB b) (hl : b.length ≤ 100000) :
  Ev (fun q => zmp q (m : Int) d0 d1 d2 d3 z b f) (tlD d0 d1 d2 d3 ⟨(numsR m (b, f)).1.isEmpty, (numsR m (b, f)).1⟩ (numsR m (b, f)).2) := by
 by_cases h0 : m = 0
 ·have hn : numsR m (b, f) = ([], (b, f)) := by rw [h0]; rfl
  rw [hn]
  exact zbxr d0 d1 d2 d3 z (m : Int) b f (by omega) hb hl
 ·obtain ⟨k, hk⟩ : ∃ k, m = k + 1 := ⟨m - 1, by omega⟩
  have hb1 := gS_isB (r := (b, f)) hb
  have hl1 : (gS (b, f)).2.1.length ≤ b.length := by simp only [gS, y14]; omega
  have ih := zbxs d0 d1 d2 d3 z m hm k 1 (gS (b, f)).2.1 (gS (b, f)).2.2 [(gS (b, f)).1] (by omega) rfl hb1 (by omega)
  rw [show ((1 : Nat) : Int) = wrp .i64 1 by rw [zbsv (by omega) (by omega)]; rfl] at ih
  have hK := getSK z hb f (K := fun q v' b' f' => (zmm q (m : Int) (wrp .i64 1) d0 d1 d2 d3 z b' f' [v'])) ih
  have hE : numsR m (b, f) = ((gS (b, f)).1 :: (numsR k (gS (b, f)).2).1, (numsR k (gS (b, f)).2).2) := by rw [hk]; rfl
  rw [hE]
  exact Ev.succ (Ev.pos (by omega) hK) (fun q => rfl)
def n1 (b : List Int) : Int × List Int × Bool := gN (b, true)
def n2 (b : List Int) : Int × List Int × Bool := gN (n1 b).2
def n3 (b : List Int) : Int × List Int × Bool := gN (n2 b).2
def n4 (b : List Int) : Int × List Int × Bool := gN (n3 b).2
def n5 (b : List Int) : Int × List Int × Bool := gN (n4 b).2
/-- The delta of data, and whether they are one. -/
def rdD (b : List Int) : zjm × Bool :=
 if 128 < (n5 b).1 then (⟨(n1 b).1, (n2 b).1, (n3 b).1, (n4 b).1, ⟨true, []⟩, false, 0, ⟨true, []⟩⟩, false) else
 tlD (n1 b).1 (n2 b).1 (n3 b).1 (n4 b).1 ⟨(numsR (n5 b).1.toNat (n5 b).2).1.isEmpty, (numsR (n5 b).1.toNat (n5 b).2).1⟩ (numsR (n5 b).1.toNat (n5 b).2).2
theorem zbxu (s : Sl Int) (hb : isB s.l) (hl : s.l.length ≤ 100000) : Ev (fun q => zmq q s) (rdD s.l) := by
 have hS : Ev (fun q => zlv q s.z s.l) ((n1 s.l).1, (n2 s.l).1, (n3 s.l).1, (n4 s.l).1, (n5 s.l).2.1, (n5 s.l).2.2, (n5 s.l).1) := s0_ev s.z s.l hb
 have b1 := gN_isB (r := (s.l, true)) hb
 have b2 := gN_isB (r := (n1 s.l).2) b1
 have b3 := gN_isB (r := (n2 s.l).2) b2
 have b4 := gN_isB (r := (n3 s.l).2) b3
 have b5 : isB (n5 s.l).2.1 := gN_isB (r := (n4 s.l).2) b4
 have l1 := gN_le (s.l, true); have l2 := gN_le (n1 s.l).2; have l3 := gN_le (n2 s.l).2; have l4 := gN_le (n3 s.l).2; have l5 := gN_le (n4 s.l).2
 have hlen : (n5 s.l).2.1.length ≤ 100000 := by
  change (n1 s.l).2.1.length ≤ s.l.length at l1
  change (n2 s.l).2.1.length ≤ (n1 s.l).2.1.length at l2
  change (n3 s.l).2.1.length ≤ (n2 s.l).2.1.length at l3
  change (n4 s.l).2.1.length ≤ (n3 s.l).2.1.length at l4
  change (n5 s.l).2.1.length ≤ (n4 s.l).2.1.length at l5
  omega
 have r5 : 0 ≤ (n5 s.l).1 ∧ (n5 s.l).1 < 4611686018427387904 := gN_rng (n4 s.l).2
 unfold rdD
 refine Ev.succ (Ev.bind hS (Ev.ite (fun c => Ev.ret' ?_) fun c => ?_)) (fun q => rfl)
 ·rw [if_pos c]
 ·rw [if_neg c]
  simp only at c
  have h0 := zbxt (n1 s.l).1 (n2 s.l).1 (n3 s.l).1 (n4 s.l).1 s.z (n5 s.l).1.toNat (by omega) (n5 s.l).2.1 (n5 s.l).2.2 b5 hlen
  rw [show ((((n5 s.l).1.toNat : Nat)) : Int) = (n5 s.l).1 by omega] at h0
  exact h0
theorem gN_app {r : List Int × Bool} (hb : isB r.1) (h : (gN r).2.2 = true) : r.2 = true ∧ r.1 = put (gN r).1 ++ (gN r).2.1 := by
 have g := zbxj h
 exact ⟨g.1, zbv5 hb g.2.1⟩
theorem gS_app {r : List Int × Bool} (hb : isB r.1) (h : (gS r).2.2 = true) : r.2 = true ∧ r.1 = putS (gS r).1 ++ (gS r).2.1 := by
 have g := zbxk h
 exact ⟨g.1, zbv6 hb g.2.1⟩
theorem zbxv : ∀ (k : Nat) (r : List Int × Bool), isB r.1 → (entsR k r).2.2 = true → r.2 = true ∧ r.1 = tabE (entsR k r).1 ++ (entsR k r).2.1 ∧ (entsR k r).1.length = k
 | 0, r, hb, h => ⟨h, by simp [entsR, tabE], rfl⟩
 | k + 1, r, hb, h => by
  by_cases c : r.2 = true
  ·simp only [entsR, if_pos c] at h ⊢
   have b1 := gN_isB hb
   have b2 := gN_isB b1
   have b3 := gS_isB b2
   obtain ⟨h3, e3, l3⟩ := zbxv k (gS (gN (gN r).2).2).2 b3 h
   obtain ⟨h2, e2⟩ := gS_app b2 h3
   obtain ⟨h1, e1⟩ := gN_app b1 h2
   obtain ⟨h0, e0⟩ := gN_app hb h1
   refine ⟨h0, ?_, by rw [y22, l3]⟩
   rw [zbvx]
   simp only [entB, y34]
   rw [← e3, ← e2, ← e1]
   exact e0
  ·rw [zbxh _ c] at h
   exact absurd h c
theorem zbxw : ∀ (k : Nat) (r : List Int × Bool), isB r.1 → (numsR k r).2.2 = true → r.2 = true ∧ r.1 = numsB (numsR k r).1 ++ (numsR k r).2.1 ∧ (numsR k r).1.length = k
 | 0, r, hb, h => ⟨h, by simp [numsR, numsB], rfl⟩
 | k + 1, r, hb, h => by
  simp only [numsR] at h ⊢
  obtain ⟨h1, e1, l1⟩ := zbxw k (gS r).2 (gS_isB hb) h
  obtain ⟨h0, e0⟩ := gS_app hb h1
  refine ⟨h0, ?_, by rw [y22, l1]⟩
  rw [zbvv, y34, ← e1]
  exact e0
theorem zbxx {d0 d1 d2 d3 : Int} {mid : Sl Int} {r : List Int × Bool} (hb : isB r.1) (h : (tlD d0 d1 d2 d3 mid r).2 = true) : r.2 = true ∧ (tlD d0 d1 d2 d3 mid r).1.From = d0 ∧ (tlD d0 d1 d2 d3 mid r).1.To = d1 ∧ (tlD d0 d1 d2 d3 mid r).1.Ahead = d2 ∧ (tlD d0 d1 d2 d3 mid r).1.Behind = d3 ∧ (tlD d0 d1 d2 d3 mid r).1.Mid = mid ∧
  r.1 = putsB [sealL (tlD d0 d1 d2 d3 mid r).1, ((tlD d0 d1 d2 d3 mid r).1.Table.l.length : Int)] ++ tabE (tlD d0 d1 d2 d3 mid r).1.Table.l := by
 unfold tlD at h ⊢
 split at h
 ·cases h
 ·rename_i c
  rw [if_neg c]
  simp only [y7, decide_eq_true_eq] at h
  have b1 := gN_isB hb
  have b2 := gN_isB b1
  have r0 := gN_rng r
  have r1 := gN_rng (gN r).2
  obtain ⟨h2, e2, l2⟩ := zbxv _ _ b2 h.1
  obtain ⟨h1, e1⟩ := gN_app b1 h2
  obtain ⟨h0, e0⟩ := gN_app hb h1
  have hnil : (entsR (gN (gN r).2).1.toNat (gN (gN r).2).2).2.1 = [] := y36 (by omega)
  rw [hnil, List.append_nil] at e2
  refine ⟨h0, rfl, rfl, rfl, rfl, rfl, ?_⟩
  have hs : ∀ (m : Sl Int) (t : Sl zjk), sealL ⟨d0, d1, d2, d3, m, decide (0 < (gN r).1), if (gN r).1 - 1 < 0 then 0 else (gN r).1 - 1, t⟩ = (gN r).1 := fun m t => by
   unfold sealL
   simp only [decide_eq_true_eq]
   split <;> (try split) <;> omega
  rw [hs]
  simp only [zbwk, l2, Int.toNat_of_nonneg r1.1]
  rw [show putsB [] = [] from rfl, List.append_nil, y34, ← e2, ← e1]
  exact e0
theorem zbxy {b : List Int} (hb : isB b) (h : (rdD b).2 = true) : delD (rdD b).1 = b := by
 have b1 : isB (n1 b).2.1 := gN_isB (r := (b, true)) hb
 have b2 : isB (n2 b).2.1 := gN_isB (r := (n1 b).2) b1
 have b3 : isB (n3 b).2.1 := gN_isB (r := (n2 b).2) b2
 have b4 : isB (n4 b).2.1 := gN_isB (r := (n3 b).2) b3
 have b5 : isB (n5 b).2.1 := gN_isB (r := (n4 b).2) b4
 have r5 : 0 ≤ (n5 b).1 ∧ (n5 b).1 < 4611686018427387904 := gN_rng (n4 b).2
 unfold rdD at h ⊢
 split at h
 ·cases h
 ·rename_i c
  rw [if_neg c]
  obtain ⟨t1, t2, t3, t4, t5, t6, t7⟩ := zbxx (zbxp b5).1 h
  obtain ⟨h5, e5, l5⟩ := zbxw _ _ b5 t1
  obtain ⟨h4, e4⟩ := gN_app (r := (n4 b).2) b4 h5
  obtain ⟨h3, e3⟩ := gN_app (r := (n3 b).2) b3 h4
  obtain ⟨h2, e2⟩ := gN_app (r := (n2 b).2) b2 h3
  obtain ⟨h1, e1⟩ := gN_app (r := (n1 b).2) b1 h2
  obtain ⟨h0, e0⟩ := gN_app (r := (b, true)) hb h1
  unfold delD
  rw [t2, t3, t4, t5, t6, y34, ← t7]
  simp only [zbwk, l5, Int.toNat_of_nonneg r5.1, y34]
  rw [show putsB [] = [] from rfl, y48, ← e5]
  change put (n1 b).1 ++ (put (n2 b).1 ++ (put (n3 b).1 ++ (put (n4 b).1 ++ (put (n5 b).1 ++ (n5 b).2.1)))) = b
  change (n4 b).2.1 = put (n5 b).1 ++ (n5 b).2.1 at e4
  change (n3 b).2.1 = put (n4 b).1 ++ (n4 b).2.1 at e3
  change (n2 b).2.1 = put (n3 b).1 ++ (n3 b).2.1 at e2
  change (n1 b).2.1 = put (n2 b).1 ++ (n2 b).2.1 at e1
  change b = put (n1 b).1 ++ (n1 b).2.1 at e0
  rw [← e4, ← e3, ← e2, ← e1, ← e0]
theorem zbxz : ∀ l : List zjk, l.length ≤ (tabE l).length
 | [] => by simp [tabE]
 | e :: l => by have := zbxz l; have := zbv2 e.Resp; rw [zbvx, y11, y22]; simp only [entB, y11]; omega
theorem zbx0 : ∀ l : List Int, l.length ≤ (numsB l).length
 | [] => by simp [numsB]
 | e :: l => by have := zbx0 l; have := zbv2 e; rw [zbvv, y11, y22]; omega
theorem zbx1 (d : zjm) : d.Mid.l.length ≤ (delD d).length ∧ d.Table.l.length ≤ (delD d).length := by
 have := zbxz d.Table.l
 have := zbx0 d.Mid.l
 simp only [delD, y11]; omega
def noDl : zjm := ⟨0, 0, 0, 0, ⟨true, []⟩, false, 0, ⟨true, []⟩⟩
/-- The delta of bytes. -/
def dcD (b : List Int) : zjm × Int :=
 if (decF b).2.2 = 0 then if (decF b).2.1 = (b.length : Int) then if (rdD (decF b).1).2 = true then if mayL (rdD (decF b).1).1 = true then ((rdD (decF b).1).1, 0) else (noDl, 1) else (noDl, 3) else (noDl, 16) else (noDl, (decF b).2.2)
theorem zbx2 {b : List Int} (hb : isB b) (hl : b.length ≤ 90000) : (decF b).1.length ≤ 90000 := by
 by_cases h : (decF b).2.2 = 0
 ·have := zbul (x := (decF b).1) (n := (decF b).2.1) hb (by rw [← h])
  have e := congrArg List.length this.2.2.2.2
  have := zbv1 (decF b).1
  rw [y21] at e; omega
 ·have := zbum (l := b) (x := (decF b).1) (n := (decF b).2.1) (e := (decF b).2.2) rfl h
  rw [this.1]; simp
theorem zbx3 (s : Sl Int) (z : Bool) (F : List Int × Int × Int) (R : zjm × Bool) (hF : Ev (fun q => zlm q s) (⟨z, true, F.1⟩, F.2.1, F.2.2)) (hR : Ev (fun q => zmq q ⟨z, F.1⟩) R) (h1 : R.2 = true → R.1.Mid.l.length ≤ 1000000 ∧ R.1.Table.l.length ≤ 1000000) :
  Ev (fun q => zm1 q s) (if F.2.2 = 0 then if F.2.1 = (s.l.length : Int) then if R.2 = true then if mayL R.1 = true then (R.1, 0) else (noDl, 1) else (noDl, 3) else (noDl, 16) else (noDl, F.2.2)) := by
 refine Ev.succ (Ev.bind hF (Ev.ite (fun c1 => Ev.ite (fun c2 => Ev.bind hR (Ev.ite (fun c3 => ?_) fun c3 => Ev.ret' ?_)) fun c2 => Ev.ret' ?_) fun c1 => Ev.ret' ?_)) (fun q => rfl)
 ·simp only at c1 c2
  have hb := h1 c3
  refine Ev.bind (zbwi _ hb.1 hb.2) (Ev.ite (fun c4 => Ev.ret' ?_) fun c4 => Ev.ret' ?_)
  ·rw [if_pos c1, if_pos c2, if_pos c3, if_pos c4]
  ·rw [if_pos c1, if_pos c2, if_pos c3, if_neg c4]; rfl
 ·simp only at c1 c2; rw [if_pos c1, if_pos c2, if_neg c3]; rfl
 ·simp only at c1 c2; rw [if_pos c1, if_neg c2]; rfl
 ·simp only at c1; rw [if_neg c1]; rfl
theorem zbx4 (s : Sl Int) (hz : s.z = true → s.l = []) (hb : isB s.l) (hl : s.l.length ≤ 90000) : Ev (fun q => zm1 q s) (dcD s.l) := by
 obtain ⟨z, hF⟩ := zbuk s hz hb (by omega)
 have hbd := zbun (l := s.l) hb
 have hsh := zbx2 hb hl
 exact zbx3 s z (decF s.l) (rdD (decF s.l).1) hF (zbxu ⟨z, (decF s.l).1⟩ hbd (by simp only; omega)) fun c3 => by
  have hi := zbxy hbd c3
  have hlg := zbx1 (rdD (decF s.l).1).1
  rw [hi] at hlg
  omega
theorem zbx5 {b : List Int} (hb : isB b) (h : (dcD b).2 = 0) : mayL (dcD b).1 = true ∧ encF (delD (dcD b).1) = b := by
 unfold dcD at h ⊢
 split at h
 ·rename_i c1
  split at h
  ·rename_i c2
   split at h
   ·rename_i c3
    split at h
    ·rename_i c4
     rw [if_pos c1, if_pos c2, if_pos c3, if_pos c4]
     refine ⟨c4, ?_⟩
     have hk := zbul (x := (decF b).1) (n := (decF b).2.1) hb (by rw [← c1])
     simp only
     rw [zbxy (zbun hb) c3, hk.2.2.2.2, c2, y29, List.take_length]
    ·cases h
   ·cases h
  ·cases h
 ·rename_i c; exact absurd h c
theorem zbx6 {b : List Int} (hb : isB b) (hl : b.length ≤ 90000) : (dcD b).1.Mid.l.length ≤ 90000 ∧ (dcD b).1.Table.l.length ≤ 90000 := by
 by_cases h : (dcD b).2 = 0
 ·have := zbx5 hb h
  have h1 := zbx1 (dcD b).1
  have h2 := zbv1 (delD (dcD b).1)
  rw [this.2] at h2
  omega
 ·have : (dcD b).1 = noDl := by
   unfold dcD at h ⊢
   split at h
   ·split at h
    ·split at h
     ·split at h
      ·exact absurd rfl h
      ·rename_i c1 c2 c3 c4; rw [if_pos c1, if_pos c2, if_pos c3, if_neg c4]
     ·rename_i c1 c2 c3; rw [if_pos c1, if_pos c2, if_neg c3]
    ·rename_i c1 c2; rw [if_pos c1, if_neg c2]
   ·rename_i c1; rw [if_neg c1]
  rw [this]; simp [noDl]
theorem zbx7 : ∀ (a0 : (Sl Int)), okSl (fun x => inR .u8 x) a0 → ∃ q, znj q a0 = some true := by
 intro s hs
 have hb := isB_of hs
 refine Ev.get (Ev.succ (Ev.bind zbvr (Ev.ite (fun h => Ev.ret _) fun h => Ev.bind (zbx4 s hs.1 hb (by omega)) (Ev.ite (fun c => ?_) fun c => Ev.ret _))) (fun q => rfl))
 have hi := zbx5 hb c
 have hn := zbx6 hb (by omega)
 obtain ⟨z, hE⟩ := zbws (dcD s.l).1 (by omega) (by omega)
 rw [if_pos hi.1] at hE
 exact Ev.bind hE (Ev.pos rfl (Ev.pos rfl (Ev.ret' (by simp only [decide_eq_true_eq]; exact hi.2))))
end Go.Dvm.I
