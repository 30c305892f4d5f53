/- Plain laws of the functions: part 1. -/
import Derived.Test.YtnppecdklidmmaaGreatQi
set_option linter.all false
set_option maxRecDepth 100000
namespace Go.Dvm.I
open Go Go.Dvm
/-- With enough rounds. -/
def Ev {R : Type} (g : Nat → Option R) (r : R) : Prop := ∃ N, ∀ q, N ≤ q → g q = some r
section
variable {R S : Type}
theorem Ev.ret (r : R) : Ev (fun _ => some r) r := ⟨0, fun _ _ => rfl⟩
theorem Ev.ret' {r r' : R} (h : r = r') : Ev (fun _ => some r) r' := ⟨0, fun _ _ => by rw [h]⟩
theorem Ev.succ {f g : Nat → Option R} {r : R} (h : Ev g r) (e : ∀ q, f (q + 1) = g q) : Ev f r := by
 obtain ⟨N, h⟩ := h
 refine ⟨N + 1, fun q hq => ?_⟩
 obtain ⟨q, rfl⟩ : ∃ p, q = p + 1 := ⟨q - 1, by omega⟩
 rw [e]; exact h q (by omega)
theorem Ev.bind {g : Nat → Option S} {k : Nat → S → Option R} {s : S} {r : R} (h : Ev g s) (h2 : Ev (fun q => k q s) r) : Ev (fun q => (g q).bind (k q)) r := by
 obtain ⟨N, h⟩ := h
 obtain ⟨M, h2⟩ := h2
 exact ⟨N + M, fun q hq => by show (g q).bind (k q) = some r; rw [h q (by omega), y4]; exact h2 q (by omega)⟩
theorem Ev.opt {o : Option S} {k : Nat → S → Option R} {s : S} {r : R} (h : o = some s) (h2 : Ev (fun q => k q s) r) : Ev (fun q => o.bind (k q)) r := by
 subst h; exact h2
theorem Ev.pos {c : Prop} [Decidable c] {a b : Nat → Option R} {r : R} (hc : c) (h : Ev a r) : Ev (fun q => if c then a q else b q) r := by
 obtain ⟨N, h⟩ := h
 exact ⟨N, fun q hq => by show (if c then a q else b q) = some r; rw [if_pos hc]; exact h q hq⟩
theorem Ev.neg {c : Prop} [Decidable c] {a b : Nat → Option R} {r : R} (hc : ¬ c) (h : Ev b r) : Ev (fun q => if c then a q else b q) r := by
 obtain ⟨N, h⟩ := h
 exact ⟨N, fun q hq => by show (if c then a q else b q) = some r; rw [if_neg hc]; exact h q hq⟩
theorem Ev.po {c : Prop} [Decidable c] {a b : Nat → Option R} {r : R} (h : Ev a r) (hc : c := by omega) : Ev (fun q => if c then a q else b q) r := Ev.pos hc h
theorem Ev.ne {c : Prop} [Decidable c] {a b : Nat → Option R} {r : R} (h : Ev b r) (hc : ¬ c := by omega) : Ev (fun q => if c then a q else b q) r := Ev.neg hc h
theorem Ev.ite {c : Prop} [Decidable c] {a b : Nat → Option R} {r : R} (h1 : c → Ev a r) (h2 : ¬ c → Ev b r) : Ev (fun q => if c then a q else b q) r := by
 by_cases hc : c
 ·exact .pos hc (h1 hc)
 ·exact .neg hc (h2 hc)
theorem Ev.get {f : Nat → Option R} {r : R} (h : Ev f r) : ∃ q, f q = some r := by
 obtain ⟨N, h⟩ := h; exact ⟨N, h N (y13 _)⟩
theorem Ev.cast {f : Nat → Option R} {r r' : R} (h : Ev f r) (e : r = r') : Ev f r' := e ▸ h
end
theorem zcfl {x : Int} (h1 : -9223372036854775808 ≤ x) (h2 : x ≤ 9223372036854775807) : wrp .i64 x = x := by
 unfold wrp; simp [IntKind.wrap, IntKind.min, IntKind.max, IntKind.signed, IntKind.bits] <;> omega
theorem zcfm {x : Int} (h1 : 0 ≤ x) (h2 : x ≤ 18446744073709551615) : wrp .u64 x = x := by
 unfold wrp; simp [IntKind.wrap, IntKind.min, IntKind.max, IntKind.signed, IntKind.bits] <;> omega
theorem zcfn {x : Int} (h1 : 0 ≤ x) (h2 : x ≤ 4294967295) : wrp .u32 x = x := by
 unfold wrp; simp [IntKind.wrap, IntKind.min, IntKind.max, IntKind.signed, IntKind.bits] <;> omega
theorem wrp_u8 (x : Int) : wrp .u8 x = x % 256 := by
 unfold wrp; simp [IntKind.wrap, IntKind.min, IntKind.max, IntKind.signed, IntKind.bits] <;> omega
theorem zcfo {x : Int} (h1 : 0 ≤ x) : ishr .u64 x 7 = x / 128 := by
 unfold ishr; simp [IntKind.bits]
 rw [y53]; omega
theorem or128 {x : Int} (h1 : 0 ≤ x) (h2 : x < 256) : ibits .or .u8 x 128 = x % 128 + 128 := by
 obtain ⟨n, rfl⟩ := Int.eq_ofNat_of_zero_le h1
 have hn : n < 256 := by omega
 have : ∀ m : Fin 256, ibits .or .u8 (m.val : Int) 128 = (m.val : Int) % 128 + 128 := by unfold ibits; decide +kernel
 exact this ⟨n, hn⟩
/-- A number's groups. -/
def grp (n : Nat) : List Int := if h : n < 128 then [(n : Int)] else ((n % 128 + 128 : Nat) : Int) :: grp (n / 128)
theorem grp_lt {n : Nat} (h : n < 128) : grp n = [(n : Int)] := by rw [grp, dif_pos h]
theorem grp_ge {n : Nat} (h : ¬ n < 128) : grp n = ((n % 128 + 128 : Nat) : Int) :: grp (n / 128) := by rw [grp, dif_neg h]
theorem zcfp : ∀ (k : Nat) {n : Nat}, n < 128 ^ (k + 1) → (grp n).length ≤ k + 1
 | 0, n, h => by rw [grp_lt (by simpa using h)]; simp
 | k + 1, n, h => by
  by_cases hn : n < 128
  ·rw [grp_lt hn]; simp
  ·rw [grp_ge hn]
   have := zcfp k (n := n / 128) (by rw [Nat.div_lt_iff_lt_mul (by omega)]; rw [Nat.pow_succ] at h; exact h)
   simp; omega
theorem zcfq {n : Nat} (h : n < 18446744073709551616) : (grp n).length ≤ 10 := zcfp 9 (by omega)
theorem zcfr (n : Nat) : 1 ≤ (grp n).length := by
 by_cases hn : n < 128
 ·rw [grp_lt hn]; simp
 ·rw [grp_ge hn]; simp
theorem zcfs : ∀ (n : Nat) (z : Bool) (l : List Int) (x : Bool), l.length + (grp n).length ≤ 4294967296 → Ev (fun q => zlw q (n : Int) z l x) ⟨false, x, l ++ grp n⟩ := by
 intro n
 induction n using Nat.strongRecOn with
 | ind n ih =>
  intro z l x hl
  refine Ev.succ ?_ (fun q => rfl)
  by_cases hn : n < 128
  ·rw [grp_lt hn] at hl ⊢
   refine Ev.ne (Ev.pos (by simpa using hl) (Ev.ret' ?_))
   rw [wrp_u8]; congr 3; omega
  ·rw [grp_ge hn] at hl ⊢
   simp only [y20] at hl
   refine Ev.po (Ev.pos (by omega) ?_)
   rw [zcfo (by omega), wrp_u8, or128 (by omega) (by omega)]
   have := ih (n / 128) (by omega) false (l ++ [((n % 128 + 128 : Nat) : Int)]) x (by simp; omega)
   rw [show ((n : Int) % 256 % 128 + 128) = ((n % 128 + 128 : Nat) : Int) by omega, show ((n : Int) / 128) = ((n / 128 : Nat) : Int) by omega]
   simpa using this
theorem zcft {u : Int} (h1 : 0 ≤ u) (b : Ow Int) (hl : b.xs.length + (grp u.toNat).length ≤ 4294967296) : Ev (fun q => zlx q b u) ⟨false, b.x, b.xs ++ grp u.toNat⟩ := by
 have := zcfs u.toNat b.n b.xs b.x hl
 rw [Int.toNat_of_nonneg h1] at this
 exact Ev.succ this (fun q => rfl)
/-- What a number puts behind bytes. -/
def put (n : Int) : List Int := if n < 0 then [] else if 4611686018427387904 ≤ n then [] else grp n.toNat
theorem put_ok {n : Int} (h1 : 0 ≤ n) (h2 : n < 4611686018427387904) : put n = grp n.toNat := by
 unfold put; rw [if_neg (by omega), if_neg (by omega)]
theorem zcfu (n : Int) : (put n).length ≤ 10 := by
 unfold put; split
 ·simp
 ·split
  ·simp
  ·exact zcfq (by omega)
theorem zcfv {n : Int} (b : Ow Int) (h1 : 0 ≤ n) (h2 : n < 4611686018427387904) (hl : b.xs.length + 10 ≤ 4294967296) : Ev (fun q => zly q b n) ⟨false, b.x, b.xs ++ put n⟩ := by
 refine Ev.succ ?_ (fun q => rfl)
 rw [put_ok h1 h2]
 have hg := zcfq (n := n.toNat) (by omega)
 refine Ev.ne (Ev.neg (by omega) ?_)
 rw [zcfm h1 (by omega)]
 exact Ev.bind (zcft h1 b (by omega)) (Ev.ret _)
/-- Zigzag. -/
def zig (n : Int) : Nat := if 0 ≤ n then 2 * n.toNat else 2 * (-n).toNat - 1
theorem zig_lt {n : Int} (h : inR .i64 n) : zig n < 18446744073709551616 := by
 simp [inR, IntKind.min, IntKind.max, IntKind.signed, IntKind.bits] at h
 unfold zig; split <;> omega
def putS (n : Int) : List Int := grp (zig n)
theorem zcfw (k : IntKind) (n : Int) : k.wrap n = wrp k n := by unfold wrp; rfl
theorem xor0 {x : Int} (h1 : 0 ≤ x) (h2 : x < 18446744073709551616) : ibits .xor .u64 x 0 = x := by
 have e : ibits .xor .u64 x 0 = IntKind.wrap .u64 (((BitVec.ofInt 64 x ^^^ 0#64 : BitVec 64).toNat : Nat) : Int) := by unfold ibits; rfl
 rw [e, BitVec.xor_zero, y48, zcfw, zcfm] <;> omega
theorem xor1 {x : Int} (h1 : 0 ≤ x) (h2 : x < 18446744073709551616) : ibits .xor .u64 x 18446744073709551615 = 18446744073709551615 - x := by
 have e : ibits .xor .u64 x 18446744073709551615 = IntKind.wrap .u64 (((BitVec.ofInt 64 x ^^^ BitVec.allOnes 64 : BitVec 64).toNat : Nat) : Int) := by unfold ibits; rfl
 rw [e, BitVec.xor_allOnes, BitVec.toNat_not, y48, zcfw, zcfm] <;> omega
theorem ishl1 {x : Int} (h1 : 0 ≤ x) : ishl .u64 x 1 = (2 * x) % 18446744073709551616 := by
 unfold ishl
 simp [IntKind.wrap, IntKind.signed, IntKind.bits]
 omega
theorem zcfx (x : Int) : wrp .u64 x = x % 18446744073709551616 := by
 unfold wrp; simp [IntKind.wrap, IntKind.signed, IntKind.bits]
theorem ishr63 {x : Int} (h : inR .i64 x) : ishr .i64 x 63 = if 0 ≤ x then 0 else -1 := by
 simp [inR, IntKind.min, IntKind.max, IntKind.signed, IntKind.bits] at h
 unfold ishr; simp [IntKind.bits]
 rw [y53 _ (by omega)]
 split <;> omega
theorem zcfy {n : Int} (h : inR .i64 n) : Ev (fun q => zlz q n) ((zig n : Nat) : Int) := by
 refine Ev.succ (Ev.ret' ?_) (fun q => rfl)
 have hr := h
 simp [inR, IntKind.min, IntKind.max, IntKind.signed, IntKind.bits] at hr
 rw [ishr63 h]
 by_cases h0 : 0 ≤ n
 ·rw [if_pos h0, zcfm h0 (by omega), ishl1 h0, zcfm (by omega) (by omega), xor0 (by omega) (by omega)]
  unfold zig; rw [if_pos h0]; omega
 ·rw [if_neg h0, zcfx n, ishl1 (by omega), show wrp .u64 (-1) = 18446744073709551615 by rw [zcfx]; rfl, xor1 (by omega) (by omega)]
  unfold zig; rw [if_neg h0]; omega
theorem zcfz {n : Int} (b : Ow Int) (h : inR .i64 n) (hl : b.xs.length + 10 ≤ 4294967296) : Ev (fun q => zl0 q b n) ⟨false, b.x, b.xs ++ putS n⟩ := by
 refine Ev.succ ?_ (fun q => rfl)
 have hg := zcfq (zig_lt h)
 have := zcft (u := (zig n : Nat)) (by omega) b (by simpa using (by omega : b.xs.length + (grp (zig n)).length ≤ 4294967296))
 rw [y27] at this
 exact Ev.bind (zcfy h) (Ev.bind this (Ev.ret _))
theorem inR64 {x : Int} (h : inR .i64 x) : -9223372036854775808 ≤ x ∧ x ≤ 9223372036854775807 := by
 simp [inR, IntKind.min, IntKind.max, IntKind.signed, IntKind.bits] at h; omega
def cutI (n : Int) : Int := if n < -1099511627776 then -1099511627776 else if 1099511627776 < n then 1099511627776 else n
theorem zcf0 (n : Int) : Ev (fun q => zku q n) (cutI n) := by
 refine Ev.succ (Ev.ret' ?_) (fun q => rfl)
 unfold cutI; split <;> split <;> split <;> (try split) <;> omega
def fitsOp (o : zkn) : Bool := decide (0 ≤ o.Code) && (decide (o.Code ≤ 10) && (decide (o.A = cutI o.A) && decide (o.B = cutI o.B)))
theorem zcf1 (o : zkn) : Ev (fun q => zkv q o) (fitsOp o) := by
 refine Ev.succ ?_ (fun q => rfl)
 unfold fitsOp
 refine Ev.ite (fun h => Ev.ite (fun h1 => Ev.bind (zcf0 _) (Ev.ite (fun h2 => Ev.bind (zcf0 _) (Ev.ret' ?_)) fun h2 => Ev.ret' ?_)) fun h1 => Ev.ret' ?_) fun h => Ev.ret' ?_
 ·rw [decide_eq_true h, decide_eq_true h1, decide_eq_true h2]; rfl
 ·rw [decide_eq_true h, decide_eq_true h1, decide_eq_false h2]; rfl
 ·rw [decide_eq_true h, decide_eq_false h1]; rfl
 ·rw [decide_eq_false h]; rfl
theorem zcf2 {n : Int} : n = cutI n ↔ -1099511627776 ≤ n ∧ n ≤ 1099511627776 := by
 unfold cutI
 by_cases h1 : n < -1099511627776
 ·rw [if_pos h1]; omega
 ·rw [if_neg h1]
  by_cases h2 : 1099511627776 < n
  ·rw [if_pos h2]; omega
  ·rw [if_neg h2]; omega
theorem zcf3 {o : zkn} : fitsOp o = true ↔ 0 ≤ o.Code ∧ o.Code ≤ 10 ∧ (-1099511627776 ≤ o.A ∧ o.A ≤ 1099511627776) ∧ (-1099511627776 ≤ o.B ∧ o.B ≤ 1099511627776) := by
 simp only [fitsOp, y5, decide_eq_true_eq, zcf2]
def FitsR (r : zko) : Prop := 0 ≤ r.Index ∧ r.Index < 4611686018427387904 ∧ 0 ≤ r.Proc ∧ r.Proc ≤ 64 ∧ 0 ≤ r.Seq ∧ r.Seq < 4611686018427387904 ∧ fitsOp r.Op = true ∧ -1125899906842624 ≤ r.Resp ∧ r.Resp ≤ 1125899906842624
instance (r : zko) : Decidable (FitsR r) := by unfold FitsR; infer_instance
theorem zcf4 (r : zko) : Ev (fun q => zkw q r) (decide (FitsR r)) := by
 refine Ev.succ ?_ (fun q => rfl)
 refine Ev.ite (fun h1 => Ev.ite (fun h2 => Ev.ite (fun h3 => Ev.ite (fun h4 => Ev.ite (fun h5 => Ev.ite (fun h6 => Ev.bind (zcf1 _) (Ev.ite (fun h7 => Ev.ite (fun h8 => Ev.ret' ?_) fun h8 => Ev.ret' ?_) fun h7 => Ev.ret' ?_)) fun h6 => Ev.ret' ?_) fun h5 => Ev.ret' ?_) fun h4 => Ev.ret' ?_) fun h3 => Ev.ret' ?_) fun h2 => Ev.ret' ?_) fun h1 => Ev.ret' ?_ <;> simp only [FitsR, *] <;> simp
def opB (o : zkn) : List Int := put o.Code ++ (putS o.A ++ putS o.B)
theorem zcf5 {n : Int} (h : inR .i64 n) : (putS n).length ≤ 10 := zcfq (zig_lt h)
theorem zcf6 {n : Int} (h1 : -9223372036854775808 ≤ n) (h2 : n ≤ 9223372036854775807) : inR .i64 n := by
 simp [inR, IntKind.min, IntKind.max, IntKind.signed, IntKind.bits]; omega
theorem zcf7 {o : zkn} (h : fitsOp o = true) : (opB o).length ≤ 30 := by
 obtain ⟨h1, h2, h3, h4⟩ := zcf3.1 h
 have := zcfu o.Code
 have := zcf5 (n := o.A) (zcf6 (by omega) (by omega))
 have := zcf5 (n := o.B) (zcf6 (by omega) (by omega))
 simp only [opB, y9]; omega
theorem zcf8 {o : zkn} (b : Ow Int) (h : fitsOp o = true) (hl : b.xs.length + 30 ≤ 4294967296) : Ev (fun q => znb q b o) (⟨false, b.x, b.xs ++ opB o⟩, 0) := by
 obtain ⟨h1, h2, h3, h4⟩ := zcf3.1 h
 refine Ev.succ ?_ (fun q => rfl)
 have := zcfu o.Code
 have hA : inR .i64 o.A := zcf6 (by omega) (by omega)
 have hB : inR .i64 o.B := zcf6 (by omega) (by omega)
 have := zcf5 hA
 have := zcf5 hB
 refine Ev.bind (zcf1 o) (Ev.pos h (Ev.bind (zcfv b h1 (by omega) (by omega)) (Ev.bind (zcfz _ hA (by simp; omega)) (Ev.bind (zcfz _ hB (by simp; omega)) (Ev.ret' ?_)))))
 simp [opB]
def fieldsOf (v : Int) : List Int := if v = 1 then [1, 2, 4] else if v = 2 then [1, 2, 3, 4] else [1, 2, 3, 4, 5]
theorem zcf9 {v : Int} (h : v < 1 ∨ 3 < v) : Ev (fun q => znj q v) ⟨true, true, []⟩ := by
 refine Ev.succ (Ev.ite (fun h => Ev.ret _) fun h1 => Ev.po (Ev.ret _)) (fun q => rfl)
theorem zcga {v : Int} (h1 : 1 ≤ v) (h2 : v ≤ 3) : Ev (fun q => znj q v) ⟨false, true, fieldsOf v⟩ := by
 refine Ev.succ (Ev.ne (Ev.ne (Ev.po (Ev.po (Ev.neg (by omega) ?_))))) (fun q => rfl)
 unfold fieldsOf
 refine Ev.ite (fun h => ?_) fun h => Ev.ite (fun h1 => ?_) fun h1 => Ev.pos (by omega) ?_
 ·rw [if_pos (by omega)]; exact Ev.ret _
 ·rw [if_neg (by omega), if_pos (by omega)]; exact Ev.ret _
 ·rw [if_neg (by omega), if_neg (by omega)]; exact Ev.ret _
theorem zcgb {v : Int} : (∀ f ∈ fieldsOf v, 1 ≤ f ∧ f ≤ 5) ∧ (fieldsOf v).length ≤ 5 := by
 unfold fieldsOf; split
 ·simp
 ·split <;> simp
/-- The first place of a number. -/
def idxI (x : Int) : List Int → Nat → Int
 | [], _ => -1
 | a :: l, i => if x = a then (i : Int) else idxI x l (i + 1)
theorem zcgc {x : Int} : ∀ {l : List Int} {i : Nat}, 0 ≤ idxI x l i ↔ x ∈ l
 | [], i => by simp [idxI]
 | a :: l, i => by
  simp only [idxI, List.mem_cons]
  by_cases h : x = a
  ·simp [h]
  ·rw [if_neg h, zcgc]; simp [h]
theorem zcgd (z : Bool) (L : List Int) (x : Int) (hL : L.length ≤ 1000000) : ∀ (k i : Nat), L.length = i + k → Ev (fun q => znk q z L x (L.length : Int) (i : Int)) (idxI x (L.drop i) i)
 | 0, i, hk => by
  refine Ev.succ (Ev.ne (Ev.ret' ?_)) (fun q => rfl)
  rw [y11 (by omega)]; rfl
 | k + 1, i, hk => by
  have hi : i < L.length := by omega
  have hg : L[(i : Int).toNat]? = some L[i] := by simpa using y6 hi
  refine Ev.succ (Ev.po (Ev.po (Ev.opt hg ?_))) (fun q => rfl)
  rw [y8 hi]
  simp only [idxI]
  refine Ev.ite (fun h => ?_) fun h => ?_
  ·rw [if_pos h]; exact Ev.ret _
  ·rw [if_neg h, zcfl (by omega) (by omega), show ((i : Int) + 1) = ((i + 1 : Nat) : Int) by omega]
   exact zcgd z L x hL k (i + 1) (by omega)
theorem zcge (s : Sl Int) (x : Int) (hL : s.l.length ≤ 1000000) : Ev (fun q => znl q s x) (idxI x s.l 0) := by
 have := zcgd s.z s.l x hL s.l.length 0 (by simp)
 rw [y37] at this
 exact Ev.succ this (fun q => rfl)
def noR : zko := ⟨0, 0, 0, ⟨0, 0, 0⟩, 0⟩
abbrev B32 := BitVec 32
def u (a : B32) : Int := (a.toNat : Int)
theorem u_nn (a : B32) : 0 ≤ u a := Int.natCast_nonneg _
theorem u_lt (a : B32) : u a < 4294967296 := by unfold u; have := a.isLt; omega
theorem zcgf (a : B32) : BitVec.ofInt 32 (u a) = a := by
 apply BitVec.eq_of_toNat_eq; rw [y48]; unfold u; have := a.isLt; omega
theorem wrp_u (a : B32) : IntKind.wrap .u32 ((a.toNat : Nat) : Int) = u a := by
 have := a.isLt
 rw [zcfw, zcfn (by omega) (by omega)]; rfl
theorem xor_u (a b : B32) : ibits .xor .u32 (u a) (u b) = u (a ^^^ b) := by
 have e : ibits .xor .u32 (u a) (u b) = IntKind.wrap .u32 (((BitVec.ofInt 32 (u a) ^^^ BitVec.ofInt 32 (u b) : B32).toNat : Nat) : Int) := by unfold ibits; rfl
 rw [e, zcgf, zcgf, wrp_u]
theorem and_u (a b : B32) : ibits .and .u32 (u a) (u b) = u (a &&& b) := by
 have e : ibits .and .u32 (u a) (u b) = IntKind.wrap .u32 (((BitVec.ofInt 32 (u a) &&& BitVec.ofInt 32 (u b) : B32).toNat : Nat) : Int) := by unfold ibits; rfl
 rw [e, zcgf, zcgf, wrp_u]
theorem u_lit (n : Nat) (h : n < 4294967296) : u (BitVec.ofNat 32 n) = (n : Int) := by
 unfold u; rw [BitVec.toNat_ofNat]; omega
theorem zcgg (x : Int) : wrp .u32 x = x % 4294967296 := by
 unfold wrp; simp [IntKind.wrap, IntKind.signed, IntKind.bits]
theorem ishr_u (a : B32) (k : Nat) (hk : k ≤ 32) : ishr .u32 (u a) (k : Int) = u (a >>> k) := by
 unfold ishr u
 simp only [IntKind.bits, y27, Nat.min_eq_left hk]
 rw [y53 _ (by exact_mod_cast Nat.zero_le _), BitVec.toNat_ushiftRight, Nat.shiftRight_eq_div_pow]
 simp
theorem zcgh (a : B32) : ishr .u32 (u a) 1 = u (a >>> 1) := ishr_u a 1 (by omega)
theorem zcgi (a : B32) : ishr .u32 (u a) 8 = u (a >>> 8) := ishr_u a 8 (by omega)
def poly : B32 := 2197175160#32
def bstep (a : B32) : B32 := if a &&& 1#32 = 1#32 then (a >>> 1) ^^^ poly else a >>> 1
theorem and1 (a : B32) : a &&& 1#32 = 0#32 ∨ a &&& 1#32 = 1#32 := by
 have : (a &&& 1#32).toNat = a.toNat % 2 := by rw [BitVec.toNat_and]; exact Nat.and_one_is_mod _
 rcases Nat.mod_two_eq_zero_or_one a.toNat with h | h
 ·left; exact BitVec.eq_of_toNat_eq (by rw [this, h]; rfl)
 ·right; exact BitVec.eq_of_toNat_eq (by rw [this, h]; rfl)
/-- The program's step. -/
theorem zcgj (a : B32) : ibits .xor .u32 (ishr .u32 (u a) 1) (ibits .and .u32 2197175160 (wrp .u32 (0 - (ibits .and .u32 (u a) 1)))) = u (bstep a) := by
 have e1 : (1 : Int) = u 1#32 := rfl
 have e2 : (2197175160 : Int) = u poly := by unfold poly; rw [u_lit _ (by omega)]; rfl
 rw [zcgh]
 conv => lhs; arg 4; rw [e2]; arg 4; rw [e1, and_u]
 unfold bstep
 rcases and1 a with h | h
 ·rw [h, if_neg (by decide)]
  have : wrp .u32 (0 - u 0#32) = u 0#32 := by rw [zcgg]; rfl
  rw [this, and_u, BitVec.and_zero, xor_u, BitVec.xor_zero]
 ·rw [h, if_pos rfl]
  have : wrp .u32 (0 - u 1#32) = u (BitVec.allOnes 32) := by rw [zcgg]; rfl
  rw [this, and_u, BitVec.and_allOnes, xor_u]
def biter : Nat → B32 → B32
 | 0, a => a
 | n + 1, a => biter n (bstep a)
def bentry (a : B32) : B32 := biter 8 a
theorem zcgk (v2 v5 : Int) (t0 t1 : List Int) (r : List Int) : ∀ (k : Nat) (a : B32) (v10 : Int), v10 = 8 - k → k ≤ 8 → 0 ≤ v2 → v2.toNat < 256 → v2.toNat + 1 ≤ t1.length →
  Ev (fun q => zl1 q (wrp .i64 (v5 + 1)) t0 (List.set t1 v2.toNat (u (biter k a)))) r → Ev (fun q => zl2 q v2 (u a) v5 v10 t0 t1) r
 | 0, a, v10, h1, h2, h3, h4, h5, h => Ev.succ (Ev.ne (Ev.pos h3 (Ev.pos h4 (Ev.pos h5 h)))) (fun q => rfl)
 | k + 1, a, v10, h1, h2, h3, h4, h5, h => by
  refine Ev.succ (Ev.pos (by omega) ?_) (fun q => rfl)
  rw [zcgj, zcfl (by omega) (by omega)]
  exact zcgk v2 v5 t0 t1 r k (bstep a) (v10 + 1) (by omega) (by omega) h3 h4 h5 h
/-- The table. -/
def tabN (n : Nat) : List Int := (List.range n).map fun i => u (bentry (BitVec.ofNat 32 i))
theorem zcgl {n i : Nat} (h : i < n) : (tabN n)[i]? = some (u (bentry (BitVec.ofNat 32 i))) := by
 unfold tabN; rw [y41, List.getElem?_range h]; rfl
theorem zcgm (n : Nat) : (tabN n).length = n := by simp [tabN]
theorem zcgn : ∀ (k i : Nat) (t1 : List Int), i + k = 256 → t1.length = 256 → (∀ j, j < i → t1[j]? = (tabN 256)[j]?) → Ev (fun q => zl1 q (i : Int) (List.replicate 256 0) t1) (tabN 256)
 | 0, i, t1, hk, hl, ht => by
  refine Ev.succ (Ev.ne (Ev.po (Ev.po (Ev.pos (by simp) (Ev.pos (by simp) (Ev.ret' ?_)))))) (fun q => rfl)
  have e : t1 = tabN 256 := by
   apply List.ext_getElem?
   intro j
   by_cases hj : j < 256
   ·exact ht j (by omega)
   ·rw [y50 (by omega), y50 (by rw [zcgm]; omega)]
  have h2 := zcgm 256
  rw [e, List.take_of_length_le (i := 256) (by omega : (tabN 256).length ≤ 256), y11 (by simp), List.append_nil, List.take_of_length_le (by omega)]
 | k + 1, i, t1, hk, hl, ht => by
  refine Ev.succ (Ev.pos (by omega) ?_) (fun q => rfl)
  have e : wrp .u32 (i : Int) = u (BitVec.ofNat 32 i) := by rw [u_lit _ (by omega), zcfn] <;> omega
  rw [e]
  refine zcgk _ _ _ _ _ 8 _ 0 (by omega) (by omega) (by omega) (by omega) (by omega) ?_
  rw [zcfl (by omega) (by omega), show ((i : Int) + 1) = ((i + 1 : Nat) : Int) by omega, y27]
  refine zcgn k (i + 1) _ (by omega) (by simpa using hl) fun j hj => ?_
  by_cases e : i = j
  ·subst e; rw [y22 (by omega), zcgl (by omega)]; rfl
  ·rw [y28 e]; exact ht j (by omega)
theorem zcgo : Ev (fun q => zl3 q) (tabN 256) :=
 Ev.succ (zcgn 256 0 (List.replicate 256 0) (by omega) (by simp) (fun j hj => by omega)) (fun q => rfl)
/-- What a byte makes of a sum. -/
def bbyte (x : B32) (c : Int) : B32 := bentry ((x ^^^ BitVec.ofInt 32 c) &&& 255#32) ^^^ (x >>> 8)
def bmore (x : B32) (l : List Int) : B32 := l.foldl bbyte x
def isB (l : List Int) : Prop := ∀ c ∈ l, 0 ≤ c ∧ c < 256
theorem xor8 {x : B32} {c : Int} (h1 : 0 ≤ c) (h2 : c < 256) : ibits .xor .u8 (wrp .u8 (u x)) c = u ((x ^^^ BitVec.ofInt 32 c) &&& 255#32) := by
 have e : ibits .xor .u8 (wrp .u8 (u x)) c = IntKind.wrap .u8 (((BitVec.ofInt 8 (wrp .u8 (u x)) ^^^ BitVec.ofInt 8 c : BitVec 8).toNat : Nat) : Int) := by unfold ibits; rfl
 rw [e, zcfw, wrp_u8, wrp_u8]
 unfold u
 rw [BitVec.toNat_and, BitVec.toNat_xor, BitVec.toNat_xor, y48, y48, y48]
 obtain ⟨n, rfl⟩ := Int.eq_ofNat_of_zero_le h1
 have hn : n < 256 := by omega
 have e1 : (((x.toNat : Int) % 256 % ((2 ^ 8 : Nat) : Int)).toNat) = x.toNat % 256 := by omega
 have e2 : (((n : Int) % ((2 ^ 8 : Nat) : Int)).toNat) = n := by omega
 have e3 : (((n : Int) % ((2 ^ 32 : Nat) : Int)).toNat) = n := by omega
 rw [e1, e2, e3, show (255#32).toNat = 2 ^ 8 - 1 from rfl, Nat.and_two_pow_sub_one_eq_mod]
 have h3 : (x.toNat ^^^ n) % 2 ^ 8 = (x.toNat % 2 ^ 8) ^^^ (n % 2 ^ 8) := Nat.xor_mod_two_pow
 rw [h3, Nat.mod_eq_of_lt (show n < 2 ^ 8 by omega)]
 have h4 : (x.toNat % 2 ^ 8) ^^^ n < 2 ^ 8 := Nat.xor_lt_two_pow (Nat.mod_lt _ (by omega)) (by omega)
 simp only [Nat.reducePow] at h4 ⊢
 omega
theorem and255 (x : B32) : u (x &&& 255#32) < 256 := by
 unfold u
 rw [BitVec.toNat_and, show (255#32).toNat = 2 ^ 8 - 1 from rfl, Nat.and_two_pow_sub_one_eq_mod]; omega
theorem zcgp (a : B32) : (u a).toNat = a.toNat := by unfold u; omega
theorem ones : (4294967295 : Int) = u (BitVec.allOnes 32) := rfl
theorem zcgq (z : Bool) (l : List Int) (hb : isB l) (hl : l.length ≤ 1099511627776) : ∀ (k i : Nat) (x : B32), l.length = i + k → Ev (fun q => zl4 q (u x) z l (l.length : Int) (i : Int) (tabN 256)) (u (~~~ bmore x (l.drop i)))
 | 0, i, x, hk => by
  refine Ev.succ (Ev.ne (Ev.ret' ?_)) (fun q => rfl)
  rw [y11 (by omega), ones, xor_u]
  simp only [bmore, List.foldl_nil, BitVec.allOnes_xor]
 | k + 1, i, x, hk => by
  have hi : i < l.length := by omega
  have hg : l[(i : Int).toNat]? = some l[i] := by simpa using y6 hi
  obtain ⟨b1, b2⟩ := hb l[i] (y25 hi)
  refine Ev.succ (Ev.po (Ev.po (Ev.opt hg ?_))) (fun q => rfl)
  rw [xor8 b1 b2]
  have h255 := and255 (x ^^^ BitVec.ofInt 32 l[i])
  have hnn := u_nn ((x ^^^ BitVec.ofInt 32 l[i]) &&& 255#32)
  refine Ev.pos hnn (Ev.po (Ev.opt (zcgl (by omega)) ?_))
  rw [zcgi, xor_u, zcfl (by omega) (by omega), show ((i : Int) + 1) = ((i + 1 : Nat) : Int) by omega, zcgp]
  have := zcgq z l hb hl k (i + 1) (bentry ((x ^^^ BitVec.ofInt 32 l[i]) &&& 255#32) ^^^ (x >>> 8)) (by omega)
  rw [y8 hi]
  simp only [bmore, List.foldl_cons, bbyte, BitVec.ofNat_toNat, BitVec.setWidth_eq] at this ⊢
  exact this
theorem zcgr (x : B32) (s : Sl Int) (hb : isB s.l) (hl : s.l.length ≤ 1099511627776) : Ev (fun q => zl5 q (u x) s) (u (~~~ bmore (~~~ x) s.l)) := by
 refine Ev.succ (Ev.bind zcgo (Ev.pos (zcgm 256) ?_)) (fun q => rfl)
 rw [ones, xor_u, BitVec.allOnes_xor]
 have := zcgq s.z s.l hb hl s.l.length 0 (~~~ x) (by omega)
 rw [y37] at this
 exact this
/-- The sum of bytes. -/
def bsum (l : List Int) : B32 := ~~~ bmore (BitVec.allOnes 32) l
theorem zcgs (s : Sl Int) (hb : isB s.l) (hl : s.l.length ≤ 1099511627776) : Ev (fun q => zl6 q s) (u (bsum s.l)) := by
 have := zcgr 0#32 s hb hl
 exact Ev.succ (Ev.bind this (Ev.ret' (by simp [bsum]))) (fun q => rfl)
theorem zcgt (x : B32) (a b : List Int) : bmore (bmore x a) b = bmore x (a ++ b) := by simp [bmore]
theorem zcgu {x : Int} (h : 0 ≤ x) (k : Nat) (hk : k ≤ 64) : ishr .u64 x (k : Int) = x / ((2 ^ k : Nat) : Int) := by
 unfold ishr
 simp only [IntKind.bits, y27, Nat.min_eq_left hk]
 rw [y53 _ (by exact_mod_cast Nat.zero_le _)]
 simp
/-- A number in four bytes. -/
def fix4 (v : Nat) : List Int := [((v % 256 : Nat) : Int), ((v / 256 % 256 : Nat) : Int), ((v / 65536 % 256 : Nat) : Int), ((v / 16777216 % 256 : Nat) : Int)]
theorem zcgv (v k : Nat) (hk : k ≤ 8) : wrp .u8 (ishr .u64 (v : Int) (wrp .i64 (8 * (k : Int)))) = ((v / 2 ^ (8 * k) % 256 : Nat) : Int) := by
 rw [zcfl (by omega) (by omega), show (8 * (k : Int)) = ((8 * k : Nat) : Int) by omega, zcgu (by omega) _ (by omega), wrp_u8]
 exact_mod_cast rfl
def bytesFrom (v : Nat) : Nat → Nat → List Int
 | _, 0 => []
 | i, k + 1 => ((v / 2 ^ (8 * i) % 256 : Nat) : Int) :: bytesFrom v (i + 1) k
theorem zcgw {v m : Nat} (hm : m ≤ 8) : ∀ (k i : Nat) (l : List Int), m = i + k → l.length + k ≤ 4294967296 → Ev (fun q => zl7 q (v : Int) (m : Int) (i : Int) false l) ⟨false, true, l ++ bytesFrom v i k⟩
 | 0, i, l, hk, hl => Ev.succ (Ev.ne (Ev.ret' (by simp [bytesFrom]))) (fun q => rfl)
 | k + 1, i, l, hk, hl => by
  have w : wrp .i64 (8 * (i : Int)) = 8 * (i : Int) := zcfl (by omega) (by omega)
  refine Ev.succ (Ev.po (Ev.neg (by rw [w]; omega) (Ev.pos (by omega) ?_))) (fun q => rfl)
  rw [zcgv v i (by omega), zcfl (x := (i : Int) + 1) (by omega) (by omega), show ((i : Int) + 1) = ((i + 1 : Nat) : Int) by omega]
  refine (zcgw hm k (i + 1) _ (by omega) (by simp; omega)).cast ?_
  simp [bytesFrom]
theorem zcgx {v m : Nat} (h0 : 0 < m) (hm : m ≤ 8) : Ev (fun q => zl8 q (v : Int) (m : Int)) ⟨false, true, bytesFrom v 0 m⟩ := by
 obtain ⟨k, rfl⟩ : ∃ k, m = k + 1 := ⟨m - 1, by omega⟩
 have w : wrp .i64 (8 * ((0 : Nat) : Int)) = 0 := zcfl (by omega) (by omega)
 have key : ∀ i : Int, i = ((0 : Nat) : Int) → Ev (fun q => zl7 q (v : Int) ((k + 1 : Nat) : Int) i true []) ⟨false, true, bytesFrom v 0 (k + 1)⟩ := by
  intro i hi
  refine Ev.succ (Ev.po (Ev.neg (by rw [hi, w]; omega) (Ev.pos (by simp) ?_))) (fun q => rfl)
  rw [hi, zcgv v 0 (by omega), zcfl (x := ((0 : Nat) : Int) + 1) (by omega) (by omega), show (((0 : Nat) : Int) + 1) = ((0 + 1 : Nat) : Int) by omega]
  refine (zcgw hm k 1 _ (by omega) (by simp; omega)).cast ?_
  simp [bytesFrom]
 exact Ev.succ (key 0 rfl) (fun q => rfl)
theorem bytes4 (v : Nat) : bytesFrom v 0 4 = fix4 v := by simp [bytesFrom, fix4]
theorem zcgy {v : Nat} (h : v < 18446744073709551616) : Ev (fun q => zl8 q (v : Int) 4) ⟨false, true, fix4 v⟩ := by
 have := zcgx (v := v) (m := 4) (by omega) (by omega)
 rw [bytes4] at this; exact this
theorem zcgz (a : B32) : Ev (fun q => zl9 q (u a)) ⟨false, true, fix4 a.toNat⟩ := by
 have h1 := u_nn a; have h2 := u_lt a
 have e : wrp .u64 (u a) = ((a.toNat : Nat) : Int) := by rw [zcfm h1 (by omega)]; rfl
 exact Ev.succ (Ev.bind (by rw [e]; exact zcgy (by have := a.isLt; omega)) (Ev.ret _)) (fun q => rfl)
theorem zcg0 (a b : Sl Int) (ha : isB a.l) (hb : isB b.l) (la : a.l.length ≤ 1099511627776) (lb : b.l.length ≤ 1099511627776) : Ev (fun q => zma q a b) ⟨false, true, fix4 (bsum (a.l ++ b.l)).toNat⟩ := by
 have h2 := zcgr (bsum a.l) b hb lb
 have e : ~~~ bmore (~~~ bsum a.l) b.l = bsum (a.l ++ b.l) := by
  unfold bsum; rw [BitVec.not_not, zcgt]
 rw [e] at h2
 exact Ev.succ (Ev.bind (zcgs a ha la) (Ev.bind h2 (Ev.bind (zcgz _) (Ev.ret _)))) (fun q => rfl)
def flat (l : List (Sl Int)) : List Int := l.flatMap (·.l)
theorem zcg1 (a : Sl Int) (b : List (Sl Int)) : flat (a :: b) = a.l ++ flat b := by simp [flat]
theorem zcg2 (z0 : Bool) (L : List (Sl Int)) (z : Bool) (hL : L.length ≤ 1099511627776) : ∀ (k i : Nat) (m : Nat) (l : List Int), L.length = i + k → m + (flat (L.drop i)).length ≤ l.length →
  Ev (fun q => zmb q m z0 L (L.length : Int) (i : Int) z l) ⟨z, true, l.take m ++ flat (L.drop i)⟩
 | 0, i, m, l, hk, hl => by
  refine Ev.succ (Ev.ne (Ev.ret' ?_)) (fun q => rfl)
  rw [y11 (by omega)]; simp [flat]
 | k + 1, i, m, l, hk, hl => by
  have hi : i < L.length := by omega
  have hg : L[(i : Int).toNat]? = some L[i] := by simpa using y6 hi
  rw [y8 hi, zcg1, y9] at hl
  refine Ev.succ (Ev.po (Ev.po (Ev.opt hg (Ev.pos (by omega) ?_)))) (fun q => rfl)
  rw [zcfl (by omega) (by omega), show ((i : Int) + 1) = ((i + 1 : Nat) : Int) by omega]
  refine (zcg2 z0 L z hL k (i + 1) (m + L[i].l.length) _ (by omega) ?_).cast ?_
  ·simp only [y9, y19, y12]; omega
  ·congr 1
   rw [y8 hi, zcg1, ← y32]
   congr 1
   rw [List.take_append_of_le_length (by simp only [y9, y19]; omega), List.take_of_length_le (by simp only [y9, y19]; omega)]
theorem zcg3 (z0 : Bool) (L : List (Sl Int)) (hL : L.length ≤ 1099511627776) : ∀ (k i : Nat) (z : Bool) (l : List Int), L.length = i + k → l.length + (flat (L.drop i)).length ≤ 4294967296 →
  ∃ z', Ev (fun q => zmc q z0 L (L.length : Int) (i : Int) z l) ⟨z', true, l ++ flat (L.drop i)⟩
 | 0, i, z, l, hk, hl => ⟨z, by
  refine Ev.succ (Ev.ne (Ev.ret' ?_)) (fun q => rfl)
  rw [y11 (by omega)]; simp [flat]⟩
 | k + 1, i, z, l, hk, hl => by
  have hi : i < L.length := by omega
  have hg : L[(i : Int).toNat]? = some L[i] := by simpa using y6 hi
  rw [y8 hi, zcg1, y9] at hl
  obtain ⟨z', h⟩ := zcg3 z0 L hL k (i + 1) (z && (decide (L[i].l.length = 0))) (l ++ L[i].l) (by omega) (by simp only [y9]; omega)
  refine ⟨z', Ev.succ (Ev.po (Ev.po (Ev.opt hg (Ev.pos (by omega) ?_)))) (fun q => rfl)⟩
  rw [zcfl (by omega) (by omega), show ((i : Int) + 1) = ((i + 1 : Nat) : Int) by omega]
  refine h.cast ?_
  rw [y8 hi, zcg1]; simp
theorem zcg4 (z0 z9 : Bool) (L : List (Sl Int)) (hL : L.length ≤ 1099511627776) (hf : (flat L).length ≤ 4294967296) : ∀ (k i : Nat) (m : Nat), L.length = i + k → m + (flat (L.drop i)).length = (flat L).length →
  ∃ z', Ev (fun q => zme q z0 L (m : Int) z9 L (L.length : Int) (i : Int)) ⟨z', true, flat L⟩
 | 0, i, m, hk, hm => by
  rw [y11 (by omega)] at hm
  have hm2 : m = (flat L).length := by simpa [flat] using hm
  have w : wrp .i64 ((m : Int) - wrp .i64 0) = (m : Int) := by rw [zcfl (x := 0) (by omega) (by omega), zcfl (by omega) (by omega)]; omega
  by_cases h0 : 0 < m
  ·refine ⟨decide (wrp .i64 ((m : Int) - wrp .i64 0) = 0), Ev.succ (Ev.ne (Ev.ne (Ev.pos (by rw [w]; omega) (Ev.pos (by rw [w]; omega) (Ev.pos (by rw [w]; omega) (Ev.neg (by rw [w]; omega) ?_)))))) (fun q => rfl)⟩
   rw [w]
   have := zcg2 z0 L (decide ((m : Int) = 0)) hL L.length 0 0 (List.replicate (m : Int).toNat 0) (by omega) (by simp; omega)
   rw [y37] at this
   exact this
  ·have hnil : flat L = [] := y34 (by omega)
   match L, hk with
   | [], _ =>
    refine ⟨true, Ev.succ (Ev.neg (by simp) (Ev.neg (by omega) ?_)) (fun q => rfl)⟩
    rw [w]
    refine Ev.neg (by omega) ?_
    exact Ev.succ (g := fun _ => some ⟨true, true, []⟩) (Ev.ret' (by simp [flat])) (fun q => rfl)
   | a :: L', hk =>
    rw [zcg1] at hnil
    obtain ⟨z', h⟩ := zcg3 z0 (a :: L') hL L'.length 1 (decide (a.l.length = 0)) a.l (by simp; omega) (by
     have : flat (List.drop 1 (a :: L')) = flat L' := rfl
     rw [this, ← y9, hnil]; simp)
    refine ⟨z', Ev.succ (Ev.ne (Ev.neg (by omega) ?_)) (fun q => rfl)⟩
    rw [w]
    refine Ev.ne (Ev.succ (Ev.pos (by simp) (Ev.opt (s := a) rfl (Ev.pos ?_ ?_))) (fun q => rfl))
    ·have : a.l.length ≤ (a.l ++ flat L').length := by simp
     rw [hnil] at this; simp at this; simp [this]
    ·rw [zcfl (by omega) (by omega)]
     refine h.cast ?_
     rw [zcg1]; rfl
 | k + 1, i, m, hk, hm => by
  have hi : i < L.length := by omega
  have hg : L[(i : Int).toNat]? = some L[i] := by simpa using y6 hi
  rw [y8 hi, zcg1, y9] at hm
  obtain ⟨z', h⟩ := zcg4 z0 z9 L hL hf k (i + 1) (m + L[i].l.length) (by omega) (by omega)
  refine ⟨z', Ev.succ (Ev.po (Ev.po (Ev.opt hg ?_))) (fun q => rfl)⟩
  have w : wrp .i64 ((m : Int) + (L[i].l.length : Int)) = ((m + L[i].l.length : Nat) : Int) := by rw [zcfl (by omega) (by omega)]; omega
  rw [w, zcfl (by omega) (by omega), show ((i : Int) + 1) = ((i + 1 : Nat) : Int) by omega]
  exact Ev.neg (by omega) h
theorem zcg5 (s : Sl (Sl Int)) (hL : s.l.length ≤ 1099511627776) (hf : (flat s.l).length ≤ 4294967296) : ∃ z', Ev (fun q => zmf q s) ⟨z', true, flat s.l⟩ := by
 obtain ⟨z', h⟩ := zcg4 s.z s.z s.l hL hf s.l.length 0 0 (by omega) (by simp)
 exact ⟨z', Ev.succ h (fun q => rfl)⟩
theorem zcg6 : ∀ n, isB (grp n) := by
 intro n
 induction n using Nat.strongRecOn with
 | ind n ih =>
  by_cases h : n < 128
  ·rw [grp_lt h]; intro c hc; simp at hc; omega
  ·rw [grp_ge h]; intro c hc
   rcases List.mem_cons.1 hc with rfl | hc
   ·omega
   ·exact ih (n / 128) (by omega) c hc
theorem zcg7 (n : Int) : isB (put n) := by
 unfold put; split
 ·intro c hc; simp at hc
 ·split
  ·intro c hc; simp at hc
  ·exact zcg6 _
theorem zcg8 {a b : List Int} : isB (a ++ b) ↔ isB a ∧ isB b := by
 constructor
 ·intro h; exact ⟨fun c hc => h c (List.mem_append.2 (.inl hc)), fun c hc => h c (List.mem_append.2 (.inr hc))⟩
 ·rintro ⟨h1, h2⟩ c hc
  rcases List.mem_append.1 hc with h | h
  ·exact h1 c h
  ·exact h2 c h
/-- A frame. -/
def encF (l : List Int) : List Int := put (l.length : Int) ++ (l ++ fix4 (bsum (put (l.length : Int) ++ l)).toNat)
theorem zcg9 (s : Sl Int) (hb : isB s.l) (hl : s.l.length ≤ 1048576) : ∃ z, Ev (fun q => zmg q s) (⟨z, true, encF s.l⟩, 0) := by
 have hp := zcfu (s.l.length : Int)
 obtain ⟨z, h⟩ := zcg5 ⟨false, [⟨false, put (s.l.length : Int)⟩, s, ⟨false, fix4 (bsum (put (s.l.length : Int) ++ s.l)).toNat⟩]⟩ (by simp) (by simp [flat, fix4]; omega)
 refine ⟨z, Ev.succ (Ev.neg (by omega) ?_) (fun q => rfl)⟩
 refine Ev.bind (zcfv ⟨true, true, []⟩ (by omega) (by omega) (by simp)) ?_
 refine Ev.bind (zcg0 ⟨false, put (s.l.length : Int)⟩ s (zcg7 (s.l.length : Int)) hb (by simp only; omega) (by omega)) ?_
 refine Ev.bind h ?_
 exact Ev.ret' (by simp [encF, flat])
/-- The number that bytes begin with, from the i-th group on. -/
def rd : Nat → List Int → Option (Nat × Nat)
 | _, [] => none
 | i, c :: l => if 10 ≤ i then none else if i = 9 ∧ 1 < c then none else if c = 0 ∧ 0 < i then none else if c < 128 then some (c.toNat, 1) else (rd (i + 1) l).map fun p => ((c % 128).toNat + 128 * p.1, p.2 + 1)
def resN : Option (Nat × Nat) → Int × Int
 | none => (0, 0)
 | some p => (p.1, p.2)
theorem and127 {x : Int} (h1 : 0 ≤ x) (h2 : x < 256) : ibits .and .u8 x 127 = x % 128 := by
 obtain ⟨n, rfl⟩ := Int.eq_ofNat_of_zero_le h1
 have hn : n < 256 := by omega
 have : ∀ m : Fin 256, ibits .and .u8 (m.val : Int) 127 = (m.val : Int) % 128 := by unfold ibits; decide +kernel
 exact this ⟨n, hn⟩
theorem or64 {a b : Nat} (ha : a < 18446744073709551616) (hb : b < 18446744073709551616) : ibits .or .u64 (a : Int) (b : Int) = ((a ||| b : Nat) : Int) := by
 have e : ibits .or .u64 (a : Int) (b : Int) = IntKind.wrap .u64 (((BitVec.ofInt 64 (a : Int) ||| BitVec.ofInt 64 (b : Int) : BitVec 64).toNat : Nat) : Int) := by unfold ibits; rfl
 have e1 : (BitVec.ofInt 64 (a : Int)).toNat = a := by rw [y48]; omega
 have e2 : (BitVec.ofInt 64 (b : Int)).toNat = b := by rw [y48]; omega
 have e3 : a ||| b < 2 ^ 64 := Nat.or_lt_two_pow (by omega) (by omega)
 rw [e, BitVec.toNat_or, e1, e2, zcfw, zcfm (by omega) (by omega)]
theorem ishl64 {x k : Nat} (hk : k ≤ 64) : ishl .u64 (x : Int) (k : Int) = ((x * 2 ^ k % 18446744073709551616 : Nat) : Int) := by
 unfold ishl
 simp only [IntKind.bits, y27, Nat.min_eq_left hk]
 rw [zcfw, zcfx]
 have : ((x : Int) * 2 ^ k) = ((x * 2 ^ k : Nat) : Int) := by rw [Int.natCast_mul, Int.natCast_pow]; rfl
 rw [this]
 exact (Int.natCast_emod _ _).symm
theorem zcha {acc i : Nat} {c : Int} (hi : i ≤ 9) (h1 : 0 ≤ c) (h2 : c < 256) (ha : acc < 2 ^ (7 * i)) (h9 : i = 9 → c ≤ 1) :
  ibits .or .u64 (acc : Int) (ishl .u64 (wrp .u64 (ibits .and .u8 c 127)) (wrp .i64 (7 * (i : Int)))) = ((acc + (c % 128).toNat * 2 ^ (7 * i) : Nat) : Int) ∧ acc + (c % 128).toNat * 2 ^ (7 * i) < 18446744073709551616 ∧ acc + (c % 128).toNat * 2 ^ (7 * i) < 2 ^ (7 * (i + 1)) := by
 have hm : (c % 128).toNat < 128 := by omega
 have hp : 2 ^ (7 * i) ≤ 2 ^ 63 := Nat.pow_le_pow_right (by omega) (by omega)
 have hp1 : 2 ^ (7 * (i + 1)) = 128 * 2 ^ (7 * i) := by rw [show 7 * (i + 1) = 7 + 7 * i by omega, Nat.pow_add]
 have h4 : acc + (c % 128).toNat * 2 ^ (7 * i) < 2 ^ (7 * (i + 1)) := by
  rw [hp1]
  have : ((c % 128).toNat + 1) * 2 ^ (7 * i) ≤ 128 * 2 ^ (7 * i) := y16 _ (by omega)
  rw [y30] at this; omega
 have h5 : acc + (c % 128).toNat * 2 ^ (7 * i) < 18446744073709551616 := by
  by_cases e : i = 9
  ·have hc := h9 e
   have : (c % 128).toNat ≤ 1 := by omega
   subst e
   have h6 : (c % 128).toNat * 2 ^ (7 * 9) ≤ 1 * 2 ^ (7 * 9) := y16 _ this
   simp only [Nat.reduceMul, Nat.reducePow] at ha h6 ⊢
   omega
  ·have : 2 ^ (7 * (i + 1)) ≤ 2 ^ 63 := Nat.pow_le_pow_right (by omega) (by omega)
   simp only [Nat.reducePow] at this
   omega
 refine ⟨?_, h5, h4⟩
 rw [and127 h1 h2, zcfm (by omega) (by omega), zcfl (by omega) (by omega), show (7 * (i : Int)) = ((7 * i : Nat) : Int) by omega, show (c % 128) = (((c % 128).toNat : Nat) : Int) by omega, ishl64 (by omega)]
 have h6 : (c % 128).toNat * 2 ^ (7 * i) < 18446744073709551616 := by omega
 simp only [y27]
 rw [Nat.mod_eq_of_lt h6, or64 (by omega) h6]
 congr 1
 have := Nat.two_pow_add_eq_or_of_lt ha (c % 128).toNat
 rw [Nat.or_comm, Nat.mul_comm, ← this]; omega
theorem zchb (z : Bool) (L : List Int) (hb : isB L) (m : Nat) (hm : m = min 10 L.length) : ∀ (k i acc : Nat), m = i + k → acc < 2 ^ (7 * i) →
  Ev (fun q => zml q z L (acc : Int) (m : Int) (i : Int)) (match rd i (L.drop i) with | none => (0, 0) | some p => (((acc + p.1 * 2 ^ (7 * i) : Nat) : Int), ((i + p.2 : Nat) : Int)))
 | 0, i, acc, hk, ha => by
  refine Ev.succ (Ev.ne (Ev.ret' ?_)) (fun q => rfl)
  have : rd i (L.drop i) = none := by
   cases h : L.drop i with
   | nil => rfl
   | cons c l =>
    have : (L.drop i).length = l.length + 1 := by rw [h]; rfl
    rw [y12] at this
    simp only [rd]; rw [if_pos (by omega)]
  rw [this]
 | k + 1, i, acc, hk, ha => by
  have hi : i < L.length := by omega
  have hi9 : i ≤ 9 := by omega
  have hg : L[(i : Int).toNat]? = some L[i] := by simpa using y6 hi
  obtain ⟨b1, b2⟩ := hb L[i] (y25 hi)
  have w7 : wrp .i64 (7 * (i : Int)) = 7 * (i : Int) := zcfl (by omega) (by omega)
  have wi : wrp .i64 ((i : Int) + 1) = ((i + 1 : Nat) : Int) := by rw [zcfl (by omega) (by omega)]; omega
  rw [y8 hi]
  simp only [rd]
  rw [if_neg (by omega)]
  generalize hc : L[i] = c at hg b1 b2
  -- the ends
  have done : (i = 9 → c ≤ 1) → c < 128 → (((ibits .or .u64 (acc : Int) (ishl .u64 (wrp .u64 (ibits .and .u8 c 127)) (wrp .i64 (7 * (i : Int))))), (wrp .i64 ((i : Int) + 1))) : Int × Int) = (((acc + c.toNat * 2 ^ (7 * i) : Nat) : Int), ((i + 1 : Nat) : Int)) := by
   intro h9 h128
   rw [(zcha hi9 b1 b2 ha h9).1, wi, show (c % 128).toNat = c.toNat by omega]
  have rest : i ≠ 9 → ¬ c < 128 → Ev (fun q => zml q z L (ibits .or .u64 (acc : Int) (ishl .u64 (wrp .u64 (ibits .and .u8 c 127)) (wrp .i64 (7 * (i : Int))))) (m : Int) (wrp .i64 ((i : Int) + 1))) (match (rd (i + 1) (L.drop (i + 1))).map (fun p => ((c % 128).toNat + 128 * p.1, p.2 + 1)) with | none => (0, 0) | some p => (((acc + p.1 * 2 ^ (7 * i) : Nat) : Int), ((i + p.2 : Nat) : Int))) := by
   intro h9 h128
   obtain ⟨g1, g2, g3⟩ := zcha hi9 b1 b2 ha (fun e => absurd e h9)
   rw [g1, wi]
   refine (zchb z L hb m hm k (i + 1) _ (by omega) g3).cast ?_
   cases rd (i + 1) (L.drop (i + 1)) with
   | none => rfl
   | some p =>
    simp only [y38]
    have : 2 ^ (7 * (i + 1)) = 128 * 2 ^ (7 * i) := by rw [show 7 * (i + 1) = 7 + 7 * i by omega, Nat.pow_add]
    rw [this]
    congr 2
    ·rw [y30, Nat.mul_assoc 128, Nat.mul_left_comm p.1 128]; omega
    ·omega
  refine Ev.succ (Ev.po (Ev.po (Ev.opt hg (Ev.neg (by rw [w7]; omega) ?_)))) (fun q => rfl)
  refine Ev.ite (fun h9 => Ev.ite (fun h1 => ?_) fun h1 => Ev.ite (fun h0 => Ev.pos (by omega) ?_) fun h0 => Ev.pos (by omega) ?_) fun h9 => Ev.ite (fun h0 => Ev.ite (fun hp => ?_) fun hp => Ev.pos (by omega) ?_) fun h0 => Ev.ite (fun h128 => ?_) fun h128 => ?_
  ·rw [if_pos ⟨by omega, h1⟩]; exact Ev.ret _
  ·rw [if_neg (by omega), if_pos ⟨h0, by omega⟩]; exact Ev.ret _
  ·rw [if_neg (by omega), if_neg (by omega), if_pos (by omega)]; exact Ev.ret' (done (by omega) (by omega))
  ·rw [if_neg (by omega), if_pos ⟨h0, by omega⟩]; exact Ev.ret _
  ·rw [if_neg (by omega), if_neg (by omega), if_pos (by omega)]; exact Ev.ret' (done (by omega) (by omega))
  ·rw [if_neg (by omega), if_neg (by omega), if_pos h128]; exact Ev.ret' (done (by omega) h128)
  ·rw [if_neg (by omega), if_neg (by omega), if_neg h128]; exact rest (by omega) h128
theorem zchc (s : Sl Int) (hb : isB s.l) : Ev (fun q => zmm q s) (resN (rd 0 s.l)) := by
 have h := zchb s.z s.l hb (min 10 s.l.length) rfl (min 10 s.l.length) 0 0 (by omega) (by simp)
 have e : (if 10 < (s.l.length : Int) then 10 else (s.l.length : Int)) = ((min 10 s.l.length : Nat) : Int) := by split <;> omega
 refine Ev.succ (g := fun q => zml q s.z s.l 0 (if 10 < (s.l.length : Int) then 10 else (s.l.length : Int)) 0) ?_ (fun q => rfl)
 rw [e]
 refine h.cast ?_
 rw [y37]
 cases rd 0 s.l with
 | none => rfl
 | some p => simp [resN]
def getN (l : List Int) : Int × Int := match rd 0 l with
 | none => (0, 0)
 | some p => if 4611686018427387904 ≤ p.1 then (0, 0) else ((p.1 : Int), (p.2 : Int))
theorem zchd (s : Sl Int) (hb : isB s.l) : Ev (fun q => zmn q s) (getN s.l) := by
 refine Ev.succ (Ev.bind (zchc s hb) ?_) (fun q => rfl)
 unfold getN
 cases rd 0 s.l with
 | none => exact Ev.neg (by simp [resN]) (Ev.ret' (by rw [zcfl] <;> simp [resN]))
 | some p =>
  simp only [resN]
  refine Ev.ite (fun h => ?_) fun h => ?_
  ·rw [if_pos (by omega)]; exact Ev.ret _
  ·rw [if_neg (by omega), zcfl (by omega) (by omega)]; exact Ev.ret _
theorem rd_len : ∀ {l : List Int} {i : Nat} {p : Nat × Nat}, rd i l = some p → 1 ≤ p.2 ∧ p.2 ≤ l.length ∧ i + p.2 ≤ 10
 | [], i, p, h => by simp [rd] at h
 | c :: l, i, p, h => by
  simp only [rd] at h
  split at h
  ·cases h
  ·split at h
   ·cases h
   ·split at h
    ·cases h
    ·split at h
     ·simp at h; subst h; simp; omega
     ·cases hr : rd (i + 1) l with
      | none => simp [hr] at h
      | some r =>
       simp [hr] at h; subst h
       have := rd_len hr
       simp; omega
theorem zche {l : List Int} : 0 ≤ (getN l).2 ∧ (getN l).2 ≤ l.length ∧ (getN l).2 ≤ 10 ∧ 0 ≤ (getN l).1 ∧ (getN l).1 < 4611686018427387904 := by
 unfold getN
 cases h : rd 0 l with
 | none => simp
 | some p =>
  have := rd_len h
  simp only
  split <;> simp <;> omega
/-- Where the first byte below 128 stands. -/
def idxLow : List Int → Nat → Int
 | [], _ => -1
 | a :: l, i => if a < 128 then (i : Int) else idxLow l (i + 1)
def allHi (l : List Int) : Prop := ∀ c ∈ l, 128 ≤ c
instance (l : List Int) : Decidable (allHi l) := by unfold allHi; infer_instance
theorem zchf : ∀ {l : List Int} {i : Nat}, ¬ 0 ≤ idxLow l i ↔ allHi l
 | [], i => by simp [idxLow, allHi]
 | a :: l, i => by
  have ih := zchf (l := l) (i := i + 1)
  simp only [idxLow, allHi, List.mem_cons, forall_eq_or_imp] at ih ⊢
  by_cases h : a < 128
  ·rw [if_pos h]; constructor
   ·intro h'; omega
   ·rintro ⟨h1, _⟩; omega
  ·rw [if_neg h, ih]
   constructor
   ·intro h'; exact ⟨by omega, h'⟩
   ·exact fun h' => h'.2
theorem zchg (z : Bool) (L : List Int) (hL : L.length ≤ 1099511627776) : ∀ (k i : Nat), L.length = i + k → Ev (fun q => zmi q z L (L.length : Int) (i : Int)) (idxLow (L.drop i) i)
 | 0, i, hk => by
  refine Ev.succ (Ev.ne (Ev.ret' ?_)) (fun q => rfl)
  rw [y11 (by omega)]; rfl
 | k + 1, i, hk => by
  have hi : i < L.length := by omega
  have hg : L[(i : Int).toNat]? = some L[i] := by simpa using y6 hi
  have h1 : Ev (fun q => zmh q L[i]) (decide (L[i] < 128)) := Ev.succ (Ev.ret _) (fun q => rfl)
  refine Ev.succ (Ev.po (Ev.po (Ev.opt hg (Ev.bind h1 ?_)))) (fun q => rfl)
  rw [y8 hi]
  simp only [idxLow]
  refine Ev.ite (fun h => ?_) fun h => ?_
  ·rw [if_pos (by simpa using h)]; exact Ev.ret _
  ·rw [if_neg (by simpa using h), zcfl (by omega) (by omega), show ((i : Int) + 1) = ((i + 1 : Nat) : Int) by omega]
   exact zchg z L hL k (i + 1) (by omega)
def openB (l : List Int) : Bool := decide (l.length < 10 ∧ allHi l)
theorem zchh (s : Sl Int) : Ev (fun q => zmk q s) (openB s.l) := by
 refine Ev.succ (Ev.ite (fun h => ?_) fun h => Ev.ret' ?_) (fun q => rfl)
 ·have := zchg s.z s.l (by omega) s.l.length 0 (by omega)
  rw [y37] at this
  refine Ev.bind (Ev.succ this (fun q => rfl)) (Ev.ret' ?_)
  unfold openB
  rw [← decide_not, decide_eq_decide, zchf]
  exact ⟨fun h1 => ⟨by omega, h1⟩, fun h1 => h1.2⟩
 ·unfold openB
  symm; rw [decide_eq_false_iff_not]; omega
theorem zchi (z z2 : Bool) (A B : List Int) (hl : A.length = B.length) (hL : A.length ≤ 1099511627776) : ∀ (k i : Nat), A.length = i + k → Ev (fun q => zmo q z A z2 B (A.length : Int) (i : Int)) (decide (A.drop i = B.drop i))
 | 0, i, hk => by
  refine Ev.succ (Ev.ne (Ev.ret' ?_)) (fun q => rfl)
  rw [y11 (by omega), y11 (by omega)]; simp
 | k + 1, i, hk => by
  have hi : i < A.length := by omega
  have hi2 : i < B.length := by omega
  have hg : A[(i : Int).toNat]? = some A[i] := by simpa using y6 hi
  have hg2 : B[(i : Int).toNat]? = some B[i] := by simpa using y6 hi2
  refine Ev.succ (Ev.po (Ev.po (Ev.opt hg (Ev.opt hg2 ?_)))) (fun q => rfl)
  rw [y8 hi, y8 hi2]
  refine Ev.ite (fun h => ?_) fun h => Ev.ret' (by symm; rw [decide_eq_false_iff_not]; intro e; exact h (List.cons.inj e).1)
  rw [zcfl (by omega) (by omega), show ((i : Int) + 1) = ((i + 1 : Nat) : Int) by omega]
  refine (zchi z z2 A B hl hL k (i + 1) (by omega)).cast ?_
  rw [decide_eq_decide, List.cons.injEq]; simp only [h, true_and]
theorem zchj (a b : Sl Int) (hL : a.l.length ≤ 1099511627776) : Ev (fun q => zmp q a b) (decide (a.l = b.l)) := by
 refine Ev.succ (Ev.ite (fun h => ?_) fun h => Ev.ret' ?_) (fun q => rfl)
 ·have := zchi a.z b.z a.l b.l (by omega) hL a.l.length 0 (by omega)
  rw [y37, y37] at this; exact this
 ·symm; rw [decide_eq_false_iff_not]; intro e; rw [e] at h; exact h rfl
/-- The data of the frame that bytes begin with, how many bytes it has, and the error. -/
def decF (l : List Int) : List Int × Int × Int :=
 if openB l = true then ([], 0, 2) else if (getN l).2 = 0 then ([], 0, 3) else if 1048576 < (getN l).1 then ([], 0, 5) else if (l.length : Int) < (getN l).2 + 4 + (getN l).1 then ([], 0, 2)
 else if (l.drop ((getN l).2 + (getN l).1).toNat).take 4 = fix4 (bsum (l.take ((getN l).2 + (getN l).1).toNat)).toNat then ((l.take ((getN l).2 + (getN l).1).toNat).drop (getN l).2.toNat, (getN l).2 + (getN l).1 + 4, 0) else ([], 0, 4)
theorem zchk {l : List Int} (h : isB l) (n : Nat) : isB (l.take n) := fun c hc => h c (y43 hc)
theorem zchl {l : List Int} (h : isB l) (n : Nat) : isB (l.drop n) := fun c hc => h c (y52 hc)
theorem zchm (s : Sl Int) (hz : s.z = true → s.l = []) (hb : isB s.l) (hl : s.l.length ≤ 4294967296) : ∃ z, Ev (fun q => zmr q s) (⟨z, true, (decF s.l).1⟩, (decF s.l).2.1, (decF s.l).2.2) := by
 unfold decF
 by_cases h1 : openB s.l = true
 ·rw [if_pos h1]
  exact ⟨true, Ev.succ (Ev.bind (zchh s) (Ev.pos h1 (Ev.ret _))) (fun q => rfl)⟩
 rw [if_neg h1]
 by_cases h2 : (getN s.l).2 = 0
 ·rw [if_pos h2]
  exact ⟨true, Ev.succ (Ev.bind (zchh s) (Ev.neg h1 (Ev.bind (zchd s hb) (Ev.pos h2 (Ev.ret _))))) (fun q => rfl)⟩
 rw [if_neg h2]
 by_cases h3 : 1048576 < (getN s.l).1
 ·rw [if_pos h3]
  exact ⟨true, Ev.succ (Ev.bind (zchh s) (Ev.neg h1 (Ev.bind (zchd s hb) (Ev.neg h2 (Ev.pos h3 (Ev.ret _)))))) (fun q => rfl)⟩
 rw [if_neg h3]
 obtain ⟨g1, g2, g3, g4, g5⟩ := zche (l := s.l)
 generalize hk : (getN s.l).2 = k at *
 generalize hn : (getN s.l).1 = n at *
 have hg : getN s.l = (n, k) := by rw [← hk, ← hn]
 have hget := zchd s hb
 rw [hg] at hget
 have w1 : wrp .i64 (k + 4) = k + 4 := zcfl (by omega) (by omega)
 have w2 : wrp .i64 (k + 4 + n) = k + 4 + n := zcfl (by omega) (by omega)
 have w3 : wrp .i64 (k + n) = k + n := zcfl (by omega) (by omega)
 have w4 : wrp .i64 (k + n + 4) = k + n + 4 := zcfl (by omega) (by omega)
 by_cases h4 : (s.l.length : Int) < k + 4 + n
 ·rw [if_pos h4]
  exact ⟨true, Ev.succ (Ev.bind (zchh s) (Ev.neg h1 (Ev.bind hget (Ev.neg h2 (Ev.neg h3 (Ev.pos (by simp only; rw [w1, w2]; exact h4) (Ev.ret _))))))) (fun q => rfl)⟩
 rw [if_neg h4]
 have hzf : s.z = false := by
  cases hz' : s.z
  ·rfl
  ·have := hz hz'; rw [this] at h4; simp at h4; omega
 have hsum := zcg0 ⟨s.z, List.take k.toNat s.l⟩ ⟨s.z, List.drop k.toNat (List.take (k + n).toNat s.l)⟩ (zchk hb _) (zchl (zchk hb _) _) (by simp; omega) (by simp; omega)
 have heq := zchj ⟨s.z, List.drop (k + n).toNat (List.take (k + n + 4).toNat s.l)⟩ ⟨false, fix4 (bsum (List.take k.toNat s.l ++ List.drop k.toNat (List.take (k + n).toNat s.l))).toNat⟩ (by simp; omega)
 have hcl : Ev (fun q => zmq q ⟨s.z, List.drop k.toNat (List.take (k + n).toNat s.l)⟩) ⟨false, true, List.drop k.toNat (List.take (k + n).toNat s.l)⟩ :=
  Ev.succ (Ev.neg (by simp [hzf]) (Ev.pos (by simp; omega) (Ev.ret _))) (fun q => rfl)
 have ht : List.take k.toNat s.l ++ List.drop k.toNat (List.take (k + n).toNat s.l) = List.take (k + n).toNat s.l := by
  have := List.take_append_drop k.toNat (List.take (k + n).toNat s.l)
  rw [List.take_take, Nat.min_eq_left (by omega)] at this; exact this
 rw [ht] at heq hsum
 have hd : List.drop (k + n).toNat (List.take (k + n + 4).toNat s.l) = List.take 4 (List.drop (k + n).toNat s.l) := by
  rw [List.drop_take]; congr 1; omega
 rw [hd] at heq
 have pre : ∀ {r : Ow Int × Int × Int}, Ev (fun q => (zmp q ⟨s.z, List.take 4 (List.drop (k + n).toNat s.l)⟩ ⟨false, fix4 (bsum (List.take (k + n).toNat s.l)).toNat⟩).bind fun r4 => (if r4 = true then ((zmq q ⟨s.z, (List.drop k.toNat (List.take (k + n).toNat s.l))⟩).bind fun r5 => (some (r5, k + n + 4, 0))) else (some (⟨true, true, []⟩, 0, 4)))) r → Ev (fun q => zmr q s) r := by
  intro r h
  refine Ev.succ (Ev.bind (zchh s) (Ev.neg h1 (Ev.bind hget (Ev.neg h2 (Ev.neg h3 ?_))))) (fun q => rfl)
  simp only [w1, w2, w3, w4]
  refine Ev.neg h4 (Ev.po (Ev.po (Ev.po (Ev.po (Ev.po (Ev.po (Ev.po (Ev.po (Ev.po (Ev.bind hsum ?_))))))))))
  rw [hd]
  exact h
 by_cases h5 : List.take 4 (List.drop (k + n).toNat s.l) = fix4 (bsum (List.take (k + n).toNat s.l)).toNat
 ·rw [if_pos h5]
  exact ⟨false, pre (Ev.bind heq (Ev.pos (by simpa using h5) (Ev.bind hcl (Ev.ret _))))⟩
 ·rw [if_neg h5]
  exact ⟨true, pre (Ev.bind heq (Ev.neg (by simpa using h5) (Ev.ret _)))⟩
theorem isB_of {s : Sl Int} (h : okSl (fun x => inR .u8 x) s) : isB s.l := fun c hc => by
 have := h.2.2 c hc
 simp [inR, IntKind.min, IntKind.max, IntKind.signed, IntKind.bits] at this; omega
theorem rd_inv : ∀ {l : List Int} {i v k : Nat}, isB l → rd i l = some (v, k) → l.take k = grp v ∧ (0 < i → v ≠ 0)
 | [], i, v, k, hb, h => by simp [rd] at h
 | c :: l, i, v, k, hb, h => by
  obtain ⟨b1, b2⟩ := hb c y31
  simp only [rd] at h
  split at h
  ·cases h
  ·split at h
   ·cases h
   ·split at h
    ·cases h
    ·rename_i h1 h2 h3
     split at h
     ·simp at h; obtain ⟨rfl, rfl⟩ := h
      refine ⟨?_, fun hi e => h3 ⟨by omega, hi⟩⟩
      rw [grp_lt (by omega)]; simp; omega
     ·cases hr : rd (i + 1) l with
      | none => simp [hr] at h
      | some r =>
       obtain ⟨v', k'⟩ := r
       simp [hr] at h
       obtain ⟨rfl, rfl⟩ := h
       obtain ⟨e1, e2⟩ := rd_inv (fun c hc => hb c (y35 _ hc)) hr
       have hv := e2 (by omega)
       refine ⟨?_, fun _ => by omega⟩
       rw [grp_ge (by omega), List.take_succ_cons, e1]
       congr 1
       ·omega
       ·congr 1; omega
theorem zchn {l x : List Int} {n : Int} (hb : isB l) (h : decF l = (x, n, 0)) : x.length ≤ 1048576 ∧ 0 ≤ n ∧ n.toNat ≤ l.length ∧ 5 ≤ n ∧ encF x = l.take n.toNat := by
 unfold decF at h
 split at h
 ·simp at h
 split at h
 ·simp at h
 split at h
 ·simp at h
 split at h
 ·simp at h
 split at h
 ·rename_i h1 h2 h3 h4 h5
  obtain ⟨g1, g2, g3, g4, g5⟩ := zche (l := l)
  have hrd : rd 0 l = some ((getN l).1.toNat, (getN l).2.toNat) := by
   unfold getN at h2 ⊢
   cases hr : rd 0 l with
   | none => rw [hr] at h2; simp at h2
   | some p =>
    rw [hr] at h2; simp only at h2 ⊢
    split at h2
    ·simp at h2
    ·rename_i hlt; rw [if_neg hlt]; simp
  obtain ⟨e1, _⟩ := rd_inv hb hrd
  generalize (getN l).2 = k at *
  generalize (getN l).1 = m at *
  simp only [y7, and_true] at h
  obtain ⟨hx, hn⟩ := h
  have hlx : x.length = m.toNat := by rw [← hx]; simp; omega
  refine ⟨by omega, by omega, by omega, by omega, ?_⟩
  have hput : put (x.length : Int) = l.take k.toNat := by
   rw [put_ok (by omega) (by omega), e1]; congr 1
  have hcat : l.take k.toNat ++ x = l.take (k + m).toNat := by
   rw [← hx]
   have := List.take_append_drop k.toNat (List.take (k + m).toNat l)
   rw [List.take_take, Nat.min_eq_left (by omega)] at this; exact this
  unfold encF
  rw [hput, hcat, ← h5, ← y32, hcat, ← hn, show (k + m + 4).toNat = (k + m).toNat + 4 by omega, List.take_add]
 ·simp at h
theorem zcho {l : List Int} (hb : isB l) : isB (decF l).1 := by
 have nil : isB [] := fun c hc => by simp at hc
 unfold decF
 split; exact nil
 split; exact nil
 split; exact nil
 split; exact nil
 split
 ·exact zchl (zchk hb _) _
 ·exact nil
/-- The number of bytes, the lowest first. -/
def numB : List Int → Nat
 | [] => 0
 | c :: l => c.toNat + 256 * numB l
theorem zchp : ∀ {l : List Int}, isB l → numB l < 256 ^ l.length
 | [], _ => by simp [numB]
 | c :: l, h => by
  have h1 := h c y31
  have h2 := zchp (l := l) fun c hc => h c (y35 _ hc)
  simp only [numB, y20, Nat.pow_succ]
  generalize 256 ^ l.length = X at h2
  omega
theorem zchq {l : List Int} {v : Nat} (hb : isB l) (hl : l.length = 4) (hv : v < 4294967296) : numB l = v ↔ l = fix4 v := by
 match l, hl with
 | [a, b, c, d], _ =>
  have h1 := hb a (by simp); have h2 := hb b (by simp); have h3 := hb c (by simp); have h4 := hb d (by simp)
  simp only [numB, fix4, List.cons.injEq, and_true]
  constructor
  ·intro h; refine ⟨?_, ?_, ?_, ?_⟩ <;> omega
  ·rintro ⟨e1, e2, e3, e4⟩; omega
/-- The frames that bytes begin with, how many bytes these have, and what ends them. -/
def walkF : Nat → List Int → List (List Int) × Nat × Int
 | 0, _ => ([], 0, 0)
 | f + 1, l => if l = [] then ([], 0, 0) else if (decF l).2.2 = 0 then let w := walkF f (l.drop (decF l).2.1.toNat); ((decF l).1 :: w.1, (decF l).2.1.toNat + w.2.1, w.2.2) else ([], 0, (decF l).2.2)
theorem zchr {l : List Int} (hb : isB l) (h : (decF l).2.2 = 0) : 5 ≤ (decF l).2.1 ∧ (decF l).2.1.toNat ≤ l.length := by
 generalize hr : decF l = r at h
 obtain ⟨x, n, e⟩ := r
 simp only at h; subst h
 obtain ⟨k1, k2, k3, k4, k5⟩ := zchn hb hr
 exact ⟨k4, k3⟩
/-- A loop over frames, whoever decodes. -/
theorem zchs {D : Nat → Sl Int → Option (Ow Int × Int × Int)} {W : Nat → Bool → List Int → Int → Bool → List (Sl Int) → Option (Ow (Sl Int) × Int × Int)}
  (hW : ∀ q z L i z2 h, W (q + 1) z L i z2 h = if i < (L.length : Int) then (if 0 ≤ i then (if i ≤ (L.length : Int) then ((D q ⟨z, (List.drop i.toNat L)⟩).bind fun r1 => (if r1.2.2 = 0 then (if (h.length + 1) ≤ 4294967296 then (W q z L (wrp .i64 (i + r1.2.1)) false (h ++ [⟨r1.1.n, r1.1.xs⟩])) else none) else (some (⟨z2, true, h⟩, i, r1.2.2)))) else none) else none) else (some (⟨z2, true, h⟩, i, 0)))
  (z : Bool) (L : List Int) (hb : isB L) (hL : L.length ≤ 4294967296)
  (hD : ∀ i : Nat, i < L.length → ∃ z', Ev (fun q => D q ⟨z, L.drop i⟩) (⟨z', true, (decF (L.drop i)).1⟩, (decF (L.drop i)).2.1, (decF (L.drop i)).2.2)) :
  ∀ (f i : Nat) (z2 : Bool) (h : List (Sl Int)), i ≤ L.length → L.length - i < f → h.length ≤ i → ∃ z3 X, Ev (fun q => W q z L (i : Int) z2 h) (⟨z3, true, h ++ X⟩, ((i + (walkF f (L.drop i)).2.1 : Nat) : Int), (walkF f (L.drop i)).2.2) ∧ X.map (·.l) = (walkF f (L.drop i)).1
 | 0, i, z2, h, hi, hf, hh => by omega
 | f + 1, i, z2, h, hi, hf, hh => by
  by_cases hlt : i < L.length
  ·have hne : L.drop i ≠ [] := by intro e; have := congrArg List.length e; simp at this; omega
   obtain ⟨z', hd⟩ := hD i hlt
   simp only [walkF]
   rw [if_neg hne]
   by_cases he : (decF (L.drop i)).2.2 = 0
   ·rw [if_pos he]
    obtain ⟨k1, k2⟩ := zchr (zchl hb i) he
    rw [y12] at k2
    obtain ⟨z3, X, hx, hm⟩ := zchs hW z L hb hL hD f (i + (decF (L.drop i)).2.1.toNat) false (h ++ [⟨z', (decF (L.drop i)).1⟩]) (by omega) (by omega) (by simp; omega)
    rw [← y49] at hx hm
    refine ⟨z3, ⟨z', (decF (L.drop i)).1⟩ :: X, ?_, ?_⟩
    ·refine Ev.succ (Ev.po (Ev.po (Ev.po (Ev.bind hd (Ev.pos he (Ev.pos (by omega) ?_)))))) (fun q => hW q _ _ _ _ _)
     have wi : wrp .i64 ((i : Int) + (decF (L.drop i)).2.1) = ((i + (decF (L.drop i)).2.1.toNat : Nat) : Int) := by
      rw [zcfl (by omega) (by omega)]; omega
     simp only [wi]
     refine hx.cast ?_
     simp only [y32, List.cons_append, y46, y56]
    ·simp [hm]
   ·rw [if_neg he]
    refine ⟨z2, [], Ev.succ (Ev.po (Ev.po (Ev.po (Ev.bind hd (Ev.neg he (Ev.ret' (by simp))))))) (fun q => hW q _ _ _ _ _), rfl⟩
  ·rw [y11 (by omega)]
   simp only [walkF, if_true]
   exact ⟨z2, [], Ev.succ (Ev.ne (Ev.ret' (by simp))) (fun q => hW q _ _ _ _ _), rfl⟩
def allF (l : List Int) : List (List Int) × Nat × Int := walkF (l.length + 1) l
theorem zcht (s : Sl Int) (hz : s.z = true → s.l = []) (hb : isB s.l) (hl : s.l.length ≤ 4294967296) : ∃ z X, Ev (fun q => zm3 q s) (⟨z, true, X⟩, (((allF s.l).2.1 : Nat) : Int), (allF s.l).2.2) ∧ X.map (·.l) = (allF s.l).1 := by
 obtain ⟨z, X, h, hm⟩ := zchs (D := fun q s => zmr q s) (W := zm2) (fun q z L i z2 h => rfl) s.z s.l hb hl (fun i hi => zchm ⟨s.z, s.l.drop i⟩ (fun h => by rw [hz h]; simp) (zchl hb i) (by simp; omega)) (s.l.length + 1) 0 true [] (by omega) (by omega) (by simp)
 rw [y37] at h hm
 refine ⟨z, X, Ev.succ h (fun q => rfl) |>.cast ?_, hm⟩
 simp [allF]
def allE (l : List Int) : List (List Int) × Int := if (allF l).2.2 = 0 then ((allF l).1, 0) else ([], (allF l).2.2)
theorem zchu (s : Sl Int) (hz : s.z = true → s.l = []) (hb : isB s.l) (hl : s.l.length ≤ 4294967296) : ∃ z X, Ev (fun q => zm4 q s) (⟨z, true, X⟩, (allE s.l).2) ∧ X.map (·.l) = (allE s.l).1 := by
 obtain ⟨z, X, h, hm⟩ := zcht s hz hb hl
 unfold allE
 by_cases he : (allF s.l).2.2 = 0
 ·rw [if_pos he]; exact ⟨z, X, Ev.succ (Ev.bind h (Ev.pos he (Ev.ret _))) (fun q => rfl), hm⟩
 ·rw [if_neg he]; exact ⟨true, [], Ev.succ (Ev.bind h (Ev.neg he (Ev.ret _))) (fun q => rfl), rfl⟩
theorem zchv : ∀ {f : Nat} {l : List Int}, isB l → (walkF f l).1.length ≤ l.length
 | 0, l, hb => by simp [walkF]
 | f + 1, l, hb => by
  simp only [walkF]
  split
  ·simp
  ·split
   ·rename_i h1 h2
    obtain ⟨k1, k2⟩ := zchr hb h2
    have := zchv (f := f) (zchl hb (decF l).2.1.toNat)
    simp only [y20]
    rw [y12] at this
    omega
   ·simp
def BB (D : List (List Int)) : List Int := D.flatMap encF
theorem zchw (d : List Int) (D : List (List Int)) : BB (d :: D) = encF d ++ BB D := by simp [BB]
def zag (u : Nat) : Int := if u % 2 = 0 then ((u / 2 : Nat) : Int) else -((u / 2 : Nat) : Int) - 1
theorem zchx (u : Nat) : zig (zag u) = u := by unfold zag zig; split <;> split <;> omega
theorem ixor0 {x : Int} (h1 : 0 ≤ x) (h2 : x < 9223372036854775808) : ibits .xor .i64 x 0 = x := by
 have e : ibits .xor .i64 x 0 = IntKind.wrap .i64 (((BitVec.ofInt 64 x ^^^ 0#64 : BitVec 64).toNat : Nat) : Int) := by unfold ibits; rfl
 rw [e, BitVec.xor_zero, y48, zcfw, zcfl] <;> omega
theorem zchy {x : Int} (h1 : 9223372036854775808 ≤ x) (h2 : x < 18446744073709551616) : wrp .i64 x = x - 18446744073709551616 := by
 unfold wrp; simp [IntKind.wrap, IntKind.min, IntKind.max, IntKind.signed, IntKind.bits] <;> omega
theorem ixor1 {x : Int} (h1 : 0 ≤ x) (h2 : x < 9223372036854775808) : ibits .xor .i64 x (-1) = -x - 1 := by
 have e : ibits .xor .i64 x (-1) = IntKind.wrap .i64 (((BitVec.ofInt 64 x ^^^ BitVec.allOnes 64 : BitVec 64).toNat : Nat) : Int) := by unfold ibits; rfl
 rw [e, BitVec.xor_allOnes, BitVec.toNat_not, y48, zcfw, zchy] <;> omega
theorem and1u {u : Nat} (h : u < 18446744073709551616) : ibits .and .u64 (u : Int) 1 = ((u % 2 : Nat) : Int) := by
 have e : ibits .and .u64 (u : Int) 1 = IntKind.wrap .u64 (((BitVec.ofInt 64 (u : Int) &&& 1#64 : BitVec 64).toNat : Nat) : Int) := by unfold ibits; rfl
 have e1 : (BitVec.ofInt 64 (u : Int)).toNat = u := by rw [y48]; omega
 rw [e, BitVec.toNat_and, e1, show (1#64 : BitVec 64).toNat = 1 from rfl, Nat.and_one_is_mod, zcfw, zcfm (by omega) (by omega)]
theorem ishr1 {x : Int} (h1 : 0 ≤ x) : ishr .u64 x 1 = x / 2 := by
 unfold ishr; simp [IntKind.bits]
 rw [y53]; omega
theorem zchz {u : Nat} (h : u < 18446744073709551616) : Ev (fun q => zms q (u : Int)) (zag u) := by
 refine Ev.succ (Ev.ret' ?_) (fun q => rfl)
 rw [ishr1 (by omega), and1u h, zcfl (by omega) (by omega)]
 unfold zag
 split
 ·rename_i e
  rw [e, show wrp .i64 ((0 : Nat) : Int) = 0 from zcfl (by omega) (by omega), show wrp .i64 (0 - 0) = 0 from zcfl (by omega) (by omega), ixor0 (by omega) (by omega)]; omega
 ·rename_i e
  rw [show u % 2 = 1 by omega, show wrp .i64 ((1 : Nat) : Int) = 1 from zcfl (by omega) (by omega), show wrp .i64 (0 - 1) = -1 from zcfl (by omega) (by omega), ixor1 (by omega) (by omega)]; omega
theorem rd_lt : ∀ {l : List Int} {i : Nat} {p : Nat × Nat}, isB l → i ≤ 9 → rd i l = some p → p.1 < 2 ^ (64 - 7 * i)
 | [], i, p, hb, hi, h => by simp [rd] at h
 | c :: l, i, p, hb, hi, h => by
  obtain ⟨b1, b2⟩ := hb c y31
  simp only [rd] at h
  split at h
  ·cases h
  ·split at h
   ·cases h
   ·rename_i h9
    split at h
    ·cases h
    ·split at h
     ·simp at h; subst h
      simp only
      by_cases e : i = 9
      ·subst e; simp; omega
      ·have : 2 ^ 7 ≤ 2 ^ (64 - 7 * i) := Nat.pow_le_pow_right (by omega) (by omega)
       omega
     ·cases hr : rd (i + 1) l with
      | none => simp [hr] at h
      | some r =>
       simp [hr] at h; subst h
       by_cases e : i = 9
       ·exfalso; subst e; exact h9 ⟨rfl, by omega⟩
       ·have := rd_lt (fun c hc => hb c (y35 _ hc)) (by omega) hr
        have e2 : 2 ^ (64 - 7 * i) = 128 * 2 ^ (64 - 7 * (i + 1)) := by rw [show 64 - 7 * i = 7 + (64 - 7 * (i + 1)) by omega, Nat.pow_add]
        simp only
        rw [e2]; omega
def getS (l : List Int) : Int × Int := match rd 0 l with
 | none => (0, 0)
 | some p => (zag p.1, (p.2 : Int))
theorem zch0 (s : Sl Int) (hb : isB s.l) : Ev (fun q => zmt q s) (getS s.l) := by
 refine Ev.succ (Ev.bind (zchc s hb) ?_) (fun q => rfl)
 unfold getS
 cases h : rd 0 s.l with
 | none => exact Ev.pos (by simp [resN]) (Ev.ret _)
 | some p =>
  have h1 := rd_len h
  have h2 := rd_lt hb (by omega) h
  simp only [resN]
  exact Ev.neg (by simp; omega) (Ev.bind (zchz (by simpa using h2)) (Ev.ret _))
theorem zch1 {l : List Int} : 0 ≤ (getS l).2 ∧ (getS l).2 ≤ l.length ∧ (getS l).2 ≤ 10 := by
 unfold getS
 cases h : rd 0 l with
 | none => simp
 | some p =>
  have := rd_len h
  simp only; omega
/-- The operation that bytes begin with. -/
def getO (l : List Int) : zkn × Int :=
 let x := getN l
 let y := getS (l.drop x.2.toNat)
 let z := getS ((l.drop x.2.toNat).drop y.2.toNat)
 if 0 < x.2 ∧ 0 < y.2 ∧ 0 < z.2 ∧ fitsOp ⟨x.1, y.1, z.1⟩ = true then (⟨x.1, y.1, z.1⟩, x.2 + y.2 + z.2) else (⟨0, 0, 0⟩, 0)
theorem isB_dr {l : List Int} (h : isB l) (n : Nat) : isB (l.drop n) := fun c hc => h c (y52 hc)
theorem zch2 (s : Sl Int) (hb : isB s.l) (hl : s.l.length ≤ 4294967296) : Ev (fun q => zm6 q s) (getO s.l) := by
 have hx := zche (l := s.l)
 have hy := zch1 (l := s.l.drop (getN s.l).2.toNat)
 have hz := zch1 (l := (s.l.drop (getN s.l).2.toNat).drop (getS (s.l.drop (getN s.l).2.toNat)).2.toNat)
 simp only [y12] at hy hz
 refine Ev.succ (Ev.bind (zchd s hb) (Ev.pos hx.1 (Ev.pos hx.2.1 (Ev.bind (zch0 _ (isB_dr hb _)) ?_)))) (fun q => rfl)
 unfold getO
 refine Ev.ite (fun h1 => Ev.pos hy.1 (Ev.pos hy.2.1 (Ev.bind (zch0 _ (isB_dr (isB_dr hb _) _)) ?_))) fun h1 => Ev.pos hy.1 (Ev.pos hy.2.1 (Ev.bind (zch0 _ (isB_dr (isB_dr hb _) _)) ?_))
 ·refine Ev.ite (fun h2 => Ev.pos hz.1 (Ev.pos hz.2.1 ?_)) fun h2 => Ev.pos hz.1 (Ev.pos hz.2.1 ?_)
  ·refine Ev.ite (fun h3 => Ev.bind (zcf1 _) (Ev.ite (fun h4 => Ev.ret' ?_) fun h4 => Ev.ret' ?_)) fun h3 => Ev.ret' ?_
   ·rw [if_pos ⟨h1, h2, h3, h4⟩, zcfl (by omega) (by omega)]
    congr 1; dsimp only; dsimp only at h1 h2 h3; omega
   ·rw [if_neg (fun h => h4 h.2.2.2)]
   ·rw [if_neg (fun h => h3 h.2.2.1)]
  ·refine Ev.ret' ?_
   rw [if_neg (fun h => h2 h.2.1)]
 ·refine Ev.pos hz.1 (Ev.pos hz.2.1 (Ev.ret' ?_))
  rw [if_neg (fun h => h1 h.1)]
theorem zch3 {l : List Int} : 0 ≤ (getO l).2 ∧ (getO l).2 ≤ l.length ∧ (getO l).2 ≤ 30 := by
 have hx := zche (l := l)
 have hy := zch1 (l := l.drop (getN l).2.toNat)
 have hz := zch1 (l := (l.drop (getN l).2.toNat).drop (getS (l.drop (getN l).2.toNat)).2.toNat)
 simp only [y12] at hy hz
 simp only [getO]
 split
 ·simp only; omega
 ·simp
/-- How many bytes a strange field has. -/
def passN (l : List Int) : Int := if (getN l).2 = 0 then 0 else if (l.length : Int) - (getN l).2 < (getN l).1 then 0 else (getN l).2 + (getN l).1
theorem zch4 (s : Sl Int) (hb : isB s.l) (hl : s.l.length ≤ 4294967296) : Ev (fun q => znm q s) (passN s.l) := by
 have hx := zche (l := s.l)
 refine Ev.succ (Ev.bind (zchd s hb) ?_) (fun q => rfl)
 unfold passN
 refine Ev.ite (fun h => ?_) fun h => ?_
 ·rw [if_pos h]; exact Ev.ret _
 ·rw [if_neg h]
  have hw : wrp .i64 ((s.l.length : Int) - (getN s.l).2) = (s.l.length : Int) - (getN s.l).2 := zcfl (by omega) (by omega)
  refine Ev.ite (fun h2 => ?_) fun h2 => ?_
  ·rw [hw] at h2; rw [if_pos h2]; exact Ev.ret _
  ·rw [hw] at h2; rw [if_neg h2, zcfl (by omega) (by omega)]; exact Ev.ret _
theorem zch5 {l : List Int} : 0 ≤ passN l ∧ passN l ≤ l.length := by
 have hx := zche (l := l)
 unfold passN
 split
 ·simp
 ·split
  ·simp
  ·omega
theorem zch6 (s : Sl Int) (hz : s.z = false) (hl : s.l.length ≤ 4294967296) : Ev (fun q => zk4 q s) ⟨false, true, s.l⟩ :=
 Ev.succ (Ev.neg (by simp [hz]) (Ev.pos hl (Ev.ret _))) (fun q => rfl)
theorem zch7 {l : List Int} {i : Int} (h0 : 0 ≤ i) (h1 : i < l.length) (hl : l.length ≤ 1000000) : Ev (fun q => zk5 q ⟨false, true, l⟩ i (i + 1)) ⟨false, true, l.eraseIdx i.toNat⟩ := by
 have ht : (i + 1).toNat = i.toNat + 1 := by omega
 refine Ev.succ ?_ (fun q => rfl)
 refine Ev.pos h0 ?_
 refine Ev.pos (by omega) ?_
 refine Ev.pos (by simp only; omega) ?_
 refine Ev.neg (by omega) ?_
 refine Ev.pos (by simp only; omega) ?_
 refine Ev.neg (by simp) ?_
 refine Ev.pos (by omega) ?_
 refine Ev.pos (by simp only; omega) ?_
 refine Ev.pos (by simp only; omega) ?_
 refine Ev.pos rfl ?_
 refine Ev.pos (by simp only; omega) ?_
 refine Ev.pos (by simp only; omega) ?_
 refine Ev.ret' ?_
 congr 1
 simp only [ht]
 have hm : (l.take i.toNat).length = i.toNat := by simp; omega
 have hd : (l.drop (i.toNat + 1)).length = l.length - (i.toNat + 1) := by simp
 rw [List.eraseIdx_eq_take_drop_succ]
 generalize l.take i.toNat = A at *
 generalize l.drop (i.toNat + 1) = B at *
 have hAB : i.toNat + (l.length - (i.toNat + 1)) = (A ++ B).length := by simp; omega
 rw [hAB]
 have e1 : ∀ C : List Int, List.take (A ++ B).length (A ++ B ++ C) = A ++ B := fun C => List.take_left' rfl
 rw [e1, y32, e1]
theorem zch8 (x : Int) : ∀ (l : List Int) (i : Nat), x ∈ l → idxI x l i = (i : Int) + idxI x l 0 ∧ idxI x l i < i + l.length
 | [], i, h => by simp at h
 | a :: l, i, h => by
  simp only [idxI]
  by_cases e : x = a
  ·rw [if_pos e, if_pos e]; simp; omega
  ·rw [if_neg e, if_neg e]
   have hm : x ∈ l := by
    rcases List.mem_cons.1 h with h | h
    ·exact absurd h e
    ·exact h
   have h1 := zch8 x l (i + 1) hm
   have h2 := zch8 x l (0 + 1) hm
   simp only [y20]
   omega
theorem zch9 (x : Int) : ∀ (l : List Int), x ∈ l → l.eraseIdx (idxI x l 0).toNat = l.erase x
 | [], h => by simp at h
 | a :: l, h => by
  simp only [idxI]
  by_cases e : x = a
  ·rw [if_pos e]; subst e; simp
  ·rw [if_neg e]
   have hm : x ∈ l := by
    rcases List.mem_cons.1 h with h | h
    ·exact absurd h e
    ·exact h
   have h2 := zch8 x l (0 + 1) hm
   have h3 := (zcgc (x := x) (l := l) (i := 0)).2 hm
   rw [show (idxI x l (0 + 1)).toNat = (idxI x l 0).toNat + 1 by omega, List.eraseIdx_cons_succ, zch9 x l hm, List.erase_cons_tail (by simpa using fun h => e h.symm)]
/-- A field's value, taken into a record. -/
def rdVal (f : Int) (r : zko) (b : List Int) : zko × Int :=
 if f = 1 then (⟨(getN b).1, r.Proc, r.Seq, r.Op, r.Resp⟩, (getN b).2)
 else if f = 2 then (⟨r.Index, (getN b).1, r.Seq, r.Op, r.Resp⟩, (getN b).2)
 else if f = 3 then (⟨r.Index, r.Proc, (getN b).1, r.Op, r.Resp⟩, (getN b).2)
 else if f = 4 then (⟨r.Index, r.Proc, r.Seq, (getO b).1, r.Resp⟩, (getO b).2)
 else (⟨r.Index, r.Proc, r.Seq, r.Op, (getS b).1⟩, (getS b).2)
/-- The fields of bytes. -/
def rdR (v : Int) : Nat → List Int → Int → zko → List Int → zko × Int
 | 0, _, _, r, _ => (r, 3)
 | k + 1, b, last, r, l =>
  if b.length = 0 then (if l.length = 0 then (if FitsR r then (r, 0) else (r, 1)) else (r, 7))
  else if (getN b).2 = 0 ∨ (getN b).1 ≤ last then (r, 3)
  else if (getN b).1 ∈ l then
   (if (rdVal (getN b).1 r (b.drop (getN b).2.toNat)).2 = 0 then ((rdVal (getN b).1 r (b.drop (getN b).2.toNat)).1, 3)
   else rdR v k ((b.drop (getN b).2.toNat).drop (rdVal (getN b).1 r (b.drop (getN b).2.toNat)).2.toNat) (getN b).1 (rdVal (getN b).1 r (b.drop (getN b).2.toNat)).1 (l.erase (getN b).1))
  else if (getN b).1 < 16 ∨ v = 3 then (r, 7)
  else if passN (b.drop (getN b).2.toNat) = 0 then (r, 3)
  else rdR v k ((b.drop (getN b).2.toNat).drop (passN (b.drop (getN b).2.toNat)).toNat) (getN b).1 r l
theorem zcia (v : Int) (z : Bool) : ∀ (k : Nat) (b : List Int) (last : Int) (r : zko) (l : List Int), b.length < k → isB b → b.length ≤ 4294967296 → l.length ≤ 1000000 → (∀ f ∈ l, 1 ≤ f ∧ f ≤ 5) →
  Ev (fun q => znn q v z b last r.Index r.Proc r.Seq r.Op.Code r.Op.A r.Op.B r.Resp false l true) (rdR v k b last r l)
 | 0, b, last, r, l, hk, hb, hl, hll, hf => by omega
 | k + 1, b, last, r, l, hk, hb, hl, hll, hf => by
  refine Ev.succ ?_ (fun q => rfl)
  simp only [rdR]
  refine Ev.ite (fun h0 => ?_) fun h0 => ?_
  ·rw [if_neg (by omega)]
   have hg := zche (l := b)
   refine Ev.bind (zchd ⟨z, b⟩ hb) ?_
   have hb1 := isB_dr hb (getN b).2.toNat
   have hl1 : (b.drop (getN b).2.toNat).length = b.length - (getN b).2.toNat := by simp
   refine Ev.ite (fun h1 => ?_) fun h1 => Ev.ite (fun h2 => ?_) fun h2 => Ev.pos hg.1 (Ev.pos hg.2.1 (Ev.bind (zcge ⟨false, l⟩ (getN b).1 hll) ?_))
   ·rw [if_pos (.inl h1)]; exact Ev.ret _
   ·rw [if_pos (.inr h2)]; exact Ev.ret _
   ·rw [if_neg (by rintro (h | h) <;> contradiction)]
    dsimp only at h1 h2 ⊢
    refine Ev.ite (fun h3 => ?_) fun h3 => ?_
    ·have hm := (zcgc (x := (getN b).1)).1 h3
     have hsh := zch8 (getN b).1 l 0 hm
     have hfm := hf _ hm
     rw [if_pos hm, show wrp .i64 (idxI (getN b).1 l 0 + 1) = idxI (getN b).1 l 0 + 1 from zcfl (by omega) (by omega)]
     refine Ev.bind (zch7 h3 (by omega) hll) ?_
     rw [zch9 _ _ hm]
     have hle := List.length_erase_le (a := (getN b).1) (l := l)
     have hfe : ∀ f ∈ l.erase (getN b).1, 1 ≤ f ∧ f ≤ 5 := fun f h => hf f (List.mem_of_mem_erase h)
     generalize l.erase (getN b).1 = l' at *
     generalize hB : b.drop (getN b).2.toNat = B at *
     have hB2 : B.length < k := by omega
     refine Ev.ite (fun e => ?_) fun e => Ev.ite (fun e2 => ?_) fun e2 => Ev.ite (fun e3 => ?_) fun e3 => Ev.ite (fun e4 => ?_) fun e4 => Ev.pos (by omega) ?_
     ·have hx := zche (l := B)
      have hr : rdVal (getN b).1 r B = (⟨(getN B).1, r.Proc, r.Seq, r.Op, r.Resp⟩, (getN B).2) := by rw [rdVal, if_pos e]
      rw [hr]
      refine Ev.bind (zchd ⟨z, B⟩ hb1) (Ev.ite (fun h => ?_) fun h => Ev.pos hx.1 (Ev.pos (by simp only [hl1] at hx ⊢; omega) ?_))
      ·rw [if_pos h]; exact Ev.ret _
      ·rw [if_neg h]; exact zcia v z k (B.drop (getN B).2.toNat) (getN b).1 ⟨(getN B).1, r.Proc, r.Seq, r.Op, r.Resp⟩ l' (by simp; omega) (isB_dr hb1 _) (by simp; omega) (by omega) hfe
     ·have hx := zche (l := B)
      have hr : rdVal (getN b).1 r B = (⟨r.Index, (getN B).1, r.Seq, r.Op, r.Resp⟩, (getN B).2) := by rw [rdVal, if_neg e, if_pos e2]
      rw [hr]
      refine Ev.bind (zchd ⟨z, B⟩ hb1) (Ev.ite (fun h => ?_) fun h => Ev.pos hx.1 (Ev.pos (by simp only [hl1] at hx ⊢; omega) ?_))
      ·rw [if_pos h]; exact Ev.ret _
      ·rw [if_neg h]; exact zcia v z k (B.drop (getN B).2.toNat) (getN b).1 ⟨r.Index, (getN B).1, r.Seq, r.Op, r.Resp⟩ l' (by simp; omega) (isB_dr hb1 _) (by simp; omega) (by omega) hfe
     ·have hx := zche (l := B)
      have hr : rdVal (getN b).1 r B = (⟨r.Index, r.Proc, (getN B).1, r.Op, r.Resp⟩, (getN B).2) := by rw [rdVal, if_neg e, if_neg e2, if_pos e3]
      rw [hr]
      refine Ev.bind (zchd ⟨z, B⟩ hb1) (Ev.ite (fun h => ?_) fun h => Ev.pos hx.1 (Ev.pos (by simp only [hl1] at hx ⊢; omega) ?_))
      ·rw [if_pos h]; exact Ev.ret _
      ·rw [if_neg h]; exact zcia v z k (B.drop (getN B).2.toNat) (getN b).1 ⟨r.Index, r.Proc, (getN B).1, r.Op, r.Resp⟩ l' (by simp; omega) (isB_dr hb1 _) (by simp; omega) (by omega) hfe
     ·have hx := zch3 (l := B)
      have hr : rdVal (getN b).1 r B = (⟨r.Index, r.Proc, r.Seq, (getO B).1, r.Resp⟩, (getO B).2) := by rw [rdVal, if_neg e, if_neg e2, if_neg e3, if_pos e4]
      rw [hr]
      refine Ev.bind (zch2 ⟨z, B⟩ hb1 (by simp only; omega)) (Ev.ite (fun h => ?_) fun h => Ev.pos hx.1 (Ev.pos (by simp only [hl1] at hx ⊢; omega) ?_))
      ·rw [if_pos h]; exact Ev.ret _
      ·rw [if_neg h]; exact zcia v z k (B.drop (getO B).2.toNat) (getN b).1 ⟨r.Index, r.Proc, r.Seq, (getO B).1, r.Resp⟩ l' (by simp; omega) (isB_dr hb1 _) (by simp; omega) (by omega) hfe
     ·have hx := zch1 (l := B)
      have hr : rdVal (getN b).1 r B = (⟨r.Index, r.Proc, r.Seq, r.Op, (getS B).1⟩, (getS B).2) := by rw [rdVal, if_neg e, if_neg e2, if_neg e3, if_neg e4]
      rw [hr]
      refine Ev.bind (zch0 ⟨z, B⟩ hb1) (Ev.ite (fun h => ?_) fun h => Ev.pos hx.1 (Ev.pos (by simp only [hl1] at hx ⊢; omega) ?_))
      ·rw [if_pos h]; exact Ev.ret _
      ·rw [if_neg h]; exact zcia v z k (B.drop (getS B).2.toNat) (getN b).1 ⟨r.Index, r.Proc, r.Seq, r.Op, (getS B).1⟩ l' (by simp; omega) (isB_dr hb1 _) (by simp; omega) (by omega) hfe
    ·have hm : ¬ (getN b).1 ∈ l := fun h => h3 (zcgc.2 h)
     rw [if_neg hm]
     generalize hB : b.drop (getN b).2.toNat = B at *
     have hx := zch5 (l := B)
     refine Ev.ite (fun e => ?_) fun e => Ev.ite (fun e2 => ?_) fun e2 => Ev.bind (zch4 ⟨z, B⟩ hb1 (by simp only; omega)) (Ev.ite (fun h => ?_) fun h => Ev.pos hx.1 (Ev.pos (by dsimp only; omega) ?_))
     ·rw [if_pos (.inl e)]; exact Ev.ret _
     ·rw [if_pos (.inr e2)]; exact Ev.ret _
     ·rw [if_neg (by rintro (h | h) <;> contradiction), if_pos h]; exact Ev.ret _
     ·rw [if_neg (by rintro (h | h) <;> contradiction), if_neg h]
      exact zcia v z k (B.drop (passN B).toNat) (getN b).1 r l (by simp; omega) (isB_dr hb1 _) (by simp; omega) hll hf
  ·rw [if_pos (by omega)]
   refine Ev.ite (fun h1 => ?_) fun h1 => Ev.bind (zcf4 r) ?_
   ·rw [if_neg (by omega)]; exact Ev.ret _
   ·rw [if_pos (show l.length = 0 by omega)]
    refine Ev.ite (fun h => ?_) fun h => ?_
    ·rw [if_pos (by simpa using h)]; exact Ev.ret _
    ·rw [if_neg (by simpa using h)]; exact Ev.ret _
/-- The record of bytes. -/
def decR (b : List Int) : zko × Int :=
 if b.length = 0 then (noR, 2) else if (getN b).2 = 0 then (noR, 3) else if (getN b).1 < 1 ∨ 3 < (getN b).1 then (noR, 6)
 else if (rdR (getN b).1 (b.length + 1) (b.drop (getN b).2.toNat) (-1) noR (fieldsOf (getN b).1)).2 = 0 then ((rdR (getN b).1 (b.length + 1) (b.drop (getN b).2.toNat) (-1) noR (fieldsOf (getN b).1)).1, 0)
 else (noR, (rdR (getN b).1 (b.length + 1) (b.drop (getN b).2.toNat) (-1) noR (fieldsOf (getN b).1)).2)
theorem zcib (s : Sl Int) (hb : isB s.l) (hl : s.l.length ≤ 4294967296) : Ev (fun q => znp q s) (decR s.l) := by
 refine Ev.succ ?_ (fun q => rfl)
 unfold decR
 refine Ev.ite (fun h => ?_) fun h => ?_
 ·rw [if_pos (by omega)]; exact Ev.ret _
 ·rw [if_neg (by omega)]
  have hg := zche (l := s.l)
  refine Ev.bind (zchd s hb) (Ev.ite (fun h1 => ?_) fun h1 => ?_)
  ·rw [if_pos h1]; exact Ev.ret _
  ·rw [if_neg h1]
   by_cases hv : (getN s.l).1 < 1 ∨ 3 < (getN s.l).1
   ·rw [if_pos hv]; exact Ev.bind (zcf9 hv) (Ev.pos rfl (Ev.ret _))
   ·rw [if_neg hv]
    have hm := zcgb (v := (getN s.l).1)
    refine Ev.bind (zcga (by omega) (by omega)) (Ev.neg (by simp) (Ev.pos hg.1 (Ev.pos hg.2.1 ?_)))
    have hr : Ev (fun q => zno q (getN s.l).1 ⟨s.z, s.l.drop (getN s.l).2.toNat⟩) (rdR (getN s.l).1 (s.l.length + 1) (s.l.drop (getN s.l).2.toNat) (-1) noR (fieldsOf (getN s.l).1)) := by
     refine Ev.succ (Ev.bind (zcga (by omega) (by omega)) (Ev.bind (zch6 ⟨false, fieldsOf (getN s.l).1⟩ rfl (by simp only; omega)) ?_)) (fun q => rfl)
     exact zcia (getN s.l).1 s.z (s.l.length + 1) (s.l.drop (getN s.l).2.toNat) (-1) noR (fieldsOf (getN s.l).1) (by simp; omega) (isB_dr hb _) (by simp; omega) (by omega) hm.1
    refine Ev.bind hr (Ev.ite (fun h => ?_) fun h => ?_)
    ·rw [if_pos h]; exact Ev.ret _
    ·rw [if_neg h]; exact Ev.ret _
def chainB : List zko → Int → Bool
 | [], _ => true
 | r :: l, f => decide (FitsR r) && (decide (r.Index = f) && chainB l (f + 1))
theorem zcic {r : zko} (h : FitsR r) : 0 ≤ r.Index ∧ r.Index < 4611686018427387904 := ⟨h.1, h.2.1⟩
/-- The number of the last record of a process. -/
def lastS : List zko → Int → Int
 | [], _ => 0
 | r :: l, p => if p = r.Proc then r.Seq else lastS l p
/-- A map that has, of each process, the last one's number: by the records turned round. -/
def mapR : List zko → List (Int × Int)
 | [] => []
 | r :: l => mset (mapR l) r.Proc r.Seq
theorem zcid (m : List (Int × Int)) (n y p : Int) : mget (mset m n y) p = if p = n then y else mget m p := by
 induction m with
 | nil => simp [mset, mget]
 | cons e m ih =>
  obtain ⟨k, v⟩ := e
  simp only [mset]
  by_cases h : n = k
  ·subst h
   rw [if_pos rfl]
   simp only [mget]
   by_cases hp : p = n
   ·rw [if_pos hp, if_pos hp]
   ·rw [if_neg hp, if_neg hp, if_neg hp]
  ·rw [if_neg h]
   simp only [mget]
   by_cases hp : p = k
   ·rw [if_pos hp, if_pos hp, if_neg (fun e => h (by rw [← e, hp]))]
   ·rw [if_neg hp, if_neg hp, ih]
theorem zcie (l : List zko) (p : Int) : mget (mapR l) p = lastS l p := by
 induction l with
 | nil => rfl
 | cons r l ih => simp only [mapR, zcid, lastS, ih]
/-- A block's records as bytes, behind others (these turned round). -/
def blkB : List zko → List zko → List Int
 | _, [] => []
 | pr, r :: l => (put r.Proc ++ (putS (r.Seq - lastS pr r.Proc) ++ (opB r.Op ++ putS r.Resp))) ++ blkB (r :: pr) l
theorem zcif {l : List zko} (h : ∀ r ∈ l, FitsR r) (p : Int) : 0 ≤ lastS l p ∧ lastS l p < 4611686018427387904 := by
 induction l with
 | nil => simp [lastS]
 | cons r l ih =>
  simp only [lastS]
  split
  ·have := h r y31
   exact ⟨this.2.2.2.2.1, this.2.2.2.2.2.1⟩
  ·exact ih fun r hr => h r (y35 _ hr)
theorem zcig (z : Bool) (L : List zko) (hf : ∀ r ∈ L, FitsR r) (hL : L.length ≤ 1000000) : ∀ (k i : Nat) (l : List Int), L.length = i + k → l.length + 60 * k ≤ 4294967296 →
  Ev (fun q => znc q z L (L.length : Int) (i : Int) (mapR (L.take i).reverse) false l true) (⟨false, true, l ++ blkB (L.take i).reverse (L.drop i)⟩, 0)
 | 0, i, l, hk, hl => by
  refine Ev.succ (Ev.ne (Ev.ret' ?_)) (fun q => rfl)
  rw [y11 (by omega)]; simp [blkB]
 | k + 1, i, l, hk, hl => by
  have hi : i < L.length := by omega
  have he : L[((i : Int)).toNat]? = some L[i] := by simp [hi]
  have hfit := hf L[i] (y25 hi)
  have hr := hfit
  obtain ⟨h1, h2, h3, h4, h5, h6, h7, h8, h9⟩ := hfit
  have hpr : ∀ r ∈ (L.take i).reverse, FitsR r := fun r hr => hf r (y43 (List.mem_reverse.1 hr))
  have hlast := zcif hpr L[i].Proc
  have hw : wrp .i64 (L[i].Seq - mget (mapR (L.take i).reverse) L[i].Proc) = L[i].Seq - lastS (L.take i).reverse L[i].Proc := by
   rw [zcie, zcfl (by omega) (by omega)]
  have p1 := zcfu L[i].Proc
  have i1 : inR .i64 (L[i].Seq - lastS (L.take i).reverse L[i].Proc) := zcf6 (by omega) (by omega)
  have i2 : inR .i64 L[i].Resp := zcf6 (by omega) (by omega)
  have p2 := zcf5 i1
  have p3 := zcf7 h7
  have p4 := zcf5 i2
  refine Ev.succ (Ev.po (Ev.po (Ev.opt he (Ev.bind (zcfv ⟨false, true, l⟩ h3 (by omega) (by simp only; omega)) ?_)))) (fun q => rfl)
  simp only [hw]
  refine Ev.bind (zcfz _ i1 (by simp only [y9]; omega)) (Ev.bind (zcf8 _ h7 (by simp only [y9]; omega)) (Ev.bind (zcfz _ i2 (by simp only [y9]; omega)) ?_))
  rw [show wrp .i64 ((i : Int) + 1) = ((i + 1 : Nat) : Int) by rw [zcfl (by omega) (by omega)]; omega]
  have ht : (L.take (i + 1)).reverse = L[i] :: (L.take i).reverse := by
   rw [List.take_succ, y6 hi]; simp
  have ih := zcig z L hf hL k (i + 1) (((l ++ put L[i].Proc) ++ putS (L[i].Seq - lastS (L.take i).reverse L[i].Proc)) ++ opB L[i].Op ++ putS L[i].Resp) (by omega) (by simp only [y9]; omega)
  rw [ht] at ih
  simp only [mapR] at ih
  refine Ev.cast ih ?_
  rw [y8 hi]
  simp [blkB]
theorem zcih {l : List zko} {f : Int} (h : chainB l f = true) : ∀ r ∈ l, FitsR r := by
 induction l generalizing f with
 | nil => intro r hr; simp at hr
 | cons a l ih =>
  simp only [chainB, y5, decide_eq_true_eq] at h
  intro r hr
  rcases List.mem_cons.1 hr with e | e
  ·rw [e]; exact h.1
  ·exact ih h.2.2 r e
/-- May records stand in one block? -/
def blkOk (l : List zko) : Bool := match l with
 | [] => false
 | r :: _ => chainB l r.Index && decide ((l.length : Int) ≤ 256)
def blkE (l : List zko) : List Int := match l with
 | [] => []
 | r :: _ => put r.Index ++ (put (l.length : Int) ++ blkB [] l)
theorem zcii (z : Bool) (e : zko) (L' : List zko) (hL : (e :: L').length ≤ 1000000) : ∀ (k i : Nat), (e :: L').length = i + k → (0 < i → FitsR e) →
  Ev (fun q => zm9 q z (e :: L') z (e :: L') ((e :: L').length : Int) (i : Int)) (chainB ((e :: L').drop i) (e.Index + i) && decide (((e :: L').length : Int) ≤ 256))
 | 0, i, hk, hE => by
  refine Ev.succ (Ev.ne (Ev.pos (by simp) (Ev.ret' ?_))) (fun q => rfl)
  rw [y11 (by omega)]; rfl
 | k + 1, i, hk, hE => by
  have hi : i < (e :: L').length := by omega
  have hE' : decide (FitsR (e :: L')[i]) = true → FitsR e := by
   intro h
   by_cases h0 : 0 < i
   ·exact hE h0
   ·have : i = 0 := by omega
    subst this; simpa using h
  have he : (e :: L')[((i : Int)).toNat]? = some (e :: L')[i] := by simp [hi]
  refine Ev.succ (Ev.po (Ev.po (Ev.opt he (Ev.bind (zcf4 _) ?_)))) (fun q => rfl)
  rw [y8 hi]
  simp only [chainB]
  refine Ev.ite (fun h => Ev.opt (s := e) rfl (Ev.ite (fun h2 => ?_) fun h2 => Ev.ret' ?_)) fun h => Ev.ret' ?_
  ·have hfe := zcic (hE' h)
   rw [zcfl (by omega) (by omega)] at h2
   have h' : FitsR (e :: L')[i] := by simpa using h
   have := zcii z e L' hL k (i + 1) (by omega) (fun _ => hE' h)
   rw [show wrp .i64 ((i : Int) + 1) = ((i + 1 : Nat) : Int) by rw [zcfl (by omega) (by omega)]; omega]
   refine Ev.cast this ?_
   simp only [h', decide_true, y61, h2]
   rw [show e.Index + ((i + 1 : Nat) : Int) = e.Index + (i : Int) + 1 by omega]
  ·have hfe := zcic (hE' h)
   rw [zcfl (by omega) (by omega)] at h2
   simp [h2]
  ·have h' : ¬ FitsR (e :: L')[i] := by simpa using h
   simp [h']
theorem zcij (s : Sl zko) (hL : s.l.length ≤ 1000000) : Ev (fun q => zna q s) (blkOk s.l) := by
 obtain ⟨z, l⟩ := s
 cases l with
 | nil =>
  refine Ev.succ (g := fun q => zm9 q z [] z [] ((([] : List zko).length : Nat) : Int) 0) ?_ (fun q => rfl)
  refine ⟨1, fun q hq => ?_⟩
  obtain ⟨n, rfl⟩ : ∃ n, q = n + 1 := ⟨q - 1, by omega⟩
  simp [zm9, blkOk]
 | cons e L' =>
  have := zcii z e L' hL (e :: L').length 0 (by simp) (by omega)
  refine Ev.succ (Ev.cast this ?_) (fun q => rfl)
  simp [blkOk]
theorem zcik (s : Sl zko) (hL : s.l.length ≤ 1000000) : Ev (fun q => znd q s) (if blkOk s.l = true then (⟨false, true, blkE s.l⟩, 0) else (⟨true, true, []⟩, 1)) := by
 refine Ev.succ (Ev.bind (zcij s hL) (Ev.ite (fun h => ?_) fun h => ?_)) (fun q => rfl)
 ·rw [if_pos h]
  obtain ⟨z, l⟩ := s
  cases l with
  | nil => simp [blkOk] at h
  | cons e L' =>
   have hf := zcih (l := e :: L') (f := e.Index) (by simp only [blkOk, y5] at h; exact h.1)
   have hl256 : ((e :: L').length : Int) ≤ 256 := by simp only [blkOk, y5, decide_eq_true_eq] at h; exact h.2
   have hfe := zcic (hf e y31)
   have p1 := zcfu e.Index
   have p2 := zcfu ((e :: L').length : Int)
   refine Ev.opt (s := e) rfl (Ev.bind (zcfv _ hfe.1 hfe.2 (by simp)) (Ev.bind (zcfv _ (by omega) (by omega) (by simp only [y46]; omega)) ?_))
   have := zcig z (e :: L') hf hL (e :: L').length 0 (([] ++ put e.Index) ++ put ((e :: L').length : Int)) (by simp) (by simp only [y9, y24]; omega)
   refine Ev.cast this ?_
   simp [blkE]
 ·rw [if_neg h]; exact Ev.ret _
theorem zcil (s : Sl Int) (hb : isB s.l) (hl : s.l.length ≤ 1048576) : ∃ z, Ev (fun q => zns q s) ⟨z, true, encF s.l⟩ := by
 obtain ⟨z, h⟩ := zcg9 s hb hl
 exact ⟨z, Ev.succ (Ev.bind h (Ev.ret _)) (fun q => rfl)⟩
def headD (v kind first : Int) : List Int := (([108] ++ put v) ++ put kind) ++ put first
theorem zcim (v : Int) : Ev (fun q => zm5 q v) (decide (1 ≤ v ∧ v ≤ 3)) :=
 Ev.succ (Ev.ite (fun h => Ev.ret' (by simp [h])) fun h => Ev.ret' (by simp [h])) (fun q => rfl)
theorem zcin (z z7 : Bool) (L : List zko) (first : Int) (hr : inR .i64 first) (hL : L.length ≤ 1000000) : ∀ (k i : Nat), L.length = i + k → (0 < i → 0 ≤ first ∧ first < 4611686018427387904) →
  Ev (fun q => znh q z L first z7 L (L.length : Int) (i : Int)) (chainB (L.drop i) (first + i) && decide ((L.length : Int) ≤ 4096))
 | 0, i, hk, h0 => by
  refine Ev.succ (Ev.ne (Ev.ret' ?_)) (fun q => rfl)
  rw [y11 (by omega)]; rfl
 | k + 1, i, hk, h0 => by
  have hi : i < L.length := by omega
  have he : L[((i : Int)).toNat]? = some L[i] := by simp [hi]
  have hR := inR64 hr
  have hw : wrp .i64 (first + (i : Int)) = first + (i : Int) := by
   by_cases h : 0 < i
   ·have := h0 h; rw [zcfl (by omega) (by omega)]
   ·rw [zcfl (by omega) (by omega)]
  refine Ev.succ (Ev.po (Ev.po (Ev.opt he (Ev.bind (zcf4 _) ?_)))) (fun q => rfl)
  rw [y8 hi]
  simp only [chainB]
  refine Ev.ite (fun h => Ev.ite (fun h2 => ?_) fun h2 => Ev.ret' ?_) fun h => Ev.ret' ?_
  ·rw [hw] at h2
   have h' : FitsR L[i] := by simpa using h
   have hfi := zcic h'
   have := zcin z z7 L first hr hL k (i + 1) (by omega) (fun _ => by
    by_cases h : 0 < i
    ·exact h0 h
    ·omega)
   rw [show wrp .i64 ((i : Int) + 1) = ((i + 1 : Nat) : Int) by rw [zcfl (by omega) (by omega)]; omega]
   refine Ev.cast this ?_
   simp only [h', decide_true, y61, h2]
   rw [show first + ((i + 1 : Nat) : Int) = first + (i : Int) + 1 by omega]
  ·rw [hw] at h2
   simp [h2]
  ·have h' : ¬ FitsR L[i] := by simpa using h
   simp [h']
theorem zcio (s : Sl zko) (first : Int) (hr : inR .i64 first) (hL : s.l.length ≤ 1000000) : Ev (fun q => zni q s first) (chainB s.l first && decide ((s.l.length : Int) ≤ 4096)) := by
 have := zcin s.z s.z s.l first hr hL s.l.length 0 (by simp) (by omega)
 refine Ev.succ (Ev.cast this ?_) (fun q => rfl)
 simp
theorem zcip (l : List Int) : (encF l).length ≤ l.length + 14 ∧ 4 ≤ (encF l).length := by
 have := zcfu (l.length : Int)
 unfold encF fix4
 simp only [y9, y20, y24]; omega
def lensB (F : List (List Int)) : List Int := F.flatMap fun f => put (f.length : Int)
theorem zciq (f : List Int) (F : List (List Int)) : lensB (f :: F) = put (f.length : Int) ++ lensB F := by simp [lensB]
/-- The data of a footer, by the frames ahead of it. -/
def footD (F : List (List Int)) : List Int := put ((F.length : Int) - 1) ++ lensB F.dropLast
theorem zcir (z : Bool) (L : List (Sl Int)) (hL : L.length ≤ 100000) (he : ∀ e ∈ L, e.l.length ≤ 4294967296) : ∀ (k i : Nat) (n : Bool) (l : List Int), L.length = i + k → l.length ≤ 10 * i + 10 → isB l →
  ∃ z', Ev (fun q => znv q z L (L.length : Int) (i : Int) n l true) ⟨z', true, encF (l ++ lensB ((L.drop i).map (·.l)))⟩
 | 0, i, n, l, hk, hl, hb => by
  rw [y11 (by omega)]
  obtain ⟨z', h⟩ := zcil ⟨n, l⟩ hb (by simp only; omega)
  refine ⟨z', Ev.succ (Ev.ne (Ev.bind h (Ev.ret' ?_))) (fun q => rfl)⟩
  simp [lensB]
 | k + 1, i, n, l, hk, hl, hb => by
  have hi : i < L.length := by omega
  have hg : L[((i : Int)).toNat]? = some L[i] := by simp [hi]
  have hm := he L[i] (y25 hi)
  have hp := zcfu (L[i].l.length : Int)
  obtain ⟨z', ih⟩ := zcir z L hL he k (i + 1) false (l ++ put (L[i].l.length : Int)) (by omega) (by rw [y9]; omega) (zcg8.2 ⟨hb, zcg7 _⟩)
  rw [show ((i + 1 : Nat) : Int) = wrp .i64 ((i : Int) + 1) by rw [zcfl (by omega) (by omega)]; omega] at ih
  refine ⟨z', Ev.succ (Ev.po (Ev.po (Ev.opt hg (Ev.bind (zcfv ⟨n, true, l⟩ (by omega) (by omega) (by simp only; omega)) (Ev.cast ih ?_))))) (fun q => rfl)⟩
  rw [y8 hi, y33, zciq, y32]
theorem zcis (s : Sl (Sl Int)) (h1 : 1 ≤ s.l.length) (h2 : s.l.length ≤ 100000) (h3 : ∀ e ∈ s.l, e.l.length ≤ 4294967296) : ∃ z, Ev (fun q => znw q s) ⟨z, true, encF (footD (s.l.map (·.l)))⟩ := by
 have hw : wrp .i64 ((s.l.length : Int) - 1) = ((s.l.length - 1 : Nat) : Int) := by rw [zcfl (by omega) (by omega)]; omega
 have hp := zcfu ((s.l.length - 1 : Nat) : Int)
 have ht : (s.l.take (s.l.length - 1)).length = s.l.length - 1 := by rw [y19]; omega
 obtain ⟨z, h⟩ := zcir s.z (s.l.take (s.l.length - 1)) (by omega) (fun e he => h3 e (y43 he)) (s.l.length - 1) 0 false ([] ++ put ((s.l.length - 1 : Nat) : Int)) (by omega) (by simpa using hp) (by simpa using zcg7 _)
 rw [ht] at h
 refine ⟨z, Ev.succ (g := fun q => (zly q ⟨true, true, []⟩ (wrp .i64 ((s.l.length : Int) - 1))).bind fun r1 => (if 0 ≤ (wrp .i64 ((s.l.length : Int) - 1)) then (if (wrp .i64 ((s.l.length : Int) - 1)).toNat ≤ s.l.length then (znv q s.z (List.take ((wrp .i64 ((s.l.length : Int) - 1)).toNat) s.l) (((min ((wrp .i64 ((s.l.length : Int) - 1)).toNat) s.l.length) : Nat) : Int) 0 r1.n r1.xs r1.x) else none) else none)) ?_ (fun q => rfl)⟩
 rw [hw]
 simp only [y27]
 refine Ev.bind (zcfv ⟨true, true, []⟩ (by omega) (by omega) (by simp)) (Ev.po (Ev.pos (by omega) ?_))
 rw [Nat.min_eq_left (by omega)]
 refine Ev.cast h ?_
 simp only [footD, y46, y37, y23, ← List.map_dropLast, List.dropLast_eq_take, ← List.map_take]
 rw [show (s.l.length : Int) - 1 = ((s.l.length - 1 : Nat) : Int) by omega]
/-- The record that bytes begin with (its number is what is told), and how many bytes it has. -/
def rec1 (b : List Int) : zko × Int :=
  if (getN b).2 = 0 then (noR, 0) else
  if (getS (b.drop (getN b).2.toNat)).2 = 0 then (noR, 0) else
  if (getO ((b.drop (getN b).2.toNat).drop (getS (b.drop (getN b).2.toNat)).2.toNat)).2 = 0 then (noR, 0) else
  if (getS (((b.drop (getN b).2.toNat).drop (getS (b.drop (getN b).2.toNat)).2.toNat).drop (getO ((b.drop (getN b).2.toNat).drop (getS (b.drop (getN b).2.toNat)).2.toNat)).2.toNat)).2 = 0 then (noR, 0) else
  (⟨0, (getN b).1, (getS (b.drop (getN b).2.toNat)).1, (getO ((b.drop (getN b).2.toNat).drop (getS (b.drop (getN b).2.toNat)).2.toNat)).1, (getS (((b.drop (getN b).2.toNat).drop (getS (b.drop (getN b).2.toNat)).2.toNat).drop (getO ((b.drop (getN b).2.toNat).drop (getS (b.drop (getN b).2.toNat)).2.toNat)).2.toNat)).1⟩,
   (getN b).2 + (getS (b.drop (getN b).2.toNat)).2 + (getO ((b.drop (getN b).2.toNat).drop (getS (b.drop (getN b).2.toNat)).2.toNat)).2 + (getS (((b.drop (getN b).2.toNat).drop (getS (b.drop (getN b).2.toNat)).2.toNat).drop (getO ((b.drop (getN b).2.toNat).drop (getS (b.drop (getN b).2.toNat)).2.toNat)).2.toNat)).2)
theorem zcit (a b c d h1 h2 h3 h4 h5 h6 : Int) (ha : 0 ≤ a ∧ a ≤ 100) (hb : 0 ≤ b ∧ b ≤ 100) (hc : 0 ≤ c ∧ c ≤ 100) (hd : 0 ≤ d ∧ d ≤ 100) :
  Ev (fun q => zm7 q 0 a b c d 0 h1 h2 h3 h4 h5 h6) (if a = 0 then (noR, 0) else if b = 0 then (noR, 0) else if c = 0 then (noR, 0) else if d = 0 then (noR, 0) else (⟨0, h1, h2, ⟨h3, h4, h5⟩, h6⟩, a + b + c + d)) := by
 have w1 : wrp .i64 ((0 : Int) + 1) = 1 := by rw [zcfl (by omega) (by omega)]; rfl
 have w2 : wrp .i64 ((1 : Int) + 1) = 2 := by rw [zcfl (by omega) (by omega)]; rfl
 have w3 : wrp .i64 ((2 : Int) + 1) = 3 := by rw [zcfl (by omega) (by omega)]; rfl
 have w4 : wrp .i64 ((3 : Int) + 1) = 4 := by rw [zcfl (by omega) (by omega)]; rfl
 have s1 : wrp .i64 (0 + a) = a := by rw [zcfl (by omega) (by omega)]; omega
 have s2 : wrp .i64 (a + b) = a + b := by rw [zcfl (by omega) (by omega)]
 have s3 : wrp .i64 (a + b + c) = a + b + c := by rw [zcfl (by omega) (by omega)]
 have s4 : wrp .i64 (a + b + c + d) = a + b + c + d := by rw [zcfl (by omega) (by omega)]
 refine Ev.succ (g := fun q => if a = 0 then some (noR, 0) else zm7 q (wrp .i64 (0 + a)) a b c d (wrp .i64 (0 + 1)) h1 h2 h3 h4 h5 h6) ?_ (fun q => rfl)
 refine Ev.ite (fun h => ?_) fun h => ?_
 ·rw [if_pos h]; exact Ev.ret _
 rw [if_neg h, w1, s1]
 refine Ev.succ (g := fun q => if b = 0 then some (noR, 0) else zm7 q (wrp .i64 (a + b)) a b c d (wrp .i64 (1 + 1)) h1 h2 h3 h4 h5 h6) ?_ (fun q => rfl)
 refine Ev.ite (fun h => ?_) fun h => ?_
 ·rw [if_pos h]; exact Ev.ret _
 rw [if_neg h, w2, s2]
 refine Ev.succ (g := fun q => if c = 0 then some (noR, 0) else zm7 q (wrp .i64 (a + b + c)) a b c d (wrp .i64 (2 + 1)) h1 h2 h3 h4 h5 h6) ?_ (fun q => rfl)
 refine Ev.ite (fun h => ?_) fun h => ?_
 ·rw [if_pos h]; exact Ev.ret _
 rw [if_neg h, w3, s3]
 refine Ev.succ (g := fun q => if d = 0 then some (noR, 0) else zm7 q (wrp .i64 (a + b + c + d)) a b c d (wrp .i64 (3 + 1)) h1 h2 h3 h4 h5 h6) ?_ (fun q => rfl)
 refine Ev.ite (fun h => ?_) fun h => ?_
 ·rw [if_pos h]; exact Ev.ret _
 rw [if_neg h, w4, s4]
 exact Ev.succ (g := fun q => some (⟨0, h1, h2, ⟨h3, h4, h5⟩, h6⟩, a + b + c + d)) (Ev.ret _) (fun q => rfl)
theorem zciu (s : Sl Int) (hb : isB s.l) (hl : s.l.length ≤ 4294967296) : Ev (fun q => zm8 q s) (rec1 s.l) := by
 have n1 := zche (l := s.l)
 have b1 := zchl hb (getN s.l).2.toNat
 have n2 := zch1 (l := s.l.drop (getN s.l).2.toNat)
 have b2 := zchl b1 (getS (s.l.drop (getN s.l).2.toNat)).2.toNat
 have n3 := zch3 (l := (s.l.drop (getN s.l).2.toNat).drop (getS (s.l.drop (getN s.l).2.toNat)).2.toNat)
 have b3 := zchl b2 (getO ((s.l.drop (getN s.l).2.toNat).drop (getS (s.l.drop (getN s.l).2.toNat)).2.toNat)).2.toNat
 have n4 := zch1 (l := ((s.l.drop (getN s.l).2.toNat).drop (getS (s.l.drop (getN s.l).2.toNat)).2.toNat).drop (getO ((s.l.drop (getN s.l).2.toNat).drop (getS (s.l.drop (getN s.l).2.toNat)).2.toNat)).2.toNat)
 simp only [y12] at n2 n3 n4
 refine Ev.succ (Ev.bind (zchd s hb) (Ev.po (Ev.po (Ev.bind (zch0 ⟨s.z, _⟩ b1) (Ev.pos (by simp only; omega) (Ev.pos (by simp only; omega) (Ev.bind (zch2 ⟨s.z, _⟩ b2 (by simp only [y12]; omega)) (Ev.pos (by simp only; omega) (Ev.pos (by simp only; omega) (Ev.bind (zch0 ⟨s.z, _⟩ b3) ?_)))))))))) (fun q => rfl)
 exact zcit _ _ _ _ _ _ _ _ _ _ (by omega) (by simp only; omega) (by simp only; omega) (by simp only; omega)
theorem zciv (b : List Int) : 0 ≤ (rec1 b).2 ∧ (rec1 b).2 ≤ b.length := by
 have n1 := zche (l := b)
 have n2 := zch1 (l := b.drop (getN b).2.toNat)
 have n3 := zch3 (l := (b.drop (getN b).2.toNat).drop (getS (b.drop (getN b).2.toNat)).2.toNat)
 have n4 := zch1 (l := ((b.drop (getN b).2.toNat).drop (getS (b.drop (getN b).2.toNat)).2.toNat).drop (getO ((b.drop (getN b).2.toNat).drop (getS (b.drop (getN b).2.toNat)).2.toNat)).2.toNat)
 simp only [y12] at n2 n3 n4
 unfold rec1
 split
 ·simp
 split
 ·simp
 split
 ·simp
 split
 ·simp
 simp only; omega
/-- Records read one behind the other (those ahead turned round). -/
def rdK : Nat → Int → List Int → List zko → Option (List zko)
 | 0, _, _, pr => some pr.reverse
 | k + 1, ix, b, pr => if (rec1 b).2 = 0 then none else
  rdK k (ix + 1) (b.drop (rec1 b).2.toNat) (⟨ix, (rec1 b).1.Proc, wrp .i64 ((rec1 b).1.Seq + lastS pr (rec1 b).1.Proc), (rec1 b).1.Op, (rec1 b).1.Resp⟩ :: pr)
def fin7 (b : List Int) (r : Option (List zko)) : Option (List zko) := r.bind fun l => if blkOk l = true ∧ blkE l = b then some l else none
def resB : Option (List zko) → (Ow zko) × Int
 | some l => (⟨false, false, l⟩, 0)
 | none => (⟨true, true, []⟩, 3)
theorem zciw (z : Bool) (B : List Int) (first : Int) (hf : 0 ≤ first ∧ first < 4611686018427387904) (many : Nat) (hm : many ≤ 256) (zz : Bool) : ∀ (k i : Nat) (b : List Int) (pr : List zko) (h1z : Bool), many = i + k → pr.length = i → isB b → b.length ≤ 4294967296 → (0 < i → h1z = false) →
  Ev (fun q => znf q z B first zz b (many : Int) (i : Int) (mapR pr) h1z pr.reverse) (resB (fin7 B (rdK k (first + i) b pr)))
 | 0, i, b, pr, h1z, hk, hp, hb, hl, hz => by
  have hlen : pr.reverse.length ≤ 1000000 := by rw [List.length_reverse]; omega
  refine Ev.succ (Ev.ne (Ev.bind (zcik ⟨h1z, pr.reverse⟩ hlen) ?_)) (fun q => rfl)
  simp only [rdK, fin7, y4]
  by_cases ho : blkOk pr.reverse = true
  ·rw [if_pos ho]
   refine Ev.pos rfl (Ev.bind (Ev.succ (g := fun _ => some (decide (blkE pr.reverse = B))) (Ev.ret _) (fun q => rfl)) (Ev.ite (fun h => ?_) fun h => ?_))
   ·have h' : blkE pr.reverse = B := by simpa using h
    rw [if_pos ⟨ho, h'⟩]
    refine Ev.ret' ?_
    have : 0 < i := by
     cases pr with
     | nil => simp [blkOk] at ho
     | cons a l => rw [← hp]; simp
    rw [hz this]; rfl
   ·have h' : ¬ blkE pr.reverse = B := by simpa using h
    rw [if_neg (fun e => h' e.2)]; exact Ev.ret _
  ·rw [if_neg ho]
   rw [if_neg (fun e => ho e.1)]
   exact Ev.neg (by decide) (Ev.ret _)
 | k + 1, i, b, pr, h1z, hk, hp, hb, hl, hz => by
  have hr := zciv b
  refine Ev.succ (Ev.po (Ev.bind (zciu ⟨zz, b⟩ hb hl) ?_)) (fun q => rfl)
  simp only [rdK]
  refine Ev.ite (fun h => ?_) fun h => ?_
  ·rw [if_pos h]; exact Ev.ret _
  ·rw [if_neg h]
   have wi : wrp .i64 ((i : Int) + 1) = ((i + 1 : Nat) : Int) := by rw [zcfl (by omega) (by omega)]; omega
   have wx : wrp .i64 (first + (i : Int)) = first + (i : Int) := by rw [zcfl (by omega) (by omega)]
   have ih := zciw z B first hf many hm zz k (i + 1) (b.drop (rec1 b).2.toNat) (⟨first + i, (rec1 b).1.Proc, wrp .i64 ((rec1 b).1.Seq + lastS pr (rec1 b).1.Proc), (rec1 b).1.Op, (rec1 b).1.Resp⟩ :: pr) false (by omega) (by rw [y20, hp]) (zchl hb _) (by rw [y12]; omega) (fun _ => rfl)
   refine Ev.pos (by rw [List.length_reverse]; omega) (Ev.po (Ev.pos (by omega) ?_))
   rw [wi, wx, zcie]
   simp only [mapR, List.reverse_cons] at ih
   rw [show first + ((i + 1 : Nat) : Int) = first + (i : Int) + 1 by omega] at ih
   exact ih
/-- The records of a block's bytes. -/
def blkD (b : List Int) : Option (List zko) :=
 if (getN b).2 = 0 then none else if (getN (b.drop (getN b).2.toNat)).2 = 0 then none else if 256 < (getN (b.drop (getN b).2.toNat)).1 then none else
 fin7 b (rdK (getN (b.drop (getN b).2.toNat)).1.toNat (getN b).1 ((b.drop (getN b).2.toNat).drop (getN (b.drop (getN b).2.toNat)).2.toNat) [])
theorem zcix (s : Sl Int) (hb : isB s.l) (hl : s.l.length ≤ 4294967296) : Ev (fun q => zng q s) (resB (blkD s.l)) := by
 have n1 := zche (l := s.l)
 have b1 := zchl hb (getN s.l).2.toNat
 have n2 := zche (l := s.l.drop (getN s.l).2.toNat)
 have b2 := zchl b1 (getN (s.l.drop (getN s.l).2.toNat)).2.toNat
 have n2' := n2.2.1
 rw [y12] at n2'
 have hw : wrp .i64 ((getN s.l).2 + (getN (s.l.drop (getN s.l).2.toNat)).2) = (getN s.l).2 + (getN (s.l.drop (getN s.l).2.toNat)).2 := by rw [zcfl (by omega) (by omega)]
 unfold blkD
 refine Ev.succ (Ev.bind (zchd s hb) (Ev.po (Ev.po (Ev.bind (zchd ⟨s.z, _⟩ b1) (Ev.ite (fun h => ?_) fun h => Ev.ite (fun h2 => ?_) fun h2 => Ev.ite (fun h3 => ?_) fun h3 => ?_))))) (fun q => rfl)
 ·rw [if_pos h]; exact Ev.ret _
 ·rw [if_neg h, if_pos h2]; exact Ev.ret _
 ·rw [if_neg h, if_neg h2, if_pos h3]; exact Ev.ret _
 rw [if_neg h, if_neg h2, if_neg h3]
 rw [hw]
 simp only at h2 h3
 have e1 : (s.l.drop ((getN s.l).2 + (getN (s.l.drop (getN s.l).2.toNat)).2).toNat) = (s.l.drop (getN s.l).2.toNat).drop (getN (s.l.drop (getN s.l).2.toNat)).2.toNat := by
  rw [y49]; congr 1; omega
 rw [e1]
 have := zciw s.z s.l (getN s.l).1 ⟨n1.2.2.2.1, n1.2.2.2.2⟩ (getN (s.l.drop (getN s.l).2.toNat)).1.toNat (by omega) s.z (getN (s.l.drop (getN s.l).2.toNat)).1.toNat 0 ((s.l.drop (getN s.l).2.toNat).drop (getN (s.l.drop (getN s.l).2.toNat)).2.toNat) [] true (by omega) rfl b2 (by simp only [y12]; omega) (by omega)
 rw [Int.toNat_of_nonneg (by omega)] at this
 refine Ev.po (Ev.po (Ev.cast this ?_))
 simp
theorem zciy {b : List Int} {l : List zko} (h : blkD b = some l) : blkOk l = true ∧ blkE l = b := by
 unfold blkD at h
 split at h
 ·cases h
 split at h
 ·cases h
 split at h
 ·cases h
 unfold fin7 at h
 revert h
 generalize rdK _ _ _ _ = r
 intro h
 cases r with
 | none => cases h
 | some l' =>
  simp only [y4] at h
  split at h
  ·rename_i h2; cases h; exact h2
  ·cases h
/-- The records of a block of an elder version. -/
def eldD (v : Int) : Nat → List Int → List zko → Option (List zko)
 | 0, _, _ => none
 | k + 1, d, acc => if d.length = 0 then some acc else
  if (getN d).2 = 0 then none else if (getN d).1 = 0 then none else if (d.length : Int) - (getN d).2 < (getN d).1 then none else
  if d[(getN d).2.toNat]? = some v then
   (if (decR ((d.drop (getN d).2.toNat).take (getN d).1.toNat)).2 = 0 then eldD v k (d.drop ((getN d).2 + (getN d).1).toNat) (acc ++ [(decR ((d.drop (getN d).2.toNat).take (getN d).1.toNat)).1]) else none)
  else none
def resE (z : Bool) : Option (List zko) → (Ow zko) × Bool
 | some l => (⟨z, true, l⟩, true)
 | none => (⟨true, true, []⟩, false)
theorem zciz {v : Int} (v1 : 1 ≤ v) (v3 : v ≤ 3) (zz : Bool) : ∀ (k : Nat) (d : List Int) (acc : List zko) (h0z : Bool), d.length < k → isB d → d.length ≤ 4294967296 → acc.length + d.length ≤ 4294967296 →
  ∃ z, Ev (fun q => znq q v zz d h0z acc) (resE z (eldD v k d acc))
 | 0, d, acc, h0z, hk, hb, hl, ha => by omega
 | k + 1, d, acc, h0z, hk, hb, hl, ha => by
  have n1 := zche (l := d)
  by_cases h0 : d.length = 0
  ·refine ⟨h0z, Ev.succ (Ev.ne (Ev.ret' ?_)) (fun q => rfl)⟩
   simp only [eldD, h0, if_true, resE]
  ·have w1 : wrp .i64 ((d.length : Int) - (getN d).2) = (d.length : Int) - (getN d).2 := by rw [zcfl (by omega) (by omega)]
   by_cases hg : (getN d).2 = 0
   ·refine ⟨true, Ev.succ (Ev.po (Ev.bind (zchd ⟨zz, d⟩ hb) (Ev.pos hg (Ev.ret' ?_)))) (fun q => rfl)⟩
    simp only [eldD, h0, hg, if_true, if_false, resE]
   by_cases hn : (getN d).1 = 0
   ·refine ⟨true, Ev.succ (Ev.po (Ev.bind (zchd ⟨zz, d⟩ hb) (Ev.neg hg (Ev.pos hn (Ev.ret' ?_))))) (fun q => rfl)⟩
    simp only [eldD, h0, hg, hn, if_true, if_false, resE]
   by_cases ht : (d.length : Int) - (getN d).2 < (getN d).1
   ·refine ⟨true, Ev.succ (Ev.po (Ev.bind (zchd ⟨zz, d⟩ hb) (Ev.neg hg (Ev.neg hn (Ev.pos (by rw [w1]; exact ht) (Ev.ret' ?_)))))) (fun q => rfl)⟩
    simp only [eldD, h0, hg, hn, ht, if_true, if_false, resE]
   have hi : (getN d).2.toNat < d.length := by omega
   have w2 : wrp .i64 ((getN d).2 + (getN d).1) = (getN d).2 + (getN d).1 := by rw [zcfl (by omega) (by omega)]
   have w3 : wrp .u8 v = v := by rw [wrp_u8]; omega
   have he : d[(getN d).2.toNat]? = some d[(getN d).2.toNat] := by simp [hi]
   by_cases hv : d[(getN d).2.toNat] = v
   ·have es : List.drop (getN d).2.toNat (List.take ((getN d).2 + (getN d).1).toNat d) = (d.drop (getN d).2.toNat).take (getN d).1.toNat := by
     rw [List.drop_take]; congr 1; omega
    have hbs : isB ((d.drop (getN d).2.toNat).take (getN d).1.toNat) := zchk (zchl hb _) _
    by_cases hr : (decR ((d.drop (getN d).2.toNat).take (getN d).1.toNat)).2 = 0
    ·obtain ⟨z, ih⟩ := zciz v1 v3 zz k (d.drop ((getN d).2 + (getN d).1).toNat) (acc ++ [(decR ((d.drop (getN d).2.toNat).take (getN d).1.toNat)).1]) false (by rw [y12]; omega) (zchl hb _) (by rw [y12]; omega) (by simp only [y12, y9, y20, y24]; omega)
     refine ⟨z, Ev.succ (Ev.po (Ev.bind (zchd ⟨zz, d⟩ hb) (Ev.neg hg (Ev.neg hn (Ev.neg (by rw [w1]; exact ht) (Ev.pos (by simp only; omega) (Ev.opt he (Ev.pos (by rw [w3]; exact hv) ?_)))))))) (fun q => rfl)⟩
     simp only [w2, es]
     refine Ev.po (Ev.po (Ev.bind (zcib ⟨zz, _⟩ hbs (by simp only [y19, y12]; omega)) (Ev.pos hr (Ev.po (Ev.po (Ev.po (Ev.cast ih ?_)))))))
     simp only [eldD, h0, hg, hn, ht, he, hv, hr, if_true, if_false]
    ·refine ⟨true, Ev.succ (Ev.po (Ev.bind (zchd ⟨zz, d⟩ hb) (Ev.neg hg (Ev.neg hn (Ev.neg (by rw [w1]; exact ht) (Ev.pos (by simp only; omega) (Ev.opt he (Ev.pos (by rw [w3]; exact hv) ?_)))))))) (fun q => rfl)⟩
     simp only [w2, es]
     refine Ev.po (Ev.po (Ev.bind (zcib ⟨zz, _⟩ hbs (by simp only [y19, y12]; omega)) (Ev.neg hr (Ev.ret' ?_))))
     simp only [eldD, h0, hg, hn, ht, he, hv, hr, if_true, if_false, resE]
   ·refine ⟨true, Ev.succ (Ev.po (Ev.bind (zchd ⟨zz, d⟩ hb) (Ev.neg hg (Ev.neg hn (Ev.neg (by rw [w1]; exact ht) (Ev.pos (by simp only; omega) (Ev.opt he (Ev.neg (by rw [w3]; exact hv) (Ev.ret' ?_))))))))) (fun q => rfl)⟩
    simp only [eldD, h0, hg, hn, ht, he, y1, hv, if_false, resE]
theorem zci0 {v : Int} (v1 : 1 ≤ v) (v3 : v ≤ 3) (s : Sl Int) (hb : isB s.l) (hl : s.l.length ≤ 4294967296) : ∃ z, Ev (fun q => znr q v s) (resE z (eldD v (s.l.length + 1) s.l [])) := by
 obtain ⟨z, h⟩ := zciz v1 v3 s.z (s.l.length + 1) s.l [] true (by omega) hb hl (by simpa using hl)
 exact ⟨z, Ev.succ h (fun q => rfl)⟩
theorem zci1 {v : Int} : ∀ {k : Nat} {d : List Int} {acc l : List zko}, eldD v k d acc = some l → l.length ≤ acc.length + d.length
 | 0, d, acc, l, h => by simp [eldD] at h
 | k + 1, d, acc, l, h => by
  have n1 := zche (l := d)
  simp only [eldD] at h
  split at h
  ·cases h; omega
  split at h
  ·cases h
  split at h
  ·cases h
  split at h
  ·cases h
  split at h
  ·split at h
   ·have := zci1 h
    simp only [y9, y20, y24, y12] at this
    omega
   ·cases h
  ·cases h
/-- The records of a block's data. -/
def blockR (v : Int) (d : List Int) : Option (List zko) := if v = 3 then blkD d else eldD v (d.length + 1) d []
theorem zci2 {v : Int} {d : List Int} {l : List zko} (h : blockR v d = some l) : l.length ≤ d.length + 256 := by
 unfold blockR at h
 split at h
 ·have h2 := (zciy h).1
  cases l with
  | nil => simp
  | cons a l => simp only [blkOk, y5, decide_eq_true_eq] at h2; omega
 ·have := zci1 h; rw [y24] at this; omega
def stepW (first : Int) (acc : List zko) (full : Bool) (l : List zko) : Int :=
 if full = true ∧ l.length ≠ 0 ∧ l.length ≤ 16 ∧ chainB l (first + acc.length) = true then (if 4096 < acc.length + l.length then 5 else 0) else 3
theorem zci3 {R : Type} {full : Bool} {s : Sl zko} {first nx tot : Int} {acc : List zko} {cap : Prop} [Decidable cap] {E3 E5 : R} {rec : Nat → Option R} {res : R} (hf : 0 ≤ first ∧ first < 4611686018427387904) (ha : acc.length ≤ 4096) (hs : s.l.length ≤ 100000000)
  (hnx : nx = first + acc.length) (htot : tot = acc.length + s.l.length) (hcap : acc.length + s.l.length ≤ 4294967296 → cap)
  (h3 : stepW first acc full s.l = 3 → res = E3) (h5 : stepW first acc full s.l = 5 → res = E5) (h0 : stepW first acc full s.l = 0 → Ev rec res) :
  Ev (fun q => if full = true then (if (s.l.length : Int) = 0 then some E3 else (if 16 < (s.l.length : Int) then some E3 else ((zni q s (wrp .i64 nx)).bind fun r => (if r = true then (if 4096 < (wrp .i64 tot) then some E5 else (if cap then rec q else none)) else some E3)))) else some E3) res := by
 unfold stepW at h3 h5 h0
 refine Ev.ite (fun hfull => ?_) fun hfull => ?_
 ·by_cases hc : full = true ∧ s.l.length ≠ 0 ∧ s.l.length ≤ 16 ∧ chainB s.l (first + acc.length) = true
  ·rw [if_pos hc] at h3 h5 h0
   have w1 : wrp .i64 nx = first + acc.length := by rw [hnx, zcfl (by omega) (by omega)]
   have w2 : wrp .i64 tot = acc.length + s.l.length := by rw [htot, zcfl (by omega) (by omega)]
   rw [w1, w2]
   refine Ev.ne (Ev.ne (Ev.bind (zcio s _ (zcf6 (by omega) (by omega)) (by omega)) (Ev.pos ?_ (Ev.ite (fun h => ?_) fun h => ?_))))
   ·rw [hc.2.2.2]; simp only [y61, decide_eq_true_eq]; omega
   ·exact Ev.ret' (h5 (if_pos (by omega))).symm
   ·exact Ev.pos (hcap (by omega)) (h0 (if_neg (by omega)))
  ·rw [if_neg hc] at h3
   refine Ev.ite (fun h => Ev.ret' (h3 rfl).symm) fun h => Ev.ite (fun h' => Ev.ret' (h3 rfl).symm) fun h' => ?_
   have w1 : wrp .i64 nx = first + acc.length := by rw [hnx, zcfl (by omega) (by omega)]
   rw [w1]
   refine Ev.bind (zcio s _ (zcf6 (by omega) (by omega)) (by omega)) (Ev.neg ?_ (Ev.ret' (h3 rfl).symm))
   intro e
   simp only [y5] at e
   exact hc ⟨hfull, by omega, by omega, e.1⟩
 ·rw [if_neg (fun h => hfull h.1)] at h3
  exact Ev.ret' (h3 rfl).symm
/-- A walk over frames' data: how many are of it, the first error, the records, is the last block full? -/
def walkS (v first : Int) : List (List Int) → Nat → List zko → Bool → Nat × Int × List zko × Bool
 | [], i, acc, full => (i, 0, acc, full)
 | d :: D, i, acc, full => match blockR v d with
  | none => (i, 3, acc, full)
  | some l => if stepW first acc full l = 0 then walkS v first D (i + 1) (acc ++ l) (decide (l.length = 16)) else (i, stepW first acc full l, acc, full)
def T0 (n : Nat) (e v k f : Int) (full : Bool) : Nat × Int × Int × Int × Int × Int × Bool × Int × Int × Int × Int × Int × Nat × Bool × Bool × (List zko) := (0, (n : Int), e, v, k, f, full, 0, 0, 0, 0, 0, 0, false, false, [])
def T1 (n : Nat) (e v k f : Int) (full z : Bool) (l : List zko) : Nat × Int × Int × Int × Int × Int × Bool × Int × Int × Int × Int × Int × Nat × Bool × Bool × (List zko) := (1, 0, 0, 0, 0, 0, false, (n : Int), e, v, k, f, l.length, full, z, l)
theorem zci4 {first : Int} {acc : List zko} {full : Bool} {l : List zko} (h : stepW first acc full l = 0) : full = true ∧ l.length ≠ 0 ∧ l.length ≤ 16 ∧ chainB l (first + acc.length) = true ∧ acc.length + l.length ≤ 4096 := by
 unfold stepW at h
 split at h
 ·rename_i hc
  split at h
  ·omega
  ·exact ⟨hc.1, hc.2.1, hc.2.2.1, hc.2.2.2, by omega⟩
 ·omega
/-- A head's data. -/
def headR (d : List Int) : Int × Int × Int × Int × Bool :=
  if d.length = 0 then (3, 0, 0, 0, false) else if d[0]? = some 108 then
    (if (getN (d.drop 1)).2 = 0 then (3, 0, 0, 0, false) else
     if (getN ((d.drop 1).drop (getN (d.drop 1)).2.toNat)).2 = 0 then (3, 0, 0, 0, false) else
     if (getN (((d.drop 1).drop (getN (d.drop 1)).2.toNat).drop (getN ((d.drop 1).drop (getN (d.drop 1)).2.toNat)).2.toNat)).2 = 0 then (3, 0, 0, 0, false) else
     if 0 < ((((d.drop 1).drop (getN (d.drop 1)).2.toNat).drop (getN ((d.drop 1).drop (getN (d.drop 1)).2.toNat)).2.toNat).drop (getN (((d.drop 1).drop (getN (d.drop 1)).2.toNat).drop (getN ((d.drop 1).drop (getN (d.drop 1)).2.toNat)).2.toNat)).2.toNat).length then (3, 0, 0, 0, false) else
     if 1 ≤ (getN (d.drop 1)).1 ∧ (getN (d.drop 1)).1 ≤ 3 then
       (if 6 ≤ (getN ((d.drop 1).drop (getN (d.drop 1)).2.toNat)).1 then (1, 0, 0, 0, false) else (0, (getN (d.drop 1)).1, (getN ((d.drop 1).drop (getN (d.drop 1)).2.toNat)).1, (getN (((d.drop 1).drop (getN (d.drop 1)).2.toNat).drop (getN ((d.drop 1).drop (getN (d.drop 1)).2.toNat)).2.toNat)).1, true))
     else (6, 0, 0, 0, false)) else (3, 0, 0, 0, false)
theorem zci5 {d : List Int} (h : (headR d).1 = 0) : 1 ≤ (headR d).2.1 ∧ (headR d).2.1 ≤ 3 ∧ 0 ≤ (headR d).2.2.1 ∧ (headR d).2.2.1 < 6 ∧ 0 ≤ (headR d).2.2.2.1 ∧ (headR d).2.2.2.1 < 4611686018427387904 ∧ (headR d).2.2.2.2 = true := by
 have n2 := zche (l := (d.drop 1).drop (getN (d.drop 1)).2.toNat)
 have n3 := zche (l := ((d.drop 1).drop (getN (d.drop 1)).2.toNat).drop (getN ((d.drop 1).drop (getN (d.drop 1)).2.toNat)).2.toNat)
 unfold headR at h ⊢
 repeat' split at h
 all_goals first | (simp only at h; omega) | skip
 rename_i c1 c2 c3 c4 c5 c6 c7 c8
 rw [if_neg c1, if_pos c2, if_neg c3, if_neg c4, if_neg c5, if_neg c6, if_pos c7, if_neg c8]
 simp only
 exact ⟨c7.1, c7.2, by omega, by omega, by omega, by omega, trivial⟩
theorem zci6 (d : Sl Int) (hb : isB d.l) (hl : d.l.length ≤ 4294967296) (h1z : Bool) (h1l : List (Sl Int)) (h1x : Bool) : Ev (fun q => zn3 q d.z d.l h1z h1l h1x) (headR d.l) := by
 obtain ⟨z, l⟩ := d
 simp only at hb hl ⊢
 have w1 : wrp .i64 ((0 : Int) + 1) = 1 := by rw [zcfl (by omega) (by omega)]; rfl
 have w2 : wrp .i64 ((1 : Int) + 1) = 2 := by rw [zcfl (by omega) (by omega)]; rfl
 have w3 : wrp .i64 ((2 : Int) + 1) = 3 := by rw [zcfl (by omega) (by omega)]; rfl
 unfold headR
 by_cases h0 : l.length = 0
 ·rw [if_pos h0]
  exact Ev.succ (Ev.po (Ev.ret _)) (fun q => rfl)
 rw [if_neg h0]
 have he : l[0]? = some l[0] := y6 (by omega)
 by_cases hm : l[0] = 108
 ·rw [if_pos (by rw [he, hm])]
  refine Ev.succ (Ev.ne (Ev.opt he (Ev.pos hm (Ev.pos (by omega) ?_)))) (fun q => rfl)
  have b0 := zchl hb 1
  generalize l.drop 1 = l0 at b0 ⊢
  have n1 := zche (l := l0)
  refine Ev.succ (g := fun q => (zmn q ⟨z, l0⟩).bind fun r2 => if r2.2 = 0 then some (3, 0, 0, 0, false) else if 0 ≤ r2.2 then (if r2.2 ≤ (l0.length : Int) then zn2 q z (List.drop r2.2.toNat l0) (wrp .i64 (0 + 1)) h1z h1l h1x r2.1 0 0 else none) else none) ?_ (fun q => rfl)
  refine Ev.bind (zchd ⟨z, l0⟩ b0) (Ev.ite (fun h => ?_) fun h => ?_)
  ·rw [if_pos h]; exact Ev.ret _
  rw [if_neg h, w1]
  refine Ev.pos (by simp only; omega) (Ev.pos (by simp only; omega) ?_)
  have b1 := zchl b0 (getN l0).2.toNat
  simp only
  generalize l0.drop (getN l0).2.toNat = l1 at b1 ⊢
  have n2 := zche (l := l1)
  refine Ev.succ (g := fun q => (zmn q ⟨z, l1⟩).bind fun r2 => if r2.2 = 0 then some (3, 0, 0, 0, false) else if 0 ≤ r2.2 then (if r2.2 ≤ (l1.length : Int) then zn2 q z (List.drop r2.2.toNat l1) (wrp .i64 (1 + 1)) h1z h1l h1x (getN l0).1 r2.1 0 else none) else none) ?_ (fun q => rfl)
  refine Ev.bind (zchd ⟨z, l1⟩ b1) (Ev.ite (fun h => ?_) fun h => ?_)
  ·rw [if_pos h]; exact Ev.ret _
  rw [if_neg h, w2]
  refine Ev.pos (by simp only; omega) (Ev.pos (by simp only; omega) ?_)
  have b2 := zchl b1 (getN l1).2.toNat
  simp only
  generalize l1.drop (getN l1).2.toNat = l2 at b2 ⊢
  have n3 := zche (l := l2)
  refine Ev.succ (g := fun q => (zmn q ⟨z, l2⟩).bind fun r2 => if r2.2 = 0 then some (3, 0, 0, 0, false) else if 0 ≤ r2.2 then (if r2.2 ≤ (l2.length : Int) then zn2 q z (List.drop r2.2.toNat l2) (wrp .i64 (2 + 1)) h1z h1l h1x (getN l0).1 (getN l1).1 r2.1 else none) else none) ?_ (fun q => rfl)
  refine Ev.bind (zchd ⟨z, l2⟩ b2) (Ev.ite (fun h => ?_) fun h => ?_)
  ·rw [if_pos h]; exact Ev.ret _
  rw [if_neg h, w3]
  refine Ev.pos (by simp only; omega) (Ev.pos (by simp only; omega) ?_)
  simp only
  generalize l2.drop (getN l2).2.toNat = l3
  refine Ev.succ (g := fun q => if 0 < (l3.length : Int) then some (3, 0, 0, 0, false) else (zm5 q (getN l0).1).bind fun r3 => if r3 = true then (if 6 ≤ (getN l1).1 then some (1, 0, 0, 0, false) else some (0, (getN l0).1, (getN l1).1, (getN l2).1, true)) else some (6, 0, 0, 0, false)) ?_ (fun q => rfl)
  refine Ev.ite (fun h => ?_) fun h => ?_
  ·rw [if_pos (show 0 < l3.length by omega)]; exact Ev.ret _
  rw [if_neg (show ¬ 0 < l3.length by omega)]
  refine Ev.bind (zcim _) (Ev.ite (fun h => ?_) fun h => ?_)
  ·rw [if_pos (show 1 ≤ (getN l0).1 ∧ (getN l0).1 ≤ 3 by simpa using h)]
   refine Ev.ite (fun h => ?_) fun h => ?_
   ·rw [if_pos h]; exact Ev.ret _
   ·rw [if_neg h]; exact Ev.ret _
  ·rw [if_neg (show ¬ (1 ≤ (getN l0).1 ∧ (getN l0).1 ≤ 3) by simpa using h)]; exact Ev.ret _
 ·rw [if_neg (by rw [he]; simpa using hm)]
  exact Ev.succ (Ev.ne (Ev.opt he (Ev.neg hm (Ev.ret _)))) (fun q => rfl)
theorem zci7 {v k f : Int} (v1 : 1 ≤ v) (v3 : v ≤ 3) (hf : 0 ≤ f ∧ f < 4611686018427387904) (m : Nat) (h1z : Bool) (h1l : List (Sl Int)) (h1x : Bool) (hm1 : 1 ≤ m) (hm : m ≤ h1l.length) (hB : ∀ e ∈ h1l, isB e.l ∧ e.l.length ≤ 10000000) (hL : m ≤ 1000000000) : ∀ (n i : Nat) (acc : List zko) (full z : Bool), m - 1 = i + n → acc.length ≤ 4096 →
  ∃ z', Ev (fun q => zn4 q m (m - 1) ((m - 1 : Nat) : Int) (i : Int) h1z h1l h1x v k f full z acc) (T1 (walkS v f (((h1l.take m).drop (1 + i)).map (·.l)) (1 + i) acc full).1 (walkS v f (((h1l.take m).drop (1 + i)).map (·.l)) (1 + i) acc full).2.1 v k f (walkS v f (((h1l.take m).drop (1 + i)).map (·.l)) (1 + i) acc full).2.2.2 z' (walkS v f (((h1l.take m).drop (1 + i)).map (·.l)) (1 + i) acc full).2.2.1)
 | 0, i, acc, full, z, hk, ha => by
  refine ⟨z, Ev.succ (Ev.ne (Ev.ret' ?_)) (fun q => rfl)⟩
  rw [y11 (by rw [y19]; omega)]
  simp only [y60, walkS, T1]
  rw [show 1 + i = m by omega]
 | n + 1, i, acc, full, z, hk, ha => by
  have hi : 1 + i < h1l.length := by omega
  have hd : (h1l.take m).drop (1 + i) = h1l[1 + i] :: (h1l.take m).drop (1 + (i + 1)) := by
   rw [y8 (by rw [y19]; omega)]
   congr 1
   exact List.getElem_take
  have hg : h1l[1 + (((i : Nat) : Int)).toNat]? = some h1l[1 + i] := by rw [y27]; exact y6 hi
  obtain ⟨hb, hl⟩ := hB h1l[1 + i] (y25 hi)
  have wi : wrp .i64 ((i : Int) + 1) = ((1 + i : Nat) : Int) := by rw [zcfl (by omega) (by omega)]; omega
  have wi' : wrp .i64 ((i : Int) + 1) = ((i + 1 : Nat) : Int) := by rw [zcfl (by omega) (by omega)]; omega
  rw [hd, y33]
  have body : ∀ (l : List zko) (zz : Bool), blockR v h1l[1 + i].l = some l → ∃ z', Ev (fun q => if full = true then (if (l.length : Int) = 0 then some (T1 (1 + i) 3 v k f full z acc) else (if 16 < (l.length : Int) then some (T1 (1 + i) 3 v k f full z acc) else ((zni q ⟨zz, l⟩ (wrp .i64 (f + (acc.length : Int)))).bind fun r => (if r = true then (if 4096 < (wrp .i64 ((acc.length : Int) + (l.length : Int))) then some (T1 (1 + i) 5 v k f full z acc) else (if (acc.length + l.length) ≤ 4294967296 then zn4 q m (m - 1) ((m - 1 : Nat) : Int) (wrp .i64 ((i : Int) + 1)) h1z h1l h1x v k f (decide ((l.length : Int) = 16)) (z && (decide (l.length = 0))) (acc ++ l) else none)) else some (T1 (1 + i) 3 v k f full z acc))))) else some (T1 (1 + i) 3 v k f full z acc)) (T1 (walkS v f (h1l[1 + i].l :: ((h1l.take m).drop (1 + (i + 1))).map (·.l)) (1 + i) acc full).1 (walkS v f (h1l[1 + i].l :: ((h1l.take m).drop (1 + (i + 1))).map (·.l)) (1 + i) acc full).2.1 v k f (walkS v f (h1l[1 + i].l :: ((h1l.take m).drop (1 + (i + 1))).map (·.l)) (1 + i) acc full).2.2.2 z' (walkS v f (h1l[1 + i].l :: ((h1l.take m).drop (1 + (i + 1))).map (·.l)) (1 + i) acc full).2.2.1) := fun l zz hR => by
   have hll := zci2 hR
   simp only [walkS, hR]
   by_cases h0 : stepW f acc full l = 0
   ·obtain ⟨c1, c2, c3, c4, c5⟩ := zci4 h0
    obtain ⟨z', ih⟩ := zci7 (k := k) v1 v3 hf m h1z h1l h1x hm1 hm hB hL  n (i + 1) (acc ++ l) (decide (l.length = 16)) (z && (decide (l.length = 0))) (by omega) (by rw [y9]; omega)
    refine ⟨z', zci3 (s := ⟨zz, l⟩) (acc := acc) hf ha (by simp only; omega) rfl rfl (fun h => h) (fun h => absurd (h0.symm.trans h) (by decide)) (fun h => absurd (h0.symm.trans h) (by decide)) (fun _ => ?_)⟩
    rw [if_pos h0, wi', show (decide ((l.length : Int) = 16)) = decide (l.length = 16) by by_cases h : l.length = 16 <;> simp [h] <;> omega, show 1 + i + 1 = 1 + (i + 1) by omega]
    exact ih
   ·rw [if_neg h0]
    refine ⟨z, zci3 (s := ⟨zz, l⟩) (acc := acc) hf ha (by simp only; omega) rfl rfl (fun h => h) (fun h => ?_) (fun h => ?_) (fun h => absurd h h0)⟩
    ·simp only [h]
    ·simp only [h]
  have none_ : blockR v h1l[1 + i].l = none → (T1 (1 + i) 3 v k f full z acc) = (T1 (walkS v f (h1l[1 + i].l :: ((h1l.take m).drop (1 + (i + 1))).map (·.l)) (1 + i) acc full).1 (walkS v f (h1l[1 + i].l :: ((h1l.take m).drop (1 + (i + 1))).map (·.l)) (1 + i) acc full).2.1 v k f (walkS v f (h1l[1 + i].l :: ((h1l.take m).drop (1 + (i + 1))).map (·.l)) (1 + i) acc full).2.2.2 z (walkS v f (h1l[1 + i].l :: ((h1l.take m).drop (1 + (i + 1))).map (·.l)) (1 + i) acc full).2.2.1) := fun h => by simp only [walkS, h]
  by_cases h3 : v = 3
  ·have hE := zcix h1l[1 + i] hb (by omega)
   cases hR : blkD h1l[1 + i].l with
   | none =>
    rw [hR] at hE
    refine ⟨z, Ev.succ (Ev.po (Ev.po (Ev.po (Ev.opt hg (Ev.pos h3 (Ev.bind hE (Ev.neg (by simp only [resB]; omega) (Ev.ret' ?_)))))))) (fun q => rfl)⟩
    rw [wi]; exact none_ (by unfold blockR; rw [if_pos h3, hR])
   | some l =>
    rw [hR] at hE
    obtain ⟨z', hBd⟩ := body l false (by unfold blockR; rw [if_pos h3, hR])
    refine ⟨z', Ev.succ (Ev.po (Ev.po (Ev.po (Ev.opt hg (Ev.pos h3 (Ev.bind hE (Ev.pos rfl ?_))))))) (fun q => rfl)⟩
    unfold T1 at hBd; rw [← wi] at hBd
    exact hBd
  ·obtain ⟨ze, hE⟩ := zci0 v1 v3 h1l[1 + i] hb (by omega)
   cases hR : eldD v (h1l[1 + i].l.length + 1) h1l[1 + i].l [] with
   | none =>
    rw [hR] at hE
    refine ⟨z, Ev.succ (Ev.po (Ev.po (Ev.po (Ev.opt hg (Ev.neg h3 (Ev.bind hE (Ev.neg (by simp only [resE]; decide) (Ev.ret' ?_)))))))) (fun q => rfl)⟩
    rw [wi]; exact none_ (by unfold blockR; rw [if_neg h3, hR])
   | some l =>
    rw [hR] at hE
    obtain ⟨z', hBd⟩ := body l ze (by unfold blockR; rw [if_neg h3, hR])
    refine ⟨z', Ev.succ (Ev.po (Ev.po (Ev.po (Ev.opt hg (Ev.neg h3 (Ev.bind hE (Ev.pos rfl ?_))))))) (fun q => rfl)⟩
    unfold T1 at hBd; rw [← wi] at hBd
    exact hBd
theorem zci8 {d : List Int} (h : (headR d).1 ≠ 0) : headR d = ((headR d).1, 0, 0, 0, false) := by
 unfold headR at h ⊢
 repeat' split
 all_goals first | rfl | skip
 rename_i c1 c2 c3 c4 c5 c6 c7 c8
 rw [if_neg c1, if_pos c2, if_neg c3, if_neg c4, if_neg c5, if_neg c6, if_pos c7, if_neg c8] at h
 exact absurd rfl h
def IsT (T : Nat × Int × Int × Int × Int × Int × Bool × Int × Int × Int × Int × Int × Nat × Bool × Bool × (List zko)) (w : Nat × Int × List zko × Bool) (v k f : Int) : Prop :=
 (T = T0 w.1 w.2.1 v k f w.2.2.2 ∧ w.2.2.1 = []) ∨ ∃ z, T = T1 w.1 w.2.1 v k f w.2.2.2 z w.2.2.1
/-- A walk over frames' data, the head's first: how many, the first error, the version, the kind, the first index, the records. -/
def walkA : List (List Int) → Nat × Int × Int × Int × Int × List zko
 | [] => (0, 0, 0, 0, 0, [])
 | d :: D => if (headR d).1 = 0 then ((walkS (headR d).2.1 (headR d).2.2.2.1 D 1 [] true).1, (walkS (headR d).2.1 (headR d).2.2.2.1 D 1 [] true).2.1, (headR d).2.1, (headR d).2.2.1, (headR d).2.2.2.1, (walkS (headR d).2.1 (headR d).2.2.2.1 D 1 [] true).2.2.1) else (0, (headR d).1, 0, 0, 0, [])
def IsA (T : Nat × Int × Int × Int × Int × Int × Bool × Int × Int × Int × Int × Int × Nat × Bool × Bool × (List zko)) (w : Nat × Int × Int × Int × Int × List zko) : Prop :=
 (∃ full, T = T0 w.1 w.2.1 w.2.2.1 w.2.2.2.1 w.2.2.2.2.1 full ∧ w.2.2.2.2.2 = []) ∨ ∃ full z, T = T1 w.1 w.2.1 w.2.2.1 w.2.2.2.1 w.2.2.2.2.1 full z w.2.2.2.2.2
theorem zci9 {v k f : Int} (v1 : 1 ≤ v) (v3 : v ≤ 3) (hf : 0 ≤ f ∧ f < 4611686018427387904) (m : Nat) (h1z : Bool) (h1l : List (Sl Int)) (h1x : Bool) (hm1 : 1 ≤ m) (hm : m ≤ h1l.length) (hB : ∀ e ∈ h1l, isB e.l ∧ e.l.length ≤ 10000000) (hL : m ≤ 1000000000) :
  ∃ T, Ev (fun q => zn5 q m (m - 1) ((m - 1 : Nat) : Int) h1z h1l h1x v k f true) T ∧ IsT T (walkS v f (((h1l.take m).drop 1).map (·.l)) 1 [] true) v k f := by
 have w1 : wrp .i64 1 = 1 := by rw [zcfl (by omega) (by omega)]
 by_cases hm2 : m = 1
 ·refine ⟨_, Ev.succ (Ev.ne (Ev.ret _)) (fun q => rfl), ?_⟩
  rw [y11 (by rw [y19]; omega)]
  refine .inl ⟨?_, rfl⟩
  simp only [y60, walkS, T0]
  rw [hm2]
 ·have hi : 1 < h1l.length := by omega
  have hd : (h1l.take m).drop 1 = h1l[1] :: (h1l.take m).drop (1 + 1) := by
   rw [y8 (by rw [y19]; omega)]
   congr 1
   exact List.getElem_take
  have hg : h1l[1]? = some h1l[1] := y6 hi
  obtain ⟨hb, hl⟩ := hB h1l[1] (y25 hi)
  rw [hd, y33]
  have body : ∀ (l : List zko) (zz : Bool), blockR v h1l[1].l = some l → ∃ T, Ev (fun q => if true = true then (if (l.length : Int) = 0 then some (T0 1 3 v k f true) else (if 16 < (l.length : Int) then some (T0 1 3 v k f true) else ((zni q ⟨zz, l⟩ (wrp .i64 (f + 0))).bind fun r => (if r = true then (if 4096 < (wrp .i64 (0 + (l.length : Int))) then some (T0 1 5 v k f true) else (if l.length ≤ 4294967296 then zn4 q m (m - 1) ((m - 1 : Nat) : Int) (wrp .i64 1) h1z h1l h1x v k f (decide ((l.length : Int) = 16)) (decide (l.length = 0)) l else none)) else some (T0 1 3 v k f true))))) else some (T0 1 3 v k f true)) T ∧ IsT T (walkS v f (h1l[1].l :: ((h1l.take m).drop (1 + 1)).map (·.l)) 1 [] true) v k f := fun l zz hR => by
   have hll := zci2 hR
   simp only [walkS, hR]
   by_cases h0 : stepW f [] true l = 0
   ·obtain ⟨c1, c2, c3, c4, c5⟩ := zci4 h0
    rw [y24] at c5
    obtain ⟨z', ih⟩ := zci7 (k := k) v1 v3 hf m h1z h1l h1x hm1 hm hB hL (m - 2) 1 l (decide (l.length = 16)) (decide (l.length = 0)) (by omega) (by omega)
    refine ⟨_, zci3 (s := ⟨zz, l⟩) (acc := []) (full := true) hf (by simp) (by simp only; omega) (by simp) (by simp) (fun h => by simpa using h) (fun h => absurd (h0.symm.trans h) (by decide)) (fun h => absurd (h0.symm.trans h) (by decide)) (fun _ => ?_), .inr ⟨z', rfl⟩⟩
    rw [if_pos h0, w1, show (decide ((l.length : Int) = 16)) = decide (l.length = 16) by by_cases h : l.length = 16 <;> simp [h] <;> omega]
    exact ih
   ·rw [if_neg h0]
    refine ⟨_, zci3 (s := ⟨zz, l⟩) (acc := []) (full := true) (res := T0 1 (stepW f [] true l) v k f true) hf (by simp) (by simp only; omega) (by simp) (by simp) (fun h => by simpa using h) (fun h => ?_) (fun h => ?_) (fun h => absurd h h0), .inl ⟨rfl, rfl⟩⟩
    ·simp only [h]
    ·simp only [h]
  have none_ : blockR v h1l[1].l = none → IsT (T0 1 3 v k f true) (walkS v f (h1l[1].l :: ((h1l.take m).drop (1 + 1)).map (·.l)) 1 [] true) v k f := fun h => by simp only [walkS, h]; exact .inl ⟨rfl, rfl⟩
  by_cases h3 : v = 3
  ·have hE := zcix h1l[1] hb (by omega)
   cases hR : blkD h1l[1].l with
   | none =>
    rw [hR] at hE
    refine ⟨_, Ev.succ (Ev.po (Ev.po (Ev.opt hg (Ev.pos h3 (Ev.bind hE (Ev.neg (by simp only [resB]; omega) (Ev.ret' ?_))))))) (fun q => rfl), none_ (by unfold blockR; rw [if_pos h3, hR])⟩
    rw [w1]; rfl
   | some l =>
    rw [hR] at hE
    obtain ⟨T, hBd, hT⟩ := body l false (by unfold blockR; rw [if_pos h3, hR])
    refine ⟨T, Ev.succ (Ev.po (Ev.po (Ev.opt hg (Ev.pos h3 (Ev.bind hE (Ev.pos rfl ?_)))))) (fun q => rfl), hT⟩
    rw [w1] at hBd ⊢
    exact hBd
  ·obtain ⟨ze, hE⟩ := zci0 v1 v3 h1l[1] hb (by omega)
   cases hR : eldD v (h1l[1].l.length + 1) h1l[1].l [] with
   | none =>
    rw [hR] at hE
    refine ⟨_, Ev.succ (Ev.po (Ev.po (Ev.opt hg (Ev.neg h3 (Ev.bind hE (Ev.neg (by simp only [resE]; decide) (Ev.ret' ?_))))))) (fun q => rfl), none_ (by unfold blockR; rw [if_neg h3, hR])⟩
    rw [w1]; rfl
   | some l =>
    rw [hR] at hE
    obtain ⟨T, hBd, hT⟩ := body l ze (by unfold blockR; rw [if_neg h3, hR])
    refine ⟨T, Ev.succ (Ev.po (Ev.po (Ev.opt hg (Ev.neg h3 (Ev.bind hE (Ev.pos rfl ?_)))))) (fun q => rfl), hT⟩
    rw [w1] at hBd ⊢
    exact hBd
theorem zcja (m : Nat) (h1z : Bool) (h1l : List (Sl Int)) (h1x : Bool) (hm1 : 1 ≤ m) (hm : m ≤ h1l.length) (hB : ∀ e ∈ h1l, isB e.l ∧ e.l.length ≤ 10000000) (hL : m ≤ 1000000000) :
  ∃ T, Ev (fun q => zn6 q m h1z h1l h1x) T ∧ IsA T (walkA ((h1l.take m).map (·.l))) := by
 have hi : 0 < h1l.length := by omega
 have hg : h1l[0]? = some h1l[0] := y6 hi
 obtain ⟨hb, hl⟩ := hB h1l[0] (y25 hi)
 have hd : h1l.take m = h1l[0] :: (h1l.take m).drop 1 := by
  have := y8 (l := h1l.take m) (i := 0) (by rw [y19]; omega)
  rw [y37] at this
  refine this.trans ?_
  congr 1
  exact List.getElem_take
 rw [hd, y33]
 have hH := zci6 h1l[0] hb (by omega) h1z h1l h1x
 by_cases he : (headR h1l[0].l).1 = 0
 ·obtain ⟨o1, o2, o3, o4, o5, o6, o7⟩ := zci5 he
  obtain ⟨T, hT, hI⟩ := zci9 (k := (headR h1l[0].l).2.2.1) o1 o2 ⟨o5, o6⟩ m h1z h1l h1x hm1 hm hB hL
  refine ⟨T, Ev.succ (Ev.po (Ev.opt hg (Ev.bind hH (Ev.pos he (Ev.pos (by omega) ?_))))) (fun q => rfl), ?_⟩
  ·rw [o7]; exact hT
  ·simp only [walkA]
   rw [if_pos he]
   rcases hI with ⟨h1, h2⟩ | ⟨z, h1⟩
   ·exact .inl ⟨_, h1, h2⟩
   ·exact .inr ⟨_, z, h1⟩
 ·refine ⟨_, Ev.succ (Ev.po (Ev.opt hg (Ev.bind hH (Ev.neg he (Ev.ret _))))) (fun q => rfl), ?_⟩
  simp only [walkA]
  rw [if_neg he, zci8 he]
  exact .inl ⟨false, rfl, rfl⟩
theorem zcjb {D : Nat → Sl Int → Option (Ow Int × Int × Int)} {W : Nat → Bool → List Int → Int → Bool → List (Sl Int) → Option (Ow (Sl Int) × Int × Int)}
  (hW : ∀ q z L i z2 h, W (q + 1) z L i z2 h = if i < (L.length : Int) then (if 0 ≤ i then (if i ≤ (L.length : Int) then ((D q ⟨z, (List.drop i.toNat L)⟩).bind fun r1 => (if r1.2.2 = 0 then (if (h.length + 1) ≤ 4294967296 then (W q z L (wrp .i64 (i + r1.2.1)) false (h ++ [⟨r1.1.n, r1.1.xs⟩])) else none) else (some (⟨z2, true, h⟩, i, r1.2.2)))) else none) else none) else (some (⟨z2, true, h⟩, i, 0)))
  (z : Bool) (L : List Int) (hb : isB L) (hL : L.length ≤ 4294967296)
  (hD : ∀ i : Nat, i < L.length → ∃ z', Ev (fun q => D q ⟨z, L.drop i⟩) (⟨z', true, (decF (L.drop i)).1⟩, (decF (L.drop i)).2.1, (decF (L.drop i)).2.2)) :
  ∀ (f i : Nat) (z2 : Bool) (h : List (Sl Int)), i ≤ L.length → L.length - i < f → h.length ≤ i → ∃ z3 X, Ev (fun q => W q z L (i : Int) z2 h) (⟨z3, true, h ++ X⟩, ((i + (walkF f (L.drop i)).2.1 : Nat) : Int), (walkF f (L.drop i)).2.2) ∧ X.map (·.l) = (walkF f (L.drop i)).1 ∧ (z2 = false ∨ X ≠ [] → z3 = false)
 | 0, i, z2, h, hi, hf, hh => by omega
 | f + 1, i, z2, h, hi, hf, hh => by
  by_cases hlt : i < L.length
  ·have hne : L.drop i ≠ [] := by intro e; have := congrArg List.length e; simp at this; omega
   obtain ⟨z', hd⟩ := hD i hlt
   simp only [walkF]
   rw [if_neg hne]
   by_cases he : (decF (L.drop i)).2.2 = 0
   ·rw [if_pos he]
    obtain ⟨k1, k2⟩ := zchr (zchl hb i) he
    rw [y12] at k2
    obtain ⟨z3, X, hx, hm, hz⟩ := zcjb hW z L hb hL hD f (i + (decF (L.drop i)).2.1.toNat) false (h ++ [⟨z', (decF (L.drop i)).1⟩]) (by omega) (by omega) (by simp; omega)
    rw [← y49] at hx hm
    refine ⟨z3, ⟨z', (decF (L.drop i)).1⟩ :: X, ?_, ?_, fun _ => hz (.inl rfl)⟩
    ·refine Ev.succ (Ev.po (Ev.po (Ev.po (Ev.bind hd (Ev.pos he (Ev.pos (by omega) ?_)))))) (fun q => hW q _ _ _ _ _)
     have wi : wrp .i64 ((i : Int) + (decF (L.drop i)).2.1) = ((i + (decF (L.drop i)).2.1.toNat : Nat) : Int) := by
      rw [zcfl (by omega) (by omega)]; omega
     simp only [wi]
     refine hx.cast ?_
     simp only [y32, List.cons_append, y46, y56]
    ·simp [hm]
   ·rw [if_neg he]
    refine ⟨z2, [], Ev.succ (Ev.po (Ev.po (Ev.po (Ev.bind hd (Ev.neg he (Ev.ret' (by simp))))))) (fun q => hW q _ _ _ _ _), rfl, fun h => h.elim id (fun h => absurd rfl h)⟩
  ·rw [y11 (by omega)]
   simp only [walkF, if_true]
   exact ⟨z2, [], Ev.succ (Ev.ne (Ev.ret' (by simp))) (fun q => hW q _ _ _ _ _), rfl, fun h => h.elim id (fun h => absurd rfl h)⟩
theorem zcjc (s : Sl Int) (hz : s.z = true → s.l = []) (hb : isB s.l) (hl : s.l.length ≤ 4294967296) : ∃ z X, Ev (fun q => zm3 q s) (⟨z, true, X⟩, (((allF s.l).2.1 : Nat) : Int), (allF s.l).2.2) ∧ X.map (·.l) = (allF s.l).1 ∧ (X ≠ [] → z = false) := by
 obtain ⟨z, X, h, hm, hz3⟩ := zcjb (D := fun q s => zmr q s) (W := zm2) (fun q z L i z2 h => rfl) s.z s.l hb hl (fun i hi => zchm ⟨s.z, s.l.drop i⟩ (fun h => by rw [hz h]; simp) (zchl hb i) (by simp; omega)) (s.l.length + 1) 0 true [] (by omega) (by omega) (by simp)
 rw [y37] at h hm
 refine ⟨z, X, Ev.succ h (fun q => rfl) |>.cast ?_, hm, fun h => hz3 (.inr h)⟩
 simp [allF]
theorem zcjd (s : Sl Int) (hz : s.z = true → s.l = []) (hb : isB s.l) (hl : s.l.length ≤ 4294967296) : ∃ z X, Ev (fun q => zm4 q s) (⟨z, true, X⟩, (allE s.l).2) ∧ X.map (·.l) = (allE s.l).1 ∧ (X ≠ [] → z = false) := by
 obtain ⟨z, X, h, hm, h3⟩ := zcjc s hz hb hl
 unfold allE
 by_cases he : (allF s.l).2.2 = 0
 ·rw [if_pos he]; exact ⟨z, X, Ev.succ (Ev.bind h (Ev.pos he (Ev.ret _))) (fun q => rfl), hm, h3⟩
 ·rw [if_neg he]; exact ⟨true, [], Ev.succ (Ev.bind h (Ev.neg he (Ev.ret _))) (fun q => rfl), rfl, fun h => absurd rfl h⟩
theorem zcje : ∀ {f : Nat} {l : List Int}, isB l → ∀ d ∈ (walkF f l).1, isB d ∧ d.length ≤ 1048576
 | 0, l, hb, d, h => by simp [walkF] at h
 | f + 1, l, hb, d, h => by
  simp only [walkF] at h
  split at h
  ·simp at h
  ·split at h
   ·rename_i h1 h2
    rcases List.mem_cons.1 h with e | e
    ·rw [e]
     exact ⟨zcho hb, (zchn (l := l) (x := (decF l).1) (n := (decF l).2.1) hb (by rw [← h2])).1⟩
    ·exact zcje (zchl hb _) d e
   ·simp at h
theorem zcjf {l : List Int} (hb : isB l) : (∀ d ∈ (allE l).1, isB d ∧ d.length ≤ 1048576) ∧ (allE l).1.length ≤ l.length := by
 unfold allE
 split
 ·exact ⟨zcje hb, zchv hb⟩
 ·simp
theorem zcjg (z : Bool) (L : List (Sl Int)) (hL : L.length ≤ 1000000000) (hB : ∀ e ∈ L, isB e.l ∧ e.l.length ≤ 1048576) : ∀ (k i : Nat) (h0z : Bool) (h0l : List (Sl Int)), L.length = i + k → h0l.length = i →
  ∃ z' X, Ev (fun q => znt q z L (L.length : Int) (i : Int) h0z h0l) ⟨z', true, h0l ++ X⟩ ∧ X.map (·.l) = (L.drop i).map fun e => encF e.l
 | 0, i, h0z, h0l, hk, hh => by
  refine ⟨h0z, [], Ev.succ (Ev.ne (Ev.ret' (by simp))) (fun q => rfl), ?_⟩
  rw [y11 (by omega)]; rfl
 | k + 1, i, h0z, h0l, hk, hh => by
  have hi : i < L.length := by omega
  have he : L[((i : Int)).toNat]? = some L[i] := by simp [hi]
  obtain ⟨hb, hl⟩ := hB L[i] (y25 hi)
  obtain ⟨zf, hf⟩ := zcil L[i] hb hl
  obtain ⟨z', X, ih, hX⟩ := zcjg z L hL hB k (i + 1) false (h0l ++ [⟨zf, encF L[i].l⟩]) (by omega) (by simp [hh])
  rw [show ((i + 1 : Nat) : Int) = wrp .i64 ((i : Int) + 1) by rw [zcfl (by omega) (by omega)]; omega] at ih
  refine ⟨z', ⟨zf, encF L[i].l⟩ :: X, Ev.succ (Ev.po (Ev.po (Ev.opt he (Ev.bind hf (Ev.po (Ev.cast ih ?_)))))) (fun q => rfl), ?_⟩
  ·simp
  ·rw [y8 hi, y33, y33, hX]
theorem zcjh (s : Sl (Sl Int)) (hL : s.l.length ≤ 1000000000) (hB : ∀ e ∈ s.l, isB e.l ∧ e.l.length ≤ 1048576) : ∃ z' X, Ev (fun q => znu q s) ⟨z', true, X⟩ ∧ X.map (·.l) = s.l.map fun e => encF e.l := by
 obtain ⟨z', X, h, hX⟩ := zcjg s.z s.l hL hB s.l.length 0 true [] (by omega) rfl
 exact ⟨z', X, Ev.succ (Ev.cast h (by simp)) (fun q => rfl), by simpa using hX⟩
/-- A segment's reading: kind, first index, records; the frames ahead of the footer; the error. -/
def segD (b : List Int) : (Int × Int × List zko) × List (List Int) × Int :=
 if (allE b).2 = 0 then
  if (allE b).1.length < 2 then ((0, 0, []), [], 16) else
  if (walkA ((allE b).1.take ((allE b).1.length - 1))).2.1 = 0 then
   if encF (footD (((allE b).1.take ((allE b).1.length - 1)).map encF)) = encF ((allE b).1.getD ((allE b).1.length - 1) []) then
    (((walkA ((allE b).1.take ((allE b).1.length - 1))).2.2.2.1, (walkA ((allE b).1.take ((allE b).1.length - 1))).2.2.2.2.1, (walkA ((allE b).1.take ((allE b).1.length - 1))).2.2.2.2.2), ((allE b).1.take ((allE b).1.length - 1)).map encF, 0)
   else ((0, 0, []), [], 16)
  else ((0, 0, []), [], (walkA ((allE b).1.take ((allE b).1.length - 1))).2.1)
 else ((0, 0, []), [], (allE b).2)
theorem zcji (s : Sl Int) (hz : s.z = true → s.l = []) (hb : isB s.l) (hl : s.l.length ≤ 90000) : ∃ sz z x X, Ev (fun q => zn7 q s) (⟨(segD s.l).1.1, (segD s.l).1.2.1, ⟨sz, (segD s.l).1.2.2⟩⟩, ⟨z, x, X⟩, (segD s.l).2.2) ∧ X.map (·.l) = (segD s.l).2.1 := by
 obtain ⟨z0, X, hA, hX, hz0⟩ := zcjd s hz hb (by omega)
 obtain ⟨hM, hMl⟩ := zcjf hb
 have hXl : X.length = (allE s.l).1.length := by rw [← hX, y23]
 unfold segD
 by_cases he : (allE s.l).2 = 0
 ·simp only [if_pos he]
  by_cases h2 : (allE s.l).1.length < 2
  ·simp only [if_pos h2]
   exact ⟨true, true, true, [], Ev.succ (Ev.bind hA (Ev.pos he (Ev.pos (by simp only; omega) (Ev.ret _)))) (fun q => rfl), rfl⟩
  ·simp only [if_neg h2]
   have hw : wrp .i64 ((X.length : Int) - 1) = ((X.length - 1 : Nat) : Int) := by rw [zcfl (by omega) (by omega)]; omega
   have hzf : z0 = false := hz0 (fun e => by rw [e] at hXl; simp at hXl; omega)
   have hB : ∀ e ∈ X, isB e.l ∧ e.l.length ≤ 1048576 := fun e he => hM e.l (by rw [← hX]; exact List.mem_map_of_mem (f := fun x : Sl Int => x.l) he)
   obtain ⟨T, hT, hI⟩ := zcja (X.length - 1) false X true (by omega) (by omega) (fun e he => ⟨(hB e he).1, by have := (hB e he).2; omega⟩) (by omega)
   have htk : (X.take (X.length - 1)).map (·.l) = (allE s.l).1.take ((allE s.l).1.length - 1) := by rw [List.map_take, hX, hXl]
   rw [htk] at hI
   subst hzf
   -- how it goes on
   have go : ∀ (S : zkq), (walkA ((allE s.l).1.take ((allE s.l).1.length - 1))).2.1 = 0 →
     ∃ z x Y, Ev (fun q => (znu q ⟨false, (List.take (X.length - 1) X)⟩).bind fun r14 => ((znw q ⟨r14.n, r14.xs⟩).bind fun r15 => (if (X.length - 1) < X.length then ((X[(X.length - 1)]?).bind fun e16 => ((zns q e16).bind fun r17 => ((zne q ⟨r15.n, r15.xs⟩ ⟨r17.n, r17.xs⟩).bind fun r18 => (if r18 = true then (some (S, (⟨r14.n, false, r14.xs⟩ : Ow (Sl Int)), (0 : Int))) else (some ((⟨0, 0, ⟨true, []⟩⟩ : zkq), ⟨true, true, []⟩, 16)))))) else none)))
      (if encF (footD (((allE s.l).1.take ((allE s.l).1.length - 1)).map encF)) = encF ((allE s.l).1.getD ((allE s.l).1.length - 1) []) then (S, ⟨z, x, Y⟩, 0) else ((⟨0, 0, ⟨true, []⟩⟩ : zkq), ⟨true, true, []⟩, 16)) ∧ Y.map (·.l) = ((allE s.l).1.take ((allE s.l).1.length - 1)).map encF := fun S _ => by
    have hB' : ∀ e ∈ X.take (X.length - 1), isB e.l ∧ e.l.length ≤ 1048576 := fun e he => hB e (y43 he)
    obtain ⟨zf, Y, hF, hY⟩ := zcjh ⟨false, X.take (X.length - 1)⟩ (by simp only [y19]; omega) hB'
    have hYm : Y.map (·.l) = ((allE s.l).1.take ((allE s.l).1.length - 1)).map encF := by rw [hY, ← htk, List.map_map]; rfl
    have hYl : Y.length = X.length - 1 := by
     have := congrArg List.length hY
     rw [y23, y23, y19] at this; omega
    obtain ⟨zt, hFt⟩ := zcis ⟨zf, Y⟩ (by simp only; omega) (by simp only; omega) (fun e he => by
     have : e.l ∈ Y.map (·.l) := List.mem_map_of_mem (f := fun x : Sl Int => x.l) he
     rw [hY] at this
     obtain ⟨a, ha, hae⟩ := List.mem_map.1 this
     have h1 := (hB' a ha).2
     have h2 := (zcip a.l).1
     rw [← hae]; omega)
    simp only [hYm] at hFt
    have hg : X[X.length - 1]? = some X[X.length - 1] := y6 (by omega)
    obtain ⟨b1, b2⟩ := hB X[X.length - 1] (y25 (by omega))
    obtain ⟨zl, hLf⟩ := zcil X[X.length - 1] b1 b2
    have hlast : X[X.length - 1].l = (allE s.l).1.getD ((allE s.l).1.length - 1) [] := by
     rw [← hXl, ← hX, y14, y41, hg]; rfl
    refine ⟨zf, false, Y, Ev.bind hF (Ev.bind hFt (Ev.po (Ev.opt hg (Ev.bind hLf (Ev.bind (Ev.succ (g := fun _ => some (decide (encF (footD (((allE s.l).1.take ((allE s.l).1.length - 1)).map encF)) = encF X[X.length - 1].l))) (Ev.ret _) (fun q => rfl)) (Ev.ite (fun h => ?_) fun h => ?_)))))), hYm⟩
    ·rw [hlast] at h
     rw [if_pos (by simpa using h)]; exact Ev.ret _
    ·rw [hlast] at h
     rw [if_neg (by simpa using h)]; exact Ev.ret _
   have pre : ∀ {r}, Ev (fun q => if T.1 = 0 then (if T.2.2.1 = 0 then ((znu q ⟨false, (List.take (X.length - 1) X)⟩).bind fun r14 => ((znw q ⟨r14.n, r14.xs⟩).bind fun r15 => (if (X.length - 1) < X.length then ((X[(X.length - 1)]?).bind fun e16 => ((zns q e16).bind fun r17 => ((zne q ⟨r15.n, r15.xs⟩ ⟨r17.n, r17.xs⟩).bind fun r18 => (if r18 = true then (some ((⟨T.2.2.2.2.1, T.2.2.2.2.2.1, ⟨true, []⟩⟩ : zkq), (⟨r14.n, false, r14.xs⟩ : Ow (Sl Int)), (0 : Int))) else (some ((⟨0, 0, ⟨true, []⟩⟩ : zkq), ⟨true, true, []⟩, 16)))))) else none))) else (some ((⟨0, 0, ⟨true, []⟩⟩ : zkq), ⟨true, true, []⟩, T.2.2.1))) else (if T.2.2.2.2.2.2.2.2.1 = 0 then ((znu q ⟨false, (List.take (X.length - 1) X)⟩).bind fun r14 => ((znw q ⟨r14.n, r14.xs⟩).bind fun r15 => (if (X.length - 1) < X.length then ((X[(X.length - 1)]?).bind fun e16 => ((zns q e16).bind fun r17 => ((zne q ⟨r15.n, r15.xs⟩ ⟨r17.n, r17.xs⟩).bind fun r18 => (if r18 = true then (some ((⟨T.2.2.2.2.2.2.2.2.2.2.1, T.2.2.2.2.2.2.2.2.2.2.2.1, ⟨T.2.2.2.2.2.2.2.2.2.2.2.2.2.2.1, T.2.2.2.2.2.2.2.2.2.2.2.2.2.2.2⟩⟩ : zkq), (⟨r14.n, false, r14.xs⟩ : Ow (Sl Int)), (0 : Int))) else (some ((⟨0, 0, ⟨true, []⟩⟩ : zkq), ⟨true, true, []⟩, 16)))))) else none))) else (some ((⟨0, 0, ⟨true, []⟩⟩ : zkq), ⟨true, true, []⟩, T.2.2.2.2.2.2.2.2.1)))) r → Ev (fun q => zn7 q s) r := fun {r} h => by
    refine Ev.succ (Ev.bind hA (Ev.pos he (Ev.neg (by simp only; omega) (Ev.pos ?_ (Ev.pos ?_ (Ev.neg (show ¬ (false = true) by decide) (Ev.bind (s := T) ?_ ?_))))))) (fun q => rfl)
    ·simp only [hw]; omega
    ·simp only [hw, y27]; omega
    ·simp only [hw, y27]; exact hT
    ·simp only [hw, y27]; exact h
   rcases hI with ⟨full, hTe, hr⟩ | ⟨full, zr, hTe⟩
   ·by_cases hw0 : (walkA ((allE s.l).1.take ((allE s.l).1.length - 1))).2.1 = 0
    ·simp only [if_pos hw0]
     obtain ⟨z, x, Y, hg, hY⟩ := go ⟨T.2.2.2.2.1, T.2.2.2.2.2.1, ⟨true, []⟩⟩ hw0
     by_cases hc : encF (footD (((allE s.l).1.take ((allE s.l).1.length - 1)).map encF)) = encF ((allE s.l).1.getD ((allE s.l).1.length - 1) [])
     ·simp only [if_pos hc] at hg ⊢
      refine ⟨true, z, x, Y, pre (Ev.pos (by rw [hTe]; rfl) (Ev.pos (by rw [hTe]; exact hw0) (Ev.cast hg ?_))), hY⟩
      rw [hr, hTe]; rfl
     ·simp only [if_neg hc] at hg ⊢
      exact ⟨true, true, true, [], pre (Ev.pos (by rw [hTe]; rfl) (Ev.pos (by rw [hTe]; exact hw0) hg)), rfl⟩
    ·simp only [if_neg hw0]
     refine ⟨true, true, true, [], pre (Ev.pos (by rw [hTe]; rfl) (Ev.neg (by rw [hTe]; exact hw0) (Ev.ret' ?_))), rfl⟩
     rw [hTe]; rfl
   ·by_cases hw0 : (walkA ((allE s.l).1.take ((allE s.l).1.length - 1))).2.1 = 0
    ·simp only [if_pos hw0]
     obtain ⟨z, x, Y, hg, hY⟩ := go ⟨T.2.2.2.2.2.2.2.2.2.2.1, T.2.2.2.2.2.2.2.2.2.2.2.1, ⟨T.2.2.2.2.2.2.2.2.2.2.2.2.2.2.1, T.2.2.2.2.2.2.2.2.2.2.2.2.2.2.2⟩⟩ hw0
     by_cases hc : encF (footD (((allE s.l).1.take ((allE s.l).1.length - 1)).map encF)) = encF ((allE s.l).1.getD ((allE s.l).1.length - 1) [])
     ·simp only [if_pos hc] at hg ⊢
      refine ⟨zr, z, x, Y, pre (Ev.neg (by rw [hTe]; exact Nat.one_ne_zero) (Ev.pos (by rw [hTe]; exact hw0) (Ev.cast hg ?_))), hY⟩
      rw [hTe]; rfl
     ·simp only [if_neg hc] at hg ⊢
      exact ⟨true, true, true, [], pre (Ev.neg (by rw [hTe]; exact Nat.one_ne_zero) (Ev.pos (by rw [hTe]; exact hw0) hg)), rfl⟩
    ·simp only [if_neg hw0]
     refine ⟨true, true, true, [], pre (Ev.neg (by rw [hTe]; exact Nat.one_ne_zero) (Ev.neg (by rw [hTe]; exact hw0) (Ev.ret' ?_))), rfl⟩
     rw [hTe]; rfl
 ·simp only [if_neg he]
  exact ⟨true, true, true, [], Ev.succ (Ev.bind hA (Ev.neg he (Ev.ret _))) (fun q => rfl), rfl⟩
theorem zcjj (s : Sl Int) (hz : s.z = true → s.l = []) (hb : isB s.l) (hl : s.l.length ≤ 90000) : ∃ sz, Ev (fun q => zn8 q s) (⟨(segD s.l).1.1, (segD s.l).1.2.1, ⟨sz, (segD s.l).1.2.2⟩⟩, (segD s.l).2.2) := by
 obtain ⟨sz, z, x, X, h, _⟩ := zcji s hz hb hl
 exact ⟨sz, Ev.succ (Ev.bind h (Ev.ret _)) (fun q => rfl)⟩
def cutsB (l : List Int) : Prop := ∀ n ∈ l, n = cutI n
instance (l : List Int) : Decidable (cutsB l) := by unfold cutsB; infer_instance
theorem zcjk (n : Int) : Ev (fun q => zkx q n) (!(decide (n = cutI n))) := Ev.succ (Ev.bind (zcf0 n) (Ev.ret _)) (fun q => rfl)
theorem zcjl (z : Bool) (L : List Int) (h0 : Int) (h1z : Bool) (h1l : List Int) (h2 : Bool) (h3 : Int) (hL : L.length ≤ 1000000) : ∀ (k i : Nat), L.length = i + k →
  ∃ r, Ev (fun q => zk0 q z L (L.length : Int) (i : Int) h0 h1z h1l h2 h3) r ∧ (0 ≤ r ↔ ¬ cutsB (L.drop i))
 | 0, i, hk => by
  refine ⟨-1, Ev.succ (Ev.ne (Ev.ret _)) (fun q => rfl), ?_⟩
  rw [y11 (by omega)]; simp [cutsB]
 | k + 1, i, hk => by
  have hi : i < L.length := by omega
  have he : L[((i : Int)).toNat]? = some L[i] := by simp [hi]
  have hd := y8 hi
  by_cases h : L[i] = cutI L[i]
  ·obtain ⟨r, hr, hi2⟩ := zcjl z L h0 h1z h1l h2 h3 hL k (i + 1) (by omega)
   rw [show ((i + 1 : Nat) : Int) = wrp .i64 ((i : Int) + 1) by rw [zcfl (by omega) (by omega)]; omega] at hr
   refine ⟨r, Ev.succ (Ev.po (Ev.po (Ev.opt he (Ev.bind (zcjk _) (Ev.neg (by simpa using h) hr))))) (fun q => rfl), ?_⟩
   rw [hi2, hd]; unfold cutsB; simp only [List.mem_cons, forall_eq_or_imp]
   exact ⟨fun a b => a b.2, fun a b => a ⟨h, b⟩⟩
  ·refine ⟨i, Ev.succ (Ev.po (Ev.po (Ev.opt he (Ev.bind (zcjk _) (Ev.pos (by simpa using h) (Ev.ret _)))))) (fun q => rfl), ?_⟩
   rw [hd]; unfold cutsB; simp only [List.mem_cons, forall_eq_or_imp]
   exact ⟨fun _ b => h b.1, fun _ => by omega⟩
theorem zcjm (z : Bool) (L : List Int) (h0 : Int) (h1z : Bool) (h1l : List Int) (h2 : Bool) (h3 : Int) (hL : L.length ≤ 1000000) : ∃ r, Ev (fun q => zk1 q z L h0 h1z h1l h2 h3) r ∧ (0 ≤ r ↔ ¬ cutsB L) := by
 obtain ⟨r, h, h4⟩ := zcjl z L h0 h1z h1l h2 h3 hL L.length 0 (by omega)
 exact ⟨r, Ev.succ h (fun q => rfl), by simpa using h4⟩
def prs (least : Int) : Int → List Int → Bool
 | last, a :: b :: t => decide (last < a) && (decide (a ≤ 255) && (decide (least ≤ b) && (decide (b ≤ 1099511627776) && prs least a t)))
 | _, _ => true
def pairsOk (least : Int) (l : List Int) : Bool := prs least (-1) l && (decide (l.length % 2 = 0) && decide (l.length ≤ 128))
theorem zcjn (z : Bool) (L : List Int) (least : Int) (hL : L.length ≤ 1000000) : ∀ (k i : Nat) (last : Int), L.length ≤ i + 2 * k → i ≤ 2000000 →
  Ev (fun q => zky q z L least last (i : Int)) (prs least last (L.drop i) && (decide (L.length % 2 = 0) && decide (L.length ≤ 128)))
 | k, i, last, hk, hi9 => by
  have w1 : wrp .i64 ((i : Int) + 1) = ((i + 1 : Nat) : Int) := by rw [zcfl (by omega) (by omega)]; omega
  have w2 : wrp .i64 ((i : Int) + 2) = ((i + 2 : Nat) : Int) := by rw [zcfl (by omega) (by omega)]; omega
  by_cases h : i + 1 < L.length
  ·cases k with
   | zero => omega
   | succ k =>
    have he : L[((i : Int)).toNat]? = some L[i] := by rw [y27]; exact y6 (by omega)
    have he2 : L[(wrp .i64 ((i : Int) + 1)).toNat]? = some L[i + 1] := by rw [w1, y27]; exact y6 h
    have hd : L.drop i = L[i] :: L[i + 1] :: L.drop (i + 2) := by rw [y8 (by omega), y8 h]
    rw [hd]
    simp only [prs]
    refine Ev.succ (Ev.pos (by rw [w1]; omega) (Ev.po (Ev.opt he (Ev.ite (fun c => Ev.ret' ?_) fun c => Ev.ite (fun c2 => Ev.ret' ?_) fun c2 => Ev.pos (by rw [w1]; omega) (Ev.opt he2 (Ev.ite (fun c3 => Ev.ret' ?_) fun c3 => Ev.ite (fun c4 => Ev.ret' ?_) fun c4 => ?_)))))) (fun q => rfl)
    ·rw [decide_eq_false (show ¬ last < L[i] by omega)]; rfl
    ·rw [decide_eq_false (show ¬ L[i] ≤ 255 by omega)]; simp
    ·rw [decide_eq_false (show ¬ least ≤ L[i + 1] by omega)]; simp
    ·rw [decide_eq_false (show ¬ L[i + 1] ≤ 1099511627776 by omega)]; simp
    ·rw [decide_eq_true (show last < L[i] by omega), decide_eq_true (show L[i] ≤ 255 by omega), decide_eq_true (show least ≤ L[i + 1] by omega), decide_eq_true (show L[i + 1] ≤ 1099511627776 by omega), w2]
     simp only [y61]
     exact zcjn z L least hL k (i + 2) L[i] (by omega) (by omega)
  ·have hp : prs least last (L.drop i) = true := by
    have hl : (L.drop i).length ≤ 1 := by rw [y12]; omega
    generalize L.drop i = X at hl
    match X, hl with
    | [], _ => rfl
    | [a], _ => rfl
   rw [hp, y61]
   have ht : Int.tmod (L.length : Int) 2 = ((L.length % 2 : Nat) : Int) := by rw [Int.tmod_eq_emod_of_nonneg (by omega)]; omega
   refine Ev.succ (Ev.neg (by rw [w1]; omega) (Ev.ite (fun c => Ev.ret' ?_) fun c => Ev.ret' ?_)) (fun q => rfl)
   ·rw [ht] at c
    rw [decide_eq_true (show L.length % 2 = 0 by omega), y61]
    by_cases h4 : L.length ≤ 128
    ·rw [decide_eq_true h4, decide_eq_true (by omega)]
    ·rw [decide_eq_false h4, decide_eq_false (by omega)]
   ·rw [ht] at c
    rw [decide_eq_false (show ¬ L.length % 2 = 0 by omega)]; rfl
theorem zcjo (s : Sl Int) (least : Int) (hL : s.l.length ≤ 1000000) : Ev (fun q => zkz q s least) (pairsOk least s.l) := by
 have := zcjn s.z s.l least hL s.l.length 0 (-1) (by omega) (by omega)
 exact Ev.succ this (fun q => rfl)
def kindOk (k : Int) (l : List Int) : Bool :=
 if k = 0 ∨ k = 1 then decide (l.length = 1 ∧ cutsB l) else if k = 2 ∨ k = 3 then decide (l.length ≤ 64 ∧ cutsB l) else if k = 4 then pairsOk (-1099511627776) l else if k = 5 then pairsOk 0 l else false
def mayS (s : zkk) : Bool := if s.To < 0 then false else if 3 ≤ s.To then false else if s.Sealed = true then kindOk s.Kind s.L.l else if s.To = 0 then kindOk s.Kind s.L.l else false
theorem zcjp (s : zkk) (hL : s.L.l.length ≤ 1000000) : Ev (fun q => ((zk1 q s.L.z s.L.l s.Kind s.L.z s.L.l s.Sealed s.To).bind fun r1 => (if s.Kind = 0 then (if (s.L.l.length : Int) = 1 then (some (!(decide (0 ≤ r1)))) else (some false)) else (if s.Kind = 1 then (if (s.L.l.length : Int) = 1 then (some (!(decide (0 ≤ r1)))) else (some false)) else (if s.Kind = 2 then (if (s.L.l.length : Int) ≤ 64 then (some (!(decide (0 ≤ r1)))) else (some false)) else (if s.Kind = 3 then (if (s.L.l.length : Int) ≤ 64 then (some (!(decide (0 ≤ r1)))) else (some false)) else (if s.Kind = 4 then ((zkz q s.L (-1099511627776)).bind fun r2 => (some r2)) else (if s.Kind = 5 then ((zkz q s.L 0).bind fun r3 => (some r3)) else (some false))))))))) (kindOk s.Kind s.L.l) := by
 obtain ⟨r, h, hr⟩ := zcjm s.L.z s.L.l s.Kind s.L.z s.L.l s.Sealed s.To hL
 have one : ∀ {P : Prop} [Decidable P], P → Ev (fun _ : Nat => (some (!(decide (0 ≤ r))) : Option Bool)) (decide (P ∧ cutsB s.L.l)) := fun {P} _ hp => Ev.ret' (by
  by_cases hc : cutsB s.L.l
  ·rw [decide_eq_false (fun e => hr.1 e hc)]; symm; simp only [Bool.not_false, decide_eq_true_eq]; exact ⟨hp, hc⟩
  ·rw [decide_eq_true (hr.2 hc)]; symm; simp only [Bool.not_true, decide_eq_false_iff_not]; exact fun e => hc e.2)
 have no : ∀ {P : Prop} [Decidable P], ¬ P → Ev (fun _ : Nat => (some false : Option Bool)) (decide (P ∧ cutsB s.L.l)) := fun {P} _ hp => Ev.ret' (by
  symm; simp only [decide_eq_false_iff_not]; exact fun e => hp e.1)
 refine Ev.bind h ?_
 unfold kindOk
 by_cases k0 : s.Kind = 0
 ·rw [if_pos (show s.Kind = 0 ∨ s.Kind = 1 from .inl k0)]
  by_cases hl : s.L.l.length = 1
  ·exact Ev.pos k0 (Ev.po (one hl))
  ·exact Ev.pos k0 (Ev.ne (no hl))
 by_cases k1 : s.Kind = 1
 ·rw [if_pos (show s.Kind = 0 ∨ s.Kind = 1 from .inr k1)]
  by_cases hl : s.L.l.length = 1
  ·exact Ev.neg k0 (Ev.pos k1 (Ev.po (one hl)))
  ·exact Ev.neg k0 (Ev.pos k1 (Ev.ne (no hl)))
 rw [if_neg (show ¬ (s.Kind = 0 ∨ s.Kind = 1) by omega)]
 by_cases k2 : s.Kind = 2
 ·rw [if_pos (show s.Kind = 2 ∨ s.Kind = 3 from .inl k2)]
  by_cases hl : s.L.l.length ≤ 64
  ·exact Ev.neg k0 (Ev.neg k1 (Ev.pos k2 (Ev.po (one hl))))
  ·exact Ev.neg k0 (Ev.neg k1 (Ev.pos k2 (Ev.ne (no hl))))
 by_cases k3 : s.Kind = 3
 ·rw [if_pos (show s.Kind = 2 ∨ s.Kind = 3 from .inr k3)]
  by_cases hl : s.L.l.length ≤ 64
  ·exact Ev.neg k0 (Ev.neg k1 (Ev.neg k2 (Ev.pos k3 (Ev.po (one hl)))))
  ·exact Ev.neg k0 (Ev.neg k1 (Ev.neg k2 (Ev.pos k3 (Ev.ne (no hl)))))
 rw [if_neg (show ¬ (s.Kind = 2 ∨ s.Kind = 3) by omega)]
 refine Ev.neg k0 (Ev.neg k1 (Ev.neg k2 (Ev.neg k3 (Ev.ite (fun k4 => ?_) fun k4 => Ev.ite (fun k5 => ?_) fun k5 => ?_))))
 ·rw [if_pos k4]; exact Ev.bind (zcjo _ _ hL) (Ev.ret _)
 ·rw [if_neg k4, if_pos k5]; exact Ev.bind (zcjo _ _ hL) (Ev.ret _)
 ·rw [if_neg k4, if_neg k5]; exact Ev.ret _
theorem zcjq (s : zkk) (hL : s.L.l.length ≤ 1000000) : Ev (fun q => zk2 q s) (mayS s) := by
 have hb := zcjp s hL
 unfold mayS
 refine Ev.succ (Ev.ite (fun h => ?_) fun h => Ev.ite (fun h2 => ?_) fun h2 => Ev.ite (fun h3 => ?_) fun h3 => Ev.ite (fun h4 => ?_) fun h4 => ?_) (fun q => rfl)
 ·rw [if_pos h]; exact Ev.ret _
 ·rw [if_neg h, if_pos h2]; exact Ev.ret _
 ·rw [if_neg h, if_neg h2, if_pos h3]; exact hb
 ·rw [if_neg h, if_neg h2, if_neg h3, if_pos h4]; exact hb
 ·rw [if_neg h, if_neg h2, if_neg h3, if_neg h4]; exact Ev.ret _
def entOk (e : zkl) : Bool := decide (0 ≤ e.Proc) && (decide (e.Proc ≤ 64) && (decide (0 ≤ e.Seq) && (decide (e.Seq < 4611686018427387904) && (decide (-1125899906842624 ≤ e.Resp) && decide (e.Resp ≤ 1125899906842624)))))
theorem zcjr (e : zkl) : Ev (fun q => zls q e) (entOk e) := by
 unfold entOk
 exact Ev.succ (Ev.ite (fun h1 => Ev.ite (fun h2 => Ev.ite (fun h3 => Ev.ite (fun h4 => Ev.ite (fun h5 => Ev.ret' (by simp [*])) fun h5 => Ev.ret' (by simp [*])) fun h4 => Ev.ret' (by simp [*])) fun h3 => Ev.ret' (by simp [*])) fun h2 => Ev.ret' (by simp [*])) fun h1 => Ev.ret' (by simp [*])) (fun q => rfl)
def tabB : Int → List zkl → Bool
 | _, [] => true
 | last, e :: t => entOk e && (decide (last < e.Proc) && tabB e.Proc t)
theorem zcjs (z z2 : Bool) (L : List zkl) (hL : L.length ≤ 1000000) : ∀ (k i : Nat) (last : Int), L.length = i + k → (∀ e, 0 < i → L[i - 1]? = some e → e.Proc = last) → (i = 0 → last = -1) →
  Ev (fun q => zlt q z L z2 L (L.length : Int) (i : Int)) (tabB last (L.drop i))
 | 0, i, last, hk, h1, h0 => by
  refine Ev.succ (Ev.ne (Ev.ret' ?_)) (fun q => rfl)
  rw [y11 (by omega)]; rfl
 | k + 1, i, last, hk, h1, h0 => by
  have hi : i < L.length := by omega
  have he : L[((i : Int)).toNat]? = some L[i] := by simp [hi]
  rw [y8 hi]
  simp only [tabB]
  have w1 : wrp .i64 ((i : Int) + 1) = ((i + 1 : Nat) : Int) := by rw [zcfl (by omega) (by omega)]; omega
  have ih := zcjs z z2 L hL k (i + 1) L[i].Proc (by omega) (fun e _ hx => by
   rw [Nat.add_sub_cancel, y6 hi] at hx
   simp only [y1] at hx; rw [hx]) (by omega)
  refine Ev.succ (Ev.po (Ev.po (Ev.opt he (Ev.bind (zcjr _) (Ev.ite (fun c => Ev.ite (fun c2 => ?_) fun c2 => ?_) fun c => Ev.ret' ?_))))) (fun q => rfl)
  ·have w3 : wrp .i64 ((i : Int) - 1) = ((i - 1 : Nat) : Int) := by rw [zcfl (by omega) (by omega)]; omega
   have he3 : L[(wrp .i64 ((i : Int) - 1)).toNat]? = some L[i - 1] := by rw [w3, y27]; exact y6 (by omega)
   have hq := h1 L[i - 1] (by omega) (y6 (by omega))
   refine Ev.pos (by rw [w3]; omega) (Ev.opt he3 (Ev.ite (fun c4 => Ev.ret' ?_) fun c4 => ?_))
   ·rw [c, decide_eq_false (show ¬ last < L[i].Proc by omega)]; rfl
   ·rw [c, decide_eq_true (show last < L[i].Proc by omega), w1]; simpa using ih
  ·have := h0 (by omega)
   have hp : 0 ≤ L[i].Proc := by unfold entOk at c; simp only [y5, decide_eq_true_eq] at c; exact c.1
   rw [c, decide_eq_true (show last < L[i].Proc by omega), w1]; simpa using ih
  ·simp only [Bool.not_eq_true] at c; rw [c]; rfl
theorem zcjt (s : Sl zkl) (hL : s.l.length ≤ 1000000) : Ev (fun q => zlu q s) (tabB (-1) s.l) :=
 Ev.succ (zcjs s.z s.z s.l hL s.l.length 0 (-1) (by omega) (fun e h => by omega) (fun _ => rfl)) (fun q => rfl)
def mayN (s : zkm) : Bool := decide (0 ≤ s.Index) && (decide (s.Index < 4611686018427387904) && (mayS s.State && tabB (-1) s.Table.l))
theorem zcju (s : zkm) (h1 : s.State.L.l.length ≤ 1000000) (h2 : s.Table.l.length ≤ 1000000) : Ev (fun q => zlv q s) (mayN s) := by
 unfold mayN
 refine Ev.succ (Ev.ite (fun c1 => Ev.ite (fun c2 => Ev.bind (zcjq _ h1) (Ev.ite (fun c3 => Ev.bind (zcjt _ h2) (Ev.ret' ?_)) fun c3 => Ev.ret' ?_)) fun c2 => Ev.ret' ?_) fun c1 => Ev.ret' ?_) (fun q => rfl)
 ·simp [c1, c2, c3]
 ·simp [c3]
 ·simp [c2]
 ·simp [c1]
instance : DecidableEq zkl := fun a b => if h : a.Proc = b.Proc ∧ a.Seq = b.Seq ∧ a.Resp = b.Resp then isTrue (by cases a; cases b; simp_all) else isFalse (fun e => h (by rw [e]; exact ⟨rfl, rfl, rfl⟩))
theorem zcjv {a b : zkl} (h1 : a.Proc = b.Proc) (h2 : a.Seq = b.Seq) (h3 : a.Resp = b.Resp) : a = b := by cases a; cases b; simp_all
theorem zcjw (z z2 : Bool) (A B : List Int) (hl : A.length = B.length) (hL : A.length ≤ 1099511627776) : ∀ (k i : Nat), A.length = i + k → Ev (fun q => zmu q z A z2 B (A.length : Int) (i : Int)) (decide (A.drop i = B.drop i))
 | 0, i, hk => by
  refine Ev.succ (Ev.ne (Ev.ret' ?_)) (fun q => rfl)
  rw [y11 (by omega), y11 (by omega)]; simp
 | k + 1, i, hk => by
  have hi : i < A.length := by omega
  have hi2 : i < B.length := by omega
  have hg : A[(i : Int).toNat]? = some A[i] := by simpa using y6 hi
  have hg2 : B[(i : Int).toNat]? = some B[i] := by simpa using y6 hi2
  refine Ev.succ (Ev.po (Ev.po (Ev.opt hg (Ev.opt hg2 ?_)))) (fun q => rfl)
  rw [y8 hi, y8 hi2]
  refine Ev.ite (fun h => ?_) fun h => Ev.ret' (by symm; rw [decide_eq_false_iff_not]; intro e; exact h (List.cons.inj e).1)
  rw [zcfl (by omega) (by omega), show ((i : Int) + 1) = ((i + 1 : Nat) : Int) by omega]
  refine (zcjw z z2 A B hl hL k (i + 1) (by omega)).cast ?_
  rw [decide_eq_decide, List.cons.injEq]; simp only [h, true_and]
theorem zcjx (a b : Sl Int) (hL : a.l.length ≤ 1099511627776) : Ev (fun q => zmv q a b) (decide (a.l = b.l)) := by
 refine Ev.succ (Ev.ite (fun h => ?_) fun h => Ev.ret' ?_) (fun q => rfl)
 ·have := zcjw a.z b.z a.l b.l (by omega) hL a.l.length 0 (by omega)
  rw [y37, y37] at this; exact this
 ·symm; rw [decide_eq_false_iff_not]; intro e; rw [e] at h; exact h rfl
theorem zcjy (s : Sl Int) (hz : s.z = true → s.l = []) (hl : s.l.length ≤ 4294967296) : ∃ z, Ev (fun q => zk4 q s) ⟨z, true, s.l⟩ := by
 by_cases h : s.z = true
 ·exact ⟨true, Ev.succ (Ev.pos h (Ev.ret' (by rw [hz h]))) (fun q => rfl)⟩
 ·exact ⟨false, Ev.succ (Ev.neg h (Ev.pos hl (Ev.ret _))) (fun q => rfl)⟩
theorem zcjz {least : Int} : ∀ {l : List Int} {last : Int}, prs least last l = true → l.length % 2 = 0 → -1 ≤ last → -1099511627776 ≤ least → ∀ x ∈ l, -1099511627776 ≤ x ∧ x ≤ 1099511627776
 | [], last, h, h2, h3, h4, x, hx => by cases hx
 | [a], last, h, h2, h3, h4, x, hx => by simp at h2
 | a :: b :: t, last, h, h2, h3, h4, x, hx => by
  simp only [prs, y5, decide_eq_true_eq] at h
  simp only [y20] at h2
  rcases List.mem_cons.1 hx with e | e
  ·omega
  ·rcases List.mem_cons.1 e with e | e
   ·omega
   ·exact zcjz h.2.2.2.2 (by omega) (by omega) h4 x e
theorem zcj0 {l : List Int} (h : cutsB l) : ∀ x ∈ l, -1099511627776 ≤ x ∧ x ≤ 1099511627776 := fun x hx => zcf2.1 (h x hx)
theorem zcj1 {k : Int} {l : List Int} (h : kindOk k l = true) : 0 ≤ k ∧ k ≤ 5 ∧ l.length ≤ 128 ∧ ∀ x ∈ l, -1099511627776 ≤ x ∧ x ≤ 1099511627776 := by
 unfold kindOk at h
 split at h
 ·simp only [decide_eq_true_eq] at h; exact ⟨by omega, by omega, by omega, zcj0 h.2⟩
 ·split at h
  ·simp only [decide_eq_true_eq] at h; exact ⟨by omega, by omega, by omega, zcj0 h.2⟩
  ·split at h
   ·simp only [pairsOk, y5, decide_eq_true_eq] at h; exact ⟨by omega, by omega, by omega, zcjz h.1 h.2.1 (by omega) (by omega)⟩
   ·split at h
    ·simp only [pairsOk, y5, decide_eq_true_eq] at h; exact ⟨by omega, by omega, by omega, zcjz h.1 h.2.1 (by omega) (by omega)⟩
    ·cases h
theorem zcj2 {s : zkk} (h : mayS s = true) : 0 ≤ s.To ∧ s.To ≤ 2 ∧ (s.Sealed = false → s.To = 0) ∧ kindOk s.Kind s.L.l = true := by
 unfold mayS at h
 split at h
 ·cases h
 ·split at h
  ·cases h
  ·split at h
   ·rename_i h1 h2 h3; exact ⟨by omega, by omega, fun e => (by rw [e] at h3; cases h3), h⟩
   ·split at h
    ·rename_i h1 h2 h3 h4; exact ⟨by omega, by omega, fun _ => h4, h⟩
    ·cases h
theorem zcj3 {e : zkl} (h : entOk e = true) : 0 ≤ e.Proc ∧ e.Proc ≤ 64 ∧ 0 ≤ e.Seq ∧ e.Seq < 4611686018427387904 ∧ -1125899906842624 ≤ e.Resp ∧ e.Resp ≤ 1125899906842624 := by
 simpa only [entOk, y5, decide_eq_true_eq] using h
theorem zcj4 {s : zkm} (h : mayN s = true) : 0 ≤ s.Index ∧ s.Index < 4611686018427387904 ∧ mayS s.State = true ∧ tabB (-1) s.Table.l = true := by
 simpa only [mayN, y5, decide_eq_true_eq] using h
/-- A table has at most 65 entries. -/
theorem zcj5 : ∀ {t : List zkl} {last : Int}, tabB last t = true → -1 ≤ last → (t.length : Int) + last ≤ 64 ∨ t = []
 | [], last, h, h1 => .inr rfl
 | a :: t, last, h, h1 => by
  simp only [tabB, y5, decide_eq_true_eq] at h
  have ha := zcj3 h.1
  rcases zcj5 h.2.2 (by omega) with e | e
  ·left; rw [y20]; omega
  ·left; rw [e]; simp only [y20, y24]; omega
def sealN (s : zkk) : Int := if s.Sealed = true then s.To + 1 else 0
def numsB (l : List Int) : List Int := l.flatMap putS
theorem zcj6 (x : Int) (l : List Int) : numsB (x :: l) = putS x ++ numsB l := by simp [numsB]
def stateB (s : zkk) : List Int := ((put s.Kind ++ put (sealN s)) ++ put (s.L.l.length : Int)) ++ numsB s.L.l
def entB (e : zkl) : List Int := put e.Proc ++ (put e.Seq ++ putS e.Resp)
def tabE (l : List zkl) : List Int := l.flatMap entB
theorem zcj7 (e : zkl) (l : List zkl) : tabE (e :: l) = entB e ++ tabE l := by simp [tabE]
def wholeB (s : zkm) : List Int := ((put ((stateB s.State).length : Int) ++ stateB s.State) ++ put (s.Table.l.length : Int)) ++ tabE s.Table.l
/-- Pieces of 64 bytes. -/
def chks : Nat → List Int → List (List Int)
 | 0, _ => []
 | k + 1, l => if l.length = 0 then [] else l.take 64 :: chks k (l.drop 64)
def frsB (F : List (List Int)) : List Int := (F.map encF).flatten
theorem zcj8 (l : List Int) : (encF l).length = (put (l.length : Int)).length + l.length + 4 := by
 simp only [encF, fix4, y9, y20, y24]; omega
/-- What the first frame tells. -/
def manB (i : Int) (w : List Int) : List Int := ((([115] ++ put 3) ++ put i) ++ put (w.length : Int)) ++ fix4 (bsum w).toNat
def snapB (s : zkm) : List Int := encF (manB s.Index (wholeB s)) ++ frsB (chks (wholeB s).length (wholeB s))
theorem zcj9 (z z2 : Bool) (A B : List zkl) (hl : A.length = B.length) (hL : A.length ≤ 1099511627776) : ∀ (k i : Nat), A.length = i + k → Ev (fun q => zmx q z A z2 B (A.length : Int) (i : Int)) (decide (A.drop i = B.drop i))
 | 0, i, hk => by
  refine Ev.succ (Ev.ne (Ev.ret' ?_)) (fun q => rfl)
  rw [y11 (by omega), y11 (by omega)]; simp
 | k + 1, i, hk => by
  have hi : i < A.length := by omega
  have hi2 : i < B.length := by omega
  have hg : A[(i : Int).toNat]? = some A[i] := by simpa using y6 hi
  have hg2 : B[(i : Int).toNat]? = some B[i] := by simpa using y6 hi2
  have no : ¬ A[i] = B[i] → false = decide (A[i] :: A.drop (i + 1) = B[i] :: B.drop (i + 1)) := fun h => by
   symm; rw [decide_eq_false_iff_not]; intro e; exact h (List.cons.inj e).1
  rw [y8 hi, y8 hi2]
  refine Ev.succ (Ev.po (Ev.po (Ev.opt hg (Ev.opt hg2 (Ev.ite (fun c1 => Ev.ite (fun c2 => Ev.ite (fun c3 => ?_) fun c3 => Ev.ret' (no fun e => c3 (by rw [e]))) fun c2 => Ev.ret' (no fun e => c2 (by rw [e]))) fun c1 => Ev.ret' (no fun e => c1 (by rw [e]))))))) (fun q => rfl)
  rw [zcfl (by omega) (by omega), show ((i : Int) + 1) = ((i + 1 : Nat) : Int) by omega]
  refine (zcj9 z z2 A B hl hL k (i + 1) (by omega)).cast ?_
  rw [decide_eq_decide, List.cons.injEq]; simp only [zcjv c1 c2 c3, true_and]
theorem zcka (a b : Sl zkl) (hL : a.l.length ≤ 1099511627776) : Ev (fun q => zmy q a b) (decide (a.l = b.l)) := by
 refine Ev.succ (Ev.ite (fun h => ?_) fun h => Ev.ret' ?_) (fun q => rfl)
 ·have := zcj9 a.z b.z a.l b.l (by omega) hL a.l.length 0 (by omega)
  rw [y37, y37] at this; exact this
 ·symm; rw [decide_eq_false_iff_not]; intro e; rw [e] at h; exact h rfl
/-- The same states, the same snapshots. -/
def sameS (a b : zkk) : Bool := decide (a.Kind = b.Kind) && (decide (a.Sealed = b.Sealed) && (decide (a.To = b.To) && decide (a.L.l = b.L.l)))
def sameN (a b : zkm) : Bool := decide (a.Index = b.Index) && (sameS a.State b.State && decide (a.Table.l = b.Table.l))
theorem zckb (a b : zkk) (hL : a.L.l.length ≤ 1099511627776) : Ev (fun q => zmw q a b) (sameS a b) := by
 unfold sameS
 refine Ev.succ (Ev.ite (fun c1 => Ev.ite (fun c2 => Ev.ite (fun c3 => Ev.bind (zcjx _ _ hL) (Ev.ret' ?_)) fun c3 => Ev.ret' ?_) fun c2 => Ev.ret' ?_) fun c1 => Ev.ret' ?_) (fun q => rfl)
 ·rw [beq_iff_eq] at c2; simp [c1, c2, c3]
 ·simp [c3]
 ·rw [beq_iff_eq] at c2; simp [c2]
 ·simp [c1]
theorem zckc (a b : zkm) (hL : a.State.L.l.length ≤ 1099511627776) (hT : a.Table.l.length ≤ 1099511627776) : Ev (fun q => zmz q a b) (sameN a b) := by
 unfold sameN
 refine Ev.succ (Ev.ite (fun c1 => Ev.bind (zckb _ _ hL) (Ev.ite (fun c2 => Ev.bind (zcka _ _ hT) (Ev.ret' ?_)) fun c2 => Ev.ret' ?_)) fun c1 => Ev.ret' ?_) (fun q => rfl)
 ·simp [c1, c2]
 ·simp only [Bool.not_eq_true] at c2; simp [c2]
 ·simp [c1]
theorem zckd (a : zkm) : sameN a a = true := by simp [sameN, sameS]
theorem zcke (n : Int) : 1 ≤ (putS n).length := zcfr _
theorem zckf {l : List Int} (hb : isB l) (h : (getN l).2 ≠ 0) : l.take (getN l).2.toNat = put (getN l).1 := by
 unfold getN at h ⊢
 cases e : rd 0 l with
 | none => simp [e] at h
 | some p =>
  simp only [e] at h ⊢
  split
  ·rename_i h2; rw [if_pos h2] at h; simp at h
  ·rename_i h2
   have := (rd_inv hb (show rd 0 l = some (p.1, p.2) from e)).1
   simp only [y27]
   rw [this, put_ok (by omega) (by omega), y27]
theorem zckg {l : List Int} (hb : isB l) (h : (getS l).2 ≠ 0) : l.take (getS l).2.toNat = putS (getS l).1 := by
 unfold getS at h ⊢
 cases e : rd 0 l with
 | none => simp [e] at h
 | some p =>
  have := (rd_inv hb (show rd 0 l = some (p.1, p.2) from e)).1
  simp only [y27]
  rw [this, putS, zchx]
theorem zckh {l : List Int} (hb : isB l) (h : 0 < (getN l).2) : l = put (getN l).1 ++ l.drop (getN l).2.toNat := by
 rw [← zckf hb (by omega), List.take_append_drop]
theorem zcki {l : List Int} (hb : isB l) (h : 0 < (getS l).2) : l = putS (getS l).1 ++ l.drop (getS l).2.toNat := by
 rw [← zckg hb (by omega), List.take_append_drop]
theorem zckj : ∀ {f : Nat} {l : List Int}, isB l → ∀ d ∈ (walkF f l).1, isB d ∧ d.length ≤ 1048576
 | 0, l, hb, d, h => by simp [walkF] at h
 | f + 1, l, hb, d, h => by
  simp only [walkF] at h
  split at h
  ·simp at h
  ·split at h
   ·rename_i h1 h2
    rcases List.mem_cons.1 h with e | e
    ·rw [e]
     exact ⟨zcho hb, (zchn (l := l) (x := (decF l).1) (n := (decF l).2.1) hb (by rw [← h2])).1⟩
    ·exact zckj (zchl hb _) d e
   ·simp at h
theorem zckk {l : List Int} (hb : isB l) : ∀ d ∈ (allE l).1, isB d ∧ d.length ≤ 1048576 := by
 unfold allE
 split
 ·exact zckj hb
 ·simp
theorem zckl : ∀ {f : Nat} {l : List Int}, isB l → l.length < f → (walkF f l).2.2 = 0 → BB (walkF f l).1 = l
 | 0, l, hb, hf, h => by omega
 | f + 1, l, hb, hf, h => by
  simp only [walkF] at h ⊢
  split at h
  ·rename_i e; rw [if_pos e]; simp [BB, e]
  ·rename_i e
   rw [if_neg e]
   split at h
   ·rename_i e2
    rw [if_pos e2]
    obtain ⟨k1, k2, k3, k4, k5⟩ := zchn (l := l) (x := (decF l).1) (n := (decF l).2.1) hb (by rw [← e2])
    have := zckl (f := f) (l := l.drop (decF l).2.1.toNat) (zchl hb _) (by rw [y12]; omega) h
    simp only [zchw, this, k5, List.take_append_drop]
   ·rename_i e2; exact absurd h e2
theorem zckm {l : List Int} (hb : isB l) (h : (allE l).2 = 0) : BB (allE l).1 = l := by
 unfold allE at h ⊢
 split at h
 ·rename_i e; rw [if_pos e]; exact zckl hb (by omega) e
 ·rename_i e; exact absurd h e
theorem zckn (F : List (List Int)) : frsB F = BB F := by simp [frsB, BB, List.flatMap]
def noS : zkk := ⟨0, ⟨true, []⟩, false, 0⟩
def nums : Nat → List Int → List Int × Bool × List Int
 | 0, b => ([], true, b)
 | k + 1, b => ((getS b).1 :: (nums k (b.drop (getS b).2.toNat)).1, decide (0 < (getS b).2) && (nums k (b.drop (getS b).2.toNat)).2.1, (nums k (b.drop (getS b).2.toNat)).2.2)
theorem zcko : ∀ {k : Nat} {b : List Int}, isB b → (nums k b).2.1 = true → b = numsB (nums k b).1 ++ (nums k b).2.2
 | 0, b, hb, h => by simp [nums, numsB]
 | k + 1, b, hb, h => by
  simp only [nums, y5, decide_eq_true_eq] at h ⊢
  rw [zcj6, y32, ← zcko (zchl hb _) h.2]
  exact zcki hb h.1
theorem zckp : ∀ {k : Nat} {b : List Int}, (nums k b).1.length = k
 | 0, b => rfl
 | k + 1, b => by simp only [nums, y20, zckp]
/-- The state that was read. -/
def stR (x y : Int) (l : List Int) : zkk := ⟨x, ⟨l.isEmpty, l⟩, decide (0 < y), if y - 1 < 0 then 0 else y - 1⟩
def stD (b : List Int) : zkk × Int :=
 let x := getN b
 let b1 := b.drop x.2.toNat
 let y := getN b1
 let b2 := b1.drop y.2.toNat
 let z := getN b2
 let b3 := b2.drop z.2.toNat
 if 0 < x.2 ∧ 0 < y.2 ∧ 0 < z.2 ∧ y.1 ≤ 3 ∧ z.1 ≤ 128 then
  if (nums z.1.toNat b3).2.1 = true ∧ (nums z.1.toNat b3).2.2 = [] then
   if mayS (stR x.1 y.1 (nums z.1.toNat b3).1) = true then (stR x.1 y.1 (nums z.1.toNat b3).1, 0) else (noS, 1)
  else (noS, 3)
 else (noS, 3)
theorem zckq {x y : Int} {l : List Int} (hy : 0 ≤ y) : sealN (stR x y l) = y := by
 unfold sealN stR
 by_cases h : 0 < y
 ·simp only [h, decide_true, if_true]; rw [if_neg (by omega)]; omega
 ·simp only [h, decide_false, y17, if_false]; omega
theorem zckr {b : List Int} (hb : isB b) (h : (stD b).2 = 0) : mayS (stD b).1 = true ∧ stateB (stD b).1 = b := by
 simp only [stD] at h ⊢
 split at h
 ·rename_i c
  rw [if_pos c]
  split at h
  ·rename_i c2
   rw [if_pos c2]
   split at h
   ·rename_i c3
    rw [if_pos c3]
    refine ⟨c3, ?_⟩
    have y0 := (zche (l := b.drop (getN b).2.toNat)).2.2.2.1
    have z0 := zche (l := (b.drop (getN b).2.toNat).drop (getN (b.drop (getN b).2.toNat)).2.toNat)
    have hb1 := zchl hb (getN b).2.toNat
    have hb2 := zchl hb1 (getN (b.drop (getN b).2.toNat)).2.toNat
    have hb3 := zchl hb2 (getN ((b.drop (getN b).2.toNat).drop (getN (b.drop (getN b).2.toNat)).2.toNat)).2.toNat
    have e0 := zckh hb c.1
    have e1 := zckh hb1 c.2.1
    have e2 := zckh hb2 c.2.2.1
    have e3 := zcko hb3 c2.1
    have hl := zckp (k := (getN ((b.drop (getN b).2.toNat).drop (getN (b.drop (getN b).2.toNat)).2.toNat)).1.toNat) (b := ((b.drop (getN b).2.toNat).drop (getN (b.drop (getN b).2.toNat)).2.toNat).drop (getN ((b.drop (getN b).2.toNat).drop (getN (b.drop (getN b).2.toNat)).2.toNat)).2.toNat)
    rw [c2.2, List.append_nil] at e3
    simp only [stateB, zckq y0]
    show ((put (getN b).1 ++ put _) ++ put (((nums _ _).1.length : Nat) : Int)) ++ numsB (nums _ _).1 = b
    rw [hl, Int.toNat_of_nonneg z0.2.2.2.1, ← e3, y32, y32, ← e2, ← e1, ← e0]
   ·cases h
  ·cases h
 ·cases h
def entD (b : List Int) : zkl × Int :=
 let x := getN b
 let b1 := b.drop x.2.toNat
 let y := getN b1
 let b2 := b1.drop y.2.toNat
 let z := getS b2
 (⟨x.1, y.1, z.1⟩, if x.2 = 0 then 0 else if y.2 = 0 then 0 else if z.2 = 0 then 0 else x.2 + y.2 + z.2)
theorem zcks {b : List Int} : 0 ≤ (entD b).2 ∧ (entD b).2 ≤ b.length := by
 have x := zche (l := b)
 have y := zche (l := b.drop (getN b).2.toNat)
 have z := zch1 (l := (b.drop (getN b).2.toNat).drop (getN (b.drop (getN b).2.toNat)).2.toNat)
 simp only [y12] at y z
 simp only [entD]
 split
 ·omega
 ·split
  ·omega
  ·split <;> omega
theorem drop3 (b : List Int) {i j k : Int} (h1 : 0 ≤ i) (h2 : 0 ≤ j) (h3 : 0 ≤ k) : b.drop (i + j + k).toNat = ((b.drop i.toNat).drop j.toNat).drop k.toNat := by
 rw [y49, y49]; congr 1; omega
theorem zckt {b : List Int} (hb : isB b) (h : (entD b).2 ≠ 0) : b = entB (entD b).1 ++ b.drop (entD b).2.toNat := by
 have x := zche (l := b)
 have y := zche (l := b.drop (getN b).2.toNat)
 have z := zch1 (l := (b.drop (getN b).2.toNat).drop (getN (b.drop (getN b).2.toNat)).2.toNat)
 have hb1 := zchl hb (getN b).2.toNat
 have hb2 := zchl hb1 (getN (b.drop (getN b).2.toNat)).2.toNat
 simp only [entD] at h ⊢
 split at h
 ·exact absurd rfl h
 ·rename_i c1
  split at h
  ·exact absurd rfl h
  ·rename_i c2
   split at h
   ·exact absurd rfl h
   ·rename_i c3
    rw [if_neg c1, if_neg c2, if_neg c3]
    have e0 := zckh hb (by omega)
    have e1 := zckh hb1 (by omega)
    have e2 := zcki hb2 (by omega)
    rw [drop3 b x.1 y.1 z.1]
    simp only [entB, y32]
    rw [← e2, ← e1, ← e0]
def ents : Nat → List Int → Option (List zkl × List Int)
 | 0, b => some ([], b)
 | k + 1, b => if (entD b).2 = 0 then none else match ents k (b.drop (entD b).2.toNat) with
  | none => none
  | some t => some ((entD b).1 :: t.1, t.2)
theorem zcku : ∀ {k : Nat} {b : List Int} {t : List zkl × List Int}, isB b → ents k b = some t → b = tabE t.1 ++ t.2 ∧ t.1.length = k
 | 0, b, t, hb, h => by simp only [ents, y1] at h; subst h; simp [tabE]
 | k + 1, b, t, hb, h => by
  simp only [ents] at h
  split at h
  ·cases h
  ·rename_i c
   cases e : ents k (b.drop (entD b).2.toNat) with
   | none => simp [e] at h
   | some u =>
    simp only [e, y1] at h
    subst h
    obtain ⟨h1, h2⟩ := zcku (zchl hb _) e
    refine ⟨?_, by simp [h2]⟩
    simp only [zcj7, y32]
    rw [← h1]; exact zckt hb c
def noT : zkk × List zkl := (noS, [])
def whD (w : List Int) : (zkk × List zkl) × Int :=
 if (getN w).2 = 0 then (noT, 3) else if (w.length : Int) - (getN w).2 < (getN w).1 then (noT, 3) else
 if (stD ((w.take ((getN w).2 + (getN w).1).toNat).drop (getN w).2.toNat)).2 = 3 then (noT, 3) else
 if (getN (w.drop ((getN w).2 + (getN w).1).toNat)).2 = 0 then (noT, 3) else
 if ((w.drop ((getN w).2 + (getN w).1).toNat).length : Int) < (getN (w.drop ((getN w).2 + (getN w).1).toNat)).1 then (noT, 3) else
 match ents (getN (w.drop ((getN w).2 + (getN w).1).toNat)).1.toNat ((w.drop ((getN w).2 + (getN w).1).toNat).drop (getN (w.drop ((getN w).2 + (getN w).1).toNat)).2.toNat) with
 | none => (noT, 3)
 | some t => if t.2 = [] then (((stD ((w.take ((getN w).2 + (getN w).1).toNat).drop (getN w).2.toNat)).1, t.1), (stD ((w.take ((getN w).2 + (getN w).1).toNat).drop (getN w).2.toNat)).2) else (noT, 3)
/-- A snapshot of its parts. -/
def mkN (i : Int) (p : zkk × List zkl) : zkm := ⟨i, p.1, ⟨p.2.isEmpty, p.2⟩⟩
theorem zckv {w : List Int} (hb : isB w) (h : (whD w).2 = 0) (i : Int) : wholeB (mkN i (whD w).1) = w := by
 have hn := zche (l := w)
 unfold whD at h ⊢
 split at h
 ·cases h
 ·rename_i c1
  rw [if_neg c1]
  split at h
  ·cases h
  ·rename_i c2
   rw [if_neg c2]
   split at h
   ·cases h
   ·rename_i c3
    rw [if_neg c3]
    split at h
    ·cases h
    ·rename_i c4
     rw [if_neg c4]
     split at h
     ·cases h
     ·rename_i c5
      rw [if_neg c5]
      generalize hS : (w.take ((getN w).2 + (getN w).1).toNat).drop (getN w).2.toNat = X at h ⊢
      have hbX : isB X := by rw [← hS]; exact zchl (zchk hb _) _
      have hm := zche (l := w.drop ((getN w).2 + (getN w).1).toNat)
      have hbW := zchl hb ((getN w).2 + (getN w).1).toNat
      have hXl : (X.length : Int) = (getN w).1 := by rw [← hS, y12, y19]; omega
      have hw1 : w = (put (getN w).1 ++ X) ++ w.drop ((getN w).2 + (getN w).1).toNat := by
       rw [← zckf hb c1, ← hS]
       have e : w.take (getN w).2.toNat = (w.take ((getN w).2 + (getN w).1).toNat).take (getN w).2.toNat := by rw [List.take_take]; congr 1; omega
       rw [e, List.take_append_drop, List.take_append_drop]
      cases he : ents (getN (w.drop ((getN w).2 + (getN w).1).toNat)).1.toNat ((w.drop ((getN w).2 + (getN w).1).toNat).drop (getN (w.drop ((getN w).2 + (getN w).1).toNat)).2.toNat) with
      | none => rw [he] at h; cases h
      | some t =>
       rw [he] at h
       simp only at h ⊢
       split at h
       ·rename_i c6
        rw [if_pos c6]
        obtain ⟨h1, h2⟩ := zcku (zchl hbW _) he
        rw [c6, List.append_nil] at h1
        obtain ⟨_, s2⟩ := zckr hbX h
        have e2 := zckh hbW (by omega)
        show ((put ((stateB (stD X).1).length : Int) ++ stateB (stD X).1) ++ put ((t.1.length : Nat) : Int)) ++ tabE t.1 = w
        rw [s2, hXl, h2, Int.toNat_of_nonneg hm.2.2.2.1, ← h1, y32, ← e2]
        exact hw1.symm
       ·cases h
def manD (d : List Int) : (Int × Int × Nat) × Int :=
 let x := getN (d.drop 1)
 let d1 := (d.drop 1).drop x.2.toNat
 let y := getN d1
 let d2 := d1.drop y.2.toNat
 let z := getN d2
 let d3 := d2.drop z.2.toNat
 if d[0]? = some 115 then
  if x.2 = 0 then ((0, 0, 0), 3) else if y.2 = 0 then ((0, 0, 0), 3) else if z.2 = 0 then ((0, 0, 0), 3) else if x.1 = 3 then if d3.length = 4 then ((y.1, z.1, numB d3), 0) else ((0, 0, 0), 3) else ((0, 0, 0), 6)
 else ((0, 0, 0), 3)
theorem take4 {l : List Int} (h : l.length = 4) (hb : isB l) {v : Nat} (hv : v < 4294967296) (e : numB l = v) : l = fix4 v := (zchq hb h hv).1 e
theorem zckw {d w : List Int} (hb : isB d) (h : (manD d).2 = 0) (h1 : (w.length : Int) = (manD d).1.2.1) (h2 : (bsum w).toNat = (manD d).1.2.2) : d = manB (manD d).1.1 w ∧ 0 ≤ (manD d).1.1 ∧ (manD d).1.1 < 4611686018427387904 := by
 have hb0 := zchl hb 1
 have hb1 := zchl hb0 (getN (d.drop 1)).2.toNat
 have hb2 := zchl hb1 (getN ((d.drop 1).drop (getN (d.drop 1)).2.toNat)).2.toNat
 have hb3 := zchl hb2 (getN (((d.drop 1).drop (getN (d.drop 1)).2.toNat).drop (getN ((d.drop 1).drop (getN (d.drop 1)).2.toNat)).2.toNat)).2.toNat
 have hy := zche (l := (d.drop 1).drop (getN (d.drop 1)).2.toNat)
 have hx := zche (l := d.drop 1)
 have hz := zche (l := ((d.drop 1).drop (getN (d.drop 1)).2.toNat).drop (getN ((d.drop 1).drop (getN (d.drop 1)).2.toNat)).2.toNat)
 simp only [manD] at h h1 h2 ⊢
 split at h
 ·rename_i c0
  rw [if_pos c0] at h1 h2 ⊢
  split at h
  ·cases h
  ·rename_i c1
   rw [if_neg c1] at h1 h2 ⊢
   split at h
   ·cases h
   ·rename_i c2
    rw [if_neg c2] at h1 h2 ⊢
    split at h
    ·cases h
    ·rename_i c3
     rw [if_neg c3] at h1 h2 ⊢
     split at h
     ·rename_i c4
      rw [if_pos c4] at h1 h2 ⊢
      split at h
      ·rename_i c5
       rw [if_pos c5] at h1 h2 ⊢
       simp only at h1 h2 ⊢
       refine ⟨?_, hy.2.2.2.1, hy.2.2.2.2⟩
       have e1 := zckh hb0 (by omega)
       have e2 := zckh hb1 (by omega)
       have e3 := zckh hb2 (by omega)
       have e4 := take4 c5 hb3 (v := (bsum w).toNat) (by have := (bsum w).isLt; omega) h2.symm
       unfold manB
       rw [h1, ← c4, ← e4]
       simp only [y32]
       rw [← e3, ← e2, ← e1]
       cases d with
       | nil => simp at c0
       | cons a d => simp only [y36, y1] at c0; rw [c0]; rfl
      ·cases h
     ·cases h
 ·cases h
def cutB : List (List Int) → Bool
 | [] => true
 | [d] => decide (1 ≤ d.length) && decide (d.length ≤ 64)
 | d :: t => decide (d.length = 64) && cutB t
theorem zckx {k : Nat} {l : List Int} (h : l.length = 0) : chks k l = [] := by
 cases k with
 | zero => rfl
 | succ k => simp only [chks]; rw [if_pos h]
theorem zcky {k : Nat} {l : List Int} (h : l.length ≠ 0) : chks (k + 1) l = l.take 64 :: chks k (l.drop 64) := by simp only [chks]; rw [if_neg h]
theorem zckz : ∀ {t : List (List Int)} {k : Nat}, cutB t = true → t.flatten.length ≤ k → chks k t.flatten = t
 | [], k, h, hk => zckx rfl
 | [d], k, h, hk => by
  simp only [cutB, y5, decide_eq_true_eq] at h
  simp only [List.flatten_cons, List.flatten_nil, List.append_nil] at hk ⊢
  cases k with
  | zero => omega
  | succ k => rw [zcky (by omega), List.take_of_length_le h.2, zckx (by rw [y12]; omega)]
 | d :: e :: t, k, h, hk => by
  simp only [cutB, y5, decide_eq_true_eq] at h
  rw [List.flatten_cons, y9] at hk
  cases k with
  | zero => omega
  | succ k =>
   rw [List.flatten_cons, zcky (by rw [y9]; omega), List.take_left' h.1, List.drop_left' h.1, zckz h.2 (by omega)]
def noN : zkm := ⟨0, noS, ⟨true, []⟩⟩
def snD (b : List Int) : zkm × Int :=
 if (allE b).2 = 0 then match (allE b).1 with
  | [] => (noN, 16)
  | h :: t =>
   if (manD h).2 = 0 then
    if (t.flatten.length : Int) = (manD h).1.2.1 then
     if cutB t = true then
      if (bsum t.flatten).toNat = (manD h).1.2.2 then
       if (whD t.flatten).2 = 0 then
        if mayN (mkN (manD h).1.1 (whD t.flatten).1) = true then (mkN (manD h).1.1 (whD t.flatten).1, 0) else (noN, 1)
       else (noN, (whD t.flatten).2)
      else (noN, 4)
     else (noN, 3)
    else (noN, 16)
   else (noN, (manD h).2)
 else (noN, (allE b).2)
theorem zck0 : ∀ {t : List (List Int)}, (∀ d ∈ t, isB d) → isB t.flatten := fun h c hc => by
 obtain ⟨d, hd, hcd⟩ := List.mem_flatten.1 hc; exact h d hd c hcd
theorem zck1 {b : List Int} (hb : isB b) (h : (snD b).2 = 0) : mayN (snD b).1 = true ∧ snapB (snD b).1 = b := by
 unfold snD at h ⊢
 split at h
 ·rename_i c0
  rw [if_pos c0]
  have hf := zckm hb c0
  have hme := zckk hb
  cases he : (allE b).1 with
  | nil => rw [he] at h; cases h
  | cons d t =>
   rw [he] at h hf hme
   simp only at h ⊢
   split at h
   ·rename_i c1
    rw [if_pos c1]
    split at h
    ·rename_i c2
     rw [if_pos c2]
     split at h
     ·rename_i c3
      rw [if_pos c3]
      split at h
      ·rename_i c4
       rw [if_pos c4]
       split at h
       ·rename_i c5
        rw [if_pos c5]
        split at h
        ·rename_i c6
         rw [if_pos c6]
         have hbt : isB t.flatten := zck0 fun x hx => (hme x (y35 _ hx)).1
         obtain ⟨m1, m2, m3⟩ := zckw (hme d y31).1 c1 c2 c4
         refine ⟨c6, ?_⟩
         unfold snapB
         rw [zckv hbt c5, zckn, zckz c3 (y13 _)]
         show encF (manB (manD d).1.1 t.flatten) ++ BB t = b
         rw [← m1, ← zchw]; exact hf
        ·cases h
       ·rename_i c5; exact absurd h c5
      ·cases h
     ·cases h
    ·cases h
   ·rename_i c1; exact absurd h c1
 ·rename_i c0; exact absurd h c0
theorem zck2 : ∀ (a : List Int) (c : Int), numB (a ++ [c]) = numB a + c.toNat * 256 ^ a.length
 | [], c => by simp [numB]
 | x :: a, c => by
  simp only [List.cons_append, numB, zck2 a c, y20, Nat.pow_succ]
  rw [Nat.mul_add, Nat.mul_comm (256 ^ a.length) 256, ← Nat.mul_assoc, ← Nat.mul_assoc, Nat.mul_comm c.toNat 256]; omega
theorem zck3 (z : Bool) (L : List Int) (hb : isB L) (hL : L.length ≤ 8) : ∀ (k i : Nat), L.length = i + k → Ev (fun q => zn9 q z L ((numB (L.take i) : Nat) : Int) (L.length : Int) (i : Int)) ((numB L : Nat) : Int)
 | 0, i, hk => Ev.succ (Ev.ne (Ev.ret' (by rw [List.take_of_length_le (by omega)]))) (fun q => rfl)
 | k + 1, i, hk => by
  have hi : i < L.length := by omega
  have hg : L[(i : Int).toNat]? = some L[i] := by simpa using y6 hi
  obtain ⟨b1, b2⟩ := hb L[i] (y25 hi)
  have ih := zck3 z L hb hL k (i + 1) (by omega)
  have hw : wrp .i64 (8 * (i : Int)) = ((8 * i : Nat) : Int) := by rw [zcfl (by omega) (by omega)]; omega
  have hlt := zchp (l := L.take i) (zchk hb _)
  rw [y19, Nat.min_eq_left (by omega)] at hlt
  have hs : numB (L.take (i + 1)) = numB (L.take i) + L[i].toNat * 256 ^ i := by
   rw [← List.take_append_getElem hi, zck2, y19, Nat.min_eq_left (by omega)]
  have hp : 2 ^ (8 * i) = 256 ^ i := by rw [Nat.pow_mul]
  have hpb : 256 ^ i ≤ 256 ^ 7 := Nat.pow_le_pow_right (by omega) (by omega)
  have h6 : L[i].toNat * 2 ^ (8 * i) < 18446744073709551616 := by
   rw [hp]
   have h : L[i].toNat * 256 ^ i ≤ 255 * 256 ^ 7 := Nat.mul_le_mul (by omega) hpb
   simp only [Nat.reducePow] at h; omega
  have hn : numB (L.take i) < 18446744073709551616 := by
   simp only [Nat.reducePow] at hpb; omega
  have key : ibits .or .u64 ((numB (L.take i) : Nat) : Int) (ishl .u64 (wrp .u64 L[i]) (wrp .i64 (8 * (i : Int)))) = ((numB (L.take (i + 1)) : Nat) : Int) := by
   rw [hw, zcfm b1 (by omega), show L[i] = ((L[i].toNat : Nat) : Int) by omega, ishl64 (by omega), Nat.mod_eq_of_lt (by simpa using h6), or64 hn (by simpa using h6), hs]
   congr 1
   rw [← hp] at hlt
   have := Nat.two_pow_add_eq_or_of_lt hlt L[i].toNat
   rw [Nat.or_comm, Nat.mul_comm, ← this, hp, Nat.mul_comm]; omega
  refine Ev.succ (Ev.po (Ev.po (Ev.opt hg (Ev.neg (by rw [hw]; omega) ?_)))) (fun q => rfl)
  rw [key, zcfl (by omega) (by omega), show ((i : Int) + 1) = ((i + 1 : Nat) : Int) by omega]
  exact ih
theorem zck4 (s : Sl Int) (hb : isB s.l) (hL : s.l.length ≤ 8) : Ev (fun q => zoa q s) ((numB s.l : Nat) : Int) := by
 have h := zck3 s.z s.l hb hL s.l.length 0 (by omega)
 refine Ev.succ (g := fun q => zn9 q s.z s.l 0 (if 8 < (s.l.length : Int) then 8 else (s.l.length : Int)) 0) ?_ (fun q => rfl)
 rw [if_neg (show ¬ 8 < (s.l.length : Int) by omega)]; exact h
theorem zck5 (s : Sl Int) (hb : isB s.l) (hl : s.l.length ≤ 4294967296) : ∃ m, Ev (fun q => zob q s) (m, (manD s.l).2) ∧ ((manD s.l).2 = 0 → m = ⟨(manD s.l).1.1, (manD s.l).1.2.1, (((manD s.l).1.2.2 : Nat) : Int)⟩) := by
 by_cases h0 : (s.l.length : Int) = 0
 ·have e : s.l[0]? = none := by rw [y50]; omega
  have hm : (manD s.l).2 = 3 := by simp only [manD, e]; rw [if_neg (by simp)]
  rw [hm]
  exact ⟨_, Ev.succ (Ev.pos h0 (Ev.ret _)) (fun q => rfl), fun h => by cases h⟩
 ·obtain ⟨a, he⟩ : ∃ a, s.l[0]? = some a := ⟨s.l[0]'(by omega), y6 (by omega)⟩
  obtain ⟨d, hd⟩ : ∃ d, d = s.l.drop 1 := ⟨_, rfl⟩
  have hlc : s.l.length = d.length + 1 := by rw [hd, y12]; omega
  have hb0 : isB d := by rw [hd]; exact zchl hb 1
  have hb1 := zchl hb0 (getN d).2.toNat
  have hb2 := zchl hb1 (getN (d.drop (getN d).2.toNat)).2.toNat
  have hb3 := zchl hb2 (getN ((d.drop (getN d).2.toNat).drop (getN (d.drop (getN d).2.toNat)).2.toNat)).2.toNat
  have hx := zche (l := d)
  have hy := zche (l := d.drop (getN d).2.toNat)
  have hz := zche (l := (d.drop (getN d).2.toNat).drop (getN (d.drop (getN d).2.toNat)).2.toNat)
  simp only [y12] at hy hz
  have hF := zck4 ⟨s.z, ((d.drop (getN d).2.toNat).drop (getN (d.drop (getN d).2.toNat)).2.toNat).drop (getN ((d.drop (getN d).2.toNat).drop (getN (d.drop (getN d).2.toNat)).2.toNat)).2.toNat⟩ hb3
  simp only [y12] at hF
  have pre : ∀ {m}, (a = 115 → Ev (fun q => (if (getN d).2 = 0 then (some ((⟨(getN (d.drop (getN d).2.toNat)).1, (getN ((d.drop (getN d).2.toNat).drop (getN (d.drop (getN d).2.toNat)).2.toNat)).1, 0⟩ : zks), (3 : Int))) else (if (getN (d.drop (getN d).2.toNat)).2 = 0 then (some ((⟨(getN (d.drop (getN d).2.toNat)).1, (getN ((d.drop (getN d).2.toNat).drop (getN (d.drop (getN d).2.toNat)).2.toNat)).1, 0⟩ : zks), 3)) else (if (getN ((d.drop (getN d).2.toNat).drop (getN (d.drop (getN d).2.toNat)).2.toNat)).2 = 0 then (some ((⟨(getN (d.drop (getN d).2.toNat)).1, (getN ((d.drop (getN d).2.toNat).drop (getN (d.drop (getN d).2.toNat)).2.toNat)).1, 0⟩ : zks), 3)) else (if (getN d).1 = 3 then (if (((((s.l.length - 1) - (getN d).2.toNat) - (getN (d.drop (getN d).2.toNat)).2.toNat) - (getN ((d.drop (getN d).2.toNat).drop (getN (d.drop (getN d).2.toNat)).2.toNat)).2.toNat : Nat) : Int) = 4 then ((zoa q ⟨s.z, ((d.drop (getN d).2.toNat).drop (getN (d.drop (getN d).2.toNat)).2.toNat).drop (getN ((d.drop (getN d).2.toNat).drop (getN (d.drop (getN d).2.toNat)).2.toNat)).2.toNat⟩).bind fun r5 => (some ((⟨(getN (d.drop (getN d).2.toNat)).1, (getN ((d.drop (getN d).2.toNat).drop (getN (d.drop (getN d).2.toNat)).2.toNat)).1, r5⟩ : zks), 0))) else (some ((⟨(getN (d.drop (getN d).2.toNat)).1, (getN ((d.drop (getN d).2.toNat).drop (getN (d.drop (getN d).2.toNat)).2.toNat)).1, 0⟩ : zks), 3))) else (some ((⟨(getN (d.drop (getN d).2.toNat)).1, (getN ((d.drop (getN d).2.toNat).drop (getN (d.drop (getN d).2.toNat)).2.toNat)).1, 0⟩ : zks), 6))))))) m) → a = 115 → Ev (fun q => zob q s) m := fun {m} h ha => by
   refine Ev.succ (Ev.neg h0 (Ev.opt he (Ev.pos ha (Ev.pos (by omega) ?_)))) (fun q => rfl)
   rw [← hd]
   exact Ev.bind (zchd ⟨s.z, d⟩ hb0) (Ev.pos hx.1 (Ev.pos (by simp only; omega) (Ev.bind (zchd ⟨s.z, d.drop (getN d).2.toNat⟩ hb1) (Ev.pos hy.1 (Ev.pos (by simp only; omega) (Ev.bind (zchd ⟨s.z, (d.drop (getN d).2.toNat).drop (getN (d.drop (getN d).2.toNat)).2.toNat⟩ hb2) (Ev.pos hz.1 (Ev.pos (by simp only; omega) (h ha)))))))))
  by_cases ha : a = 115
  ·have hm : manD s.l = (if (getN d).2 = 0 then ((0, 0, 0), 3) else if (getN (d.drop (getN d).2.toNat)).2 = 0 then ((0, 0, 0), 3) else if (getN ((d.drop (getN d).2.toNat).drop (getN (d.drop (getN d).2.toNat)).2.toNat)).2 = 0 then ((0, 0, 0), 3) else if (getN d).1 = 3 then if (((d.drop (getN d).2.toNat).drop (getN (d.drop (getN d).2.toNat)).2.toNat).drop (getN ((d.drop (getN d).2.toNat).drop (getN (d.drop (getN d).2.toNat)).2.toNat)).2.toNat).length = 4 then (((getN (d.drop (getN d).2.toNat)).1, (getN ((d.drop (getN d).2.toNat).drop (getN (d.drop (getN d).2.toNat)).2.toNat)).1, numB (((d.drop (getN d).2.toNat).drop (getN (d.drop (getN d).2.toNat)).2.toNat).drop (getN ((d.drop (getN d).2.toNat).drop (getN (d.drop (getN d).2.toNat)).2.toNat)).2.toNat)), 0) else ((0, 0, 0), 3) else ((0, 0, 0), 6)) := by
    simp only [manD, ← hd]; rw [if_pos (by rw [he, ha])]
   rw [hm]
   by_cases c1 : (getN d).2 = 0
   ·rw [if_pos c1]; exact ⟨_, pre (fun _ => Ev.pos c1 (Ev.ret _)) ha, fun h => by cases h⟩
   ·rw [if_neg c1]
    by_cases c2 : (getN (d.drop (getN d).2.toNat)).2 = 0
    ·rw [if_pos c2]; exact ⟨_, pre (fun _ => Ev.neg c1 (Ev.pos c2 (Ev.ret _))) ha, fun h => by cases h⟩
    ·rw [if_neg c2]
     by_cases c3 : (getN ((d.drop (getN d).2.toNat).drop (getN (d.drop (getN d).2.toNat)).2.toNat)).2 = 0
     ·rw [if_pos c3]; exact ⟨_, pre (fun _ => Ev.neg c1 (Ev.neg c2 (Ev.pos c3 (Ev.ret _)))) ha, fun h => by cases h⟩
     ·rw [if_neg c3]
      by_cases c4 : (getN d).1 = 3
      ·rw [if_pos c4]
       simp only [y12]
       by_cases c5 : d.length - (getN d).2.toNat - (getN (d.drop (getN d).2.toNat)).2.toNat - (getN ((d.drop (getN d).2.toNat).drop (getN (d.drop (getN d).2.toNat)).2.toNat)).2.toNat = 4
       ·rw [if_pos c5]
        exact ⟨_, pre (fun _ => Ev.neg c1 (Ev.neg c2 (Ev.neg c3 (Ev.pos c4 (Ev.pos (by rw [hlc]; omega) (Ev.bind (hF (by omega)) (Ev.ret _))))))) ha, fun _ => rfl⟩
       ·rw [if_neg c5]
        exact ⟨_, pre (fun _ => Ev.neg c1 (Ev.neg c2 (Ev.neg c3 (Ev.pos c4 (Ev.neg (by rw [hlc]; omega) (Ev.ret _)))))) ha, fun h => by cases h⟩
      ·rw [if_neg c4]
       exact ⟨_, pre (fun _ => Ev.neg c1 (Ev.neg c2 (Ev.neg c3 (Ev.neg c4 (Ev.ret _))))) ha, fun h => by cases h⟩
  ·have hm : manD s.l = ((0, 0, 0), 3) := by
    simp only [manD]; rw [if_neg (by rw [he]; simpa using ha)]
   rw [hm]
   exact ⟨_, Ev.succ (Ev.neg h0 (Ev.opt he (Ev.neg ha (Ev.ret _)))) (fun q => rfl), fun h => by cases h⟩
theorem zck6 {L : List (Sl Int)} {i : Nat} (hi : i < L.length) : cutB ((L.map (·.l)).drop i) = (decide (1 ≤ L[i].l.length) && (decide (L[i].l.length ≤ 64) && ((decide (L[i].l.length = 64) || decide (L.length = i + 1)) && cutB ((L.map (·.l)).drop (i + 1))))) := by
 rw [← List.map_drop, ← List.map_drop, y8 hi, y33]
 by_cases h : L.length = i + 1
 ·rw [y11 (show L.length ≤ i + 1 by omega)]; simp [cutB, h]
 ·have : ∃ e u, L.drop (i + 1) = e :: u := by
   cases hd : L.drop (i + 1) with
   | nil => have := congrArg List.length hd; rw [y12, y24] at this; omega
   | cons e u => exact ⟨e, u, rfl⟩
  obtain ⟨e, u, hu⟩ := this
  rw [hu, y33]
  simp only [cutB]
  rw [decide_eq_false h, Bool.or_false]
  by_cases h4 : L[i].l.length = 64
  ·simp [h4]
  ·simp [h4]
theorem zck7 (z : Bool) (L : List (Sl Int)) (z2 : Bool) (hL : L.length ≤ 1000000000) : ∀ (k i : Nat), L.length = i + k → Ev (fun q => zoc q z L z2 L (L.length : Int) (i : Int)) (cutB ((L.map (·.l)).drop i))
 | 0, i, hk => by
  refine Ev.succ (Ev.ne (Ev.ret' ?_)) (fun q => rfl)
  rw [y11 (by rw [y23]; omega)]; rfl
 | k + 1, i, hk => by
  have hi : i < L.length := by omega
  have he : L[((i : Int)).toNat]? = some L[i] := by simp [hi]
  have ih := zck7 z L z2 hL k (i + 1) (by omega)
  rw [show ((i + 1 : Nat) : Int) = wrp .i64 ((i : Int) + 1) by rw [zcfl (by omega) (by omega)]; omega] at ih
  have w : wrp .i64 ((L.length : Int) - 1) = (L.length : Int) - 1 := zcfl (by omega) (by omega)
  rw [zck6 hi]
  refine Ev.succ (Ev.po (Ev.po (Ev.opt he (Ev.ite (fun c1 => Ev.ret' ?_) fun c1 => Ev.ite (fun c2 => Ev.ret' ?_) fun c2 => Ev.ite (fun c3 => Ev.ite (fun c4 => Ev.ret' ?_) fun c4 => Ev.cast ih ?_) fun c3 => Ev.cast ih ?_)))) (fun q => rfl)
  ·rw [decide_eq_false (show ¬ 1 ≤ L[i].l.length by omega)]; rfl
  ·rw [decide_eq_false (show ¬ L[i].l.length ≤ 64 by omega)]; simp
  ·rw [w] at c4
   rw [decide_eq_false (show ¬ L[i].l.length = 64 by omega), decide_eq_false (show ¬ L.length = i + 1 by omega)]; simp
  ·rw [w] at c4
   rw [decide_eq_true (show 1 ≤ L[i].l.length by omega), decide_eq_true (show L[i].l.length ≤ 64 by omega), decide_eq_true (show L.length = i + 1 by omega)]; simp
  ·rw [decide_eq_true (show 1 ≤ L[i].l.length by omega), decide_eq_true (show L[i].l.length ≤ 64 by omega), decide_eq_true (show L[i].l.length = 64 by omega)]; simp
theorem zck8 (s : Sl (Sl Int)) (hL : s.l.length ≤ 1000000000) : Ev (fun q => zod q s) (cutB (s.l.map (·.l))) :=
 Ev.succ (zck7 s.z s.l s.z hL s.l.length 0 (by omega)) (fun q => rfl)
theorem zck9 (z : Bool) {l : List Int} (hb : isB l) : Ev (fun q => zmn q ⟨z, l⟩) (getN l) := zchd ⟨z, l⟩ hb
theorem zcla (z : Bool) {l : List Int} (hb : isB l) : Ev (fun q => zmt q ⟨z, l⟩) (getS l) := zch0 ⟨z, l⟩ hb
def stE (fine : Bool) (k : Nat) (b acc : List Int) (x : Int) (sl : Bool) (to : Int) : zkk × Int :=
 if fine = true ∧ (nums k b).2.1 = true ∧ (nums k b).2.2 = [] then
  if mayS ⟨x, ⟨false, acc ++ (nums k b).1⟩, sl, to⟩ = true then (⟨x, ⟨false, acc ++ (nums k b).1⟩, sl, to⟩, 0) else (noS, 1)
 else (noS, 3)
theorem zclb (fine : Bool) (k : Nat) (b acc : List Int) (x : Int) (sl : Bool) (to : Int) : stE fine (k + 1) b acc x sl to = stE (fine && decide (0 < (getS b).2)) k (b.drop (getS b).2.toNat) (acc ++ [(getS b).1]) x sl to := by
 by_cases h : 0 < (getS b).2
 ·rw [decide_eq_true h, Bool.and_true]
  unfold stE
  simp only [nums, decide_eq_true h, y61, y32, List.singleton_append]
 ·rw [decide_eq_false h, Bool.and_false]
  unfold stE
  rw [if_neg (by simp [nums, h]), if_neg (by simp)]
theorem zclc (z : Bool) (x : Int) (sl : Bool) (to : Int) (m : Nat) (hm : m ≤ 128) : ∀ (k i : Nat) (b : List Int) (fine : Bool) (acc : List Int), m = i + k → acc.length = i → isB b →
  Ev (fun q => zoe q (m : Int) (i : Int) z b fine x sl to acc) (stE fine k b acc x sl to)
 | 0, i, b, fine, acc, hk, ha, hb => by
  unfold stE
  simp only [nums, List.append_nil]
  refine Ev.succ (Ev.ne (Ev.ite (fun c1 => Ev.ite (fun c2 => Ev.ret' ?_) fun c2 => Ev.bind (zcjq _ (by simp only; omega)) (Ev.ite (fun c3 => Ev.ret' ?_) fun c3 => Ev.ret' ?_)) fun c1 => Ev.ret' ?_)) (fun q => rfl)
  ·rw [if_neg (by rintro ⟨_, _, e⟩; rw [e] at c2; simp at c2)]; rfl
  ·rw [if_pos ⟨c1, trivial, y34 (by omega)⟩, if_pos c3]
  ·rw [if_pos ⟨c1, trivial, y34 (by omega)⟩, if_neg c3]; rfl
  ·rw [if_neg (fun e => c1 e.1)]; rfl
 | k + 1, i, b, fine, acc, hk, ha, hb => by
  have hs := zch1 (l := b)
  have ih := fun f => zclc z x sl to m hm k (i + 1) (b.drop (getS b).2.toNat) f (acc ++ [(getS b).1]) (by omega) (by rw [y9, List.length_singleton]; omega) (zchl hb _)
  rw [show ((i + 1 : Nat) : Int) = wrp .i64 ((i : Int) + 1) by rw [zcfl (by omega) (by omega)]; omega] at ih
  rw [zclb]
  refine Ev.succ (Ev.po (Ev.bind (zcla z hb) (Ev.ite (fun c => ?_) fun c => ?_))) (fun q => rfl)
  ·rw [c, y61]
   exact Ev.pos hs.1 (Ev.pos hs.2.1 (Ev.po (ih _)))
  ·have c' : fine = false := by simpa using c
   rw [c', Bool.false_and]
   exact Ev.pos hs.1 (Ev.pos hs.2.1 (Ev.po (ih _)))
theorem zcld (z : Bool) (x : Int) (sl : Bool) (to : Int) (m : Nat) (hm : m ≤ 128) (b : List Int) (hb : isB b) :
  Ev (fun q => zof q (m : Int) z b true x sl to) (if (nums m b).2.1 = true ∧ (nums m b).2.2 = [] then if mayS ⟨x, ⟨(nums m b).1.isEmpty, (nums m b).1⟩, sl, to⟩ = true then (⟨x, ⟨(nums m b).1.isEmpty, (nums m b).1⟩, sl, to⟩, 0) else (noS, 1) else (noS, 3)) := by
 by_cases h0 : m = 0
 ·have hn : nums m b = ([], true, b) := by rw [h0]; rfl
  simp only [hn, List.isEmpty_nil]
  refine Ev.succ (Ev.ne (Ev.pos rfl (Ev.ite (fun c2 => Ev.ret' ?_) fun c2 => Ev.bind (zcjq _ (by simp)) (Ev.ite (fun c3 => Ev.ret' ?_) fun c3 => Ev.ret' ?_)))) (fun q => rfl)
  ·rw [if_neg (by rintro ⟨_, e⟩; rw [e] at c2; simp at c2)]; rfl
  ·rw [if_pos ⟨trivial, y34 (by omega)⟩, if_pos c3]
  ·rw [if_pos ⟨trivial, y34 (by omega)⟩, if_neg c3]; rfl
 ·obtain ⟨k, hk⟩ : ∃ k, m = k + 1 := ⟨m - 1, by omega⟩
  have hs := zch1 (l := b)
  have ih := zclc z x sl to m hm k 1 (b.drop (getS b).2.toNat) (decide (0 < (getS b).2)) [(getS b).1] (by omega) rfl (zchl hb _)
  rw [show ((1 : Nat) : Int) = wrp .i64 1 by rw [zcfl (by omega) (by omega)]; rfl] at ih
  refine Ev.succ (Ev.po (Ev.bind (zcla z hb) (Ev.pos rfl (Ev.pos hs.1 (Ev.pos hs.2.1 (Ev.cast ih ?_)))))) (fun q => rfl)
  have e := zclb true k b [] x sl to
  rw [y61, y46] at e
  rw [← e, hk]
  unfold stE
  by_cases c : (nums (k + 1) b).2.1 = true ∧ (nums (k + 1) b).2.2 = []
  ·rw [if_pos ⟨rfl, c⟩, if_pos c]; rfl
  ·rw [if_neg (fun e => c e.2), if_neg c]
theorem zcle (s : Sl Int) (hb : isB s.l) (hl : s.l.length ≤ 1000000) : Ev (fun q => zog q s) (stD s.l) := by
 have hx := zche (l := s.l)
 have hy := zche (l := s.l.drop (getN s.l).2.toNat)
 have hz := zche (l := (s.l.drop (getN s.l).2.toNat).drop (getN (s.l.drop (getN s.l).2.toNat)).2.toNat)
 simp only [y12] at hy hz
 have hb1 := zchl hb (getN s.l).2.toNat
 have hb2 := zchl hb1 (getN (s.l.drop (getN s.l).2.toNat)).2.toNat
 have hb3 := zchl hb2 (getN ((s.l.drop (getN s.l).2.toNat).drop (getN (s.l.drop (getN s.l).2.toNat)).2.toNat)).2.toNat
 have g1 := zchd s hb
 have g2 := zck9 s.z hb1
 have g3 := zck9 s.z hb2
 simp only [stD]
 have hl0 := zcld s.z (getN s.l).1 (decide (0 < (getN (s.l.drop (getN s.l).2.toNat)).1)) (if (getN (s.l.drop (getN s.l).2.toNat)).1 - 1 < 0 then 0 else (getN (s.l.drop (getN s.l).2.toNat)).1 - 1) (getN ((s.l.drop (getN s.l).2.toNat).drop (getN (s.l.drop (getN s.l).2.toNat)).2.toNat)).1.toNat
 rw [show ((((getN ((s.l.drop (getN s.l).2.toNat).drop (getN (s.l.drop (getN s.l).2.toNat)).2.toNat)).1.toNat : Nat)) : Int) = (getN ((s.l.drop (getN s.l).2.toNat).drop (getN (s.l.drop (getN s.l).2.toNat)).2.toNat)).1 by omega] at hl0
 have w : wrp .i64 ((getN (s.l.drop (getN s.l).2.toNat)).1 - 1) = (getN (s.l.drop (getN s.l).2.toNat)).1 - 1 := zcfl (by omega) (by omega)
 refine Ev.succ (Ev.bind g1 (Ev.pos hx.1 (Ev.pos hx.2.1 (Ev.bind g2 (Ev.ite (fun c1 => Ev.pos hy.1 (Ev.po (Ev.bind g3 (Ev.ite (fun c2 => Ev.pos hz.1 (Ev.po (Ev.ite (fun c3 => Ev.ite (fun c4 => Ev.ret' ?_) fun c4 => Ev.ite (fun c5 => Ev.ret' ?_) fun c5 => ?_) fun c3 => Ev.ret' ?_))) fun c2 => Ev.pos hz.1 (Ev.po (Ev.ret' ?_)))))) fun c1 => Ev.pos hy.1 (Ev.po (Ev.bind g3 (Ev.pos hz.1 (Ev.po (Ev.ret' ?_)))))))))) (fun q => rfl)
 ·rw [if_neg (by omega)]; rfl
 ·rw [if_neg (by omega)]; rfl
 ·rw [w, if_pos (And.intro c1 (And.intro c2 (And.intro c3 (And.intro (Int.not_lt.1 c4) (Int.not_lt.1 c5))))), decide_eq_true c3]
  exact hl0 (by omega) _ hb3
 ·rw [if_neg (by omega)]; rfl
 ·rw [if_neg (by omega)]; rfl
 ·rw [if_neg (by omega)]; rfl
theorem zclf (s : Sl Int) (hb : isB s.l) : Ev (fun q => zoh q s) (entD s.l) := by
 have hx := zche (l := s.l)
 have hy := zche (l := s.l.drop (getN s.l).2.toNat)
 have hz := zch1 (l := (s.l.drop (getN s.l).2.toNat).drop (getN (s.l.drop (getN s.l).2.toNat)).2.toNat)
 simp only [y12] at hy
 have hb1 := zchl hb (getN s.l).2.toNat
 have hb2 := zchl hb1 (getN (s.l.drop (getN s.l).2.toNat)).2.toNat
 have g1 := zchd s hb
 have g2 := zck9 s.z hb1
 have g3 := zcla s.z hb2
 simp only [entD]
 refine Ev.succ (Ev.bind g1 (Ev.pos hx.1 (Ev.pos hx.2.1 (Ev.bind g2 (Ev.pos hy.1 (Ev.po (Ev.bind g3 (Ev.ite (fun c1 => Ev.ret' ?_) fun c1 => Ev.ite (fun c2 => Ev.ret' ?_) fun c2 => Ev.ite (fun c3 => Ev.ret' ?_) fun c3 => Ev.ret' ?_)))))))) (fun q => rfl)
 ·rw [if_pos c1]
 ·rw [if_neg c1, if_pos c2]
 ·rw [if_neg c1, if_neg c2, if_pos c3]
 ·rw [if_neg c1, if_neg c2, if_neg c3]
  rw [zcfl (x := (getN s.l).2 + _) (by omega) (by omega), zcfl (by omega) (by omega)]
/-- What becomes of a table's bytes. -/
def enE (k : Nat) (b : List Int) (e : Int) : Int := match ents k b with
 | none => 3
 | some t => if t.2 = [] then e else 3
theorem zclg (z : Bool) (e : Int) (x : Int) (lz : Bool) (ll : List Int) (sl : Bool) (to : Int) (m : Nat) (hm : m ≤ 1000000) : ∀ (k i : Nat) (b : List Int) (acc : List zkl), m = i + k → acc.length = i → isB b → b.length ≤ 1000000 →
  ∃ r, Ev (fun q => zoi q z b e (m : Int) (i : Int) x lz ll sl to acc) (r, enE k b e) ∧ (∀ t, ents k b = some t → t.2 = [] → r = ⟨0, ⟨x, ⟨lz, ll⟩, sl, to⟩, ⟨false, acc ++ t.1⟩⟩)
 | 0, i, b, acc, hk, ha, hb, hl => by
  unfold enE
  simp only [ents, y1]
  by_cases c : b = []
  ·rw [if_pos c]
   refine ⟨_, Ev.succ (Ev.ne (Ev.neg (by rw [c]; simp) (Ev.ret _))) (fun q => rfl), fun t ht _ => ?_⟩
   subst ht; simp
  ·rw [if_neg c]
   have : 0 < b.length := List.length_pos_iff.2 c
   refine ⟨_, Ev.succ (Ev.ne (Ev.po (Ev.ret _))) (fun q => rfl), fun t ht h2 => ?_⟩
   subst ht; exact absurd h2 c
 | k + 1, i, b, acc, hk, ha, hb, hl => by
  have he := zcks (b := b)
  obtain ⟨r, h1, h2⟩ := zclg z e x lz ll sl to m hm k (i + 1) (b.drop (entD b).2.toNat) (acc ++ [(entD b).1]) (by omega) (by rw [y9, List.length_singleton]; omega) (zchl hb _) (by rw [y12]; omega)
  rw [show ((i + 1 : Nat) : Int) = wrp .i64 ((i : Int) + 1) by rw [zcfl (by omega) (by omega)]; omega] at h1
  unfold enE at h1 ⊢
  simp only [ents]
  by_cases c : (entD b).2 = 0
  ·rw [if_pos c]
   exact ⟨_, Ev.succ (Ev.po (Ev.bind (zclf ⟨z, b⟩ hb) (Ev.pos c (Ev.ret _)))) (fun q => rfl), fun t ht => by cases ht⟩
  ·rw [if_neg c]
   refine ⟨r, Ev.succ (Ev.po (Ev.bind (zclf ⟨z, b⟩ hb) (Ev.neg c (Ev.po (Ev.pos he.1 (Ev.pos he.2 (Ev.cast h1 ?_))))))) (fun q => rfl), ?_⟩
   ·cases ents k (b.drop (entD b).2.toNat) <;> rfl
   ·intro t ht h3
    cases hq : ents k (b.drop (entD b).2.toNat) with
    | none => rw [hq] at ht; cases ht
    | some u =>
     rw [hq] at ht
     simp only [y1] at ht
     subst ht
     rw [h2 u hq h3]; simp
theorem zclh (z : Bool) (e : Int) (st : zkk) (m : Nat) (hm : m ≤ 1000000) (b : List Int) (hb : isB b) (hl : b.length ≤ 1000000) :
  ∃ r, Ev (fun q => zoj q z b e (m : Int) st.Kind st.L.z st.L.l st.Sealed st.To) (r, enE m b e) ∧ (∀ t, ents m b = some t → t.2 = [] → r = mkN 0 (st, t.1)) := by
 by_cases h0 : m = 0
 ·have hn : ents m b = some ([], b) := by rw [h0]; rfl
  unfold enE
  simp only [hn, y1]
  by_cases c : b = []
  ·rw [if_pos c]
   refine ⟨_, Ev.succ (Ev.ne (Ev.neg (by rw [c]; simp) (Ev.ret _))) (fun q => rfl), fun t ht _ => ?_⟩
   subst ht; rfl
  ·rw [if_neg c]
   have : 0 < b.length := List.length_pos_iff.2 c
   refine ⟨_, Ev.succ (Ev.ne (Ev.po (Ev.ret _))) (fun q => rfl), fun t ht h2 => ?_⟩
   subst ht; exact absurd h2 c
 ·obtain ⟨k, hk⟩ : ∃ k, m = k + 1 := ⟨m - 1, by omega⟩
  have he := zcks (b := b)
  obtain ⟨r, h1, h2⟩ := zclg z e st.Kind st.L.z st.L.l st.Sealed st.To m hm k 1 (b.drop (entD b).2.toNat) [(entD b).1] (by omega) rfl (zchl hb _) (by rw [y12]; omega)
  rw [show ((1 : Nat) : Int) = wrp .i64 1 by rw [zcfl (by omega) (by omega)]; rfl] at h1
  unfold enE at h1 ⊢
  have hE : ents m b = if (entD b).2 = 0 then none else match ents k (b.drop (entD b).2.toNat) with | none => none | some t => some ((entD b).1 :: t.1, t.2) := by rw [hk]; rfl
  rw [hE]
  by_cases c : (entD b).2 = 0
  ·rw [if_pos c]
   exact ⟨_, Ev.succ (Ev.po (Ev.bind (zclf ⟨z, b⟩ hb) (Ev.pos c (Ev.ret _)))) (fun q => rfl), fun t ht => by cases ht⟩
  ·rw [if_neg c]
   refine ⟨r, Ev.succ (Ev.po (Ev.bind (zclf ⟨z, b⟩ hb) (Ev.neg c (Ev.pos he.1 (Ev.pos he.2 (Ev.cast h1 ?_)))))) (fun q => rfl), ?_⟩
   ·cases ents k (b.drop (entD b).2.toNat) <;> rfl
   ·intro t ht h3
    cases hq : ents k (b.drop (entD b).2.toNat) with
    | none => rw [hq] at ht; cases ht
    | some u =>
     rw [hq] at ht
     simp only [y1] at ht
     subst ht
     rw [h2 u hq h3]; rfl
theorem zcli (s : Sl Int) (hb : isB s.l) (hl : s.l.length ≤ 1000000) : ∃ r, Ev (fun q => zok q s) (r, (whD s.l).2) ∧ ((whD s.l).2 = 0 → r = mkN 0 (whD s.l).1) := by
 have hn := zche (l := s.l)
 have g1 := zchd s hb
 unfold whD
 by_cases c1 : (getN s.l).2 = 0
 ·rw [if_pos c1]; exact ⟨_, Ev.succ (Ev.bind g1 (Ev.pos c1 (Ev.ret _))) (fun q => rfl), fun h => by cases h⟩
 ·rw [if_neg c1]
  have w1 : wrp .i64 ((s.l.length : Int) - (getN s.l).2) = (s.l.length : Int) - (getN s.l).2 := zcfl (by omega) (by omega)
  by_cases c2 : (s.l.length : Int) - (getN s.l).2 < (getN s.l).1
  ·rw [if_pos c2]; exact ⟨_, Ev.succ (Ev.bind g1 (Ev.neg c1 (Ev.pos (by rw [w1]; exact c2) (Ev.ret _)))) (fun q => rfl), fun h => by cases h⟩
  ·rw [if_neg c2]
   have w2 : wrp .i64 ((getN s.l).2 + (getN s.l).1) = (getN s.l).2 + (getN s.l).1 := zcfl (by omega) (by omega)
   generalize hX : (s.l.take ((getN s.l).2 + (getN s.l).1).toNat).drop (getN s.l).2.toNat = X
   generalize hW : s.l.drop ((getN s.l).2 + (getN s.l).1).toNat = W
   have hbX : isB X := by rw [← hX]; exact zchl (zchk hb _) _
   have hlX : X.length ≤ 1000000 := by rw [← hX, y12, y19]; omega
   have hbW : isB W := by rw [← hW]; exact zchl hb _
   have hlW : W.length = s.l.length - ((getN s.l).2 + (getN s.l).1).toNat := by rw [← hW, y12]
   have hm := zche (l := W)
   have hS := zcle ⟨s.z, X⟩ hbX hlX
   have hG := zck9 s.z hbW
   have pre : ∀ {r : zkm × Int}, Ev (fun q => (zog q ⟨s.z, X⟩).bind fun r2 => (if r2.2 = 3 then (some ((⟨0, (⟨0, ⟨true, []⟩, false, 0⟩ : zkk), ⟨true, []⟩⟩ : zkm), r2.2)) else (if 0 ≤ (getN s.l).2 + (getN s.l).1 then (if (getN s.l).2 + (getN s.l).1 ≤ (s.l.length : Int) then ((zmn q ⟨s.z, W⟩).bind fun r3 => (if r3.2 = 0 then (some ((⟨0, (⟨0, ⟨true, []⟩, false, 0⟩ : zkk), ⟨true, []⟩⟩ : zkm), 3)) else (if (((s.l.length - ((getN s.l).2 + (getN s.l).1).toNat) : Nat) : Int) < r3.1 then (some ((⟨0, (⟨0, ⟨true, []⟩, false, 0⟩ : zkk), ⟨true, []⟩⟩ : zkm), 3)) else (if 0 ≤ r3.2 then (if r3.2 ≤ (((s.l.length - ((getN s.l).2 + (getN s.l).1).toNat) : Nat) : Int) then (zoj q s.z (List.drop r3.2.toNat W) r2.2 r3.1 r2.1.Kind r2.1.L.z r2.1.L.l r2.1.Sealed r2.1.To) else none) else none)))) else none) else none))) r → Ev (fun q => zok q s) r := fun {r} h => by
    refine Ev.succ (Ev.bind g1 (Ev.neg c1 (Ev.neg (by rw [w1]; exact c2) (Ev.pos hn.1 (Ev.pos (by rw [w2]; omega) (Ev.pos (by rw [w2]; omega) ?_)))))) (fun q => rfl)
    rw [w2, hX, hW]; exact h
   by_cases c3 : (stD X).2 = 3
   ·rw [if_pos c3]; exact ⟨_, pre (Ev.bind hS (Ev.pos c3 (Ev.ret' (by rw [c3])))), fun h => by cases h⟩
   ·rw [if_neg c3]
    by_cases c4 : (getN W).2 = 0
    ·rw [if_pos c4]; exact ⟨_, pre (Ev.bind hS (Ev.neg c3 (Ev.po (Ev.po (Ev.bind hG (Ev.pos c4 (Ev.ret _))))))), fun h => by cases h⟩
    ·rw [if_neg c4]
     by_cases c5 : (W.length : Int) < (getN W).1
     ·rw [if_pos c5]; exact ⟨_, pre (Ev.bind hS (Ev.neg c3 (Ev.po (Ev.po (Ev.bind hG (Ev.neg c4 (Ev.po (Ev.ret _)))))))), fun h => by cases h⟩
     ·rw [if_neg c5]
      obtain ⟨r, h1, h2⟩ := zclh s.z (stD X).2 (stD X).1 (getN W).1.toNat (by omega) (W.drop (getN W).2.toNat) (zchl hbW _) (by rw [y12]; omega)
      rw [show ((((getN W).1.toNat : Nat)) : Int) = (getN W).1 by omega] at h1
      refine ⟨r, pre (Ev.bind hS (Ev.neg c3 (Ev.po (Ev.po (Ev.bind hG (Ev.neg c4 (Ev.ne (Ev.pos hm.1 (Ev.po (Ev.cast h1 ?_)))))))))), ?_⟩
      ·unfold enE
       cases ents (getN W).1.toNat (W.drop (getN W).2.toNat) with
       | none => rfl
       | some t => simp only; split <;> rfl
      ·intro h
       cases he : ents (getN W).1.toNat (W.drop (getN W).2.toNat) with
       | none => rw [he] at h; cases h
       | some t =>
        rw [he] at h
        simp only at h ⊢
        split at h
        ·rename_i c6
         rw [if_pos c6]; exact h2 t he c6
        ·cases h
theorem zclj (l : List (Sl Int)) : flat l = (l.map (·.l)).flatten := by simp [flat, List.flatMap]
theorem zclk : ∀ D : List (List Int), D.flatten.length ≤ (BB D).length ∧ D.length ≤ (BB D).length
 | [] => by simp
 | d :: D => by
  have h := zclk D
  have e := zcj8 d
  rw [zchw, List.flatten_cons, y9, y9, y20]; omega
theorem zcll {b : List Int} (hb : isB b) : (allE b).1.flatten.length ≤ b.length ∧ (allE b).1.length ≤ b.length := by
 by_cases h : (allE b).2 = 0
 ·have := zclk (allE b).1; rw [zckm hb h] at this; exact this
 ·unfold allE at h ⊢
  split
  ·rename_i e; rw [if_pos e] at h; exact absurd rfl h
  ·simp
theorem zclm (s : Sl Int) (hz : s.z = true → s.l = []) (hb : isB s.l) (hl : s.l.length ≤ 1000000) : Ev (fun q => zol q s) (snD s.l) := by
 obtain ⟨z, X, hA, hX⟩ := zchu s hz hb (by omega)
 have hme := zckk hb
 have hlo := zcll hb
 unfold snD
 by_cases c0 : (allE s.l).2 = 0
 ·rw [if_pos c0]
  rw [← hX] at hme hlo ⊢
  rw [c0] at hA
  by_cases hx : X.length = 0
  ·have hX0 : X = [] := y34 hx
   refine Ev.succ (Ev.bind hA (Ev.pos rfl (Ev.pos (by simp only; omega) (Ev.ret' ?_)))) (fun q => rfl)
   rw [hX0]; rfl
  ·obtain ⟨e, he⟩ : ∃ e, X[0]? = some e := ⟨X[0]'(by omega), y6 (by omega)⟩
   obtain ⟨T, hT⟩ : ∃ T, T = X.drop 1 := ⟨_, rfl⟩
   have hXe : X = e :: T := by
    cases X with
    | nil => simp at hx
    | cons a X => simp only [y36, y1] at he; rw [hT, he]; rfl
   have hml : X.map (·.l) = e.l :: T.map (·.l) := by rw [hXe, y33]
   rw [hml] at hme hlo ⊢
   dsimp only
   have hbe := hme e.l y31
   have hbt : isB (T.map (·.l)).flatten := zck0 fun d hd => (hme d (y35 _ hd)).1
   have hTl : T.length ≤ 1000000 := by have := hlo.2; rw [y20, y23] at this; omega
   have hTf : (T.map (·.l)).flatten.length ≤ 1000000 := by have := hlo.1; rw [List.flatten_cons, y9] at this; omega
   obtain ⟨m, hM, hm⟩ := zck5 e hbe.1 (by omega)
   obtain ⟨z', hC⟩ := zcg5 ⟨z, T⟩ (by simp only; omega) (by simp only [zclj]; omega)
   simp only [zclj] at hC
   have hK := zck8 ⟨z, T⟩ (by simp only; omega)
   generalize (T.map (·.l)).flatten = w at hbt hTf hC ⊢
   have hS := zcgs ⟨z', w⟩ hbt (by simp only; omega)
   obtain ⟨r, hR, hr⟩ := zcli ⟨z', w⟩ hbt hTf
   simp only at hS hR hr hK
   have pre : ∀ {x : zkm × Int}, Ev (fun q => (zob q e).bind fun r3 => (if r3.2 = 0 then (if 1 ≤ X.length then ((zmf q ⟨z, T⟩).bind fun r4 => (if (r4.xs.length : Int) = r3.1.size then ((zod q ⟨z, T⟩).bind fun r5 => (if r5 = true then ((zl6 q ⟨r4.n, r4.xs⟩).bind fun r6 => (if (wrp .u64 r6) = r3.1.sum then ((zok q ⟨r4.n, r4.xs⟩).bind fun r7 => (if r7.2 = 0 then ((zlv q (⟨r3.1.index, r7.1.State, r7.1.Table⟩ : zkm)).bind fun r8 => (if r8 = true then (some ((⟨r3.1.index, r7.1.State, r7.1.Table⟩ : zkm), 0)) else (some ((⟨0, (⟨0, ⟨true, []⟩, false, 0⟩ : zkk), ⟨true, []⟩⟩ : zkm), 1)))) else (some ((⟨0, (⟨0, ⟨true, []⟩, false, 0⟩ : zkk), ⟨true, []⟩⟩ : zkm), r7.2)))) else (some ((⟨0, (⟨0, ⟨true, []⟩, false, 0⟩ : zkk), ⟨true, []⟩⟩ : zkm), 4)))) else (some ((⟨0, (⟨0, ⟨true, []⟩, false, 0⟩ : zkk), ⟨true, []⟩⟩ : zkm), 3)))) else (some ((⟨0, (⟨0, ⟨true, []⟩, false, 0⟩ : zkk), ⟨true, []⟩⟩ : zkm), 16)))) else none) else (some ((⟨0, (⟨0, ⟨true, []⟩, false, 0⟩ : zkk), ⟨true, []⟩⟩ : zkm), r3.2)))) x → Ev (fun q => zol q s) x := fun {x} h => by
    refine Ev.succ (Ev.bind hA ?_) (fun q => rfl)
    refine Ev.pos rfl (Ev.neg (by simp only; omega) (Ev.pos (by simp only; omega) (Ev.opt he ?_)))
    rw [hT] at h; exact h
   have hn : noN = (⟨0, (⟨0, ⟨true, []⟩, false, 0⟩ : zkk), ⟨true, []⟩⟩ : zkm) := rfl
   simp only [hn]
   refine pre (Ev.bind hM ?_)
   refine Ev.ite (fun c1 => ?_) fun c1 => Ev.ret' (by simp only at c1; rw [if_neg c1])
   simp only at c1
   have hm := hm c1
   subst hm
   rw [if_pos c1]
   refine Ev.po (Ev.bind hC (Ev.ite (fun c2 => ?_) fun c2 => Ev.ret' (by simp only at c2; rw [if_neg c2])))
   simp only at c2
   rw [if_pos c2]
   refine Ev.bind hK (Ev.ite (fun c3 => ?_) fun c3 => Ev.ret' (by rw [if_neg c3]))
   rw [if_pos c3]
   have hw : wrp .u64 (u (bsum w)) = (((bsum w).toNat : Nat) : Int) := by rw [zcfm (u_nn _) (by have := u_lt (bsum w); omega)]; rfl
   refine Ev.bind hS (Ev.ite (fun c4 => ?_) fun c4 => Ev.ret' (by rw [hw] at c4; simp only at c4; rw [if_neg (fun e => c4 (by rw [e]))]))
   rw [hw] at c4
   simp only at c4
   rw [if_pos (by omega)]
   refine Ev.bind hR (Ev.ite (fun c5 => ?_) fun c5 => Ev.ret' (by simp only at c5; rw [if_neg c5]))
   simp only at c5
   have hr := hr c5
   subst hr
   rw [if_pos c5]
   have hiv := zckv hbt c5 0
   have hbnd : (whD w).1.1.L.l.length ≤ 1000000 ∧ (whD w).1.2.length ≤ 1000000 := by
    have hst : (stateB (whD w).1.1).length ≤ w.length := by
     have : (stateB (whD w).1.1).length ≤ (wholeB (mkN 0 (whD w).1)).length := by simp only [wholeB, mkN, y9]; omega
     rw [hiv] at this; exact this
    have htb : (tabE (whD w).1.2).length ≤ w.length := by
     have : (tabE (whD w).1.2).length ≤ (wholeB (mkN 0 (whD w).1)).length := by simp only [wholeB, mkN, y9]; omega
     rw [hiv] at this; exact this
    have g1 : ∀ l : List Int, l.length ≤ (numsB l).length := fun l => by
     induction l with
     | nil => simp
     | cons a l ih => have := zcke a; rw [zcj6, y9, y20]; omega
    have g2 : ∀ l : List zkl, l.length ≤ (tabE l).length := fun l => by
     induction l with
     | nil => simp
     | cons e l ih => have := zcke e.Resp; rw [zcj7, y9, y20]; simp only [entB, y9]; omega
    have h1 := g1 (whD w).1.1.L.l
    have h2 := g2 (whD w).1.2
    simp only [stateB, y9] at hst
    omega
   refine Ev.bind (zcju (mkN (manD e.l).1.1 (whD w).1) hbnd.1 hbnd.2) (Ev.ite (fun c6 => Ev.ret' ?_) fun c6 => Ev.ret' ?_)
   ·rw [if_pos c6]; rfl
   ·rw [if_neg c6]
 ·rw [if_neg c0]
  exact Ev.succ (Ev.bind hA (Ev.neg c0 (Ev.ret _))) (fun q => rfl)
def gN (r : List Int × Bool) : Int × List Int × Bool := ((getN r.1).1, r.1.drop (getN r.1).2.toNat, r.2 && decide (0 < (getN r.1).2))
section
variable {R : Type}
end
def n1 (b : List Int) : Int × List Int × Bool := gN (b, true)
def n2 (b : List Int) : Int × List Int × Bool := gN (n1 b).2
def n3 (b : List Int) : Int × List Int × Bool := gN (n2 b).2
def n4 (b : List Int) : Int × List Int × Bool := gN (n3 b).2
def filP (p : Int) (T : List zkl) : List zkl := T.filter fun e => !decide (e.Proc = p)
def insE (e : zkl) : List zkl → List zkl
 | [] => [e]
 | x :: l => if e.Proc < x.Proc then e :: x :: l else x :: insE e l
def noteL (T : List zkl) (p s x : Int) : List zkl := insE ⟨p, s, x⟩ (filP p T)
def atE (p : Int) : List zkl → Nat
 | [] => 0
 | x :: l => if p < x.Proc then 0 else atE p l + 1
theorem atE_le (p : Int) : ∀ T : List zkl, atE p T ≤ T.length
 | [] => y13 _
 | x :: l => by simp only [atE]; split <;> simp only [y20] <;> have := atE_le p l <;> omega
theorem zcln (e : zkl) : ∀ T : List zkl, insE e T = T.take (atE e.Proc T) ++ [e] ++ T.drop (atE e.Proc T)
 | [] => rfl
 | x :: l => by
  simp only [insE, atE]
  split
  ·simp
  ·rw [zcln e l]; simp
theorem zclo (e : zkl) : ∀ T : List zkl, (insE e T).length = T.length + 1
 | [] => rfl
 | x :: l => by simp only [insE]; split <;> simp only [y20, zclo e l]
theorem zclp (p : Int) (T : List zkl) : (filP p T).length ≤ T.length := List.length_filter_le _ _
theorem zclq (T : List zkl) (p s x : Int) : (noteL T p s x).length ≤ T.length + 1 := by
 unfold noteL; rw [zclo]; have := zclp p T; omega
theorem zclr (p : Int) (O : List zkl) (j : Nat) (hj : j < O.length) : filP p (O.take (j + 1)) = filP p (O.take j) ++ if O[j].Proc = p then [] else [O[j]] := by
 unfold filP
 rw [List.take_add_one, y6 hj, List.filter_append]
 congr 1
 simp only [Option.toList_some, List.filter_cons, List.filter_nil]
 by_cases c : O[j].Proc = p <;> simp [c]
theorem zcls {p : Int} {T : List zkl} (h : ∀ e ∈ T, e.Proc ≠ p) : filP p T = T := List.filter_eq_self.2 fun e he => by simp [h e he]
theorem zclt (p0 p p2 p3 p4 p5 p6 : Int) (z : Bool) (L : List zkl) (x : Bool) (hL : L.length ≤ 1000000) : ∀ (k i : Nat), L.length = i + k →
  ∃ r, Ev (fun q => zli q (L.length : Int) (i : Int) p0 p p2 p3 p4 p5 p6 z L x) r ∧ ((r = -1 ∧ ∀ e ∈ L.drop i, e.Proc ≠ p) ∨ ∃ j : Nat, i ≤ j ∧ ∃ h : j < L.length, r = (j : Int) ∧ L[j].Proc = p ∧ ∀ e ∈ (L.take j).drop i, e.Proc ≠ p)
 | 0, i, hk => ⟨-1, Ev.succ (Ev.ne (Ev.ret _)) (fun q => rfl), .inl ⟨rfl, by rw [y11 (by omega)]; simp⟩⟩
 | k + 1, i, hk => by
  have hi : i < L.length := by omega
  have he : L[((i : Int)).toNat]? = some L[i] := by simp [hi]
  by_cases c : L[i].Proc = p
  ·exact ⟨(i : Int), Ev.succ (Ev.po (Ev.po (Ev.po (Ev.opt he (Ev.pos c (Ev.ret _)))))) (fun q => rfl), .inr ⟨i, y13 _, hi, rfl, c, by rw [y11 (by rw [y19]; omega)]; simp⟩⟩
  ·obtain ⟨r, h, hr⟩ := zclt p0 p p2 p3 p4 p5 p6 z L x hL k (i + 1) (by omega)
   rw [show ((i + 1 : Nat) : Int) = wrp .i64 ((i : Int) + 1) by rw [zcfl (by omega) (by omega)]; omega] at h
   refine ⟨r, Ev.succ (Ev.po (Ev.po (Ev.po (Ev.opt he (Ev.neg c h))))) (fun q => rfl), ?_⟩
   rcases hr with ⟨h1, h2⟩ | ⟨j, h1, h2, h3, h4, h5⟩
   ·refine .inl ⟨h1, fun e hm => ?_⟩
    rw [y8 hi] at hm
    rcases List.mem_cons.1 hm with rfl | hm
    ·exact c
    ·exact h2 e hm
   ·refine .inr ⟨j, by omega, h2, h3, h4, fun e hm => ?_⟩
    have hi2 : i < (L.take j).length := by rw [y19]; omega
    rw [y8 hi2] at hm
    rcases List.mem_cons.1 hm with rfl | hm
    ·rw [List.getElem_take]; exact c
    ·exact h5 e hm
theorem zclu (p0 p p2 p3 p4 p5 p6 : Int) (z : Bool) (O : List zkl) (hO : O.length ≤ 1000000) : ∀ (k j i : Nat) (H : List zkl), O.length = j + k → H.length = O.length → i ≤ j → H.take i = filP p (O.take j) → H.drop j = O.drop j →
  ∃ xs, Ev (fun q => zlk q (i : Int) (j : Int) p0 p p2 p3 p4 p5 p6 z H true) ((filP p O).length, xs, true) ∧ xs.take (filP p O).length = filP p O ∧ (filP p O).length ≤ xs.length
 | 0, j, i, H, hk, hl, hij, ht, hd => by
  have hO2 : O.take j = O := List.take_of_length_le (by omega)
  rw [hO2] at ht
  have hi : (filP p O).length = i := by rw [← ht, y19]; omega
  refine ⟨((H.take i) ++ (List.replicate (H.length - i) (⟨0, 0, 0⟩ : zkl))) ++ (H.drop (i + (H.length - i))), ?_, ?_, ?_⟩
  ·rw [hi]
   refine Ev.succ (Ev.ne (Ev.po (Ev.po (Ev.pos rfl (Ev.po (Ev.ite (fun _ => Ev.ret' ?_) fun _ => Ev.ret' ?_)))))) (fun q => rfl) <;> simp only [y27]
  ·rw [hi, y32, List.take_append_of_le_length (by rw [y19]; omega), List.take_take, Nat.min_self, ht]
  ·rw [hi]; simp only [y9, y19, List.length_replicate]; omega
 | k + 1, j, i, H, hk, hl, hij, ht, hd => by
  have hj : j < H.length := by omega
  have hjO : j < O.length := by omega
  have he : H[((j : Int)).toNat]? = some O[j] := by
   have := congrArg (fun l => l[0]?) hd
   simp only [y39, Nat.add_zero] at this
   rw [y27, this]; exact y6 hjO
  have hs := zclr p O j hjO
  have wj : wrp .i64 ((j : Int) + 1) = ((j + 1 : Nat) : Int) := by rw [zcfl (by omega) (by omega)]; omega
  have dr : ∀ {A B : List zkl}, A.drop j = B.drop j → A.drop (j + 1) = B.drop (j + 1) := fun {A B} h => by rw [← y49, ← y49, h]
  by_cases c : O[j].Proc = p
  ·rw [if_pos c, List.append_nil] at hs
   obtain ⟨xs, h1, h2⟩ := zclu p0 p p2 p3 p4 p5 p6 z O hO k (j + 1) i H (by omega) hl (by omega) (by rw [hs]; exact ht) (dr hd)
   rw [← wj] at h1
   exact ⟨xs, Ev.succ (Ev.po (Ev.po (Ev.po (Ev.opt he (Ev.pos c h1))))) (fun q => rfl), h2⟩
  ·rw [if_neg c] at hs
   have hi : i < H.length := by omega
   have hg : H[((i : Int)).toNat]? = some H[i] := by simp [hi]
   obtain ⟨xs, h1, h2⟩ := zclu p0 p p2 p3 p4 p5 p6 z O hO k (j + 1) (i + 1) (H.set i O[j]) (by omega) (by rw [List.length_set]; exact hl) (by omega) (by
    rw [hs, ← ht, List.take_add_one, List.take_set_of_le (y13 i), y22 hi]; rfl) (by
    rw [List.drop_set_of_lt (by omega)]; exact dr hd)
   have wi : wrp .i64 ((i : Int) + 1) = ((i + 1 : Nat) : Int) := by rw [zcfl (by omega) (by omega)]; omega
   rw [← wj, ← wi] at h1
   exact ⟨xs, Ev.succ (Ev.po (Ev.po (Ev.po (Ev.opt he (Ev.neg c (Ev.po (Ev.po (Ev.opt hg (Ev.pos rfl h1))))))))) (fun q => rfl), h2⟩
theorem zclv (p0 p p2 p3 p4 p5 p6 : Int) (z : Bool) (O : List zkl) (hO : O.length ≤ 1000000) :
  ∃ xs, Ev (fun q => zll q p0 p p2 p3 p4 p5 p6 z O true) ((filP p O).length, xs, true) ∧ xs.take (filP p O).length = filP p O ∧ (filP p O).length ≤ xs.length := by
 obtain ⟨r, h, hr⟩ := zclt p0 p p2 p3 p4 p5 p6 z O true hO O.length 0 (by omega)
 have h' : Ev (fun q => zlj q p0 p p2 p3 p4 p5 p6 z O true) r := Ev.succ h (fun q => rfl)
 rcases hr with ⟨rfl, h2⟩ | ⟨j, _, h2, rfl, h4, h5⟩
 ·rw [y37] at h2
  rw [zcls h2]
  exact ⟨O, Ev.succ (Ev.bind h' (Ev.pos rfl (Ev.ret _))) (fun q => rfl), List.take_length, y13 _⟩
 ·rw [y37] at h5
  have hs := zclr p O j h2
  rw [if_pos h4, List.append_nil, zcls h5] at hs
  obtain ⟨xs, h1, h6⟩ := zclu p0 p p2 p3 p4 p5 p6 z O hO (O.length - (j + 1)) (j + 1) j O (by omega) rfl (by omega) hs.symm rfl
  rw [show ((j + 1 : Nat) : Int) = wrp .i64 ((j : Int) + 1) by rw [zcfl (by omega) (by omega)]; omega] at h1
  exact ⟨xs, Ev.succ (Ev.bind h' (Ev.neg (by omega) h1)) (fun q => rfl), h6⟩
def ixI (n k i : Nat) : Int := if n < k then ((i + n : Nat) : Int) else -1
theorem zclw (p0 p p2 p3 p4 p5 p6 : Int) (z : Bool) (xs : List zkl) (x : Bool) (M : List zkl) (hM : xs.take M.length = M) (hL : M.length ≤ 1000000) : ∀ (k i : Nat), M.length = i + k →
  Ev (fun q => zlm q M.length (M.length : Int) (i : Int) p0 p p2 p3 p4 p5 p6 z xs x) (ixI (atE p (M.drop i)) k i)
 | 0, i, hk => by
  refine Ev.succ (Ev.ne (Ev.ret' ?_)) (fun q => rfl)
  unfold ixI; rw [if_neg (by omega)]
 | k + 1, i, hk => by
  have hi : i < M.length := by omega
  have he : xs[((i : Int)).toNat]? = some M[i] := by
   have : (xs.take M.length)[i]? = M[i]? := by rw [hM]
   rw [y47, if_pos hi] at this
   rw [y27, this]; exact y6 hi
  rw [y8 hi]
  have ha : atE p (M[i] :: M.drop (i + 1)) = if p < M[i].Proc then 0 else atE p (M.drop (i + 1)) + 1 := rfl
  by_cases c : p < M[i].Proc
  ·rw [if_pos c] at ha
   rw [ha]; unfold ixI; rw [if_pos (by omega)]
   exact Ev.succ (Ev.po (Ev.po (Ev.po (Ev.opt he (Ev.pos c (Ev.ret' (by omega))))))) (fun q => rfl)
  ·rw [if_neg c] at ha
   rw [ha]
   have ih := zclw p0 p p2 p3 p4 p5 p6 z xs x M hM hL k (i + 1) (by omega)
   rw [show ((i + 1 : Nat) : Int) = wrp .i64 ((i : Int) + 1) by rw [zcfl (by omega) (by omega)]; omega] at ih
   refine Ev.succ (Ev.po (Ev.po (Ev.po (Ev.opt he (Ev.neg c (Ev.cast ih ?_)))))) (fun q => rfl)
   unfold ixI
   by_cases d : atE p (M.drop (i + 1)) < k
   ·rw [if_pos d, if_pos (by omega)]; omega
   ·rw [if_neg d, if_neg (by omega)]
theorem zclx (z : Bool) (M : List zkl) (at_ : Int) (e : zkl) (h0 : 0 ≤ at_) (h1 : at_ ≤ (M.length : Int)) (hL : M.length ≤ 1000000) : Ev (fun q => zlh q ⟨z, true, M⟩ at_ ⟨false, true, [e]⟩) ⟨false, true, M.take at_.toNat ++ [e] ++ M.drop at_.toNat⟩ :=
 Ev.succ (g := fun _ => if insOk (⟨z, true, M⟩ : Ow zkl) at_ ⟨false, true, [e]⟩ then some (insR (⟨z, true, M⟩ : Ow zkl) at_ ⟨false, true, [e]⟩) else none) (Ev.pos ⟨rfl, h0, h1, rfl, by simp, by simp only [List.length_singleton]; omega⟩ (Ev.ret _)) (fun q => rfl)
theorem zcly (s : Sl zkl) (hz : s.z = true → s.l = []) (hL : s.l.length ≤ 1000000) (r : zko) : Ev (fun q => zlo q s r) ⟨false, true, noteL s.l r.Proc r.Seq r.Resp⟩ := by
 obtain ⟨z, hC⟩ : ∃ z, Ev (fun q => zlg q s) ⟨z, true, s.l⟩ := by
  by_cases c : s.z = true
  ·exact ⟨true, Ev.succ (Ev.pos c (Ev.ret' (by rw [hz c]))) (fun q => rfl)⟩
  ·exact ⟨false, Ev.succ (Ev.neg c (Ev.po (Ev.ret _))) (fun q => rfl)⟩
 obtain ⟨xs, h0, hx, hle⟩ := zclv r.Index r.Proc r.Seq r.Op.Code r.Op.A r.Op.B r.Resp z s.l hL
 have hM := zclp r.Proc s.l
 have h1 := zclw r.Index r.Proc r.Seq r.Op.Code r.Op.A r.Op.B r.Resp z xs true (filP r.Proc s.l) hx (by omega) (filP r.Proc s.l).length 0 (by omega)
 have h1' : Ev (fun q => zln q (filP r.Proc s.l).length r.Index r.Proc r.Seq r.Op.Code r.Op.A r.Op.B r.Resp z xs true) _ := Ev.succ h1 (fun q => rfl)
 rw [y37] at h1'
 have hat := atE_le r.Proc (filP r.Proc s.l)
 unfold noteL
 rw [zcln]
 refine Ev.succ (Ev.bind hC (Ev.bind h0 (Ev.bind h1' ?_))) (fun q => rfl)
 simp only
 rw [hx]
 unfold ixI
 by_cases d : atE r.Proc (filP r.Proc s.l) < (filP r.Proc s.l).length
 ·rw [if_pos d]
  have hI := zclx z (filP r.Proc s.l) ((0 + atE r.Proc (filP r.Proc s.l) : Nat) : Int) ⟨r.Proc, r.Seq, r.Resp⟩ (by omega) (by omega) (by omega)
  refine Ev.ne (Ev.pos trivial (Ev.bind hI (Ev.ret' ?_)))
  rw [y27, y42]
 ·rw [if_neg d]
  have hI := zclx z (filP r.Proc s.l) ((filP r.Proc s.l).length : Int) ⟨r.Proc, r.Seq, r.Resp⟩ (by omega) (by omega) (by omega)
  refine Ev.po (Ev.pos trivial (Ev.bind hI (Ev.ret' ?_)))
  rw [y27, show atE r.Proc (filP r.Proc s.l) = (filP r.Proc s.l).length by omega]
theorem zclz {l : List Int} {i j : Int} (h0 : 0 ≤ i) (h1 : i < j) (h2 : j ≤ l.length) (hl : l.length ≤ 1000000) : Ev (fun q => zk5 q ⟨false, true, l⟩ i j) ⟨false, true, l.take i.toNat ++ l.drop j.toNat⟩ := by
 refine Ev.succ ?_ (fun q => rfl)
 refine Ev.pos h0 ?_
 refine Ev.pos (by omega) ?_
 refine Ev.pos (by simp only; omega) ?_
 refine Ev.neg (by omega) ?_
 refine Ev.pos (by simp only; omega) ?_
 refine Ev.neg (by simp) ?_
 refine Ev.pos (by omega) ?_
 refine Ev.pos (by simp only; omega) ?_
 refine Ev.pos (by simp only; omega) ?_
 refine Ev.pos rfl ?_
 refine Ev.pos (by simp only; omega) ?_
 refine Ev.pos (by simp only; omega) ?_
 refine Ev.ret' ?_
 congr 1
 have hm : (l.take i.toNat ++ l.drop j.toNat).length = i.toNat + (l.length - j.toNat) := by simp; omega
 rw [← hm]
 simp only [y32]
 rw [← y32 (l.take i.toNat) (l.drop j.toNat), List.take_left', List.take_left'] <;> simp
def findN (key : Int) : List Int → Nat
 | a :: _ :: l => if a < key then findN key l + 2 else 0
 | _ => 0
def isL (key : Int) : List Int → Bool
 | a :: _ :: l => if a < key then isL key l else decide (a = key)
 | _ => false
def hasL (key : Int) : List Int → Int
 | a :: b :: l => if a < key then hasL key l else if a = key then b else -1
 | _ => -1
def putL (key n : Int) : List Int → List Int
 | a :: b :: l => if a < key then a :: b :: putL key n l else if a = key then a :: n :: l else key :: n :: a :: b :: l
 | _ => [key, n]
def delL (key : Int) : List Int → List Int
 | a :: b :: l => if a < key then a :: b :: delL key l else if a = key then l else a :: b :: l
 | _ => []
/-- By pairs. -/
theorem zcl0 {P : List Int → Prop} (h0 : P []) (h2 : ∀ a b l, l.length % 2 = 0 → P l → P (a :: b :: l)) : ∀ l : List Int, l.length % 2 = 0 → P l
 | [], _ => h0
 | [a], h => by simp at h
 | a :: b :: l, h => h2 a b l (by simp only [y20] at h; omega) (zcl0 h0 h2 l (by simp only [y20] at h; omega))
theorem zcl1 (key : Int) : ∀ l : List Int, l.length % 2 = 0 → findN key l ≤ l.length ∧ (isL key l = true → findN key l + 2 ≤ l.length ∧ l[findN key l + 1]? = some (hasL key l)) ∧ (isL key l = false → hasL key l = -1) :=
 zcl0 (by simp [findN, isL, hasL]) fun a b l he ih => by
  simp only [findN, isL, hasL, y20]
  split
  ·refine ⟨by omega, fun h => ⟨by have := (ih.2.1 h).1; omega, ?_⟩, ih.2.2⟩
   rw [show findN key l + 2 + 1 = (findN key l + 1) + 2 by omega]
   simpa using (ih.2.1 h).2
  ·split
   ·rename_i e; simp [e]
   ·rename_i e; simp [e]
theorem put_is (key n : Int) : ∀ l : List Int, l.length % 2 = 0 → isL key l = true → l.set (findN key l + 1) n = putL key n l :=
 zcl0 (by simp [isL]) fun a b l he ih h => by
  simp only [findN, isL, putL] at h ⊢
  split at h
  ·rename_i c; rw [if_pos c, if_pos c, ← ih h]; rfl
  ·rename_i c; rw [if_neg c, if_neg c, if_pos (by simpa using h)]; rfl
theorem put_no (key n : Int) : ∀ l : List Int, l.length % 2 = 0 → isL key l = false → l.take (findN key l) ++ [key, n] ++ l.drop (findN key l) = putL key n l :=
 zcl0 (by simp [findN, putL]) fun a b l he ih h => by
  simp only [findN, isL, putL] at h ⊢
  split at h
  ·rename_i c; rw [if_pos c, if_pos c, ← ih h]; simp
  ·rename_i c; rw [if_neg c, if_neg c, if_neg (by simpa using h)]; simp
theorem del_is (key : Int) : ∀ l : List Int, l.length % 2 = 0 → isL key l = true → l.take (findN key l) ++ l.drop (findN key l + 2) = delL key l :=
 zcl0 (by simp [isL]) fun a b l he ih h => by
  simp only [findN, isL, delL] at h ⊢
  split at h
  ·rename_i c; rw [if_pos c, if_pos c, ← ih h]; simp
  ·rename_i c; rw [if_neg c, if_neg c, if_pos (by simpa using h)]; simp
theorem zcl2 (key n : Int) : ∀ l : List Int, l.length % 2 = 0 → (putL key n l).length = l.length + (if isL key l = true then 0 else 2) :=
 zcl0 (by simp [putL, isL]) fun a b l he ih => by
  simp only [putL, isL]
  split
  ·simp only [y20, ih]; omega
  ·split
   ·rename_i e; simp [e]
   ·rename_i e; simp [e]
theorem zcl3 (z : Bool) (L : List Int) (key : Int) (hL : L.length ≤ 1000000) (h2 : L.length % 2 = 0) : ∀ (k i : Nat), L.length = i + 2 * k →
  Ev (fun q => zk7 q z L key (i : Int)) (((i + findN key (L.drop i) : Nat) : Int), isL key (L.drop i))
 | 0, i, hk => by
  rw [y11 (by omega)]
  exact Ev.succ (Ev.ne (Ev.ret _)) (fun q => rfl)
 | k + 1, i, hk => by
  have hi : i < L.length := by omega
  have hi1 : i + 1 < L.length := by omega
  have he : L[((i : Int)).toNat]? = some L[i] := by simp [hi]
  have hd : L.drop i = L[i] :: L[i + 1] :: L.drop (i + 2) := by rw [y8 hi, y8 hi1]
  rw [hd]
  by_cases c : L[i] < key
  ·have e1 : findN key (L[i] :: L[i + 1] :: L.drop (i + 2)) = findN key (L.drop (i + 2)) + 2 := by simp only [findN, if_pos c]
   have e2 : isL key (L[i] :: L[i + 1] :: L.drop (i + 2)) = isL key (L.drop (i + 2)) := by simp only [isL, if_pos c]
   rw [e1, e2]
   have ih := zcl3 z L key hL h2 k (i + 2) (by omega)
   rw [show ((i + 2 : Nat) : Int) = wrp .i64 ((i : Int) + 2) by rw [zcfl (by omega) (by omega)]; omega] at ih
   refine Ev.succ (Ev.po (Ev.po (Ev.opt he (Ev.pos c (Ev.cast ih ?_))))) (fun q => rfl)
   rw [show i + 2 + findN key (L.drop (i + 2)) = i + (findN key (L.drop (i + 2)) + 2) by omega]
  ·have e1 : findN key (L[i] :: L[i + 1] :: L.drop (i + 2)) = 0 := by simp only [findN, if_neg c]
   have e2 : isL key (L[i] :: L[i + 1] :: L.drop (i + 2)) = decide (L[i] = key) := by simp only [isL, if_neg c]
   rw [e1, e2]
   exact Ev.succ (Ev.po (Ev.po (Ev.opt he (Ev.neg c (Ev.ret' (by simp)))))) (fun q => rfl)
theorem zcl4 (s : Sl Int) (key : Int) (hL : s.l.length ≤ 1000000) (h2 : s.l.length % 2 = 0) : Ev (fun q => zk8 q s key) ((findN key s.l : Int), isL key s.l) := by
 have h := zcl3 s.z s.l key hL h2 (s.l.length / 2) 0 (by omega)
 rw [y37, y42] at h
 exact Ev.succ h (fun q => rfl)
theorem has_ev (s : Sl Int) (key : Int) (hL : s.l.length ≤ 1000000) (h2 : s.l.length % 2 = 0) : Ev (fun q => zk9 q s key) (hasL key s.l) := by
 have hp := zcl1 key s.l h2
 refine Ev.succ (Ev.bind (zcl4 s key hL h2) (Ev.ite (fun c => ?_) fun c => Ev.ret' ?_)) (fun q => rfl)
 ·simp only at c
  have h1 := hp.2.1 c
  have w : wrp .i64 ((findN key s.l : Int) + 1) = ((findN key s.l + 1 : Nat) : Int) := by rw [zcfl (by omega) (by omega)]; omega
  exact Ev.pos (by simp only; rw [w]; omega) (Ev.opt (by simp only; rw [w, y27]; exact h1.2) (Ev.ret _))
 ·exact (hp.2.2 (by simpa using c)).symm
def putOk (key : Int) (l : List Int) : Bool := isL key l || decide (l.length < 128)
theorem put_ev (s : Sl Int) (hz : s.z = true → s.l = []) (key n : Int) (hL : s.l.length ≤ 1000000) (h2 : s.l.length % 2 = 0) : Ev (fun q => zlb q s key n) (if putOk key s.l = true then (⟨false, putL key n s.l⟩, true) else (s, false)) := by
 have hp := zcl1 key s.l h2
 obtain ⟨z, hC⟩ := zcjy s hz (by omega)
 by_cases c : isL key s.l = true
 ·have h1 := hp.2.1 c
  have hs : s.z = false := by
   by_cases e : s.z = true
   ·rw [hz e] at h1; simp at h1
   ·simpa using e
  have hC := zch6 s hs (by omega)
  have w : wrp .i64 ((findN key s.l : Int) + 1) = ((findN key s.l + 1 : Nat) : Int) := by rw [zcfl (by omega) (by omega)]; omega
  rw [if_pos (by unfold putOk; rw [c]; rfl)]
  refine Ev.succ (Ev.bind (zcl4 s key hL h2) (Ev.pos c (Ev.bind hC ?_))) (fun q => rfl)
  simp only
  rw [w]
  refine Ev.po (Ev.po (Ev.opt (by rw [y27]; exact h1.2) (Ev.pos trivial (Ev.ret' ?_))))
  rw [y27, put_is key n s.l h2 c]
 ·have c' : isL key s.l = false := by simpa using c
  by_cases d : s.l.length < 128
  ·rw [if_pos (by unfold putOk; rw [decide_eq_true d]; simp)]
   have hI : Ev (fun q => zla q ⟨z, true, s.l⟩ (findN key s.l : Int) ⟨false, true, [key, n]⟩) ⟨false, true, putL key n s.l⟩ := by
    refine Ev.succ (g := fun _ => if insOk (⟨z, true, s.l⟩ : Ow Int) (findN key s.l : Int) ⟨false, true, [key, n]⟩ then some (insR (⟨z, true, s.l⟩ : Ow Int) (findN key s.l : Int) ⟨false, true, [key, n]⟩) else none) (Ev.pos ⟨rfl, by omega, by simp only; omega, rfl, by simp, by simp only [y20, y24]; omega⟩ (Ev.ret' ?_)) (fun q => rfl)
    rw [← put_no key n s.l h2 c']; simp [insR]
   refine Ev.succ (Ev.bind (zcl4 s key hL h2) (Ev.neg (by simp only; rw [c']; simp) (Ev.ne (Ev.bind hC ?_)))) (fun q => rfl)
   exact Ev.bind hI (Ev.ret' rfl)
  ·rw [if_neg (by unfold putOk; rw [c', decide_eq_false d]; simp)]
   exact Ev.succ (Ev.bind (zcl4 s key hL h2) (Ev.neg (by simp only; rw [c']; simp) (Ev.po (Ev.ret _)))) (fun q => rfl)
def numV (k : Int) (l : List Int) (o : zkn) : List Int × Int :=
 if o.Code = 7 then (l, l.headD 0) else if k = 0 ∧ o.Code = 1 then ([cutI (wrp .i64 (l.headD 0 + cutI o.A))], l.headD 0) else if k = 1 ∧ o.Code = 2 then ([cutI o.A], l.headD 0) else (l, 0)
def linV (k : Int) (l : List Int) (o : zkn) : List Int × Int :=
 if o.Code = 7 then (l, (l.length : Int)) else if o.Code = 3 then (if (l.length : Int) < 64 then (l ++ [cutI o.A], (l.length : Int) + 1) else (l, -1))
 else if o.Code = 4 then (if (l.length : Int) = 0 then (l, -1) else if k = 2 then (l.drop 1, l.headD 0) else (l.take (l.length - 1), (l[l.length - 1]?).getD 0)) else (l, 0)
def stoV (l : List Int) (o : zkn) : List Int × Int :=
 if o.Code = 7 ∨ o.Code = 6 ∨ o.Code = 5 then (if o.A < 0 ∨ 255 < o.A then (l, -1) else if o.Code = 6 ∧ isL o.A l = true then (delL o.A l, hasL o.A l)
  else if o.Code = 5 then (if putOk o.A l = true then (putL o.A (cutI o.B) l, hasL o.A l) else (l, -2)) else (l, hasL o.A l)) else (l, 0)
def nz (n : Int) : Int := if n < 0 then 0 else n
def movV (l : List Int) (o : zkn) : List Int × Int :=
 if o.A < 0 ∨ 65536 ≤ o.A ∨ o.B < 0 then (l, 0) else if hasL (wrp .i64 (Int.tdiv o.A 256)) l < o.B then (l, 0) else if wrp .i64 (Int.tdiv o.A 256) = Int.tmod o.A 256 then (l, 1)
 else if putOk (Int.tmod o.A 256) l = true then (if 1099511627776 < wrp .i64 (nz (hasL (Int.tmod o.A 256) l) + o.B) then (l, 0)
  else if putOk (wrp .i64 (Int.tdiv o.A 256)) (putL (Int.tmod o.A 256) (wrp .i64 (nz (hasL (Int.tmod o.A 256) l) + o.B)) l) = true then (putL (wrp .i64 (Int.tdiv o.A 256)) (wrp .i64 (hasL (wrp .i64 (Int.tdiv o.A 256)) l - o.B)) (putL (Int.tmod o.A 256) (wrp .i64 (nz (hasL (Int.tmod o.A 256) l) + o.B)) l), 1)
  else (putL (Int.tmod o.A 256) (wrp .i64 (nz (hasL (Int.tmod o.A 256) l) + o.B)) l, 1)) else (l, 0)
def ledV (l : List Int) (o : zkn) : List Int × Int :=
 if o.Code = 9 then movV l o else if o.Code = 7 then (if o.A < 0 ∨ 255 < o.A then (l, -1) else (l, hasL o.A l))
 else if o.Code = 8 then (if o.A < 0 ∨ 255 < o.A ∨ o.B < 0 then (l, -1) else if putOk o.A l = true then (putL o.A (cutI (wrp .i64 (nz (hasL o.A l) + cutI o.B))) l, cutI (wrp .i64 (nz (hasL o.A l) + cutI o.B))) else (l, -2)) else (l, 0)
/-- What an operation leaves, and what comes of it. -/
def stepV (s : zkk) (o : zkn) : (List Int × Bool × Int) × Int :=
 if mayS s = true then (if s.Sealed = true then ((s.L.l, s.Sealed, s.To), -1125899906842624) else if o.Code = 10 then ((s.L.l, true, if 0 ≤ o.A ∧ o.A < 3 then o.A else s.To), 0)
  else if s.Kind = 0 ∨ s.Kind = 1 then (((numV s.Kind s.L.l o).1, s.Sealed, s.To), (numV s.Kind s.L.l o).2)
  else if s.Kind = 2 ∨ s.Kind = 3 then (((linV s.Kind s.L.l o).1, s.Sealed, s.To), (linV s.Kind s.L.l o).2)
  else if s.Kind = 4 then (((stoV s.L.l o).1, s.Sealed, s.To), (stoV s.L.l o).2) else (((ledV s.L.l o).1, s.Sealed, s.To), (ledV s.L.l o).2))
 else ((s.L.l, s.Sealed, s.To), 0)
def wS (s : zkk) (z : Bool) (l : List Int) : zkk := ⟨s.Kind, ⟨z, l⟩, s.Sealed, s.To⟩
/-- A function comes to a list and a number. -/
def Comes (f : Nat → zkk → zkn → Option (zkk × Int)) (s : zkk) (o : zkn) (r : List Int × Int) : Prop := ∃ z, (z = true → r.1 = []) ∧ Ev (fun q => f q s o) (wS s z r.1, r.2)
theorem zcl5 (s : zkk) (hz : s.L.z = true → s.L.l = []) (h1 : s.L.l.length = 1) (o : zkn) : Comes zk3 s o (numV s.Kind s.L.l o) := by
 obtain ⟨n, hn⟩ : ∃ n, s.L.l = [n] := List.length_eq_one_iff.1 h1
 have hg : s.L.l[0]? = some n := by rw [hn]; rfl
 have hh : s.L.l.headD 0 = n := by rw [hn]; rfl
 unfold Comes numV
 rw [hh]
 by_cases c7 : o.Code = 7
 ·rw [if_pos c7]
  exact ⟨s.L.z, hz, Ev.succ (Ev.opt hg (Ev.pos c7 (Ev.ret _))) (fun q => rfl)⟩
 ·rw [if_neg c7]
  by_cases k0 : s.Kind = 0
  ·by_cases c1 : o.Code = 1
   ·rw [if_pos ⟨k0, c1⟩]
    refine ⟨false, fun h => (by cases h), Ev.succ (Ev.opt hg (Ev.neg c7 (Ev.pos k0 (Ev.pos c1 (Ev.bind (zcf0 _) ?_))))) (fun q => rfl)⟩
    exact Ev.bind (zcf0 (wrp .i64 (n + cutI o.A))) (Ev.ret' rfl)
   ·rw [if_neg (fun h => c1 h.2), if_neg (fun h => by omega)]
    exact ⟨s.L.z, hz, Ev.succ (Ev.opt hg (Ev.neg c7 (Ev.pos k0 (Ev.neg c1 (Ev.ne (Ev.ret _)))))) (fun q => rfl)⟩
  ·rw [if_neg (fun h => k0 h.1)]
   by_cases k1 : s.Kind = 1
   ·by_cases c2 : o.Code = 2
    ·rw [if_pos ⟨k1, c2⟩]
     refine ⟨false, fun h => (by cases h), Ev.succ (Ev.opt hg (Ev.neg c7 (Ev.neg k0 (Ev.pos k1 (Ev.pos c2 ?_))))) (fun q => rfl)⟩
     exact Ev.bind (zcf0 o.A) (Ev.ret' rfl)
    ·rw [if_neg (fun h => c2 h.2)]
     exact ⟨s.L.z, hz, Ev.succ (Ev.opt hg (Ev.neg c7 (Ev.neg k0 (Ev.pos k1 (Ev.neg c2 (Ev.ret _)))))) (fun q => rfl)⟩
   ·rw [if_neg (fun h => k1 h.1)]
    exact ⟨s.L.z, hz, Ev.succ (Ev.opt hg (Ev.neg c7 (Ev.neg k0 (Ev.neg k1 (Ev.ret _))))) (fun q => rfl)⟩
theorem zcl6 (s : zkk) (hz : s.L.z = true → s.L.l = []) (hL : s.L.l.length ≤ 1000000) (o : zkn) : Comes zk6 s o (linV s.Kind s.L.l o) := by
 unfold Comes linV
 by_cases c7 : o.Code = 7
 ·rw [if_pos c7]
  exact ⟨s.L.z, hz, Ev.succ (Ev.pos c7 (Ev.ret _)) (fun q => rfl)⟩
 ·rw [if_neg c7]
  by_cases c3 : o.Code = 3
  ·rw [if_pos c3]
   by_cases d : (s.L.l.length : Int) < 64
   ·rw [if_pos d]
    obtain ⟨z, hC⟩ := zcjy s.L hz (by omega)
    refine ⟨false, fun h => (by cases h), Ev.succ (Ev.neg c7 (Ev.pos c3 (Ev.pos d (Ev.bind hC (Ev.bind (zcf0 _) (Ev.pos (by simp only; omega) ?_)))))) (fun q => rfl)⟩
    exact Ev.ret' (by rw [zcfl (by omega) (by omega)]; rfl)
   ·rw [if_neg d]
    exact ⟨s.L.z, hz, Ev.succ (Ev.neg c7 (Ev.pos c3 (Ev.neg d (Ev.ret _)))) (fun q => rfl)⟩
  ·rw [if_neg c3]
   by_cases c4 : o.Code = 4
   ·rw [if_pos c4]
    by_cases d : (s.L.l.length : Int) = 0
    ·rw [if_pos d]
     exact ⟨s.L.z, hz, Ev.succ (Ev.neg c7 (Ev.neg c3 (Ev.pos c4 (Ev.pos d (Ev.ret _))))) (fun q => rfl)⟩
    ·rw [if_neg d]
     have hs : s.L.z = false := by
      by_cases e : s.L.z = true
      ·rw [hz e] at d; simp at d
      ·simpa using e
     have hC := zch6 s.L hs (by omega)
     by_cases k2 : s.Kind = 2
     ·rw [if_pos k2]
      have hg : s.L.l[0]? = some (s.L.l.headD 0) := by
       cases hl : s.L.l with
       | nil => rw [hl] at d; simp at d
       | cons a t => rfl
      have hD := zclz (l := s.L.l) (i := 0) (j := wrp .i64 1) (by omega) (by rw [zcfl (by omega) (by omega)]; omega) (by rw [zcfl (by omega) (by omega)]; omega) hL
      refine ⟨false, fun h => (by cases h), Ev.succ (Ev.neg c7 (Ev.neg c3 (Ev.pos c4 (Ev.neg d (Ev.pos k2 (Ev.opt hg (Ev.bind hC ?_))))))) (fun q => rfl)⟩
      exact Ev.bind hD (Ev.ret' (by rw [zcfl (by omega) (by omega)]; rfl))
     ·rw [if_neg k2]
      have w1 : wrp .i64 ((s.L.l.length : Int) - 1) = ((s.L.l.length - 1 : Nat) : Int) := by rw [zcfl (by omega) (by omega)]; omega
      have hg : s.L.l[s.L.l.length - 1]? = some ((s.L.l[s.L.l.length - 1]?).getD 0) := by
       rw [y6 (by omega)]; rfl
      have w2 : wrp .i64 (((s.L.l.length - 1 : Nat) : Int) + 1) = (s.L.l.length : Int) := by rw [zcfl (by omega) (by omega)]; omega
      have hD := zclz (l := s.L.l) (i := ((s.L.l.length - 1 : Nat) : Int)) (j := (s.L.l.length : Int)) (by omega) (by omega) (by omega) hL
      refine ⟨false, fun h => (by cases h), Ev.succ (Ev.neg c7 (Ev.neg c3 (Ev.pos c4 (Ev.neg d (Ev.neg k2 ?_))))) (fun q => rfl)⟩
      rw [w1, w2]
      refine Ev.po (Ev.opt (by rw [y27]; exact hg) (Ev.bind hC ?_))
      exact Ev.bind hD (Ev.ret' (by rw [y27, y27, List.drop_length, List.append_nil]; rfl))
   ·rw [if_neg c4]
    exact ⟨s.L.z, hz, Ev.succ (Ev.neg c7 (Ev.neg c3 (Ev.neg c4 (Ev.ret _)))) (fun q => rfl)⟩
end Go.Dvm.I
