/- Plain laws of the functions: part 1. -/
import Derived.Test.YtlcndafgippgjaaQi
set_option linter.all false
namespace Go.Dvm.I
open Go Go.Dvm
/-- With enough rounds. -/
def Ev {R : Type} (g : Nat → Option R) (r : R) : Prop := ∃ N, ∀ q, N ≤ q → g q = some r
section
variable {R S : Type}
theorem Ev.ret (r : R) : Ev (fun _ => some r) r := ⟨0, fun _ _ => rfl⟩
theorem Ev.ret' {r r' : R} (h : r = r') : Ev (fun _ => some r) r' := ⟨0, fun _ _ => by rw [h]⟩
theorem Ev.succ {f g : Nat → Option R} {r : R} (h : Ev g r) (e : ∀ q, f (q + 1) = g q) : Ev f r := by
 obtain ⟨N, h⟩ := h
 refine ⟨N + 1, fun q hq => ?_⟩
 obtain ⟨q, rfl⟩ : ∃ p, q = p + 1 := ⟨q - 1, by omega⟩
 rw [e]; exact h q (by omega)
theorem Ev.bind {g : Nat → Option S} {k : Nat → S → Option R} {s : S} {r : R} (h : Ev g s) (h2 : Ev (fun q => k q s) r) : Ev (fun q => (g q).bind (k q)) r := by
 obtain ⟨N, h⟩ := h
 obtain ⟨M, h2⟩ := h2
 exact ⟨N + M, fun q hq => by show (g q).bind (k q) = some r; rw [h q (by omega), Option.bind_some]; exact h2 q (by omega)⟩
theorem Ev.opt {o : Option S} {k : Nat → S → Option R} {s : S} {r : R} (h : o = some s) (h2 : Ev (fun q => k q s) r) : Ev (fun q => o.bind (k q)) r := by
 subst h; exact h2
theorem Ev.pos {c : Prop} [Decidable c] {a b : Nat → Option R} {r : R} (hc : c) (h : Ev a r) : Ev (fun q => if c then a q else b q) r := by
 obtain ⟨N, h⟩ := h
 exact ⟨N, fun q hq => by show (if c then a q else b q) = some r; rw [if_pos hc]; exact h q hq⟩
theorem Ev.neg {c : Prop} [Decidable c] {a b : Nat → Option R} {r : R} (hc : ¬ c) (h : Ev b r) : Ev (fun q => if c then a q else b q) r := by
 obtain ⟨N, h⟩ := h
 exact ⟨N, fun q hq => by show (if c then a q else b q) = some r; rw [if_neg hc]; exact h q hq⟩
theorem Ev.ite {c : Prop} [Decidable c] {a b : Nat → Option R} {r : R} (h1 : c → Ev a r) (h2 : ¬ c → Ev b r) : Ev (fun q => if c then a q else b q) r := by
 by_cases hc : c
 ·exact .pos hc (h1 hc)
 ·exact .neg hc (h2 hc)
theorem Ev.get {f : Nat → Option R} {r : R} (h : Ev f r) : ∃ q, f q = some r := by
 obtain ⟨N, h⟩ := h; exact ⟨N, h N (Nat.le_refl _)⟩
theorem Ev.cast {f : Nat → Option R} {r r' : R} (h : Ev f r) (e : r = r') : Ev f r' := e ▸ h
end
theorem zbuo {x : Int} (h1 : -9223372036854775808 ≤ x) (h2 : x ≤ 9223372036854775807) : wrp .i64 x = x := by
 unfold wrp; simp [IntKind.wrap, IntKind.min, IntKind.max, IntKind.signed, IntKind.bits] <;> omega
theorem zbup {x : Int} (h1 : 0 ≤ x) (h2 : x ≤ 18446744073709551615) : wrp .u64 x = x := by
 unfold wrp; simp [IntKind.wrap, IntKind.min, IntKind.max, IntKind.signed, IntKind.bits] <;> omega
theorem zbuq {x : Int} (h1 : 0 ≤ x) (h2 : x ≤ 4294967295) : wrp .u32 x = x := by
 unfold wrp; simp [IntKind.wrap, IntKind.min, IntKind.max, IntKind.signed, IntKind.bits] <;> omega
theorem wrp_u8 (x : Int) : wrp .u8 x = x % 256 := by
 unfold wrp; simp [IntKind.wrap, IntKind.min, IntKind.max, IntKind.signed, IntKind.bits] <;> omega
theorem zbur {x : Int} (h1 : 0 ≤ x) : ishr .u64 x 7 = x / 128 := by
 unfold ishr; simp [IntKind.bits]
 rw [Int.fdiv_eq_ediv_of_nonneg]; omega
theorem or128 {x : Int} (h1 : 0 ≤ x) (h2 : x < 256) : ibits .or .u8 x 128 = x % 128 + 128 := by
 obtain ⟨n, rfl⟩ := Int.eq_ofNat_of_zero_le h1
 have hn : n < 256 := by omega
 have : ∀ m : Fin 256, ibits .or .u8 (m.val : Int) 128 = (m.val : Int) % 128 + 128 := by unfold ibits; decide +kernel
 exact this ⟨n, hn⟩
/-- A number's groups. -/
def grp (n : Nat) : List Int := if h : n < 128 then [(n : Int)] else ((n % 128 + 128 : Nat) : Int) :: grp (n / 128)
theorem grp_lt {n : Nat} (h : n < 128) : grp n = [(n : Int)] := by rw [grp, dif_pos h]
theorem grp_ge {n : Nat} (h : ¬ n < 128) : grp n = ((n % 128 + 128 : Nat) : Int) :: grp (n / 128) := by rw [grp, dif_neg h]
theorem zbus : ∀ (k : Nat) {n : Nat}, n < 128 ^ (k + 1) → (grp n).length ≤ k + 1
 | 0, n, h => by rw [grp_lt (by simpa using h)]; simp
 | k + 1, n, h => by
  by_cases hn : n < 128
  ·rw [grp_lt hn]; simp
  ·rw [grp_ge hn]
   have := zbus k (n := n / 128) (by rw [Nat.div_lt_iff_lt_mul (by omega)]; rw [Nat.pow_succ] at h; exact h)
   simp; omega
theorem zbut {n : Nat} (h : n < 18446744073709551616) : (grp n).length ≤ 10 := zbus 9 (by omega)
theorem zbuu (n : Nat) : 1 ≤ (grp n).length := by
 by_cases hn : n < 128
 ·rw [grp_lt hn]; simp
 ·rw [grp_ge hn]; simp
theorem zbuv : ∀ {a b : Nat} {x y : List Int}, grp a ++ x = grp b ++ y → a = b ∧ x = y := by
 intro a
 induction a using Nat.strongRecOn with
 | ind a ih =>
  intro b x y h
  by_cases ha : a < 128 <;> by_cases hb : b < 128
  ·rw [grp_lt ha, grp_lt hb] at h
   simp at h; exact ⟨by omega, h.2⟩
  ·rw [grp_lt ha, grp_ge hb] at h
   simp at h; omega
  ·rw [grp_ge ha, grp_lt hb] at h
   simp at h; omega
  ·rw [grp_ge ha, grp_ge hb] at h
   simp only [List.cons_append, List.cons.injEq] at h
   obtain ⟨h1, h2⟩ := h
   obtain ⟨h3, h4⟩ := ih (a / 128) (by omega) h2
   exact ⟨by omega, h4⟩
theorem zbuw : ∀ (n : Nat) (z : Bool) (l : List Int) (x : Bool), l.length + (grp n).length ≤ 4294967296 → Ev (fun q => zjv q (n : Int) z l x) ⟨false, x, l ++ grp n⟩ := by
 intro n
 induction n using Nat.strongRecOn with
 | ind n ih =>
  intro z l x hl
  refine Ev.succ ?_ (fun q => rfl)
  by_cases hn : n < 128
  ·rw [grp_lt hn] at hl ⊢
   refine Ev.neg (by omega) (Ev.pos (by simpa using hl) (Ev.ret' ?_))
   rw [wrp_u8]; congr 3; omega
  ·rw [grp_ge hn] at hl ⊢
   simp only [List.length_cons] at hl
   refine Ev.pos (by omega) (Ev.pos (by omega) ?_)
   rw [zbur (by omega), wrp_u8, or128 (by omega) (by omega)]
   have := ih (n / 128) (by omega) false (l ++ [((n % 128 + 128 : Nat) : Int)]) x (by simp; omega)
   rw [show ((n : Int) % 256 % 128 + 128) = ((n % 128 + 128 : Nat) : Int) by omega, show ((n : Int) / 128) = ((n / 128 : Nat) : Int) by omega]
   simpa using this
theorem zbux {u : Int} (h1 : 0 ≤ u) (b : Ow Int) (hl : b.xs.length + (grp u.toNat).length ≤ 4294967296) : Ev (fun q => zjw q b u) ⟨false, b.x, b.xs ++ grp u.toNat⟩ := by
 have := zbuw u.toNat b.n b.xs b.x hl
 rw [Int.toNat_of_nonneg h1] at this
 exact Ev.succ this (fun q => rfl)
/-- What a number puts behind bytes. -/
def put (n : Int) : List Int := if n < 0 then [] else if 4611686018427387904 ≤ n then [] else grp n.toNat
theorem put_ok {n : Int} (h1 : 0 ≤ n) (h2 : n < 4611686018427387904) : put n = grp n.toNat := by
 unfold put; rw [if_neg (by omega), if_neg (by omega)]
theorem zbuy (n : Int) : (put n).length ≤ 10 := by
 unfold put; split
 ·simp
 ·split
  ·simp
  ·exact zbut (by omega)
theorem zbuz {n : Int} (b : Ow Int) (h1 : 0 ≤ n) (h2 : n < 4611686018427387904) (hl : b.xs.length + 10 ≤ 4294967296) : Ev (fun q => zjx q b n) ⟨false, b.x, b.xs ++ put n⟩ := by
 refine Ev.succ ?_ (fun q => rfl)
 rw [put_ok h1 h2]
 have hg := zbut (n := n.toNat) (by omega)
 refine Ev.neg (by omega) (Ev.neg (by omega) ?_)
 rw [zbup h1 (by omega)]
 exact Ev.bind (zbux h1 b (by omega)) (Ev.ret _)
/-- Zigzag. -/
def zig (n : Int) : Nat := if 0 ≤ n then 2 * n.toNat else 2 * (-n).toNat - 1
theorem zig_lt {n : Int} (h : inR .i64 n) : zig n < 18446744073709551616 := by
 simp [inR, IntKind.min, IntKind.max, IntKind.signed, IntKind.bits] at h
 unfold zig; split <;> omega
def putS (n : Int) : List Int := grp (zig n)
theorem zbu0 (k : IntKind) (n : Int) : k.wrap n = wrp k n := by unfold wrp; rfl
theorem xor0 {x : Int} (h1 : 0 ≤ x) (h2 : x < 18446744073709551616) : ibits .xor .u64 x 0 = x := by
 have e : ibits .xor .u64 x 0 = IntKind.wrap .u64 (((BitVec.ofInt 64 x ^^^ 0#64 : BitVec 64).toNat : Nat) : Int) := by unfold ibits; rfl
 rw [e, BitVec.xor_zero, BitVec.toNat_ofInt, zbu0, zbup] <;> omega
theorem xor1 {x : Int} (h1 : 0 ≤ x) (h2 : x < 18446744073709551616) : ibits .xor .u64 x 18446744073709551615 = 18446744073709551615 - x := by
 have e : ibits .xor .u64 x 18446744073709551615 = IntKind.wrap .u64 (((BitVec.ofInt 64 x ^^^ BitVec.allOnes 64 : BitVec 64).toNat : Nat) : Int) := by unfold ibits; rfl
 rw [e, BitVec.xor_allOnes, BitVec.toNat_not, BitVec.toNat_ofInt, zbu0, zbup] <;> omega
theorem ishl1 {x : Int} (h1 : 0 ≤ x) : ishl .u64 x 1 = (2 * x) % 18446744073709551616 := by
 unfold ishl
 simp [IntKind.wrap, IntKind.signed, IntKind.bits]
 omega
theorem zbu1 (x : Int) : wrp .u64 x = x % 18446744073709551616 := by
 unfold wrp; simp [IntKind.wrap, IntKind.signed, IntKind.bits]
theorem ishr63 {x : Int} (h : inR .i64 x) : ishr .i64 x 63 = if 0 ≤ x then 0 else -1 := by
 simp [inR, IntKind.min, IntKind.max, IntKind.signed, IntKind.bits] at h
 unfold ishr; simp [IntKind.bits]
 rw [Int.fdiv_eq_ediv_of_nonneg _ (by omega)]
 split <;> omega
theorem zbu2 {n : Int} (h : inR .i64 n) : Ev (fun q => zkn q n) ((zig n : Nat) : Int) := by
 refine Ev.succ (Ev.ret' ?_) (fun q => rfl)
 have hr := h
 simp [inR, IntKind.min, IntKind.max, IntKind.signed, IntKind.bits] at hr
 rw [ishr63 h]
 by_cases h0 : 0 ≤ n
 ·rw [if_pos h0, zbup h0 (by omega), ishl1 h0, zbup (by omega) (by omega), xor0 (by omega) (by omega)]
  unfold zig; rw [if_pos h0]; omega
 ·rw [if_neg h0, zbu1 n, ishl1 (by omega), show wrp .u64 (-1) = 18446744073709551615 by rw [zbu1]; rfl, xor1 (by omega) (by omega)]
  unfold zig; rw [if_neg h0]; omega
theorem zbu3 {n : Int} (b : Ow Int) (h : inR .i64 n) (hl : b.xs.length + 10 ≤ 4294967296) : Ev (fun q => zko q b n) ⟨false, b.x, b.xs ++ putS n⟩ := by
 refine Ev.succ ?_ (fun q => rfl)
 have hg := zbut (zig_lt h)
 have := zbux (u := (zig n : Nat)) (by omega) b (by simpa using (by omega : b.xs.length + (grp (zig n)).length ≤ 4294967296))
 rw [Int.toNat_natCast] at this
 exact Ev.bind (zbu2 h) (Ev.bind this (Ev.ret _))
end Go.Dvm.I
set_option linter.all false
namespace Go.Dvm.I
open Go Go.Dvm
theorem inR64 {x : Int} (h : inR .i64 x) : -9223372036854775808 ≤ x ∧ x ≤ 9223372036854775807 := by
 simp [inR, IntKind.min, IntKind.max, IntKind.signed, IntKind.bits] at h; omega
def cutI (n : Int) : Int := if n < -1099511627776 then -1099511627776 else if 1099511627776 < n then 1099511627776 else n
theorem zbu4 (n : Int) : Ev (fun q => zkg q n) (cutI n) := by
 refine Ev.succ (Ev.ret' ?_) (fun q => rfl)
 unfold cutI; split <;> split <;> split <;> (try split) <;> omega
def fitsOp (o : zjr) : Bool := decide (0 ≤ o.Code) && (decide (o.Code ≤ 10) && (decide (o.A = cutI o.A) && decide (o.B = cutI o.B)))
theorem zbu5 (o : zjr) : Ev (fun q => zkh q o) (fitsOp o) := by
 refine Ev.succ ?_ (fun q => rfl)
 unfold fitsOp
 refine Ev.ite (fun h => Ev.ite (fun h1 => Ev.bind (zbu4 _) (Ev.ite (fun h2 => Ev.bind (zbu4 _) (Ev.ret' ?_)) fun h2 => Ev.ret' ?_)) fun h1 => Ev.ret' ?_) fun h => Ev.ret' ?_
 ·rw [decide_eq_true h, decide_eq_true h1, decide_eq_true h2]; rfl
 ·rw [decide_eq_true h, decide_eq_true h1, decide_eq_false h2]; rfl
 ·rw [decide_eq_true h, decide_eq_false h1]; rfl
 ·rw [decide_eq_false h]; rfl
theorem zbu6 {n : Int} : n = cutI n ↔ -1099511627776 ≤ n ∧ n ≤ 1099511627776 := by
 unfold cutI
 by_cases h1 : n < -1099511627776
 ·rw [if_pos h1]; omega
 ·rw [if_neg h1]
  by_cases h2 : 1099511627776 < n
  ·rw [if_pos h2]; omega
  ·rw [if_neg h2]; omega
theorem zbu7 {o : zjr} : fitsOp o = true ↔ 0 ≤ o.Code ∧ o.Code ≤ 10 ∧ (-1099511627776 ≤ o.A ∧ o.A ≤ 1099511627776) ∧ (-1099511627776 ≤ o.B ∧ o.B ≤ 1099511627776) := by
 simp only [fitsOp, Bool.and_eq_true, decide_eq_true_eq, zbu6]
def FitsR (r : zjs) : Prop := 0 ≤ r.Index ∧ r.Index < 4611686018427387904 ∧ 0 ≤ r.Proc ∧ r.Proc ≤ 64 ∧ 0 ≤ r.Seq ∧ r.Seq < 4611686018427387904 ∧ fitsOp r.Op = true ∧ -1125899906842624 ≤ r.Resp ∧ r.Resp ≤ 1125899906842624
instance (r : zjs) : Decidable (FitsR r) := by unfold FitsR; infer_instance
theorem zbu8 (r : zjs) : Ev (fun q => zki q r) (decide (FitsR r)) := by
 refine Ev.succ ?_ (fun q => rfl)
 refine Ev.ite (fun h1 => Ev.ite (fun h2 => Ev.ite (fun h3 => Ev.ite (fun h4 => Ev.ite (fun h5 => Ev.ite (fun h6 => Ev.bind (zbu5 _) (Ev.ite (fun h7 => Ev.ite (fun h8 => Ev.ret' ?_) fun h8 => Ev.ret' ?_) fun h7 => Ev.ret' ?_)) fun h6 => Ev.ret' ?_) fun h5 => Ev.ret' ?_) fun h4 => Ev.ret' ?_) fun h3 => Ev.ret' ?_) fun h2 => Ev.ret' ?_) fun h1 => Ev.ret' ?_ <;> simp only [FitsR, *] <;> simp
def opB (o : zjr) : List Int := put o.Code ++ (putS o.A ++ putS o.B)
theorem zbu9 {n : Int} (h : inR .i64 n) : (putS n).length ≤ 10 := zbut (zig_lt h)
theorem zbva {n : Int} (h1 : -9223372036854775808 ≤ n) (h2 : n ≤ 9223372036854775807) : inR .i64 n := by
 simp [inR, IntKind.min, IntKind.max, IntKind.signed, IntKind.bits]; omega
theorem zbvb {o : zjr} (h : fitsOp o = true) : (opB o).length ≤ 30 := by
 obtain ⟨h1, h2, h3, h4⟩ := zbu7.1 h
 have := zbuy o.Code
 have := zbu9 (n := o.A) (zbva (by omega) (by omega))
 have := zbu9 (n := o.B) (zbva (by omega) (by omega))
 simp only [opB, List.length_append]; omega
theorem zbvc {o : zjr} (b : Ow Int) (h : fitsOp o = true) (hl : b.xs.length + 30 ≤ 4294967296) : Ev (fun q => zkp q b o) (⟨false, b.x, b.xs ++ opB o⟩, 0) := by
 obtain ⟨h1, h2, h3, h4⟩ := zbu7.1 h
 refine Ev.succ ?_ (fun q => rfl)
 have := zbuy o.Code
 have hA : inR .i64 o.A := zbva (by omega) (by omega)
 have hB : inR .i64 o.B := zbva (by omega) (by omega)
 have := zbu9 hA
 have := zbu9 hB
 refine Ev.bind (zbu5 o) (Ev.pos h (Ev.bind (zbuz b h1 (by omega) (by omega)) (Ev.bind (zbu3 _ hA (by simp; omega)) (Ev.bind (zbu3 _ hB (by simp; omega)) (Ev.ret' ?_)))))
 simp [opB]
/-- A field of a record, as bytes. -/
def valB (f : Int) (r : zjs) : List Int := if f = 1 then put r.Index else if f = 2 then put r.Proc else if f = 3 then put r.Seq else if f = 4 then opB r.Op else putS r.Resp
theorem zbvd {f : Int} {r : zjs} (h : FitsR r) : (valB f r).length ≤ 30 := by
 obtain ⟨h1, h2, h3, h4, h5, h6, h7, h8, h9⟩ := h
 unfold valB
 have := zbuy r.Index; have := zbuy r.Proc; have := zbuy r.Seq; have := zbvb h7
 have := zbu9 (n := r.Resp) (zbva (by omega) (by omega))
 split; omega; split; omega; split; omega; split <;> omega
theorem zbve {f : Int} {r : zjs} (b : Ow Int) (h : FitsR r) (h1 : 1 ≤ f) (h2 : f ≤ 5) (hl : b.xs.length + 40 ≤ 4294967296) : Ev (fun q => zkt q b f r) ⟨false, b.x, b.xs ++ (put f ++ valB f r)⟩ := by
 obtain ⟨k1, k2, k3, k4, k5, k6, k7, k8, k9⟩ := h
 refine Ev.succ ?_ (fun q => rfl)
 have := zbuy f
 refine Ev.bind (zbuz b (by omega) (by omega) (by omega)) ?_
 unfold valB
 refine Ev.ite (fun e => ?_) fun e => Ev.ite (fun e1 => ?_) fun e1 => Ev.ite (fun e2 => ?_) fun e2 => Ev.ite (fun e3 => ?_) fun e3 => ?_
 ·rw [if_pos e]
  exact Ev.bind (zbuz _ k1 k2 (by simp; omega)) (Ev.ret' (by simp))
 ·rw [if_neg e, if_pos e1]
  exact Ev.bind (zbuz _ k3 (by omega) (by simp; omega)) (Ev.ret' (by simp))
 ·rw [if_neg e, if_neg e1, if_pos e2]
  exact Ev.bind (zbuz _ k5 k6 (by simp; omega)) (Ev.ret' (by simp))
 ·rw [if_neg e, if_neg e1, if_neg e2, if_pos e3]
  exact Ev.bind (zbvc _ k7 (by simp; omega)) (Ev.ret' (by simp))
 ·rw [if_neg e, if_neg e1, if_neg e2, if_neg e3]
  exact Ev.bind (zbu3 _ (zbva (by omega) (by omega)) (by simp; omega)) (Ev.ret' (by simp))
def fieldsB (r : zjs) : List Int → List Int
 | [] => []
 | f :: l => (put f ++ valB f r) ++ fieldsB r l
theorem zbvf {r : zjs} (h : FitsR r) (L : List Int) (z2 x2 : Bool) (hL : ∀ f ∈ L, 1 ≤ f ∧ f ≤ 5) (hn : L.length ≤ 5) : ∀ (k i : Nat) (l : List Int) (x : Bool), L.length = i + k → l.length + 40 * k ≤ 4294967296 →
  Ev (fun q => zku q (L.length : Int) (i : Int) r.Index r.Proc r.Seq r.Op.Code r.Op.A r.Op.B r.Resp false l x z2 L x2) (⟨false, x, l ++ fieldsB r (L.drop i)⟩, 0)
 | 0, i, l, x, hk, hl => by
  refine Ev.succ (Ev.neg (by omega) (Ev.ret' ?_)) (fun q => rfl)
  rw [List.drop_of_length_le (by omega)]; simp [fieldsB]
 | k + 1, i, l, x, hk, hl => by
  have hi : i < L.length := by omega
  have hg : L[(i : Int).toNat]? = some L[i] := by simpa using List.getElem?_eq_getElem hi
  obtain ⟨f1, f2⟩ := hL L[i] (List.getElem_mem hi)
  refine Ev.succ ?_ (fun q => rfl)
  refine Ev.pos (by omega) (Ev.pos (by omega) (Ev.pos (by simpa using hi) (Ev.opt hg ?_)))
  refine Ev.bind (zbve (r := r) ⟨false, x, l⟩ h f1 f2 (by simp; omega)) ?_
  have hlen : (put L[i] ++ valB L[i] r).length ≤ 40 := by
   have := zbuy L[i]; have := zbvd (f := L[i]) h; simp; omega
  have := zbvf h L z2 x2 hL hn k (i + 1) (l ++ (put L[i] ++ valB L[i] r)) x (by omega) (by simp only [List.length_append] at hlen ⊢; omega)
  rw [zbuo (by omega) (by omega)]
  rw [show ((i : Int) + 1) = ((i + 1 : Nat) : Int) by omega]
  refine this.cast ?_
  rw [List.drop_eq_getElem_cons hi]
  simp [fieldsB]
def fieldsOf (v : Int) : List Int := if v = 1 then [1, 2, 4] else if v = 2 then [1, 2, 3, 4] else [1, 2, 3, 4, 5]
theorem zbvg {v : Int} (h : v < 1 ∨ 3 < v) : Ev (fun q => zks q v) ⟨true, true, []⟩ := by
 refine Ev.succ (Ev.ite (fun h => Ev.ret _) fun h1 => Ev.pos (by omega) (Ev.ret _)) (fun q => rfl)
theorem zbvh {v : Int} (h1 : 1 ≤ v) (h2 : v ≤ 3) : Ev (fun q => zks q v) ⟨false, true, fieldsOf v⟩ := by
 refine Ev.succ (Ev.neg (by omega) (Ev.neg (by omega) (Ev.pos (by omega) (Ev.pos (by omega) (Ev.neg (by omega) ?_))))) (fun q => rfl)
 unfold fieldsOf
 refine Ev.ite (fun h => ?_) fun h => Ev.ite (fun h1 => ?_) fun h1 => Ev.pos (by omega) ?_
 ·rw [if_pos (by omega)]; exact Ev.ret _
 ·rw [if_neg (by omega), if_pos (by omega)]; exact Ev.ret _
 ·rw [if_neg (by omega), if_neg (by omega)]; exact Ev.ret _
theorem zbvi {v : Int} : (∀ f ∈ fieldsOf v, 1 ≤ f ∧ f ≤ 5) ∧ (fieldsOf v).length ≤ 5 := by
 unfold fieldsOf; split
 ·simp
 ·split <;> simp
def recB (v : Int) (r : zjs) : List Int := put v ++ fieldsB r (fieldsOf v)
theorem zbvj (v : Int) (r : zjs) : Ev (fun q => zkv q v r) (if v < 1 ∨ 3 < v then (⟨true, true, []⟩, 6) else if FitsR r then (⟨false, true, recB v r⟩, 0) else (⟨true, true, []⟩, 1)) := by
 refine Ev.succ ?_ (fun q => rfl)
 by_cases hv : v < 1 ∨ 3 < v
 ·rw [if_pos hv]; exact Ev.bind (zbvg hv) (Ev.pos rfl (Ev.ret _))
 ·rw [if_neg hv]
  refine Ev.bind (zbvh (by omega) (by omega)) (Ev.neg (by simp) (Ev.bind (zbu8 r) ?_))
  by_cases hf : FitsR r
  ·rw [if_pos hf]
   refine Ev.pos (by simpa using hf) (Ev.bind (zbuz _ (by omega) (by omega) (by simp)) ?_)
   have := zbvf hf (fieldsOf v) false true zbvi.1 zbvi.2 (fieldsOf v).length 0 (put v) true (by simp) (by
    have := zbuy v; have := (zbvi (v := v)).2; omega)
   simpa [recB] using this
  ·rw [if_neg hf]; exact Ev.neg (by simpa using hf) (Ev.ret _)
end Go.Dvm.I
set_option linter.all false
namespace Go.Dvm.I
open Go Go.Dvm
/-- The first place of a number. -/
def idxI (x : Int) : List Int → Nat → Int
 | [], _ => -1
 | a :: l, i => if x = a then (i : Int) else idxI x l (i + 1)
theorem zbvk {x : Int} : ∀ {l : List Int} {i : Nat}, 0 ≤ idxI x l i ↔ x ∈ l
 | [], i => by simp [idxI]
 | a :: l, i => by
  simp only [idxI, List.mem_cons]
  by_cases h : x = a
  ·simp [h]
  ·rw [if_neg h, zbvk]; simp [h]
theorem zbvl (z : Bool) (L : List Int) (x : Int) (hL : L.length ≤ 1000000) : ∀ (k i : Nat), L.length = i + k → Ev (fun q => zls q z L x (L.length : Int) (i : Int)) (idxI x (L.drop i) i)
 | 0, i, hk => by
  refine Ev.succ (Ev.neg (by omega) (Ev.ret' ?_)) (fun q => rfl)
  rw [List.drop_of_length_le (by omega)]; rfl
 | k + 1, i, hk => by
  have hi : i < L.length := by omega
  have hg : L[(i : Int).toNat]? = some L[i] := by simpa using List.getElem?_eq_getElem hi
  refine Ev.succ (Ev.pos (by omega) (Ev.pos (by omega) (Ev.opt hg ?_))) (fun q => rfl)
  rw [List.drop_eq_getElem_cons hi]
  simp only [idxI]
  refine Ev.ite (fun h => ?_) fun h => ?_
  ·rw [if_pos h]; exact Ev.ret _
  ·rw [if_neg h, zbuo (by omega) (by omega), show ((i : Int) + 1) = ((i + 1 : Nat) : Int) by omega]
   exact zbvl z L x hL k (i + 1) (by omega)
theorem zbvm (s : Sl Int) (x : Int) (hL : s.l.length ≤ 1000000) : Ev (fun q => zlt q s x) (idxI x s.l 0) := by
 have := zbvl s.z s.l x hL s.l.length 0 (by simp)
 rw [List.drop_zero] at this
 exact Ev.succ this (fun q => rfl)
def noR : zjs := ⟨0, 0, 0, ⟨0, 0, 0⟩, 0⟩
def upR (v : Int) (r : zjs) : zjs := ⟨r.Index, r.Proc, if v < 2 then 0 else r.Seq, r.Op, if v < 3 then 0 else r.Resp⟩
theorem zbvn {a b : Int} {x y : List Int} (h1 : 0 ≤ a ∧ a < 4611686018427387904) (h2 : 0 ≤ b ∧ b < 4611686018427387904) (h : put a ++ x = put b ++ y) : a = b ∧ x = y := by
 rw [put_ok h1.1 h1.2, put_ok h2.1 h2.2] at h
 obtain ⟨e, h⟩ := zbuv h
 exact ⟨by omega, h⟩
theorem zbvo {a b : zjs} (h1 : a.Index = b.Index) (h2 : a.Proc = b.Proc) (h3 : a.Seq = b.Seq) (h4 : a.Op = b.Op) (h5 : a.Resp = b.Resp) : a = b := by cases a; cases b; simp_all
theorem zbvp {v : Int} {r : zjs} (h : FitsR r) : FitsR (upR v r) := by
 obtain ⟨a1, a2, a3, a4, a5, a6, a7, a8, a9⟩ := h
 refine ⟨a1, a2, a3, a4, ?_, ?_, a7, ?_, ?_⟩ <;> simp only [upR] <;> split <;> omega
end Go.Dvm.I
set_option linter.all false
namespace Go.Dvm.I
open Go Go.Dvm
theorem zbvq (v : Int) (r : zjs) : Ev (fun q => zmc q v r) (if v < 1 ∨ 3 < v then (noR, 6) else (upR v r, 0)) := by
 refine Ev.succ (Ev.ite (fun h => ?_) fun h => Ev.ite (fun h1 => ?_) fun h1 => ?_) (fun q => rfl)
 ·rw [if_pos (.inl h)]; exact Ev.ret _
 ·rw [if_pos (.inr h1)]; exact Ev.ret _
 ·rw [if_neg (show ¬ (v < 1 ∨ 3 < v) by omega)]
  refine Ev.ite (fun h2 => Ev.ite (fun h3 => Ev.ret' ?_) fun h3 => Ev.ret' ?_) fun h2 => Ev.ite (fun h3 => Ev.ret' ?_) fun h3 => Ev.ret' ?_ <;> simp [upR, h2, h3]
end Go.Dvm.I
set_option linter.all false
set_option maxRecDepth 100000
namespace Go.Dvm.I
open Go Go.Dvm
abbrev B32 := BitVec 32
def u (a : B32) : Int := (a.toNat : Int)
theorem u_nn (a : B32) : 0 ≤ u a := Int.natCast_nonneg _
theorem u_lt (a : B32) : u a < 4294967296 := by unfold u; have := a.isLt; omega
theorem zbvr (a : B32) : BitVec.ofInt 32 (u a) = a := by
 apply BitVec.eq_of_toNat_eq; rw [BitVec.toNat_ofInt]; unfold u; have := a.isLt; omega
theorem wrp_u (a : B32) : IntKind.wrap .u32 ((a.toNat : Nat) : Int) = u a := by
 have := a.isLt
 rw [zbu0, zbuq (by omega) (by omega)]; rfl
theorem xor_u (a b : B32) : ibits .xor .u32 (u a) (u b) = u (a ^^^ b) := by
 have e : ibits .xor .u32 (u a) (u b) = IntKind.wrap .u32 (((BitVec.ofInt 32 (u a) ^^^ BitVec.ofInt 32 (u b) : B32).toNat : Nat) : Int) := by unfold ibits; rfl
 rw [e, zbvr, zbvr, wrp_u]
theorem and_u (a b : B32) : ibits .and .u32 (u a) (u b) = u (a &&& b) := by
 have e : ibits .and .u32 (u a) (u b) = IntKind.wrap .u32 (((BitVec.ofInt 32 (u a) &&& BitVec.ofInt 32 (u b) : B32).toNat : Nat) : Int) := by unfold ibits; rfl
 rw [e, zbvr, zbvr, wrp_u]
theorem u_lit (n : Nat) (h : n < 4294967296) : u (BitVec.ofNat 32 n) = (n : Int) := by
 unfold u; rw [BitVec.toNat_ofNat]; omega
theorem zbvs (x : Int) : wrp .u32 x = x % 4294967296 := by
 unfold wrp; simp [IntKind.wrap, IntKind.signed, IntKind.bits]
theorem ishr_u (a : B32) (k : Nat) (hk : k ≤ 32) : ishr .u32 (u a) (k : Int) = u (a >>> k) := by
 unfold ishr u
 simp only [IntKind.bits, Int.toNat_natCast, Nat.min_eq_left hk]
 rw [Int.fdiv_eq_ediv_of_nonneg _ (by exact_mod_cast Nat.zero_le _), BitVec.toNat_ushiftRight, Nat.shiftRight_eq_div_pow]
 simp
theorem zbvt (a : B32) : ishr .u32 (u a) 1 = u (a >>> 1) := ishr_u a 1 (by omega)
theorem zbvu (a : B32) : ishr .u32 (u a) 8 = u (a >>> 8) := ishr_u a 8 (by omega)
def poly : B32 := 2197175160#32
def bstep (a : B32) : B32 := if a &&& 1#32 = 1#32 then (a >>> 1) ^^^ poly else a >>> 1
theorem and1 (a : B32) : a &&& 1#32 = 0#32 ∨ a &&& 1#32 = 1#32 := by
 have : (a &&& 1#32).toNat = a.toNat % 2 := by rw [BitVec.toNat_and]; exact Nat.and_one_is_mod _
 rcases Nat.mod_two_eq_zero_or_one a.toNat with h | h
 ·left; exact BitVec.eq_of_toNat_eq (by rw [this, h]; rfl)
 ·right; exact BitVec.eq_of_toNat_eq (by rw [this, h]; rfl)
/-- The program's step. -/
theorem zbvv (a : B32) : ibits .xor .u32 (ishr .u32 (u a) 1) (ibits .and .u32 2197175160 (wrp .u32 (0 - (ibits .and .u32 (u a) 1)))) = u (bstep a) := by
 have e1 : (1 : Int) = u 1#32 := rfl
 have e2 : (2197175160 : Int) = u poly := by unfold poly; rw [u_lit _ (by omega)]; rfl
 rw [zbvt]
 conv => lhs; arg 4; rw [e2]; arg 4; rw [e1, and_u]
 unfold bstep
 rcases and1 a with h | h
 ·rw [h, if_neg (by decide)]
  have : wrp .u32 (0 - u 0#32) = u 0#32 := by rw [zbvs]; rfl
  rw [this, and_u, BitVec.and_zero, xor_u, BitVec.xor_zero]
 ·rw [h, if_pos rfl]
  have : wrp .u32 (0 - u 1#32) = u (BitVec.allOnes 32) := by rw [zbvs]; rfl
  rw [this, and_u, BitVec.and_allOnes, xor_u]
def biter : Nat → B32 → B32
 | 0, a => a
 | n + 1, a => biter n (bstep a)
def bentry (a : B32) : B32 := biter 8 a
theorem zbvw (v2 v5 : Int) (t0 t1 : List Int) (r : List Int) : ∀ (k : Nat) (a : B32) (v10 : Int), v10 = 8 - k → k ≤ 8 → 0 ≤ v2 → v2.toNat < 256 → v2.toNat + 1 ≤ t1.length →
  Ev (fun q => zjy q (wrp .i64 (v5 + 1)) t0 (List.set t1 v2.toNat (u (biter k a)))) r → Ev (fun q => zjz q v2 (u a) v5 v10 t0 t1) r
 | 0, a, v10, h1, h2, h3, h4, h5, h => Ev.succ (Ev.neg (by omega) (Ev.pos h3 (Ev.pos h4 (Ev.pos h5 h)))) (fun q => rfl)
 | k + 1, a, v10, h1, h2, h3, h4, h5, h => by
  refine Ev.succ (Ev.pos (by omega) ?_) (fun q => rfl)
  rw [zbvv, zbuo (by omega) (by omega)]
  exact zbvw v2 v5 t0 t1 r k (bstep a) (v10 + 1) (by omega) (by omega) h3 h4 h5 h
/-- The table. -/
def tabN (n : Nat) : List Int := (List.range n).map fun i => u (bentry (BitVec.ofNat 32 i))
theorem zbvx {n i : Nat} (h : i < n) : (tabN n)[i]? = some (u (bentry (BitVec.ofNat 32 i))) := by
 unfold tabN; rw [List.getElem?_map, List.getElem?_range h]; rfl
theorem zbvy (n : Nat) : (tabN n).length = n := by simp [tabN]
theorem zbvz : ∀ (k i : Nat) (t1 : List Int), i + k = 256 → t1.length = 256 → (∀ j, j < i → t1[j]? = (tabN 256)[j]?) → Ev (fun q => zjy q (i : Int) (List.replicate 256 0) t1) (tabN 256)
 | 0, i, t1, hk, hl, ht => by
  refine Ev.succ (Ev.neg (by omega) (Ev.pos (by omega) (Ev.pos (by omega) (Ev.pos (by simp) (Ev.pos (by simp) (Ev.ret' ?_)))))) (fun q => rfl)
  have e : t1 = tabN 256 := by
   apply List.ext_getElem?
   intro j
   by_cases hj : j < 256
   ·exact ht j (by omega)
   ·rw [List.getElem?_eq_none (by omega), List.getElem?_eq_none (by rw [zbvy]; omega)]
  have h2 := zbvy 256
  rw [e, List.take_of_length_le (i := 256) (by omega : (tabN 256).length ≤ 256), List.drop_of_length_le (by simp), List.append_nil, List.take_of_length_le (by omega)]
 | k + 1, i, t1, hk, hl, ht => by
  refine Ev.succ (Ev.pos (by omega) ?_) (fun q => rfl)
  have e : wrp .u32 (i : Int) = u (BitVec.ofNat 32 i) := by rw [u_lit _ (by omega), zbuq] <;> omega
  rw [e]
  refine zbvw _ _ _ _ _ 8 _ 0 (by omega) (by omega) (by omega) (by omega) (by omega) ?_
  rw [zbuo (by omega) (by omega), show ((i : Int) + 1) = ((i + 1 : Nat) : Int) by omega, Int.toNat_natCast]
  refine zbvz k (i + 1) _ (by omega) (by simpa using hl) fun j hj => ?_
  by_cases e : i = j
  ·subst e; rw [List.getElem?_set_self (by omega), zbvx (by omega)]; rfl
  ·rw [List.getElem?_set_ne e]; exact ht j (by omega)
theorem zbv0 : Ev (fun q => zj0 q) (tabN 256) :=
 Ev.succ (zbvz 256 0 (List.replicate 256 0) (by omega) (by simp) (fun j hj => by omega)) (fun q => rfl)
/-- What a byte makes of a sum. -/
def bbyte (x : B32) (c : Int) : B32 := bentry ((x ^^^ BitVec.ofInt 32 c) &&& 255#32) ^^^ (x >>> 8)
def bmore (x : B32) (l : List Int) : B32 := l.foldl bbyte x
def isB (l : List Int) : Prop := ∀ c ∈ l, 0 ≤ c ∧ c < 256
theorem xor8 {x : B32} {c : Int} (h1 : 0 ≤ c) (h2 : c < 256) : ibits .xor .u8 (wrp .u8 (u x)) c = u ((x ^^^ BitVec.ofInt 32 c) &&& 255#32) := by
 have e : ibits .xor .u8 (wrp .u8 (u x)) c = IntKind.wrap .u8 (((BitVec.ofInt 8 (wrp .u8 (u x)) ^^^ BitVec.ofInt 8 c : BitVec 8).toNat : Nat) : Int) := by unfold ibits; rfl
 rw [e, zbu0, wrp_u8, wrp_u8]
 unfold u
 rw [BitVec.toNat_and, BitVec.toNat_xor, BitVec.toNat_xor, BitVec.toNat_ofInt, BitVec.toNat_ofInt, BitVec.toNat_ofInt]
 obtain ⟨n, rfl⟩ := Int.eq_ofNat_of_zero_le h1
 have hn : n < 256 := by omega
 have e1 : (((x.toNat : Int) % 256 % ((2 ^ 8 : Nat) : Int)).toNat) = x.toNat % 256 := by omega
 have e2 : (((n : Int) % ((2 ^ 8 : Nat) : Int)).toNat) = n := by omega
 have e3 : (((n : Int) % ((2 ^ 32 : Nat) : Int)).toNat) = n := by omega
 rw [e1, e2, e3, show (255#32).toNat = 2 ^ 8 - 1 from rfl, Nat.and_two_pow_sub_one_eq_mod]
 have h3 : (x.toNat ^^^ n) % 2 ^ 8 = (x.toNat % 2 ^ 8) ^^^ (n % 2 ^ 8) := Nat.xor_mod_two_pow
 rw [h3, Nat.mod_eq_of_lt (show n < 2 ^ 8 by omega)]
 have h4 : (x.toNat % 2 ^ 8) ^^^ n < 2 ^ 8 := Nat.xor_lt_two_pow (Nat.mod_lt _ (by omega)) (by omega)
 simp only [Nat.reducePow] at h4 ⊢
 omega
theorem and255 (x : B32) : u (x &&& 255#32) < 256 := by
 unfold u
 rw [BitVec.toNat_and, show (255#32).toNat = 2 ^ 8 - 1 from rfl, Nat.and_two_pow_sub_one_eq_mod]; omega
theorem zbv1 (a : B32) : (u a).toNat = a.toNat := by unfold u; omega
theorem ones : (4294967295 : Int) = u (BitVec.allOnes 32) := rfl
theorem zbv2 (z : Bool) (l : List Int) (hb : isB l) (hl : l.length ≤ 1099511627776) : ∀ (k i : Nat) (x : B32), l.length = i + k → Ev (fun q => zj1 q (u x) z l (l.length : Int) (i : Int) (tabN 256)) (u (~~~ bmore x (l.drop i)))
 | 0, i, x, hk => by
  refine Ev.succ (Ev.neg (by omega) (Ev.ret' ?_)) (fun q => rfl)
  rw [List.drop_of_length_le (by omega), ones, xor_u]
  simp only [bmore, List.foldl_nil, BitVec.allOnes_xor]
 | k + 1, i, x, hk => by
  have hi : i < l.length := by omega
  have hg : l[(i : Int).toNat]? = some l[i] := by simpa using List.getElem?_eq_getElem hi
  obtain ⟨b1, b2⟩ := hb l[i] (List.getElem_mem hi)
  refine Ev.succ (Ev.pos (by omega) (Ev.pos (by omega) (Ev.opt hg ?_))) (fun q => rfl)
  rw [xor8 b1 b2]
  have h255 := and255 (x ^^^ BitVec.ofInt 32 l[i])
  have hnn := u_nn ((x ^^^ BitVec.ofInt 32 l[i]) &&& 255#32)
  refine Ev.pos hnn (Ev.pos (by omega) (Ev.opt (zbvx (by omega)) ?_))
  rw [zbvu, xor_u, zbuo (by omega) (by omega), show ((i : Int) + 1) = ((i + 1 : Nat) : Int) by omega, zbv1]
  have := zbv2 z l hb hl k (i + 1) (bentry ((x ^^^ BitVec.ofInt 32 l[i]) &&& 255#32) ^^^ (x >>> 8)) (by omega)
  rw [List.drop_eq_getElem_cons hi]
  simp only [bmore, List.foldl_cons, bbyte, BitVec.ofNat_toNat, BitVec.setWidth_eq] at this ⊢
  exact this
theorem zbv3 (x : B32) (s : Sl Int) (hb : isB s.l) (hl : s.l.length ≤ 1099511627776) : Ev (fun q => zj2 q (u x) s) (u (~~~ bmore (~~~ x) s.l)) := by
 refine Ev.succ (Ev.bind zbv0 (Ev.pos (zbvy 256) ?_)) (fun q => rfl)
 rw [ones, xor_u, BitVec.allOnes_xor]
 have := zbv2 s.z s.l hb hl s.l.length 0 (~~~ x) (by omega)
 rw [List.drop_zero] at this
 exact this
/-- The sum of bytes. -/
def bsum (l : List Int) : B32 := ~~~ bmore (BitVec.allOnes 32) l
theorem zbv4 (s : Sl Int) (hb : isB s.l) (hl : s.l.length ≤ 1099511627776) : Ev (fun q => zj3 q s) (u (bsum s.l)) := by
 have := zbv3 0#32 s hb hl
 exact Ev.succ (Ev.bind this (Ev.ret' (by simp [bsum]))) (fun q => rfl)
theorem zbv5 (x : B32) (a b : List Int) : bmore (bmore x a) b = bmore x (a ++ b) := by simp [bmore]
end Go.Dvm.I
set_option linter.all false
set_option maxRecDepth 100000
namespace Go.Dvm.I
open Go Go.Dvm
theorem zbv6 {x : Int} (h : 0 ≤ x) (k : Nat) (hk : k ≤ 64) : ishr .u64 x (k : Int) = x / ((2 ^ k : Nat) : Int) := by
 unfold ishr
 simp only [IntKind.bits, Int.toNat_natCast, Nat.min_eq_left hk]
 rw [Int.fdiv_eq_ediv_of_nonneg _ (by exact_mod_cast Nat.zero_le _)]
 simp
/-- A number in four bytes. -/
def fix4 (v : Nat) : List Int := [((v % 256 : Nat) : Int), ((v / 256 % 256 : Nat) : Int), ((v / 65536 % 256 : Nat) : Int), ((v / 16777216 % 256 : Nat) : Int)]
theorem zbv7 (v k : Nat) (hk : k ≤ 8) : wrp .u8 (ishr .u64 (v : Int) (wrp .i64 (8 * (k : Int)))) = ((v / 2 ^ (8 * k) % 256 : Nat) : Int) := by
 rw [zbuo (by omega) (by omega), show (8 * (k : Int)) = ((8 * k : Nat) : Int) by omega, zbv6 (by omega) _ (by omega), wrp_u8]
 exact_mod_cast rfl
def bytesFrom (v : Nat) : Nat → Nat → List Int
 | _, 0 => []
 | i, k + 1 => ((v / 2 ^ (8 * i) % 256 : Nat) : Int) :: bytesFrom v (i + 1) k
theorem zbv8 {v m : Nat} (hm : m ≤ 8) : ∀ (k i : Nat) (l : List Int), m = i + k → l.length + k ≤ 4294967296 → Ev (fun q => zj4 q (v : Int) (m : Int) (i : Int) false l) ⟨false, true, l ++ bytesFrom v i k⟩
 | 0, i, l, hk, hl => Ev.succ (Ev.neg (by omega) (Ev.ret' (by simp [bytesFrom]))) (fun q => rfl)
 | k + 1, i, l, hk, hl => by
  have w : wrp .i64 (8 * (i : Int)) = 8 * (i : Int) := zbuo (by omega) (by omega)
  refine Ev.succ (Ev.pos (by omega) (Ev.neg (by rw [w]; omega) (Ev.pos (by omega) ?_))) (fun q => rfl)
  rw [zbv7 v i (by omega), zbuo (x := (i : Int) + 1) (by omega) (by omega), show ((i : Int) + 1) = ((i + 1 : Nat) : Int) by omega]
  refine (zbv8 hm k (i + 1) _ (by omega) (by simp; omega)).cast ?_
  simp [bytesFrom]
theorem zbv9 {v m : Nat} (h0 : 0 < m) (hm : m ≤ 8) : Ev (fun q => zj5 q (v : Int) (m : Int)) ⟨false, true, bytesFrom v 0 m⟩ := by
 obtain ⟨k, rfl⟩ : ∃ k, m = k + 1 := ⟨m - 1, by omega⟩
 have w : wrp .i64 (8 * ((0 : Nat) : Int)) = 0 := zbuo (by omega) (by omega)
 have key : ∀ i : Int, i = ((0 : Nat) : Int) → Ev (fun q => zj4 q (v : Int) ((k + 1 : Nat) : Int) i true []) ⟨false, true, bytesFrom v 0 (k + 1)⟩ := by
  intro i hi
  refine Ev.succ (Ev.pos (by omega) (Ev.neg (by rw [hi, w]; omega) (Ev.pos (by simp) ?_))) (fun q => rfl)
  rw [hi, zbv7 v 0 (by omega), zbuo (x := ((0 : Nat) : Int) + 1) (by omega) (by omega), show (((0 : Nat) : Int) + 1) = ((0 + 1 : Nat) : Int) by omega]
  refine (zbv8 hm k 1 _ (by omega) (by simp; omega)).cast ?_
  simp [bytesFrom]
 exact Ev.succ (key 0 rfl) (fun q => rfl)
theorem bytes4 (v : Nat) : bytesFrom v 0 4 = fix4 v := by simp [bytesFrom, fix4]
theorem zbwa {v : Nat} (h : v < 18446744073709551616) : Ev (fun q => zj5 q (v : Int) 4) ⟨false, true, fix4 v⟩ := by
 have := zbv9 (v := v) (m := 4) (by omega) (by omega)
 rw [bytes4] at this; exact this
theorem zbwb (a : B32) : Ev (fun q => zj6 q (u a)) ⟨false, true, fix4 a.toNat⟩ := by
 have h1 := u_nn a; have h2 := u_lt a
 have e : wrp .u64 (u a) = ((a.toNat : Nat) : Int) := by rw [zbup h1 (by omega)]; rfl
 exact Ev.succ (Ev.bind (by rw [e]; exact zbwa (by have := a.isLt; omega)) (Ev.ret _)) (fun q => rfl)
theorem zbwc (a b : Sl Int) (ha : isB a.l) (hb : isB b.l) (la : a.l.length ≤ 1099511627776) (lb : b.l.length ≤ 1099511627776) : Ev (fun q => zj7 q a b) ⟨false, true, fix4 (bsum (a.l ++ b.l)).toNat⟩ := by
 have h2 := zbv3 (bsum a.l) b hb lb
 have e : ~~~ bmore (~~~ bsum a.l) b.l = bsum (a.l ++ b.l) := by
  unfold bsum; rw [BitVec.not_not, zbv5]
 rw [e] at h2
 exact Ev.succ (Ev.bind (zbv4 a ha la) (Ev.bind h2 (Ev.bind (zbwb _) (Ev.ret _)))) (fun q => rfl)
def flat (l : List (Sl Int)) : List Int := l.flatMap (·.l)
theorem zbwd (a : Sl Int) (b : List (Sl Int)) : flat (a :: b) = a.l ++ flat b := by simp [flat]
theorem zbwe (z0 : Bool) (L : List (Sl Int)) (z : Bool) (hL : L.length ≤ 1099511627776) : ∀ (k i : Nat) (m : Nat) (l : List Int), L.length = i + k → m + (flat (L.drop i)).length ≤ l.length →
  Ev (fun q => zj8 q m z0 L (L.length : Int) (i : Int) z l) ⟨z, true, l.take m ++ flat (L.drop i)⟩
 | 0, i, m, l, hk, hl => by
  refine Ev.succ (Ev.neg (by omega) (Ev.ret' ?_)) (fun q => rfl)
  rw [List.drop_of_length_le (by omega)]; simp [flat]
 | k + 1, i, m, l, hk, hl => by
  have hi : i < L.length := by omega
  have hg : L[(i : Int).toNat]? = some L[i] := by simpa using List.getElem?_eq_getElem hi
  rw [List.drop_eq_getElem_cons hi, zbwd, List.length_append] at hl
  refine Ev.succ (Ev.pos (by omega) (Ev.pos (by omega) (Ev.opt hg (Ev.pos (by omega) ?_)))) (fun q => rfl)
  rw [zbuo (by omega) (by omega), show ((i : Int) + 1) = ((i + 1 : Nat) : Int) by omega]
  refine (zbwe z0 L z hL k (i + 1) (m + L[i].l.length) _ (by omega) ?_).cast ?_
  ·simp only [List.length_append, List.length_take, List.length_drop]; omega
  ·congr 1
   rw [List.drop_eq_getElem_cons hi, zbwd, ← List.append_assoc]
   congr 1
   rw [List.take_append_of_le_length (by simp only [List.length_append, List.length_take]; omega), List.take_of_length_le (by simp only [List.length_append, List.length_take]; omega)]
theorem zbwf (z0 : Bool) (L : List (Sl Int)) (hL : L.length ≤ 1099511627776) : ∀ (k i : Nat) (z : Bool) (l : List Int), L.length = i + k → l.length + (flat (L.drop i)).length ≤ 4294967296 →
  ∃ z', Ev (fun q => zj9 q z0 L (L.length : Int) (i : Int) z l) ⟨z', true, l ++ flat (L.drop i)⟩
 | 0, i, z, l, hk, hl => ⟨z, by
  refine Ev.succ (Ev.neg (by omega) (Ev.ret' ?_)) (fun q => rfl)
  rw [List.drop_of_length_le (by omega)]; simp [flat]⟩
 | k + 1, i, z, l, hk, hl => by
  have hi : i < L.length := by omega
  have hg : L[(i : Int).toNat]? = some L[i] := by simpa using List.getElem?_eq_getElem hi
  rw [List.drop_eq_getElem_cons hi, zbwd, List.length_append] at hl
  obtain ⟨z', h⟩ := zbwf z0 L hL k (i + 1) (z && (decide (L[i].l.length = 0))) (l ++ L[i].l) (by omega) (by simp only [List.length_append]; omega)
  refine ⟨z', Ev.succ (Ev.pos (by omega) (Ev.pos (by omega) (Ev.opt hg (Ev.pos (by omega) ?_)))) (fun q => rfl)⟩
  rw [zbuo (by omega) (by omega), show ((i : Int) + 1) = ((i + 1 : Nat) : Int) by omega]
  refine h.cast ?_
  rw [List.drop_eq_getElem_cons hi, zbwd]; simp
theorem zbwg (z0 z9 : Bool) (L : List (Sl Int)) (hL : L.length ≤ 1099511627776) (hf : (flat L).length ≤ 4294967296) : ∀ (k i : Nat) (m : Nat), L.length = i + k → m + (flat (L.drop i)).length = (flat L).length →
  ∃ z', Ev (fun q => zkb q z0 L (m : Int) z9 L (L.length : Int) (i : Int)) ⟨z', true, flat L⟩
 | 0, i, m, hk, hm => by
  rw [List.drop_of_length_le (by omega)] at hm
  have hm2 : m = (flat L).length := by simpa [flat] using hm
  have w : wrp .i64 ((m : Int) - wrp .i64 0) = (m : Int) := by rw [zbuo (x := 0) (by omega) (by omega), zbuo (by omega) (by omega)]; omega
  by_cases h0 : 0 < m
  ·refine ⟨decide (wrp .i64 ((m : Int) - wrp .i64 0) = 0), Ev.succ (Ev.neg (by omega) (Ev.neg (by omega) (Ev.pos (by rw [w]; omega) (Ev.pos (by rw [w]; omega) (Ev.pos (by rw [w]; omega) (Ev.neg (by rw [w]; omega) ?_)))))) (fun q => rfl)⟩
   rw [w]
   have := zbwe z0 L (decide ((m : Int) = 0)) hL L.length 0 0 (List.replicate (m : Int).toNat 0) (by omega) (by simp; omega)
   rw [List.drop_zero] at this
   exact this
  ·have hnil : flat L = [] := List.eq_nil_of_length_eq_zero (by omega)
   match L, hk with
   | [], _ =>
    refine ⟨true, Ev.succ (Ev.neg (by simp) (Ev.neg (by omega) ?_)) (fun q => rfl)⟩
    rw [w]
    refine Ev.neg (by omega) ?_
    exact Ev.succ (g := fun _ => some ⟨true, true, []⟩) (Ev.ret' (by simp [flat])) (fun q => rfl)
   | a :: L', hk =>
    rw [zbwd] at hnil
    obtain ⟨z', h⟩ := zbwf z0 (a :: L') hL L'.length 1 (decide (a.l.length = 0)) a.l (by simp; omega) (by
     have : flat (List.drop 1 (a :: L')) = flat L' := rfl
     rw [this, ← List.length_append, hnil]; simp)
    refine ⟨z', Ev.succ (Ev.neg (by omega) (Ev.neg (by omega) ?_)) (fun q => rfl)⟩
    rw [w]
    refine Ev.neg (by omega) (Ev.succ (Ev.pos (by simp) (Ev.opt (s := a) rfl (Ev.pos ?_ ?_))) (fun q => rfl))
    ·have : a.l.length ≤ (a.l ++ flat L').length := by simp
     rw [hnil] at this; simp at this; simp [this]
    ·rw [zbuo (by omega) (by omega)]
     refine h.cast ?_
     rw [zbwd]; rfl
 | k + 1, i, m, hk, hm => by
  have hi : i < L.length := by omega
  have hg : L[(i : Int).toNat]? = some L[i] := by simpa using List.getElem?_eq_getElem hi
  rw [List.drop_eq_getElem_cons hi, zbwd, List.length_append] at hm
  obtain ⟨z', h⟩ := zbwg z0 z9 L hL hf k (i + 1) (m + L[i].l.length) (by omega) (by omega)
  refine ⟨z', Ev.succ (Ev.pos (by omega) (Ev.pos (by omega) (Ev.opt hg ?_))) (fun q => rfl)⟩
  have w : wrp .i64 ((m : Int) + (L[i].l.length : Int)) = ((m + L[i].l.length : Nat) : Int) := by rw [zbuo (by omega) (by omega)]; omega
  rw [w, zbuo (by omega) (by omega), show ((i : Int) + 1) = ((i + 1 : Nat) : Int) by omega]
  exact Ev.neg (by omega) h
theorem zbwh (s : Sl (Sl Int)) (hL : s.l.length ≤ 1099511627776) (hf : (flat s.l).length ≤ 4294967296) : ∃ z', Ev (fun q => zkc q s) ⟨z', true, flat s.l⟩ := by
 obtain ⟨z', h⟩ := zbwg s.z s.z s.l hL hf s.l.length 0 0 (by omega) (by simp)
 exact ⟨z', Ev.succ h (fun q => rfl)⟩
theorem zbwi : ∀ n, isB (grp n) := by
 intro n
 induction n using Nat.strongRecOn with
 | ind n ih =>
  by_cases h : n < 128
  ·rw [grp_lt h]; intro c hc; simp at hc; omega
  ·rw [grp_ge h]; intro c hc
   rcases List.mem_cons.1 hc with rfl | hc
   ·omega
   ·exact ih (n / 128) (by omega) c hc
theorem zbwj (n : Int) : isB (put n) := by
 unfold put; split
 ·intro c hc; simp at hc
 ·split
  ·intro c hc; simp at hc
  ·exact zbwi _
theorem zbwk {a b : List Int} : isB (a ++ b) ↔ isB a ∧ isB b := by
 constructor
 ·intro h; exact ⟨fun c hc => h c (List.mem_append.2 (.inl hc)), fun c hc => h c (List.mem_append.2 (.inr hc))⟩
 ·rintro ⟨h1, h2⟩ c hc
  rcases List.mem_append.1 hc with h | h
  ·exact h1 c h
  ·exact h2 c h
/-- A frame. -/
def encF (l : List Int) : List Int := put (l.length : Int) ++ (l ++ fix4 (bsum (put (l.length : Int) ++ l)).toNat)
theorem zbwl (s : Sl Int) (hb : isB s.l) (hl : s.l.length ≤ 1048576) : ∃ z, Ev (fun q => zkd q s) (⟨z, true, encF s.l⟩, 0) := by
 have hp := zbuy (s.l.length : Int)
 obtain ⟨z, h⟩ := zbwh ⟨false, [⟨false, put (s.l.length : Int)⟩, s, ⟨false, fix4 (bsum (put (s.l.length : Int) ++ s.l)).toNat⟩]⟩ (by simp) (by simp [flat, fix4]; omega)
 refine ⟨z, Ev.succ (Ev.neg (by omega) ?_) (fun q => rfl)⟩
 refine Ev.bind (zbuz ⟨true, true, []⟩ (by omega) (by omega) (by simp)) ?_
 refine Ev.bind (zbwc ⟨false, put (s.l.length : Int)⟩ s (zbwj (s.l.length : Int)) hb (by simp only; omega) (by omega)) ?_
 refine Ev.bind h ?_
 exact Ev.ret' (by simp [encF, flat])
/-- How many bytes a frame has. -/
def sizeF (n : Int) : Int := if n < 0 then 0 else if 1048576 < n then 0 else (put n).length + 4 + n
theorem zbwm (n : Int) : Ev (fun q => zl1 q n) (sizeF n) := by
 have hp := zbuy n
 refine Ev.succ ?_ (fun q => rfl)
 unfold sizeF
 refine Ev.ite (fun h => ?_) fun h => Ev.ite (fun h1 => ?_) fun h1 => ?_
 ·rw [if_pos h]; exact Ev.ret _
 ·rw [if_neg h, if_pos h1]; exact Ev.ret _
 ·rw [if_neg h, if_neg h1]
  refine Ev.bind (zbuz ⟨true, true, []⟩ (by omega) (by omega) (by simp)) (Ev.ret' ?_)
  simp only [List.nil_append]
  rw [zbuo (x := ((put n).length : Int) + 4) (by omega) (by omega), zbuo (by omega) (by omega)]
theorem zbwn {l : List Int} (h : l.length ≤ 1048576) : ((encF l).length : Int) = sizeF l.length := by
 unfold sizeF; rw [if_neg (by omega), if_neg (by omega)]; simp [encF, fix4]; omega
end Go.Dvm.I
set_option linter.all false
set_option maxRecDepth 100000
namespace Go.Dvm.I
open Go Go.Dvm
/-- The number that bytes begin with, from the i-th group on. -/
def rd : Nat → List Int → Option (Nat × Nat)
 | _, [] => none
 | i, c :: l => if 10 ≤ i then none else if i = 9 ∧ 1 < c then none else if c = 0 ∧ 0 < i then none else if c < 128 then some (c.toNat, 1) else (rd (i + 1) l).map fun p => ((c % 128).toNat + 128 * p.1, p.2 + 1)
def resN : Option (Nat × Nat) → Int × Int
 | none => (0, 0)
 | some p => (p.1, p.2)
theorem and127 {x : Int} (h1 : 0 ≤ x) (h2 : x < 256) : ibits .and .u8 x 127 = x % 128 := by
 obtain ⟨n, rfl⟩ := Int.eq_ofNat_of_zero_le h1
 have hn : n < 256 := by omega
 have : ∀ m : Fin 256, ibits .and .u8 (m.val : Int) 127 = (m.val : Int) % 128 := by unfold ibits; decide +kernel
 exact this ⟨n, hn⟩
theorem or64 {a b : Nat} (ha : a < 18446744073709551616) (hb : b < 18446744073709551616) : ibits .or .u64 (a : Int) (b : Int) = ((a ||| b : Nat) : Int) := by
 have e : ibits .or .u64 (a : Int) (b : Int) = IntKind.wrap .u64 (((BitVec.ofInt 64 (a : Int) ||| BitVec.ofInt 64 (b : Int) : BitVec 64).toNat : Nat) : Int) := by unfold ibits; rfl
 have e1 : (BitVec.ofInt 64 (a : Int)).toNat = a := by rw [BitVec.toNat_ofInt]; omega
 have e2 : (BitVec.ofInt 64 (b : Int)).toNat = b := by rw [BitVec.toNat_ofInt]; omega
 have e3 : a ||| b < 2 ^ 64 := Nat.or_lt_two_pow (by omega) (by omega)
 rw [e, BitVec.toNat_or, e1, e2, zbu0, zbup (by omega) (by omega)]
theorem ishl64 {x k : Nat} (hk : k ≤ 64) : ishl .u64 (x : Int) (k : Int) = ((x * 2 ^ k % 18446744073709551616 : Nat) : Int) := by
 unfold ishl
 simp only [IntKind.bits, Int.toNat_natCast, Nat.min_eq_left hk]
 rw [zbu0, zbu1]
 have : ((x : Int) * 2 ^ k) = ((x * 2 ^ k : Nat) : Int) := by rw [Int.natCast_mul, Int.natCast_pow]; rfl
 rw [this]
 exact (Int.natCast_emod _ _).symm
theorem zbwo {acc i : Nat} {c : Int} (hi : i ≤ 9) (h1 : 0 ≤ c) (h2 : c < 256) (ha : acc < 2 ^ (7 * i)) (h9 : i = 9 → c ≤ 1) :
  ibits .or .u64 (acc : Int) (ishl .u64 (wrp .u64 (ibits .and .u8 c 127)) (wrp .i64 (7 * (i : Int)))) = ((acc + (c % 128).toNat * 2 ^ (7 * i) : Nat) : Int) ∧ acc + (c % 128).toNat * 2 ^ (7 * i) < 18446744073709551616 ∧ acc + (c % 128).toNat * 2 ^ (7 * i) < 2 ^ (7 * (i + 1)) := by
 have hm : (c % 128).toNat < 128 := by omega
 have hp : 2 ^ (7 * i) ≤ 2 ^ 63 := Nat.pow_le_pow_right (by omega) (by omega)
 have hp1 : 2 ^ (7 * (i + 1)) = 128 * 2 ^ (7 * i) := by rw [show 7 * (i + 1) = 7 + 7 * i by omega, Nat.pow_add]
 have h4 : acc + (c % 128).toNat * 2 ^ (7 * i) < 2 ^ (7 * (i + 1)) := by
  rw [hp1]
  have : ((c % 128).toNat + 1) * 2 ^ (7 * i) ≤ 128 * 2 ^ (7 * i) := Nat.mul_le_mul_right _ (by omega)
  rw [Nat.add_mul] at this; omega
 have h5 : acc + (c % 128).toNat * 2 ^ (7 * i) < 18446744073709551616 := by
  by_cases e : i = 9
  ·have hc := h9 e
   have : (c % 128).toNat ≤ 1 := by omega
   subst e
   have h6 : (c % 128).toNat * 2 ^ (7 * 9) ≤ 1 * 2 ^ (7 * 9) := Nat.mul_le_mul_right _ this
   simp only [Nat.reduceMul, Nat.reducePow] at ha h6 ⊢
   omega
  ·have : 2 ^ (7 * (i + 1)) ≤ 2 ^ 63 := Nat.pow_le_pow_right (by omega) (by omega)
   simp only [Nat.reducePow] at this
   omega
 refine ⟨?_, h5, h4⟩
 rw [and127 h1 h2, zbup (by omega) (by omega), zbuo (by omega) (by omega), show (7 * (i : Int)) = ((7 * i : Nat) : Int) by omega, show (c % 128) = (((c % 128).toNat : Nat) : Int) by omega, ishl64 (by omega)]
 have h6 : (c % 128).toNat * 2 ^ (7 * i) < 18446744073709551616 := by omega
 simp only [Int.toNat_natCast]
 rw [Nat.mod_eq_of_lt h6, or64 (by omega) h6]
 congr 1
 have := Nat.two_pow_add_eq_or_of_lt ha (c % 128).toNat
 rw [Nat.or_comm, Nat.mul_comm, ← this]; omega
theorem zbwp (z : Bool) (L : List Int) (hb : isB L) (m : Nat) (hm : m = min 10 L.length) : ∀ (k i acc : Nat), m = i + k → acc < 2 ^ (7 * i) →
  Ev (fun q => zk9 q z L (acc : Int) (m : Int) (i : Int)) (match rd i (L.drop i) with | none => (0, 0) | some p => (((acc + p.1 * 2 ^ (7 * i) : Nat) : Int), ((i + p.2 : Nat) : Int)))
 | 0, i, acc, hk, ha => by
  refine Ev.succ (Ev.neg (by omega) (Ev.ret' ?_)) (fun q => rfl)
  have : rd i (L.drop i) = none := by
   cases h : L.drop i with
   | nil => rfl
   | cons c l =>
    have : (L.drop i).length = l.length + 1 := by rw [h]; rfl
    rw [List.length_drop] at this
    simp only [rd]; rw [if_pos (by omega)]
  rw [this]
 | k + 1, i, acc, hk, ha => by
  have hi : i < L.length := by omega
  have hi9 : i ≤ 9 := by omega
  have hg : L[(i : Int).toNat]? = some L[i] := by simpa using List.getElem?_eq_getElem hi
  obtain ⟨b1, b2⟩ := hb L[i] (List.getElem_mem hi)
  have w7 : wrp .i64 (7 * (i : Int)) = 7 * (i : Int) := zbuo (by omega) (by omega)
  have wi : wrp .i64 ((i : Int) + 1) = ((i + 1 : Nat) : Int) := by rw [zbuo (by omega) (by omega)]; omega
  rw [List.drop_eq_getElem_cons hi]
  simp only [rd]
  rw [if_neg (by omega)]
  generalize hc : L[i] = c at hg b1 b2
  -- the ends
  have done : (i = 9 → c ≤ 1) → c < 128 → (((ibits .or .u64 (acc : Int) (ishl .u64 (wrp .u64 (ibits .and .u8 c 127)) (wrp .i64 (7 * (i : Int))))), (wrp .i64 ((i : Int) + 1))) : Int × Int) = (((acc + c.toNat * 2 ^ (7 * i) : Nat) : Int), ((i + 1 : Nat) : Int)) := by
   intro h9 h128
   rw [(zbwo hi9 b1 b2 ha h9).1, wi, show (c % 128).toNat = c.toNat by omega]
  have rest : i ≠ 9 → ¬ c < 128 → Ev (fun q => zk9 q z L (ibits .or .u64 (acc : Int) (ishl .u64 (wrp .u64 (ibits .and .u8 c 127)) (wrp .i64 (7 * (i : Int))))) (m : Int) (wrp .i64 ((i : Int) + 1))) (match (rd (i + 1) (L.drop (i + 1))).map (fun p => ((c % 128).toNat + 128 * p.1, p.2 + 1)) with | none => (0, 0) | some p => (((acc + p.1 * 2 ^ (7 * i) : Nat) : Int), ((i + p.2 : Nat) : Int))) := by
   intro h9 h128
   obtain ⟨g1, g2, g3⟩ := zbwo hi9 b1 b2 ha (fun e => absurd e h9)
   rw [g1, wi]
   refine (zbwp z L hb m hm k (i + 1) _ (by omega) g3).cast ?_
   cases rd (i + 1) (L.drop (i + 1)) with
   | none => rfl
   | some p =>
    simp only [Option.map_some]
    have : 2 ^ (7 * (i + 1)) = 128 * 2 ^ (7 * i) := by rw [show 7 * (i + 1) = 7 + 7 * i by omega, Nat.pow_add]
    rw [this]
    congr 2
    ·rw [Nat.add_mul, Nat.mul_assoc 128, Nat.mul_left_comm p.1 128]; omega
    ·omega
  refine Ev.succ (Ev.pos (by omega) (Ev.pos (by omega) (Ev.opt hg (Ev.neg (by rw [w7]; omega) ?_)))) (fun q => rfl)
  refine Ev.ite (fun h9 => Ev.ite (fun h1 => ?_) fun h1 => Ev.ite (fun h0 => Ev.pos (by omega) ?_) fun h0 => Ev.pos (by omega) ?_) fun h9 => Ev.ite (fun h0 => Ev.ite (fun hp => ?_) fun hp => Ev.pos (by omega) ?_) fun h0 => Ev.ite (fun h128 => ?_) fun h128 => ?_
  ·rw [if_pos ⟨by omega, h1⟩]; exact Ev.ret _
  ·rw [if_neg (by omega), if_pos ⟨h0, by omega⟩]; exact Ev.ret _
  ·rw [if_neg (by omega), if_neg (by omega), if_pos (by omega)]; exact Ev.ret' (done (by omega) (by omega))
  ·rw [if_neg (by omega), if_pos ⟨h0, by omega⟩]; exact Ev.ret _
  ·rw [if_neg (by omega), if_neg (by omega), if_pos (by omega)]; exact Ev.ret' (done (by omega) (by omega))
  ·rw [if_neg (by omega), if_neg (by omega), if_pos h128]; exact Ev.ret' (done (by omega) h128)
  ·rw [if_neg (by omega), if_neg (by omega), if_neg h128]; exact rest (by omega) h128
theorem zbwq (s : Sl Int) (hb : isB s.l) : Ev (fun q => zla q s) (resN (rd 0 s.l)) := by
 have h := zbwp s.z s.l hb (min 10 s.l.length) rfl (min 10 s.l.length) 0 0 (by omega) (by simp)
 have e : (if 10 < (s.l.length : Int) then 10 else (s.l.length : Int)) = ((min 10 s.l.length : Nat) : Int) := by split <;> omega
 refine Ev.succ (g := fun q => zk9 q s.z s.l 0 (if 10 < (s.l.length : Int) then 10 else (s.l.length : Int)) 0) ?_ (fun q => rfl)
 rw [e]
 refine h.cast ?_
 rw [List.drop_zero]
 cases rd 0 s.l with
 | none => rfl
 | some p => simp [resN]
def getN (l : List Int) : Int × Int := match rd 0 l with
 | none => (0, 0)
 | some p => if 4611686018427387904 ≤ p.1 then (0, 0) else ((p.1 : Int), (p.2 : Int))
theorem zbwr (s : Sl Int) (hb : isB s.l) : Ev (fun q => zlb q s) (getN s.l) := by
 refine Ev.succ (Ev.bind (zbwq s hb) ?_) (fun q => rfl)
 unfold getN
 cases rd 0 s.l with
 | none => exact Ev.neg (by simp [resN]) (Ev.ret' (by rw [zbuo] <;> simp [resN]))
 | some p =>
  simp only [resN]
  refine Ev.ite (fun h => ?_) fun h => ?_
  ·rw [if_pos (by omega)]; exact Ev.ret _
  ·rw [if_neg (by omega), zbuo (by omega) (by omega)]; exact Ev.ret _
theorem rd_len : ∀ {l : List Int} {i : Nat} {p : Nat × Nat}, rd i l = some p → 1 ≤ p.2 ∧ p.2 ≤ l.length ∧ i + p.2 ≤ 10
 | [], i, p, h => by simp [rd] at h
 | c :: l, i, p, h => by
  simp only [rd] at h
  split at h
  ·cases h
  ·split at h
   ·cases h
   ·split at h
    ·cases h
    ·split at h
     ·simp at h; subst h; simp; omega
     ·cases hr : rd (i + 1) l with
      | none => simp [hr] at h
      | some r =>
       simp [hr] at h; subst h
       have := rd_len hr
       simp; omega
theorem zbws {l : List Int} : 0 ≤ (getN l).2 ∧ (getN l).2 ≤ l.length ∧ (getN l).2 ≤ 10 ∧ 0 ≤ (getN l).1 ∧ (getN l).1 < 4611686018427387904 := by
 unfold getN
 cases h : rd 0 l with
 | none => simp
 | some p =>
  have := rd_len h
  simp only
  split <;> simp <;> omega
/-- What was put is read. -/
theorem rd_grp : ∀ {n : Nat} {i : Nat} {x : List Int}, n < 2 ^ (64 - 7 * i) → i ≤ 9 → (0 < i → n ≠ 0) → rd i (grp n ++ x) = some (n, (grp n).length) := by
 intro n
 induction n using Nat.strongRecOn with
 | ind n ih =>
  intro i x h hi h0
  by_cases hn : n < 128
  ·rw [grp_lt hn]
   simp only [List.cons_append, List.nil_append, rd, List.length_cons, List.length_nil]
   rw [if_neg (by omega), if_neg ?_, if_neg (by omega), if_pos (by omega)]
   ·simp
   ·rintro ⟨rfl, h1⟩
    simp at h; omega
  ·rw [grp_ge hn]
   simp only [List.cons_append, rd, List.length_cons]
   have hi8 : i ≠ 9 := by rintro rfl; simp at h; omega
   rw [if_neg (by omega), if_neg (by omega), if_neg (by omega), if_neg (by omega)]
   have hd : n / 128 < 2 ^ (64 - 7 * (i + 1)) := by
    rw [Nat.div_lt_iff_lt_mul (by omega), show (128 : Nat) = 2 ^ 7 from rfl, ← Nat.pow_add]
    by_cases e : i ≤ 8
    ·rw [show 64 - 7 * (i + 1) + 7 = 64 - 7 * i by omega]; exact h
    ·omega
   rw [ih (n / 128) (by omega) hd (by omega) (by omega)]
   simp only [Option.map_some, Option.some.injEq, Prod.mk.injEq, and_true]
   omega
end Go.Dvm.I
set_option linter.all false
set_option maxRecDepth 100000
namespace Go.Dvm.I
open Go Go.Dvm
/-- Where the first byte below 128 stands. -/
def idxLow : List Int → Nat → Int
 | [], _ => -1
 | a :: l, i => if a < 128 then (i : Int) else idxLow l (i + 1)
def allHi (l : List Int) : Prop := ∀ c ∈ l, 128 ≤ c
instance (l : List Int) : Decidable (allHi l) := by unfold allHi; infer_instance
theorem zbwt : ∀ {l : List Int} {i : Nat}, ¬ 0 ≤ idxLow l i ↔ allHi l
 | [], i => by simp [idxLow, allHi]
 | a :: l, i => by
  have ih := zbwt (l := l) (i := i + 1)
  simp only [idxLow, allHi, List.mem_cons, forall_eq_or_imp] at ih ⊢
  by_cases h : a < 128
  ·rw [if_pos h]; constructor
   ·intro h'; omega
   ·rintro ⟨h1, _⟩; omega
  ·rw [if_neg h, ih]
   constructor
   ·intro h'; exact ⟨by omega, h'⟩
   ·exact fun h' => h'.2
theorem zbwu (z : Bool) (L : List Int) (hL : L.length ≤ 1099511627776) : ∀ (k i : Nat), L.length = i + k → Ev (fun q => zk6 q z L (L.length : Int) (i : Int)) (idxLow (L.drop i) i)
 | 0, i, hk => by
  refine Ev.succ (Ev.neg (by omega) (Ev.ret' ?_)) (fun q => rfl)
  rw [List.drop_of_length_le (by omega)]; rfl
 | k + 1, i, hk => by
  have hi : i < L.length := by omega
  have hg : L[(i : Int).toNat]? = some L[i] := by simpa using List.getElem?_eq_getElem hi
  have h1 : Ev (fun q => zk5 q L[i]) (decide (L[i] < 128)) := Ev.succ (Ev.ret _) (fun q => rfl)
  refine Ev.succ (Ev.pos (by omega) (Ev.pos (by omega) (Ev.opt hg (Ev.bind h1 ?_)))) (fun q => rfl)
  rw [List.drop_eq_getElem_cons hi]
  simp only [idxLow]
  refine Ev.ite (fun h => ?_) fun h => ?_
  ·rw [if_pos (by simpa using h)]; exact Ev.ret _
  ·rw [if_neg (by simpa using h), zbuo (by omega) (by omega), show ((i : Int) + 1) = ((i + 1 : Nat) : Int) by omega]
   exact zbwu z L hL k (i + 1) (by omega)
def openB (l : List Int) : Bool := decide (l.length < 10 ∧ allHi l)
theorem zbwv (s : Sl Int) : Ev (fun q => zk8 q s) (openB s.l) := by
 refine Ev.succ (Ev.ite (fun h => ?_) fun h => Ev.ret' ?_) (fun q => rfl)
 ·have := zbwu s.z s.l (by omega) s.l.length 0 (by omega)
  rw [List.drop_zero] at this
  refine Ev.bind (Ev.succ this (fun q => rfl)) (Ev.ret' ?_)
  unfold openB
  rw [← decide_not, decide_eq_decide, zbwt]
  exact ⟨fun h1 => ⟨by omega, h1⟩, fun h1 => h1.2⟩
 ·unfold openB
  symm; rw [decide_eq_false_iff_not]; omega
theorem zbww (z z2 : Bool) (A B : List Int) (hl : A.length = B.length) (hL : A.length ≤ 1099511627776) : ∀ (k i : Nat), A.length = i + k → Ev (fun q => zlc q z A z2 B (A.length : Int) (i : Int)) (decide (A.drop i = B.drop i))
 | 0, i, hk => by
  refine Ev.succ (Ev.neg (by omega) (Ev.ret' ?_)) (fun q => rfl)
  rw [List.drop_of_length_le (by omega), List.drop_of_length_le (by omega)]; simp
 | k + 1, i, hk => by
  have hi : i < A.length := by omega
  have hi2 : i < B.length := by omega
  have hg : A[(i : Int).toNat]? = some A[i] := by simpa using List.getElem?_eq_getElem hi
  have hg2 : B[(i : Int).toNat]? = some B[i] := by simpa using List.getElem?_eq_getElem hi2
  refine Ev.succ (Ev.pos (by omega) (Ev.pos (by omega) (Ev.opt hg (Ev.opt hg2 ?_)))) (fun q => rfl)
  rw [List.drop_eq_getElem_cons hi, List.drop_eq_getElem_cons hi2]
  refine Ev.ite (fun h => ?_) fun h => Ev.ret' (by symm; rw [decide_eq_false_iff_not]; intro e; exact h (List.cons.inj e).1)
  rw [zbuo (by omega) (by omega), show ((i : Int) + 1) = ((i + 1 : Nat) : Int) by omega]
  refine (zbww z z2 A B hl hL k (i + 1) (by omega)).cast ?_
  rw [decide_eq_decide, List.cons.injEq]; simp only [h, true_and]
theorem zbwx (a b : Sl Int) (hL : a.l.length ≤ 1099511627776) : Ev (fun q => zld q a b) (decide (a.l = b.l)) := by
 refine Ev.succ (Ev.ite (fun h => ?_) fun h => Ev.ret' ?_) (fun q => rfl)
 ·have := zbww a.z b.z a.l b.l (by omega) hL a.l.length 0 (by omega)
  rw [List.drop_zero, List.drop_zero] at this; exact this
 ·symm; rw [decide_eq_false_iff_not]; intro e; rw [e] at h; exact h rfl
/-- The data of the frame that bytes begin with, how many bytes it has, and the error. -/
def decF (l : List Int) : List Int × Int × Int :=
 if openB l = true then ([], 0, 2) else if (getN l).2 = 0 then ([], 0, 3) else if 1048576 < (getN l).1 then ([], 0, 5) else if (l.length : Int) < (getN l).2 + 4 + (getN l).1 then ([], 0, 2)
 else if (l.drop ((getN l).2 + (getN l).1).toNat).take 4 = fix4 (bsum (l.take ((getN l).2 + (getN l).1).toNat)).toNat then ((l.take ((getN l).2 + (getN l).1).toNat).drop (getN l).2.toNat, (getN l).2 + (getN l).1 + 4, 0) else ([], 0, 4)
theorem zbwy {l : List Int} (h : isB l) (n : Nat) : isB (l.take n) := fun c hc => h c (List.mem_of_mem_take hc)
theorem zbwz {l : List Int} (h : isB l) (n : Nat) : isB (l.drop n) := fun c hc => h c (List.mem_of_mem_drop hc)
theorem zbw0 (s : Sl Int) (hz : s.z = true → s.l = []) (hb : isB s.l) (hl : s.l.length ≤ 4294967296) : ∃ z, Ev (fun q => zlf q s) (⟨z, true, (decF s.l).1⟩, (decF s.l).2.1, (decF s.l).2.2) := by
 unfold decF
 by_cases h1 : openB s.l = true
 ·rw [if_pos h1]
  exact ⟨true, Ev.succ (Ev.bind (zbwv s) (Ev.pos h1 (Ev.ret _))) (fun q => rfl)⟩
 rw [if_neg h1]
 by_cases h2 : (getN s.l).2 = 0
 ·rw [if_pos h2]
  exact ⟨true, Ev.succ (Ev.bind (zbwv s) (Ev.neg h1 (Ev.bind (zbwr s hb) (Ev.pos h2 (Ev.ret _))))) (fun q => rfl)⟩
 rw [if_neg h2]
 by_cases h3 : 1048576 < (getN s.l).1
 ·rw [if_pos h3]
  exact ⟨true, Ev.succ (Ev.bind (zbwv s) (Ev.neg h1 (Ev.bind (zbwr s hb) (Ev.neg h2 (Ev.pos h3 (Ev.ret _)))))) (fun q => rfl)⟩
 rw [if_neg h3]
 obtain ⟨g1, g2, g3, g4, g5⟩ := zbws (l := s.l)
 generalize hk : (getN s.l).2 = k at *
 generalize hn : (getN s.l).1 = n at *
 have hg : getN s.l = (n, k) := by rw [← hk, ← hn]
 have hget := zbwr s hb
 rw [hg] at hget
 have w1 : wrp .i64 (k + 4) = k + 4 := zbuo (by omega) (by omega)
 have w2 : wrp .i64 (k + 4 + n) = k + 4 + n := zbuo (by omega) (by omega)
 have w3 : wrp .i64 (k + n) = k + n := zbuo (by omega) (by omega)
 have w4 : wrp .i64 (k + n + 4) = k + n + 4 := zbuo (by omega) (by omega)
 by_cases h4 : (s.l.length : Int) < k + 4 + n
 ·rw [if_pos h4]
  exact ⟨true, Ev.succ (Ev.bind (zbwv s) (Ev.neg h1 (Ev.bind hget (Ev.neg h2 (Ev.neg h3 (Ev.pos (by simp only; rw [w1, w2]; exact h4) (Ev.ret _))))))) (fun q => rfl)⟩
 rw [if_neg h4]
 have hzf : s.z = false := by
  cases hz' : s.z
  ·rfl
  ·have := hz hz'; rw [this] at h4; simp at h4; omega
 have hsum := zbwc ⟨s.z, List.take k.toNat s.l⟩ ⟨s.z, List.drop k.toNat (List.take (k + n).toNat s.l)⟩ (zbwy hb _) (zbwz (zbwy hb _) _) (by simp; omega) (by simp; omega)
 have heq := zbwx ⟨s.z, List.drop (k + n).toNat (List.take (k + n + 4).toNat s.l)⟩ ⟨false, fix4 (bsum (List.take k.toNat s.l ++ List.drop k.toNat (List.take (k + n).toNat s.l))).toNat⟩ (by simp; omega)
 have hcl : Ev (fun q => zle q ⟨s.z, List.drop k.toNat (List.take (k + n).toNat s.l)⟩) ⟨false, true, List.drop k.toNat (List.take (k + n).toNat s.l)⟩ :=
  Ev.succ (Ev.neg (by simp [hzf]) (Ev.pos (by simp; omega) (Ev.ret _))) (fun q => rfl)
 have ht : List.take k.toNat s.l ++ List.drop k.toNat (List.take (k + n).toNat s.l) = List.take (k + n).toNat s.l := by
  have := List.take_append_drop k.toNat (List.take (k + n).toNat s.l)
  rw [List.take_take, Nat.min_eq_left (by omega)] at this; exact this
 rw [ht] at heq hsum
 have hd : List.drop (k + n).toNat (List.take (k + n + 4).toNat s.l) = List.take 4 (List.drop (k + n).toNat s.l) := by
  rw [List.drop_take]; congr 1; omega
 rw [hd] at heq
 have pre : ∀ {r : Ow Int × Int × Int}, Ev (fun q => (zld q ⟨s.z, List.take 4 (List.drop (k + n).toNat s.l)⟩ ⟨false, fix4 (bsum (List.take (k + n).toNat s.l)).toNat⟩).bind fun r4 => (if r4 = true then ((zle q ⟨s.z, (List.drop k.toNat (List.take (k + n).toNat s.l))⟩).bind fun r5 => (some (r5, k + n + 4, 0))) else (some (⟨true, true, []⟩, 0, 4)))) r → Ev (fun q => zlf q s) r := by
  intro r h
  refine Ev.succ (Ev.bind (zbwv s) (Ev.neg h1 (Ev.bind hget (Ev.neg h2 (Ev.neg h3 ?_))))) (fun q => rfl)
  simp only [w1, w2, w3, w4]
  refine Ev.neg h4 (Ev.pos (by omega) (Ev.pos (by omega) (Ev.pos (by omega) (Ev.pos (by omega) (Ev.pos (by omega) (Ev.pos (by omega) (Ev.pos (by omega) (Ev.pos (by omega) (Ev.pos (by omega) (Ev.bind hsum ?_))))))))))
  rw [hd]
  exact h
 by_cases h5 : List.take 4 (List.drop (k + n).toNat s.l) = fix4 (bsum (List.take (k + n).toNat s.l)).toNat
 ·rw [if_pos h5]
  exact ⟨false, pre (Ev.bind heq (Ev.pos (by simpa using h5) (Ev.bind hcl (Ev.ret _))))⟩
 ·rw [if_neg h5]
  exact ⟨true, pre (Ev.bind heq (Ev.neg (by simpa using h5) (Ev.ret _)))⟩
theorem rd_put {n : Int} {x : List Int} (h1 : 0 ≤ n) (h2 : n < 4611686018427387904) : rd 0 (put n ++ x) = some (n.toNat, (put n).length) := by
 rw [put_ok h1 h2]; exact rd_grp (by simp; omega) (by omega) (by omega)
theorem zbw1 {n : Int} {x : List Int} (h1 : 0 ≤ n) (h2 : n < 4611686018427387904) : getN (put n ++ x) = (n, ((put n).length : Int)) := by
 unfold getN; rw [rd_put h1 h2]; simp only; rw [if_neg (by omega)]; simp; omega
theorem zbw2 : ∀ n, ∃ c ∈ grp n, c < 128 := by
 intro n
 induction n using Nat.strongRecOn with
 | ind n ih =>
  by_cases h : n < 128
  ·rw [grp_lt h]; exact ⟨_, List.mem_cons_self, by omega⟩
  ·rw [grp_ge h]
   obtain ⟨c, h1, h2⟩ := ih (n / 128) (by omega)
   exact ⟨c, List.mem_cons_of_mem _ h1, h2⟩
theorem zbw3 {n : Int} {x : List Int} (h1 : 0 ≤ n) (h2 : n < 4611686018427387904) : openB (put n ++ x) = false := by
 unfold openB; rw [decide_eq_false_iff_not]
 rintro ⟨_, h⟩
 obtain ⟨c, hc, hl⟩ := zbw2 n.toNat
 rw [put_ok h1 h2] at h
 have := h c (List.mem_append.2 (.inl hc)); omega
/-- A frame is decoded as what was framed. -/
theorem zbw4 {l x : List Int} (hl : l.length ≤ 1048576) : decF (encF l ++ x) = (l, ((encF l).length : Int), 0) := by
 have hp := zbuy (l.length : Int)
 unfold decF
 have e : encF l ++ x = put (l.length : Int) ++ (l ++ (fix4 (bsum (put (l.length : Int) ++ l)).toNat ++ x)) := by simp [encF]
 rw [e, zbw3 (by omega) (by omega), zbw1 (by omega) (by omega)]
 have ht : List.take (((put (l.length : Int)).length : Int) + (l.length : Int)).toNat (put (l.length : Int) ++ (l ++ (fix4 (bsum (put (l.length : Int) ++ l)).toNat ++ x))) = put (l.length : Int) ++ l := by
  rw [← List.append_assoc, List.take_left' (by simp; omega)]
 have hd : List.drop (((put (l.length : Int)).length : Int) + (l.length : Int)).toNat (put (l.length : Int) ++ (l ++ (fix4 (bsum (put (l.length : Int) ++ l)).toNat ++ x))) = fix4 (bsum (put (l.length : Int) ++ l)).toNat ++ x := by
  rw [← List.append_assoc, List.drop_left' (by simp; omega)]
 have hg := zbuu l.length
 have hpp : 1 ≤ (put (l.length : Int)).length := by rw [put_ok (by omega) (by omega)]; simpa using hg
 simp only [ht, hd]
 rw [if_neg (by simp), if_neg (by omega), if_neg (by omega), if_neg (by simp [fix4]; omega), if_pos (by simp [fix4])]
 simp [encF, fix4]
 omega
end Go.Dvm.I
set_option linter.all false
set_option maxRecDepth 100000
namespace Go.Dvm.I
open Go Go.Dvm
theorem rd_inv : ∀ {l : List Int} {i v k : Nat}, isB l → rd i l = some (v, k) → l.take k = grp v ∧ (0 < i → v ≠ 0)
 | [], i, v, k, hb, h => by simp [rd] at h
 | c :: l, i, v, k, hb, h => by
  obtain ⟨b1, b2⟩ := hb c List.mem_cons_self
  simp only [rd] at h
  split at h
  ·cases h
  ·split at h
   ·cases h
   ·split at h
    ·cases h
    ·rename_i h1 h2 h3
     split at h
     ·simp at h; obtain ⟨rfl, rfl⟩ := h
      refine ⟨?_, fun hi e => h3 ⟨by omega, hi⟩⟩
      rw [grp_lt (by omega)]; simp; omega
     ·cases hr : rd (i + 1) l with
      | none => simp [hr] at h
      | some r =>
       obtain ⟨v', k'⟩ := r
       simp [hr] at h
       obtain ⟨rfl, rfl⟩ := h
       obtain ⟨e1, e2⟩ := rd_inv (fun c hc => hb c (List.mem_cons_of_mem _ hc)) hr
       have hv := e2 (by omega)
       refine ⟨?_, fun _ => by omega⟩
       rw [grp_ge (by omega), List.take_succ_cons, e1]
       congr 1
       ·omega
       ·congr 1; omega
theorem zbw5 {l x : List Int} {n : Int} (hb : isB l) (h : decF l = (x, n, 0)) : x.length ≤ 1048576 ∧ 0 ≤ n ∧ n.toNat ≤ l.length ∧ 5 ≤ n ∧ encF x = l.take n.toNat := by
 unfold decF at h
 split at h
 ·simp at h
 split at h
 ·simp at h
 split at h
 ·simp at h
 split at h
 ·simp at h
 split at h
 ·rename_i h1 h2 h3 h4 h5
  obtain ⟨g1, g2, g3, g4, g5⟩ := zbws (l := l)
  have hrd : rd 0 l = some ((getN l).1.toNat, (getN l).2.toNat) := by
   unfold getN at h2 ⊢
   cases hr : rd 0 l with
   | none => rw [hr] at h2; simp at h2
   | some p =>
    rw [hr] at h2; simp only at h2 ⊢
    split at h2
    ·simp at h2
    ·rename_i hlt; rw [if_neg hlt]; simp
  obtain ⟨e1, _⟩ := rd_inv hb hrd
  generalize (getN l).2 = k at *
  generalize (getN l).1 = m at *
  simp only [Prod.mk.injEq, and_true] at h
  obtain ⟨hx, hn⟩ := h
  have hlx : x.length = m.toNat := by rw [← hx]; simp; omega
  refine ⟨by omega, by omega, by omega, by omega, ?_⟩
  have hput : put (x.length : Int) = l.take k.toNat := by
   rw [put_ok (by omega) (by omega), e1]; congr 1
  have hcat : l.take k.toNat ++ x = l.take (k + m).toNat := by
   rw [← hx]
   have := List.take_append_drop k.toNat (List.take (k + m).toNat l)
   rw [List.take_take, Nat.min_eq_left (by omega)] at this; exact this
  unfold encF
  rw [hput, hcat, ← h5, ← List.append_assoc, hcat, ← hn, show (k + m + 4).toNat = (k + m).toNat + 4 by omega, List.take_add]
 ·simp at h
theorem zbw6 {l : List Int} (hb : isB l) : isB (decF l).1 := by
 have nil : isB [] := fun c hc => by simp at hc
 unfold decF
 split; exact nil
 split; exact nil
 split; exact nil
 split; exact nil
 split
 ·exact zbwz (zbwy hb _) _
 ·exact nil
end Go.Dvm.I
set_option linter.all false
set_option maxRecDepth 100000
namespace Go.Dvm.I
open Go Go.Dvm
/-- The frames that bytes begin with, how many bytes these have, and what ends them. -/
def walkF : Nat → List Int → List (List Int) × Nat × Int
 | 0, _ => ([], 0, 0)
 | f + 1, l => if l = [] then ([], 0, 0) else if (decF l).2.2 = 0 then let w := walkF f (l.drop (decF l).2.1.toNat); ((decF l).1 :: w.1, (decF l).2.1.toNat + w.2.1, w.2.2) else ([], 0, (decF l).2.2)
theorem zbw7 {l : List Int} (hb : isB l) (h : (decF l).2.2 = 0) : 5 ≤ (decF l).2.1 ∧ (decF l).2.1.toNat ≤ l.length := by
 generalize hr : decF l = r at h
 obtain ⟨x, n, e⟩ := r
 simp only at h; subst h
 obtain ⟨k1, k2, k3, k4, k5⟩ := zbw5 hb hr
 exact ⟨k4, k3⟩
def allF (l : List Int) : List (List Int) × Nat × Int := walkF (l.length + 1) l
def allE (l : List Int) : List (List Int) × Int := if (allF l).2.2 = 0 then ((allF l).1, 0) else ([], (allF l).2.2)
theorem zbw8 : ∀ {f : Nat} {l : List Int}, isB l → (walkF f l).1.length ≤ l.length
 | 0, l, hb => by simp [walkF]
 | f + 1, l, hb => by
  simp only [walkF]
  split
  ·simp
  ·split
   ·rename_i h1 h2
    obtain ⟨k1, k2⟩ := zbw7 hb h2
    have := zbw8 (f := f) (zbwz hb (decF l).2.1.toNat)
    simp only [List.length_cons]
    rw [List.length_drop] at this
    omega
   ·simp
end Go.Dvm.I
set_option linter.all false
set_option maxRecDepth 100000
namespace Go.Dvm.I
open Go Go.Dvm
theorem zbw9 : ∀ {n m : Nat} {c : Int}, m < (grp n).length → c ∈ (grp n).take m → 128 ≤ c := by
 intro n
 induction n using Nat.strongRecOn with
 | ind n ih =>
  intro m c hm hc
  by_cases h : n < 128
  ·rw [grp_lt h] at hm hc
   have : m = 0 := by simp at hm; omega
   subst this; simp at hc
  ·rw [grp_ge h] at hm hc
   cases m with
   | zero => simp at hc
   | succ m =>
    rw [List.take_succ_cons] at hc
    rcases List.mem_cons.1 hc with rfl | hc
    ·omega
    ·exact ih (n / 128) (by omega) (by simpa using hm) hc
/-- A frame that is cut off. -/
theorem zbxa {d : List Int} {m : Nat} (hd : d.length ≤ 1048576) (h0 : 0 < m) (hm : m < (encF d).length) : decF ((encF d).take m) = ([], 0, 2) := by
 have hp : put (d.length : Int) = grp d.length := by rw [put_ok (by omega) (by omega)]; rfl
 have hp10 := zbuy (d.length : Int)
 have hg3 : (grp d.length).length ≤ 3 := zbus 2 (by omega)
 by_cases h : m < (put (d.length : Int)).length
 ·have e : (encF d).take m = (put (d.length : Int)).take m := by
   unfold encF; rw [List.take_append_of_le_length (by omega)]
  unfold decF
  rw [e, if_pos]
  unfold openB
  rw [decide_eq_true_eq]
  refine ⟨by simp; omega, fun c hc => ?_⟩
  rw [hp] at hc h
  exact zbw9 h hc
 ·have e : (encF d).take m = put (d.length : Int) ++ (d ++ fix4 (bsum (put (d.length : Int) ++ d)).toNat).take (m - (put (d.length : Int)).length) := by
   unfold encF; rw [List.take_append, List.take_of_length_le (by omega)]
  have hlen : ((encF d).take m).length = m := by rw [List.length_take]; omega
  unfold decF
  rw [e] at hlen ⊢
  rw [zbw3 (by omega) (by omega), zbw1 (by omega) (by omega), hlen]
  have hpp : 1 ≤ (put (d.length : Int)).length := by rw [hp]; exact zbuu _
  have he : (encF d).length = (put (d.length : Int)).length + d.length + 4 := by simp [encF, fix4]; omega
  rw [if_neg (by simp), if_neg (by simp only; omega), if_neg (by simp only; omega), if_pos (by simp only; omega)]
def BB (D : List (List Int)) : List Int := D.flatMap encF
theorem zbxb (d : List Int) (D : List (List Int)) : BB (d :: D) = encF d ++ BB D := by simp [BB]
theorem zbxc {d : List Int} (h : d.length ≤ 1048576) : 5 ≤ (encF d).length := by
 have : 1 ≤ (put (d.length : Int)).length := by rw [put_ok (by omega) (by omega)]; exact zbuu _
 simp [encF, fix4]; omega
theorem zbxd : ∀ (D : List (List Int)) (i cut f : Nat), (∀ d ∈ D, d.length ≤ 1048576) → i ≤ D.length → (BB (D.take i)).length ≤ cut → cut ≤ (BB D).length → (i < D.length → cut < (BB (D.take (i + 1))).length) → ((BB D).take cut).length < f →
  walkF f ((BB D).take cut) = (D.take i, (BB (D.take i)).length, if (BB (D.take i)).length = cut then 0 else 2)
 | [], i, cut, f, hD, hi, h1, h2, h3, hf => by
  have : i = 0 := by simpa using hi
  subst this
  have hc : cut = 0 := by simpa [BB] using h2
  subst hc
  obtain ⟨f, rfl⟩ : ∃ g, f = g + 1 := ⟨f - 1, by omega⟩
  simp [walkF, BB]
 | d :: D, i, cut, f, hD, hi, h1, h2, h3, hf => by
  obtain ⟨f, rfl⟩ : ∃ g, f = g + 1 := ⟨f - 1, by omega⟩
  have hd := hD d List.mem_cons_self
  have h5 := zbxc hd
  cases i with
  | zero =>
   have hlt := h3 (by simp)
   simp only [List.take_succ_cons, List.take_zero, zbxb] at hlt
   have hlt' : cut < (encF d).length := by simpa [BB] using hlt
   have e : (BB (d :: D)).take cut = (encF d).take cut := by rw [zbxb, List.take_append_of_le_length (by omega)]
   rw [e] at hf ⊢
   by_cases h0 : cut = 0
   ·subst h0; simp [walkF, BB]
   ·simp only [walkF]
    rw [if_neg (by intro e; have := congrArg List.length e; rw [List.length_take] at this; simp only [List.length_nil] at this; omega), zbxa hd (by omega) hlt']
    simp [BB]; omega
  | succ i =>
   simp only [List.take_succ_cons, zbxb, List.length_append, List.length_cons] at h1 h2 h3 hi ⊢
   have e : (encF d ++ BB D).take cut = encF d ++ (BB D).take (cut - (encF d).length) := by
    rw [List.take_append, List.take_of_length_le (by omega)]
   rw [zbxb, e] at hf
   rw [List.length_append] at hf
   rw [e]
   have ih := zbxd D i (cut - (encF d).length) f (fun x hx => hD x (List.mem_cons_of_mem _ hx)) (by omega) (by omega) (by omega) (fun h => by have := h3 (by omega); omega) (by omega)
   simp only [walkF]
   have hne : encF d ++ (BB D).take (cut - (encF d).length) ≠ [] := by intro e; have := congrArg List.length e; rw [List.length_append] at this; simp only [List.length_nil] at this; omega
   rw [if_neg hne, zbw4 hd]
   simp only [if_true, Int.toNat_natCast, List.drop_left]
   rw [ih]
   simp only [Prod.mk.injEq, true_and]
   split <;> split <;> first | rfl | omega
theorem BB_app (a b : List (List Int)) : BB (a ++ b) = BB a ++ BB b := by simp [BB]
theorem BB_isB {D : List (List Int)} (h : ∀ d ∈ D, isB d) : isB (BB D) := by
 intro c hc
 obtain ⟨d, hd, hc⟩ := List.mem_flatMap.1 hc
 unfold encF at hc
 rcases List.mem_append.1 hc with h1 | h1
 ·exact zbwj _ c h1
 ·rcases List.mem_append.1 h1 with h2 | h2
  ·exact h d hd c h2
  ·simp [fix4] at h2; omega
end Go.Dvm.I
set_option linter.all false
set_option maxRecDepth 100000
namespace Go.Dvm.I
open Go Go.Dvm
def zag (u : Nat) : Int := if u % 2 = 0 then ((u / 2 : Nat) : Int) else -((u / 2 : Nat) : Int) - 1
theorem zbxe (n : Int) : zag (zig n) = n := by unfold zag zig; split <;> split <;> omega
theorem ixor0 {x : Int} (h1 : 0 ≤ x) (h2 : x < 9223372036854775808) : ibits .xor .i64 x 0 = x := by
 have e : ibits .xor .i64 x 0 = IntKind.wrap .i64 (((BitVec.ofInt 64 x ^^^ 0#64 : BitVec 64).toNat : Nat) : Int) := by unfold ibits; rfl
 rw [e, BitVec.xor_zero, BitVec.toNat_ofInt, zbu0, zbuo] <;> omega
theorem zbxf {x : Int} (h1 : 9223372036854775808 ≤ x) (h2 : x < 18446744073709551616) : wrp .i64 x = x - 18446744073709551616 := by
 unfold wrp; simp [IntKind.wrap, IntKind.min, IntKind.max, IntKind.signed, IntKind.bits] <;> omega
theorem ixor1 {x : Int} (h1 : 0 ≤ x) (h2 : x < 9223372036854775808) : ibits .xor .i64 x (-1) = -x - 1 := by
 have e : ibits .xor .i64 x (-1) = IntKind.wrap .i64 (((BitVec.ofInt 64 x ^^^ BitVec.allOnes 64 : BitVec 64).toNat : Nat) : Int) := by unfold ibits; rfl
 rw [e, BitVec.xor_allOnes, BitVec.toNat_not, BitVec.toNat_ofInt, zbu0, zbxf] <;> omega
theorem and1u {u : Nat} (h : u < 18446744073709551616) : ibits .and .u64 (u : Int) 1 = ((u % 2 : Nat) : Int) := by
 have e : ibits .and .u64 (u : Int) 1 = IntKind.wrap .u64 (((BitVec.ofInt 64 (u : Int) &&& 1#64 : BitVec 64).toNat : Nat) : Int) := by unfold ibits; rfl
 have e1 : (BitVec.ofInt 64 (u : Int)).toNat = u := by rw [BitVec.toNat_ofInt]; omega
 rw [e, BitVec.toNat_and, e1, show (1#64 : BitVec 64).toNat = 1 from rfl, Nat.and_one_is_mod, zbu0, zbup (by omega) (by omega)]
theorem ishr1 {x : Int} (h1 : 0 ≤ x) : ishr .u64 x 1 = x / 2 := by
 unfold ishr; simp [IntKind.bits]
 rw [Int.fdiv_eq_ediv_of_nonneg]; omega
theorem zbxg {u : Nat} (h : u < 18446744073709551616) : Ev (fun q => zlj q (u : Int)) (zag u) := by
 refine Ev.succ (Ev.ret' ?_) (fun q => rfl)
 rw [ishr1 (by omega), and1u h, zbuo (by omega) (by omega)]
 unfold zag
 split
 ·rename_i e
  rw [e, show wrp .i64 ((0 : Nat) : Int) = 0 from zbuo (by omega) (by omega), show wrp .i64 (0 - 0) = 0 from zbuo (by omega) (by omega), ixor0 (by omega) (by omega)]; omega
 ·rename_i e
  rw [show u % 2 = 1 by omega, show wrp .i64 ((1 : Nat) : Int) = 1 from zbuo (by omega) (by omega), show wrp .i64 (0 - 1) = -1 from zbuo (by omega) (by omega), ixor1 (by omega) (by omega)]; omega
theorem rd_lt : ∀ {l : List Int} {i : Nat} {p : Nat × Nat}, isB l → i ≤ 9 → rd i l = some p → p.1 < 2 ^ (64 - 7 * i)
 | [], i, p, hb, hi, h => by simp [rd] at h
 | c :: l, i, p, hb, hi, h => by
  obtain ⟨b1, b2⟩ := hb c List.mem_cons_self
  simp only [rd] at h
  split at h
  ·cases h
  ·split at h
   ·cases h
   ·rename_i h9
    split at h
    ·cases h
    ·split at h
     ·simp at h; subst h
      simp only
      by_cases e : i = 9
      ·subst e; simp; omega
      ·have : 2 ^ 7 ≤ 2 ^ (64 - 7 * i) := Nat.pow_le_pow_right (by omega) (by omega)
       omega
     ·cases hr : rd (i + 1) l with
      | none => simp [hr] at h
      | some r =>
       simp [hr] at h; subst h
       by_cases e : i = 9
       ·exfalso; subst e; exact h9 ⟨rfl, by omega⟩
       ·have := rd_lt (fun c hc => hb c (List.mem_cons_of_mem _ hc)) (by omega) hr
        have e2 : 2 ^ (64 - 7 * i) = 128 * 2 ^ (64 - 7 * (i + 1)) := by rw [show 64 - 7 * i = 7 + (64 - 7 * (i + 1)) by omega, Nat.pow_add]
        simp only
        rw [e2]; omega
def getS (l : List Int) : Int × Int := match rd 0 l with
 | none => (0, 0)
 | some p => (zag p.1, (p.2 : Int))
theorem zbxh (s : Sl Int) (hb : isB s.l) : Ev (fun q => zlk q s) (getS s.l) := by
 refine Ev.succ (Ev.bind (zbwq s hb) ?_) (fun q => rfl)
 unfold getS
 cases h : rd 0 s.l with
 | none => exact Ev.pos (by simp [resN]) (Ev.ret _)
 | some p =>
  have h1 := rd_len h
  have h2 := rd_lt hb (by omega) h
  simp only [resN]
  exact Ev.neg (by simp; omega) (Ev.bind (zbxg (by simpa using h2)) (Ev.ret _))
theorem zbxi {l : List Int} : 0 ≤ (getS l).2 ∧ (getS l).2 ≤ l.length ∧ (getS l).2 ≤ 10 := by
 unfold getS
 cases h : rd 0 l with
 | none => simp
 | some p =>
  have := rd_len h
  simp only; omega
/-- The operation that bytes begin with. -/
def getO (l : List Int) : zjr × Int :=
 let x := getN l
 let y := getS (l.drop x.2.toNat)
 let z := getS ((l.drop x.2.toNat).drop y.2.toNat)
 if 0 < x.2 ∧ 0 < y.2 ∧ 0 < z.2 ∧ fitsOp ⟨x.1, y.1, z.1⟩ = true then (⟨x.1, y.1, z.1⟩, x.2 + y.2 + z.2) else (⟨0, 0, 0⟩, 0)
theorem isB_dr {l : List Int} (h : isB l) (n : Nat) : isB (l.drop n) := fun c hc => h c (List.mem_of_mem_drop hc)
theorem zbxj (s : Sl Int) (hb : isB s.l) (hl : s.l.length ≤ 4294967296) : Ev (fun q => zll q s) (getO s.l) := by
 have hx := zbws (l := s.l)
 have hy := zbxi (l := s.l.drop (getN s.l).2.toNat)
 have hz := zbxi (l := (s.l.drop (getN s.l).2.toNat).drop (getS (s.l.drop (getN s.l).2.toNat)).2.toNat)
 simp only [List.length_drop] at hy hz
 refine Ev.succ (Ev.bind (zbwr s hb) (Ev.pos hx.1 (Ev.pos hx.2.1 (Ev.bind (zbxh _ (isB_dr hb _)) ?_)))) (fun q => rfl)
 unfold getO
 refine Ev.ite (fun h1 => Ev.pos hy.1 (Ev.pos hy.2.1 (Ev.bind (zbxh _ (isB_dr (isB_dr hb _) _)) ?_))) fun h1 => Ev.pos hy.1 (Ev.pos hy.2.1 (Ev.bind (zbxh _ (isB_dr (isB_dr hb _) _)) ?_))
 ·refine Ev.ite (fun h2 => Ev.pos hz.1 (Ev.pos hz.2.1 ?_)) fun h2 => Ev.pos hz.1 (Ev.pos hz.2.1 ?_)
  ·refine Ev.ite (fun h3 => Ev.bind (zbu5 _) (Ev.ite (fun h4 => Ev.ret' ?_) fun h4 => Ev.ret' ?_)) fun h3 => Ev.ret' ?_
   ·rw [if_pos ⟨h1, h2, h3, h4⟩, zbuo (by omega) (by omega)]
    congr 1; dsimp only; dsimp only at h1 h2 h3; omega
   ·rw [if_neg (fun h => h4 h.2.2.2)]
   ·rw [if_neg (fun h => h3 h.2.2.1)]
  ·refine Ev.ret' ?_
   rw [if_neg (fun h => h2 h.2.1)]
 ·refine Ev.pos hz.1 (Ev.pos hz.2.1 (Ev.ret' ?_))
  rw [if_neg (fun h => h1 h.1)]
theorem zbxk {l : List Int} : 0 ≤ (getO l).2 ∧ (getO l).2 ≤ l.length ∧ (getO l).2 ≤ 30 := by
 have hx := zbws (l := l)
 have hy := zbxi (l := l.drop (getN l).2.toNat)
 have hz := zbxi (l := (l.drop (getN l).2.toNat).drop (getS (l.drop (getN l).2.toNat)).2.toNat)
 simp only [List.length_drop] at hy hz
 simp only [getO]
 split
 ·simp only; omega
 ·simp
/-- How many bytes a strange field has. -/
def passN (l : List Int) : Int := if (getN l).2 = 0 then 0 else if (l.length : Int) - (getN l).2 < (getN l).1 then 0 else (getN l).2 + (getN l).1
theorem zbxl (s : Sl Int) (hb : isB s.l) (hl : s.l.length ≤ 4294967296) : Ev (fun q => zlv q s) (passN s.l) := by
 have hx := zbws (l := s.l)
 refine Ev.succ (Ev.bind (zbwr s hb) ?_) (fun q => rfl)
 unfold passN
 refine Ev.ite (fun h => ?_) fun h => ?_
 ·rw [if_pos h]; exact Ev.ret _
 ·rw [if_neg h]
  have hw : wrp .i64 ((s.l.length : Int) - (getN s.l).2) = (s.l.length : Int) - (getN s.l).2 := zbuo (by omega) (by omega)
  refine Ev.ite (fun h2 => ?_) fun h2 => ?_
  ·rw [hw] at h2; rw [if_pos h2]; exact Ev.ret _
  ·rw [hw] at h2; rw [if_neg h2, zbuo (by omega) (by omega)]; exact Ev.ret _
theorem zbxm {l : List Int} : 0 ≤ passN l ∧ passN l ≤ l.length := by
 have hx := zbws (l := l)
 unfold passN
 split
 ·simp
 ·split
  ·simp
  ·omega
theorem zbxn (s : Sl Int) (hz : s.z = false) (hl : s.l.length ≤ 4294967296) : Ev (fun q => zlr q s) ⟨false, true, s.l⟩ :=
 Ev.succ (Ev.neg (by simp [hz]) (Ev.pos hl (Ev.ret _))) (fun q => rfl)
theorem zbxo {l : List Int} {i : Int} (h0 : 0 ≤ i) (h1 : i < l.length) (hl : l.length ≤ 1000000) : Ev (fun q => zlu q ⟨false, true, l⟩ i (i + 1)) ⟨false, true, l.eraseIdx i.toNat⟩ := by
 have ht : (i + 1).toNat = i.toNat + 1 := by omega
 refine Ev.succ ?_ (fun q => rfl)
 refine Ev.pos h0 ?_
 refine Ev.pos (by omega) ?_
 refine Ev.pos (by simp only; omega) ?_
 refine Ev.neg (by omega) ?_
 refine Ev.pos (by simp only; omega) ?_
 refine Ev.neg (by simp) ?_
 refine Ev.pos (by omega) ?_
 refine Ev.pos (by simp only; omega) ?_
 refine Ev.pos (by simp only; omega) ?_
 refine Ev.pos rfl ?_
 refine Ev.pos (by simp only; omega) ?_
 refine Ev.pos (by simp only; omega) ?_
 refine Ev.ret' ?_
 congr 1
 simp only [ht]
 have hm : (l.take i.toNat).length = i.toNat := by simp; omega
 have hd : (l.drop (i.toNat + 1)).length = l.length - (i.toNat + 1) := by simp
 rw [List.eraseIdx_eq_take_drop_succ]
 generalize l.take i.toNat = A at *
 generalize l.drop (i.toNat + 1) = B at *
 have hAB : i.toNat + (l.length - (i.toNat + 1)) = (A ++ B).length := by simp; omega
 rw [hAB]
 have e1 : ∀ C : List Int, List.take (A ++ B).length (A ++ B ++ C) = A ++ B := fun C => List.take_left' rfl
 rw [e1, List.append_assoc, e1]
end Go.Dvm.I
set_option linter.all false
set_option maxRecDepth 100000
namespace Go.Dvm.I
open Go Go.Dvm
theorem zbxp (x : Int) : ∀ (l : List Int) (i : Nat), x ∈ l → idxI x l i = (i : Int) + idxI x l 0 ∧ idxI x l i < i + l.length
 | [], i, h => by simp at h
 | a :: l, i, h => by
  simp only [idxI]
  by_cases e : x = a
  ·rw [if_pos e, if_pos e]; simp; omega
  ·rw [if_neg e, if_neg e]
   have hm : x ∈ l := by
    rcases List.mem_cons.1 h with h | h
    ·exact absurd h e
    ·exact h
   have h1 := zbxp x l (i + 1) hm
   have h2 := zbxp x l (0 + 1) hm
   simp only [List.length_cons]
   omega
theorem zbxq (x : Int) : ∀ (l : List Int), x ∈ l → l.eraseIdx (idxI x l 0).toNat = l.erase x
 | [], h => by simp at h
 | a :: l, h => by
  simp only [idxI]
  by_cases e : x = a
  ·rw [if_pos e]; subst e; simp
  ·rw [if_neg e]
   have hm : x ∈ l := by
    rcases List.mem_cons.1 h with h | h
    ·exact absurd h e
    ·exact h
   have h2 := zbxp x l (0 + 1) hm
   have h3 := (zbvk (x := x) (l := l) (i := 0)).2 hm
   rw [show (idxI x l (0 + 1)).toNat = (idxI x l 0).toNat + 1 by omega, List.eraseIdx_cons_succ, zbxq x l hm, List.erase_cons_tail (by simpa using fun h => e h.symm)]
/-- A field's value, taken into a record. -/
def rdVal (f : Int) (r : zjs) (b : List Int) : zjs × Int :=
 if f = 1 then (⟨(getN b).1, r.Proc, r.Seq, r.Op, r.Resp⟩, (getN b).2)
 else if f = 2 then (⟨r.Index, (getN b).1, r.Seq, r.Op, r.Resp⟩, (getN b).2)
 else if f = 3 then (⟨r.Index, r.Proc, (getN b).1, r.Op, r.Resp⟩, (getN b).2)
 else if f = 4 then (⟨r.Index, r.Proc, r.Seq, (getO b).1, r.Resp⟩, (getO b).2)
 else (⟨r.Index, r.Proc, r.Seq, r.Op, (getS b).1⟩, (getS b).2)
/-- The fields of bytes. -/
def rdR (v : Int) : Nat → List Int → Int → zjs → List Int → zjs × Int
 | 0, _, _, r, _ => (r, 3)
 | k + 1, b, last, r, l =>
  if b.length = 0 then (if l.length = 0 then (if FitsR r then (r, 0) else (r, 1)) else (r, 7))
  else if (getN b).2 = 0 ∨ (getN b).1 ≤ last then (r, 3)
  else if (getN b).1 ∈ l then
   (if (rdVal (getN b).1 r (b.drop (getN b).2.toNat)).2 = 0 then ((rdVal (getN b).1 r (b.drop (getN b).2.toNat)).1, 3)
   else rdR v k ((b.drop (getN b).2.toNat).drop (rdVal (getN b).1 r (b.drop (getN b).2.toNat)).2.toNat) (getN b).1 (rdVal (getN b).1 r (b.drop (getN b).2.toNat)).1 (l.erase (getN b).1))
  else if (getN b).1 < 16 ∨ v = 3 then (r, 7)
  else if passN (b.drop (getN b).2.toNat) = 0 then (r, 3)
  else rdR v k ((b.drop (getN b).2.toNat).drop (passN (b.drop (getN b).2.toNat)).toNat) (getN b).1 r l
theorem zbxr (v : Int) (z : Bool) : ∀ (k : Nat) (b : List Int) (last : Int) (r : zjs) (l : List Int), b.length < k → isB b → b.length ≤ 4294967296 → l.length ≤ 1000000 → (∀ f ∈ l, 1 ≤ f ∧ f ≤ 5) →
  Ev (fun q => zlw q v z b last r.Index r.Proc r.Seq r.Op.Code r.Op.A r.Op.B r.Resp false l true) (rdR v k b last r l)
 | 0, b, last, r, l, hk, hb, hl, hll, hf => by omega
 | k + 1, b, last, r, l, hk, hb, hl, hll, hf => by
  refine Ev.succ ?_ (fun q => rfl)
  simp only [rdR]
  refine Ev.ite (fun h0 => ?_) fun h0 => ?_
  ·rw [if_neg (by omega)]
   have hg := zbws (l := b)
   refine Ev.bind (zbwr ⟨z, b⟩ hb) ?_
   have hb1 := isB_dr hb (getN b).2.toNat
   have hl1 : (b.drop (getN b).2.toNat).length = b.length - (getN b).2.toNat := by simp
   refine Ev.ite (fun h1 => ?_) fun h1 => Ev.ite (fun h2 => ?_) fun h2 => Ev.pos hg.1 (Ev.pos hg.2.1 (Ev.bind (zbvm ⟨false, l⟩ (getN b).1 hll) ?_))
   ·rw [if_pos (.inl h1)]; exact Ev.ret _
   ·rw [if_pos (.inr h2)]; exact Ev.ret _
   ·rw [if_neg (by rintro (h | h) <;> contradiction)]
    dsimp only at h1 h2 ⊢
    refine Ev.ite (fun h3 => ?_) fun h3 => ?_
    ·have hm := (zbvk (x := (getN b).1)).1 h3
     have hsh := zbxp (getN b).1 l 0 hm
     have hfm := hf _ hm
     rw [if_pos hm, show wrp .i64 (idxI (getN b).1 l 0 + 1) = idxI (getN b).1 l 0 + 1 from zbuo (by omega) (by omega)]
     refine Ev.bind (zbxo h3 (by omega) hll) ?_
     rw [zbxq _ _ hm]
     have hle := List.length_erase_le (a := (getN b).1) (l := l)
     have hfe : ∀ f ∈ l.erase (getN b).1, 1 ≤ f ∧ f ≤ 5 := fun f h => hf f (List.mem_of_mem_erase h)
     generalize l.erase (getN b).1 = l' at *
     generalize hB : b.drop (getN b).2.toNat = B at *
     have hB2 : B.length < k := by omega
     refine Ev.ite (fun e => ?_) fun e => Ev.ite (fun e2 => ?_) fun e2 => Ev.ite (fun e3 => ?_) fun e3 => Ev.ite (fun e4 => ?_) fun e4 => Ev.pos (by omega) ?_
     ·have hx := zbws (l := B)
      have hr : rdVal (getN b).1 r B = (⟨(getN B).1, r.Proc, r.Seq, r.Op, r.Resp⟩, (getN B).2) := by rw [rdVal, if_pos e]
      rw [hr]
      refine Ev.bind (zbwr ⟨z, B⟩ hb1) (Ev.ite (fun h => ?_) fun h => Ev.pos hx.1 (Ev.pos (by simp only [hl1] at hx ⊢; omega) ?_))
      ·rw [if_pos h]; exact Ev.ret _
      ·rw [if_neg h]; exact zbxr v z k (B.drop (getN B).2.toNat) (getN b).1 ⟨(getN B).1, r.Proc, r.Seq, r.Op, r.Resp⟩ l' (by simp; omega) (isB_dr hb1 _) (by simp; omega) (by omega) hfe
     ·have hx := zbws (l := B)
      have hr : rdVal (getN b).1 r B = (⟨r.Index, (getN B).1, r.Seq, r.Op, r.Resp⟩, (getN B).2) := by rw [rdVal, if_neg e, if_pos e2]
      rw [hr]
      refine Ev.bind (zbwr ⟨z, B⟩ hb1) (Ev.ite (fun h => ?_) fun h => Ev.pos hx.1 (Ev.pos (by simp only [hl1] at hx ⊢; omega) ?_))
      ·rw [if_pos h]; exact Ev.ret _
      ·rw [if_neg h]; exact zbxr v z k (B.drop (getN B).2.toNat) (getN b).1 ⟨r.Index, (getN B).1, r.Seq, r.Op, r.Resp⟩ l' (by simp; omega) (isB_dr hb1 _) (by simp; omega) (by omega) hfe
     ·have hx := zbws (l := B)
      have hr : rdVal (getN b).1 r B = (⟨r.Index, r.Proc, (getN B).1, r.Op, r.Resp⟩, (getN B).2) := by rw [rdVal, if_neg e, if_neg e2, if_pos e3]
      rw [hr]
      refine Ev.bind (zbwr ⟨z, B⟩ hb1) (Ev.ite (fun h => ?_) fun h => Ev.pos hx.1 (Ev.pos (by simp only [hl1] at hx ⊢; omega) ?_))
      ·rw [if_pos h]; exact Ev.ret _
      ·rw [if_neg h]; exact zbxr v z k (B.drop (getN B).2.toNat) (getN b).1 ⟨r.Index, r.Proc, (getN B).1, r.Op, r.Resp⟩ l' (by simp; omega) (isB_dr hb1 _) (by simp; omega) (by omega) hfe
     ·have hx := zbxk (l := B)
      have hr : rdVal (getN b).1 r B = (⟨r.Index, r.Proc, r.Seq, (getO B).1, r.Resp⟩, (getO B).2) := by rw [rdVal, if_neg e, if_neg e2, if_neg e3, if_pos e4]
      rw [hr]
      refine Ev.bind (zbxj ⟨z, B⟩ hb1 (by simp only; omega)) (Ev.ite (fun h => ?_) fun h => Ev.pos hx.1 (Ev.pos (by simp only [hl1] at hx ⊢; omega) ?_))
      ·rw [if_pos h]; exact Ev.ret _
      ·rw [if_neg h]; exact zbxr v z k (B.drop (getO B).2.toNat) (getN b).1 ⟨r.Index, r.Proc, r.Seq, (getO B).1, r.Resp⟩ l' (by simp; omega) (isB_dr hb1 _) (by simp; omega) (by omega) hfe
     ·have hx := zbxi (l := B)
      have hr : rdVal (getN b).1 r B = (⟨r.Index, r.Proc, r.Seq, r.Op, (getS B).1⟩, (getS B).2) := by rw [rdVal, if_neg e, if_neg e2, if_neg e3, if_neg e4]
      rw [hr]
      refine Ev.bind (zbxh ⟨z, B⟩ hb1) (Ev.ite (fun h => ?_) fun h => Ev.pos hx.1 (Ev.pos (by simp only [hl1] at hx ⊢; omega) ?_))
      ·rw [if_pos h]; exact Ev.ret _
      ·rw [if_neg h]; exact zbxr v z k (B.drop (getS B).2.toNat) (getN b).1 ⟨r.Index, r.Proc, r.Seq, r.Op, (getS B).1⟩ l' (by simp; omega) (isB_dr hb1 _) (by simp; omega) (by omega) hfe
    ·have hm : ¬ (getN b).1 ∈ l := fun h => h3 (zbvk.2 h)
     rw [if_neg hm]
     generalize hB : b.drop (getN b).2.toNat = B at *
     have hx := zbxm (l := B)
     refine Ev.ite (fun e => ?_) fun e => Ev.ite (fun e2 => ?_) fun e2 => Ev.bind (zbxl ⟨z, B⟩ hb1 (by simp only; omega)) (Ev.ite (fun h => ?_) fun h => Ev.pos hx.1 (Ev.pos (by dsimp only; omega) ?_))
     ·rw [if_pos (.inl e)]; exact Ev.ret _
     ·rw [if_pos (.inr e2)]; exact Ev.ret _
     ·rw [if_neg (by rintro (h | h) <;> contradiction), if_pos h]; exact Ev.ret _
     ·rw [if_neg (by rintro (h | h) <;> contradiction), if_neg h]
      exact zbxr v z k (B.drop (passN B).toNat) (getN b).1 r l (by simp; omega) (isB_dr hb1 _) (by simp; omega) hll hf
  ·rw [if_pos (by omega)]
   refine Ev.ite (fun h1 => ?_) fun h1 => Ev.bind (zbu8 r) ?_
   ·rw [if_neg (by omega)]; exact Ev.ret _
   ·rw [if_pos (show l.length = 0 by omega)]
    refine Ev.ite (fun h => ?_) fun h => ?_
    ·rw [if_pos (by simpa using h)]; exact Ev.ret _
    ·rw [if_neg (by simpa using h)]; exact Ev.ret _
/-- The record of bytes. -/
def decR (b : List Int) : zjs × Int :=
 if b.length = 0 then (noR, 2) else if (getN b).2 = 0 then (noR, 3) else if (getN b).1 < 1 ∨ 3 < (getN b).1 then (noR, 6)
 else if (rdR (getN b).1 (b.length + 1) (b.drop (getN b).2.toNat) (-1) noR (fieldsOf (getN b).1)).2 = 0 then ((rdR (getN b).1 (b.length + 1) (b.drop (getN b).2.toNat) (-1) noR (fieldsOf (getN b).1)).1, 0)
 else (noR, (rdR (getN b).1 (b.length + 1) (b.drop (getN b).2.toNat) (-1) noR (fieldsOf (getN b).1)).2)
theorem zbxs (s : Sl Int) (hb : isB s.l) (hl : s.l.length ≤ 4294967296) : Ev (fun q => zly q s) (decR s.l) := by
 refine Ev.succ ?_ (fun q => rfl)
 unfold decR
 refine Ev.ite (fun h => ?_) fun h => ?_
 ·rw [if_pos (by omega)]; exact Ev.ret _
 ·rw [if_neg (by omega)]
  have hg := zbws (l := s.l)
  refine Ev.bind (zbwr s hb) (Ev.ite (fun h1 => ?_) fun h1 => ?_)
  ·rw [if_pos h1]; exact Ev.ret _
  ·rw [if_neg h1]
   by_cases hv : (getN s.l).1 < 1 ∨ 3 < (getN s.l).1
   ·rw [if_pos hv]; exact Ev.bind (zbvg hv) (Ev.pos rfl (Ev.ret _))
   ·rw [if_neg hv]
    have hm := zbvi (v := (getN s.l).1)
    refine Ev.bind (zbvh (by omega) (by omega)) (Ev.neg (by simp) (Ev.pos hg.1 (Ev.pos hg.2.1 ?_)))
    have hr : Ev (fun q => zlx q (getN s.l).1 ⟨s.z, s.l.drop (getN s.l).2.toNat⟩) (rdR (getN s.l).1 (s.l.length + 1) (s.l.drop (getN s.l).2.toNat) (-1) noR (fieldsOf (getN s.l).1)) := by
     refine Ev.succ (Ev.bind (zbvh (by omega) (by omega)) (Ev.bind (zbxn ⟨false, fieldsOf (getN s.l).1⟩ rfl (by simp only; omega)) ?_)) (fun q => rfl)
     exact zbxr (getN s.l).1 s.z (s.l.length + 1) (s.l.drop (getN s.l).2.toNat) (-1) noR (fieldsOf (getN s.l).1) (by simp; omega) (isB_dr hb _) (by simp; omega) (by omega) hm.1
    refine Ev.bind hr (Ev.ite (fun h => ?_) fun h => ?_)
    ·rw [if_pos h]; exact Ev.ret _
    ·rw [if_neg h]; exact Ev.ret _
end Go.Dvm.I
set_option linter.all false
set_option maxRecDepth 100000
namespace Go.Dvm.I
open Go Go.Dvm
theorem put1 {f : Int} (h1 : 0 ≤ f) (h2 : f < 128) : put f = [f] := by
 rw [put_ok h1 (by omega), grp_lt (by omega)]; congr 1; omega
theorem zbxt {n : Int} {x : List Int} (h : inR .i64 n) : getS (putS n ++ x) = (n, ((putS n).length : Int)) := by
 unfold getS putS
 rw [rd_grp (by simpa using zig_lt h) (by omega) (by omega)]
 simp only [zbxe]
theorem zbxu (n : Int) : 1 ≤ (putS n).length := zbuu _
theorem zbxv {n : Int} (h1 : 0 ≤ n) (h2 : n < 4611686018427387904) : 1 ≤ (put n).length := by rw [put_ok h1 h2]; exact zbuu _
theorem zbxw {o : zjr} {x : List Int} (h : fitsOp o = true) : getO (opB o ++ x) = (o, ((opB o).length : Int)) := by
 obtain ⟨c1, c2, ⟨a1, a2⟩, b1, b2⟩ := zbu7.1 h
 have e1 : getN (opB o ++ x) = (o.Code, ((put o.Code).length : Int)) := by
  unfold opB; rw [List.append_assoc]; exact zbw1 c1 (by omega)
 have e2 : (opB o ++ x).drop (put o.Code).length = putS o.A ++ (putS o.B ++ x) := by
  unfold opB; simp only [List.append_assoc]; exact List.drop_left' rfl
 have e3 : (putS o.A ++ (putS o.B ++ x)).drop (putS o.A).length = putS o.B ++ x := List.drop_left' rfl
 have p1 := zbxv c1 (show o.Code < 4611686018427387904 by omega)
 have p2 := zbxu o.A
 have p3 := zbxu o.B
 have hA : inR .i64 o.A := zbva (by omega) (by omega)
 have hB : inR .i64 o.B := zbva (by omega) (by omega)
 simp only [getO, e1, Int.toNat_natCast, e2, zbxt hA, e3, zbxt hB]
 rw [if_pos ⟨by omega, by omega, by omega, h⟩]
 simp [opB]; omega
def setV (f : Int) (r r0 : zjs) : zjs :=
 if f = 1 then ⟨r.Index, r0.Proc, r0.Seq, r0.Op, r0.Resp⟩
 else if f = 2 then ⟨r0.Index, r.Proc, r0.Seq, r0.Op, r0.Resp⟩
 else if f = 3 then ⟨r0.Index, r0.Proc, r.Seq, r0.Op, r0.Resp⟩
 else if f = 4 then ⟨r0.Index, r0.Proc, r0.Seq, r.Op, r0.Resp⟩
 else ⟨r0.Index, r0.Proc, r0.Seq, r0.Op, r.Resp⟩
theorem zbxx {f : Int} {r r0 : zjs} {x : List Int} (h : FitsR r) : rdVal f r0 (valB f r ++ x) = (setV f r r0, ((valB f r).length : Int)) := by
 obtain ⟨h1, h2, h3, h4, h5, h6, h7, h8, h9⟩ := h
 unfold rdVal setV valB
 by_cases e1 : f = 1
 ·simp only [if_pos e1, zbw1 h1 h2]
 ·simp only [if_neg e1]
  by_cases e2 : f = 2
  ·simp only [if_pos e2, zbw1 h3 (show r.Proc < 4611686018427387904 by omega)]
  ·simp only [if_neg e2]
   by_cases e3 : f = 3
   ·simp only [if_pos e3, zbw1 h5 h6]
   ·simp only [if_neg e3]
    by_cases e4 : f = 4
    ·simp only [if_pos e4, zbxw h7]
    ·simp only [if_neg e4, zbxt (show inR .i64 r.Resp from zbva (by omega) (by omega))]
theorem zbxy {f : Int} {r : zjs} (h : FitsR r) : 1 ≤ (valB f r).length := by
 obtain ⟨h1, h2, h3, h4, h5, h6, h7, h8, h9⟩ := h
 have hc := (zbu7.1 h7)
 unfold valB
 split
 ·exact zbxv h1 h2
 ·split
  ·exact zbxv h3 (by omega)
  ·split
   ·exact zbxv h5 h6
   ·split
    ·have := zbxv hc.1 (show r.Op.Code < 4611686018427387904 by omega)
     unfold opB; simp only [List.length_append]; omega
    ·exact zbxu _
theorem zbxz (v : Int) : ∀ (k k' : Nat) (b : List Int) (last : Int) (r : zjs) (l : List Int), b.length < k → b.length < k' → rdR v k b last r l = rdR v k' b last r l
 | 0, _, b, last, r, l, h, _ => by omega
 | k + 1, 0, b, last, r, l, _, h => by omega
 | k + 1, k' + 1, b, last, r, l, h, h' => by
  have hg := zbws (l := b)
  have hd : (b.drop (getN b).2.toNat).length = b.length - (getN b).2.toNat := by simp
  simp only [rdR]
  split
  ·rfl
  ·split
   ·rfl
   ·rename_i h0 h1
    have hpos : 0 < (getN b).2.toNat := by omega
    split
    ·split
     ·rfl
     ·exact zbxz v k k' _ _ _ _ (by rw [List.length_drop]; omega) (by rw [List.length_drop]; omega)
    ·split
     ·rfl
     ·split
      ·rfl
      ·exact zbxz v k k' _ _ _ _ (by rw [List.length_drop]; omega) (by rw [List.length_drop]; omega)
theorem zbx0 {v : Int} {r r0 : zjs} {f last : Int} {x l : List Int} {k : Nat} (h : FitsR r) (h1 : 1 ≤ f) (h2 : f ≤ 5) (hl : last < f) (hm : f ∈ l) :
  rdR v (k + 1) ((put f ++ valB f r) ++ x) last r0 l = rdR v k x f (setV f r r0) (l.erase f) := by
 have hp := zbxy (f := f) h
 have e1 : getN ((put f ++ valB f r) ++ x) = (f, ((put f).length : Int)) := by rw [List.append_assoc]; exact zbw1 (by omega) (by omega)
 have hq := zbxv (show 0 ≤ f by omega) (show f < 4611686018427387904 by omega)
 have e2 : ((put f ++ valB f r) ++ x).drop (put f).length = valB f r ++ x := by rw [List.append_assoc]; exact List.drop_left' rfl
 have e3 : (valB f r ++ x).drop (valB f r).length = x := List.drop_left' rfl
 simp only [rdR, e1, Int.toNat_natCast, e2, zbxx h, e3]
 rw [if_neg (by simp only [List.length_append]; omega), if_neg (by omega), if_pos hm, if_neg (by omega)]
theorem zbx1 {v : Int} {r : zjs} {x : List Int} (h1 : 1 ≤ v) (h3 : v ≤ 3) : getN (recB v r ++ x) = (v, 1) ∧ (recB v r ++ x).drop 1 = fieldsB r (fieldsOf v) ++ x := by
 unfold recB
 rw [put1 (by omega) (by omega)]
 refine ⟨?_, rfl⟩
 have := zbw1 (n := v) (x := fieldsB r (fieldsOf v) ++ x) (by omega) (by omega)
 rw [put1 (by omega) (by omega)] at this
 simpa using this
def lastF (v : Int) : Int := if v = 3 then 5 else 4
theorem zbx2 {v : Int} {r : zjs} {x : List Int} {N : Nat} (h1 : 1 ≤ v) (h3 : v ≤ 3) (h : FitsR r) (hN : (fieldsB r (fieldsOf v) ++ x).length < N) :
  rdR v N (fieldsB r (fieldsOf v) ++ x) (-1) noR (fieldsOf v) = rdR v (x.length + 1) x (lastF v) (upR v r) [] := by
 have hv : v = 1 ∨ v = 2 ∨ v = 3 := by omega
 have hp := fun f => zbxy (f := f) h
 have q1 := hp 1
 have q2 := hp 2
 have q3 := hp 3
 have q4 := hp 4
 have q5 := hp 5
 have p1 : (put 1).length = 1 := by rw [put1 (by omega) (by omega)]; rfl
 have p2 : (put 2).length = 1 := by rw [put1 (by omega) (by omega)]; rfl
 have p3 : (put 3).length = 1 := by rw [put1 (by omega) (by omega)]; rfl
 have p4 : (put 4).length = 1 := by rw [put1 (by omega) (by omega)]; rfl
 have p5 : (put 5).length = 1 := by rw [put1 (by omega) (by omega)]; rfl
 rcases hv with rfl | rfl | rfl
 ·have e : fieldsB r (fieldsOf 1) ++ x = (put 1 ++ valB 1 r) ++ ((put 2 ++ valB 2 r) ++ ((put 4 ++ valB 4 r) ++ x)) := by simp [fieldsOf, fieldsB]
  rw [e] at hN ⊢
  simp only [List.length_append] at hN
  obtain ⟨n, rfl⟩ : ∃ n, N = n + 3 := ⟨N - 3, by omega⟩
  rw [show fieldsOf 1 = [1, 2, 4] from rfl, zbx0 h (by omega) (by omega) (by omega) (by simp), show [(1 : Int), 2, 4].erase 1 = [2, 4] from by decide, zbx0 h (by omega) (by omega) (by omega) (by simp), show [(2 : Int), 4].erase 2 = [4] from by decide, zbx0 h (by omega) (by omega) (by omega) (by simp), show [(4 : Int)].erase 4 = [] from by decide]
  rw [zbxz 1 n (x.length + 1) _ _ _ _ (by omega) (by omega)]
  rfl
 ·have e : fieldsB r (fieldsOf 2) ++ x = (put 1 ++ valB 1 r) ++ ((put 2 ++ valB 2 r) ++ ((put 3 ++ valB 3 r) ++ ((put 4 ++ valB 4 r) ++ x))) := by simp [fieldsOf, fieldsB]
  rw [e] at hN ⊢
  simp only [List.length_append] at hN
  obtain ⟨n, rfl⟩ : ∃ n, N = n + 4 := ⟨N - 4, by omega⟩
  rw [show fieldsOf 2 = [1, 2, 3, 4] from rfl, zbx0 h (by omega) (by omega) (by omega) (by simp), show [(1 : Int), 2, 3, 4].erase 1 = [2, 3, 4] from by decide, zbx0 h (by omega) (by omega) (by omega) (by simp), show [(2 : Int), 3, 4].erase 2 = [3, 4] from by decide, zbx0 h (by omega) (by omega) (by omega) (by simp), show [(3 : Int), 4].erase 3 = [4] from by decide, zbx0 h (by omega) (by omega) (by omega) (by simp), show [(4 : Int)].erase 4 = [] from by decide]
  rw [zbxz 2 n (x.length + 1) _ _ _ _ (by omega) (by omega)]
  rfl
 ·have e : fieldsB r (fieldsOf 3) ++ x = (put 1 ++ valB 1 r) ++ ((put 2 ++ valB 2 r) ++ ((put 3 ++ valB 3 r) ++ ((put 4 ++ valB 4 r) ++ ((put 5 ++ valB 5 r) ++ x)))) := by simp [fieldsOf, fieldsB]
  rw [e] at hN ⊢
  simp only [List.length_append] at hN
  obtain ⟨n, rfl⟩ : ∃ n, N = n + 5 := ⟨N - 5, by omega⟩
  rw [show fieldsOf 3 = [1, 2, 3, 4, 5] from rfl, zbx0 h (by omega) (by omega) (by omega) (by simp), show [(1 : Int), 2, 3, 4, 5].erase 1 = [2, 3, 4, 5] from by decide, zbx0 h (by omega) (by omega) (by omega) (by simp), show [(2 : Int), 3, 4, 5].erase 2 = [3, 4, 5] from by decide, zbx0 h (by omega) (by omega) (by omega) (by simp), show [(3 : Int), 4, 5].erase 3 = [4, 5] from by decide, zbx0 h (by omega) (by omega) (by omega) (by simp), show [(4 : Int), 5].erase 4 = [5] from by decide, zbx0 h (by omega) (by omega) (by omega) (by simp), show [(5 : Int)].erase 5 = [] from by decide]
  rw [zbxz 3 n (x.length + 1) _ _ _ _ (by omega) (by omega)]
  rfl
/-- A record that was told, and what stands behind it. -/
theorem zbx3 {v : Int} {r : zjs} {x : List Int} (h1 : 1 ≤ v) (h3 : v ≤ 3) (h : FitsR r) :
  decR (recB v r ++ x) = if (rdR v (x.length + 1) x (lastF v) (upR v r) []).2 = 0 then ((rdR v (x.length + 1) x (lastF v) (upR v r) []).1, 0) else (noR, (rdR v (x.length + 1) x (lastF v) (upR v r) []).2) := by
 obtain ⟨e1, e2⟩ := zbx1 (r := r) (x := x) h1 h3
 have hl : (recB v r ++ x).length = (fieldsB r (fieldsOf v) ++ x).length + 1 := by
  unfold recB; rw [put1 (by omega) (by omega)]; simp
 unfold decR
 rw [if_neg (by omega), e1]
 simp only [show (1 : Int).toNat = 1 from rfl, e2]
 rw [if_neg (by omega), if_neg (by omega), zbx2 h1 h3 h (by omega)]
theorem zbx4 {v : Int} {r : zjs} (h1 : 1 ≤ v) (h3 : v ≤ 3) (h : FitsR r) : decR (recB v r) = (upR v r, 0) := by
 have := zbx3 (x := []) h1 h3 h
 rw [List.append_nil] at this
 rw [this]
 simp [rdR, zbvp h]
theorem zbx5 {v : Int} {r : zjs} : isB (recB v r) := by
 have hg : ∀ n, isB (grp n) := by
  intro n
  induction n using Nat.strongRecOn with
  | ind n ih =>
   by_cases h : n < 128
   ·rw [grp_lt h]; intro c hc; simp at hc; omega
   ·rw [grp_ge h]
    intro c hc
    rcases List.mem_cons.1 hc with h2 | h2
    ·omega
    ·exact ih (n / 128) (by omega) c h2
 have hp : ∀ n, isB (put n) := by
  intro n; unfold put
  split
  ·intro c hc; simp at hc
  ·split
   ·intro c hc; simp at hc
   ·exact hg _
 have hs : ∀ n, isB (putS n) := fun n => hg _
 have happ : ∀ {a b : List Int}, isB a → isB b → isB (a ++ b) := fun ha hb c hc => (List.mem_append.1 hc).elim (ha c) (hb c)
 have hv : ∀ f, isB (valB f r) := by
  intro f; unfold valB
  split
  ·exact hp _
  ·split
   ·exact hp _
   ·split
    ·exact hp _
    ·split
     ·exact happ (hp _) (happ (hs _) (hs _))
     ·exact hs _
 have hf : ∀ L, isB (fieldsB r L) := by
  intro L
  induction L with
  | nil => intro c hc; simp [fieldsB] at hc
  | cons f L ih => exact happ (happ (hp _) (hv _)) ih
 exact happ (hp _) (hf _)
theorem zbx6 {v : Int} {r : zjs} (h : FitsR r) : (recB v r).length ≤ 1000 := by
 have h2 : ∀ L : List Int, (fieldsB r L).length ≤ 40 * L.length := by
  intro L
  induction L with
  | nil => simp [fieldsB]
  | cons f L ih =>
   have := zbvd (f := f) h
   have := zbuy f
   simp only [fieldsB, List.length_append, List.length_cons]; omega
 have h3 := h2 (fieldsOf v)
 have h4 := (zbvi (v := v)).2
 have h5 := zbuy v
 unfold recB; simp only [List.length_append]; omega
end Go.Dvm.I
set_option linter.all false
set_option maxRecDepth 100000
namespace Go.Dvm.I
open Go Go.Dvm
def chainB : List zjs → Int → Bool
 | [], _ => true
 | r :: l, f => decide (FitsR r) && (decide (r.Index = f) && chainB l (f + 1))
theorem zbx7 {r : zjs} (h : FitsR r) : 0 ≤ r.Index ∧ r.Index < 4611686018427387904 := ⟨h.1, h.2.1⟩
theorem zbx8 (z z7 : Bool) (L : List zjs) (first : Int) (hf : 0 ≤ first ∧ first < 4611686018427387904) (hL : L.length ≤ 1000000) : ∀ (k i : Nat), L.length = i + k →
  Ev (fun q => zkj q z L first z7 L (L.length : Int) (i : Int)) (chainB (L.drop i) (first + i) && decide ((L.length : Int) ≤ 4096))
 | 0, i, hk => by
  refine Ev.succ (Ev.neg (by omega) (Ev.ret' ?_)) (fun q => rfl)
  rw [List.drop_of_length_le (by omega)]; rfl
 | k + 1, i, hk => by
  have hi : i < L.length := by omega
  have he : L[((i : Int)).toNat]? = some L[i] := by simp [hi]
  refine Ev.succ (Ev.pos (by omega) (Ev.pos (by omega) (Ev.opt he (Ev.bind (zbu8 _) ?_)))) (fun q => rfl)
  rw [List.drop_eq_getElem_cons hi]
  simp only [chainB]
  refine Ev.ite (fun h => Ev.ite (fun h2 => ?_) fun h2 => Ev.ret' ?_) fun h => Ev.ret' ?_
  ·rw [zbuo (by omega) (by omega)] at h2
   have h' : FitsR L[i] := by simpa using h
   have := zbx8 z z7 L first hf hL k (i + 1) (by omega)
   rw [show wrp .i64 ((i : Int) + 1) = ((i + 1 : Nat) : Int) by rw [zbuo (by omega) (by omega)]; omega]
   refine Ev.cast this ?_
   simp only [h', decide_true, Bool.true_and, h2]
   rw [show first + ((i + 1 : Nat) : Int) = first + (i : Int) + 1 by omega]
  ·rw [zbuo (by omega) (by omega)] at h2
   simp [h2]
  ·have h' : ¬ FitsR L[i] := by simpa using h
   simp [h']
theorem zbx9 (s : Sl zjs) (first : Int) (hf : 0 ≤ first ∧ first < 4611686018427387904) (hL : s.l.length ≤ 1000000) : Ev (fun q => zkk q s first) (chainB s.l first && decide ((s.l.length : Int) ≤ 4096)) := by
 have := zbx8 s.z s.z s.l first hf hL s.l.length 0 (by simp)
 refine Ev.succ (Ev.cast this ?_) (fun q => rfl)
 simp
/-- The number of the last record of a process. -/
def lastS : List zjs → Int → Int
 | [], _ => 0
 | r :: l, p => if p = r.Proc then r.Seq else lastS l p
/-- A map that has, of each process, the last one's number: by the records turned round. -/
def mapR : List zjs → List (Int × Int)
 | [] => []
 | r :: l => mset (mapR l) r.Proc r.Seq
theorem zbya (m : List (Int × Int)) (n y p : Int) : mget (mset m n y) p = if p = n then y else mget m p := by
 induction m with
 | nil => simp [mset, mget]
 | cons e m ih =>
  obtain ⟨k, v⟩ := e
  simp only [mset]
  by_cases h : n = k
  ·subst h
   rw [if_pos rfl]
   simp only [mget]
   by_cases hp : p = n
   ·rw [if_pos hp, if_pos hp]
   ·rw [if_neg hp, if_neg hp, if_neg hp]
  ·rw [if_neg h]
   simp only [mget]
   by_cases hp : p = k
   ·rw [if_pos hp, if_pos hp, if_neg (fun e => h (by rw [← e, hp]))]
   ·rw [if_neg hp, if_neg hp, ih]
theorem zbyb (l : List zjs) (p : Int) : mget (mapR l) p = lastS l p := by
 induction l with
 | nil => rfl
 | cons r l ih => simp only [mapR, zbya, lastS, ih]
end Go.Dvm.I
set_option linter.all false
set_option maxRecDepth 100000
namespace Go.Dvm.I
open Go Go.Dvm
/-- A block's records as bytes, behind others (these turned round). -/
def blkB : List zjs → List zjs → List Int
 | _, [] => []
 | pr, r :: l => (put r.Proc ++ (putS (r.Seq - lastS pr r.Proc) ++ (opB r.Op ++ putS r.Resp))) ++ blkB (r :: pr) l
theorem zbyc {l : List zjs} (h : ∀ r ∈ l, FitsR r) (p : Int) : 0 ≤ lastS l p ∧ lastS l p < 4611686018427387904 := by
 induction l with
 | nil => simp [lastS]
 | cons r l ih =>
  simp only [lastS]
  split
  ·have := h r List.mem_cons_self
   exact ⟨this.2.2.2.2.1, this.2.2.2.2.2.1⟩
  ·exact ih fun r hr => h r (List.mem_cons_of_mem _ hr)
theorem zbyd (z : Bool) (L : List zjs) (hf : ∀ r ∈ L, FitsR r) (hL : L.length ≤ 1000000) : ∀ (k i : Nat) (l : List Int), L.length = i + k → l.length + 60 * k ≤ 4294967296 →
  Ev (fun q => zkq q z L (L.length : Int) (i : Int) (mapR (L.take i).reverse) false l true) (⟨false, true, l ++ blkB (L.take i).reverse (L.drop i)⟩, 0)
 | 0, i, l, hk, hl => by
  refine Ev.succ (Ev.neg (by omega) (Ev.ret' ?_)) (fun q => rfl)
  rw [List.drop_of_length_le (by omega)]; simp [blkB]
 | k + 1, i, l, hk, hl => by
  have hi : i < L.length := by omega
  have he : L[((i : Int)).toNat]? = some L[i] := by simp [hi]
  have hfit := hf L[i] (List.getElem_mem hi)
  have hr := hfit
  obtain ⟨h1, h2, h3, h4, h5, h6, h7, h8, h9⟩ := hfit
  have hpr : ∀ r ∈ (L.take i).reverse, FitsR r := fun r hr => hf r (List.mem_of_mem_take (List.mem_reverse.1 hr))
  have hlast := zbyc hpr L[i].Proc
  have hw : wrp .i64 (L[i].Seq - mget (mapR (L.take i).reverse) L[i].Proc) = L[i].Seq - lastS (L.take i).reverse L[i].Proc := by
   rw [zbyb, zbuo (by omega) (by omega)]
  have p1 := zbuy L[i].Proc
  have i1 : inR .i64 (L[i].Seq - lastS (L.take i).reverse L[i].Proc) := zbva (by omega) (by omega)
  have i2 : inR .i64 L[i].Resp := zbva (by omega) (by omega)
  have p2 := zbu9 i1
  have p3 := zbvb h7
  have p4 := zbu9 i2
  refine Ev.succ (Ev.pos (by omega) (Ev.pos (by omega) (Ev.opt he (Ev.bind (zbuz ⟨false, true, l⟩ h3 (by omega) (by simp only; omega)) ?_)))) (fun q => rfl)
  simp only [hw]
  refine Ev.bind (zbu3 _ i1 (by simp only [List.length_append]; omega)) (Ev.bind (zbvc _ h7 (by simp only [List.length_append]; omega)) (Ev.bind (zbu3 _ i2 (by simp only [List.length_append]; omega)) ?_))
  rw [show wrp .i64 ((i : Int) + 1) = ((i + 1 : Nat) : Int) by rw [zbuo (by omega) (by omega)]; omega]
  have ht : (L.take (i + 1)).reverse = L[i] :: (L.take i).reverse := by
   rw [List.take_succ, List.getElem?_eq_getElem hi]; simp
  have ih := zbyd z L hf hL k (i + 1) (((l ++ put L[i].Proc) ++ putS (L[i].Seq - lastS (L.take i).reverse L[i].Proc)) ++ opB L[i].Op ++ putS L[i].Resp) (by omega) (by simp only [List.length_append]; omega)
  rw [ht] at ih
  simp only [mapR] at ih
  refine Ev.cast ih ?_
  rw [List.drop_eq_getElem_cons hi]
  simp [blkB]
theorem zbye {l : List zjs} {f : Int} (h : chainB l f = true) : ∀ r ∈ l, FitsR r := by
 induction l generalizing f with
 | nil => intro r hr; simp at hr
 | cons a l ih =>
  simp only [chainB, Bool.and_eq_true, decide_eq_true_eq] at h
  intro r hr
  rcases List.mem_cons.1 hr with e | e
  ·rw [e]; exact h.1
  ·exact ih h.2.2 r e
/-- May records stand in one block? -/
def blkOk (l : List zjs) : Bool := match l with
 | [] => false
 | r :: _ => chainB l r.Index && decide ((l.length : Int) ≤ 256)
def blkE (l : List zjs) : List Int := match l with
 | [] => []
 | r :: _ => put r.Index ++ (put (l.length : Int) ++ blkB [] l)
theorem zbyf (z : Bool) (e : zjs) (L' : List zjs) (hL : (e :: L').length ≤ 1000000) : ∀ (k i : Nat), (e :: L').length = i + k → (0 < i → FitsR e) →
  Ev (fun q => zkl q z (e :: L') z (e :: L') ((e :: L').length : Int) (i : Int)) (chainB ((e :: L').drop i) (e.Index + i) && decide (((e :: L').length : Int) ≤ 256))
 | 0, i, hk, hE => by
  refine Ev.succ (Ev.neg (by omega) (Ev.pos (by simp) (Ev.ret' ?_))) (fun q => rfl)
  rw [List.drop_of_length_le (by omega)]; rfl
 | k + 1, i, hk, hE => by
  have hi : i < (e :: L').length := by omega
  have hE' : decide (FitsR (e :: L')[i]) = true → FitsR e := by
   intro h
   by_cases h0 : 0 < i
   ·exact hE h0
   ·have : i = 0 := by omega
    subst this; simpa using h
  have he : (e :: L')[((i : Int)).toNat]? = some (e :: L')[i] := by simp [hi]
  refine Ev.succ (Ev.pos (by omega) (Ev.pos (by omega) (Ev.opt he (Ev.bind (zbu8 _) ?_)))) (fun q => rfl)
  rw [List.drop_eq_getElem_cons hi]
  simp only [chainB]
  refine Ev.ite (fun h => Ev.opt (s := e) rfl (Ev.ite (fun h2 => ?_) fun h2 => Ev.ret' ?_)) fun h => Ev.ret' ?_
  ·have hfe := zbx7 (hE' h)
   rw [zbuo (by omega) (by omega)] at h2
   have h' : FitsR (e :: L')[i] := by simpa using h
   have := zbyf z e L' hL k (i + 1) (by omega) (fun _ => hE' h)
   rw [show wrp .i64 ((i : Int) + 1) = ((i + 1 : Nat) : Int) by rw [zbuo (by omega) (by omega)]; omega]
   refine Ev.cast this ?_
   simp only [h', decide_true, Bool.true_and, h2]
   rw [show e.Index + ((i + 1 : Nat) : Int) = e.Index + (i : Int) + 1 by omega]
  ·have hfe := zbx7 (hE' h)
   rw [zbuo (by omega) (by omega)] at h2
   simp [h2]
  ·have h' : ¬ FitsR (e :: L')[i] := by simpa using h
   simp [h']
theorem zbyg (s : Sl zjs) (hL : s.l.length ≤ 1000000) : Ev (fun q => zkm q s) (blkOk s.l) := by
 obtain ⟨z, l⟩ := s
 cases l with
 | nil =>
  refine Ev.succ (g := fun q => zkl q z [] z [] ((([] : List zjs).length : Nat) : Int) 0) ?_ (fun q => rfl)
  refine ⟨1, fun q hq => ?_⟩
  obtain ⟨n, rfl⟩ : ∃ n, q = n + 1 := ⟨q - 1, by omega⟩
  simp [zkl, blkOk]
 | cons e L' =>
  have := zbyf z e L' hL (e :: L').length 0 (by simp) (by omega)
  refine Ev.succ (Ev.cast this ?_) (fun q => rfl)
  simp [blkOk]
theorem zbyh (s : Sl zjs) (hL : s.l.length ≤ 1000000) : Ev (fun q => zkr q s) (if blkOk s.l = true then (⟨false, true, blkE s.l⟩, 0) else (⟨true, true, []⟩, 1)) := by
 refine Ev.succ (Ev.bind (zbyg s hL) (Ev.ite (fun h => ?_) fun h => ?_)) (fun q => rfl)
 ·rw [if_pos h]
  obtain ⟨z, l⟩ := s
  cases l with
  | nil => simp [blkOk] at h
  | cons e L' =>
   have hf := zbye (l := e :: L') (f := e.Index) (by simp only [blkOk, Bool.and_eq_true] at h; exact h.1)
   have hl256 : ((e :: L').length : Int) ≤ 256 := by simp only [blkOk, Bool.and_eq_true, decide_eq_true_eq] at h; exact h.2
   have hfe := zbx7 (hf e List.mem_cons_self)
   have p1 := zbuy e.Index
   have p2 := zbuy ((e :: L').length : Int)
   refine Ev.opt (s := e) rfl (Ev.bind (zbuz _ hfe.1 hfe.2 (by simp)) (Ev.bind (zbuz _ (by omega) (by omega) (by simp only [List.nil_append]; omega)) ?_))
   have := zbyd z (e :: L') hf hL (e :: L').length 0 (([] ++ put e.Index) ++ put ((e :: L').length : Int)) (by simp) (by simp only [List.length_append, List.length_nil]; omega)
   refine Ev.cast this ?_
   simp [blkE]
 ·rw [if_neg h]; exact Ev.ret _
end Go.Dvm.I
set_option linter.all false
set_option maxRecDepth 100000
namespace Go.Dvm.I
open Go Go.Dvm
/-- Records of an elder version, one behind the other. -/
def recsB (v : Int) : List zjs → List Int
 | [] => []
 | r :: l => (put ((recB v r).length : Int) ++ recB v r) ++ recsB v l
def dataB (v : Int) (l : List zjs) : List Int := if v = 3 then blkE l else recsB v l
theorem zbyi {v : Int} (v1 : 1 ≤ v) (v3 : v ≤ 3) (z : Bool) (L : List zjs) (hf : ∀ r ∈ L, FitsR r) (hL : L.length ≤ 1000000) : ∀ (k i : Nat) (h0z : Bool) (l : List Int), L.length = i + k → l.length + 1010 * k ≤ 4294967296 →
  Ev (fun q => zkw q v z L (L.length : Int) (i : Int) h0z l true) ⟨h0z && decide (k = 0), true, l ++ recsB v (L.drop i)⟩
 | 0, i, h0z, l, hk, hl => by
  refine Ev.succ (Ev.neg (by omega) (Ev.ret' ?_)) (fun q => rfl)
  rw [List.drop_of_length_le (by omega)]; simp [recsB]
 | k + 1, i, h0z, l, hk, hl => by
  have hi : i < L.length := by omega
  have he : L[((i : Int)).toNat]? = some L[i] := by simp [hi]
  have hfit := hf L[i] (List.getElem_mem hi)
  have hlen := zbx6 (v := v) hfit
  have p1 := zbuy ((recB v L[i]).length : Int)
  have hE := zbvj v L[i]
  rw [if_neg (by omega), if_pos hfit] at hE
  refine Ev.succ (Ev.pos (by omega) (Ev.pos (by omega) (Ev.opt he (Ev.bind hE (Ev.bind (zbuz ⟨h0z, true, l⟩ (by simp only; omega) (by simp only; omega) (by simp only; omega)) (Ev.pos (by simp only [List.length_append]; omega) ?_)))))) (fun q => rfl)
  rw [show wrp .i64 ((i : Int) + 1) = ((i + 1 : Nat) : Int) by rw [zbuo (by omega) (by omega)]; omega]
  have ih := zbyi v1 v3 z L hf hL k (i + 1) false ((l ++ put ((recB v L[i]).length : Int)) ++ recB v L[i]) (by omega) (by simp only [List.length_append]; omega)
  refine Ev.cast ih ?_
  rw [List.drop_eq_getElem_cons hi]
  simp [recsB]
theorem zbyj {v : Int} (v1 : 1 ≤ v) (v3 : v ≤ 3) (s : Sl zjs) (hf : ∀ r ∈ s.l, FitsR r) (h3 : v = 3 → blkOk s.l = true) (hL : s.l.length ≤ 1000000) : ∃ z, Ev (fun q => zkx q v s) ⟨z, true, dataB v s.l⟩ := by
 by_cases e : v = 3
 ·refine ⟨false, Ev.succ (Ev.pos e (Ev.bind (zbyh s hL) (Ev.ret' ?_))) (fun q => rfl)⟩
  rw [if_pos (h3 e)]; simp [dataB, e]
 ·have := zbyi v1 v3 s.z s.l hf hL s.l.length 0 true [] (by simp) (by simp only [List.length_nil]; omega)
  refine ⟨true && decide (s.l.length = 0), Ev.succ (Ev.neg e (Ev.cast this ?_)) (fun q => rfl)⟩
  simp [dataB, e]
end Go.Dvm.I
set_option linter.all false
set_option maxRecDepth 100000
namespace Go.Dvm.I
open Go Go.Dvm
theorem zbyk {l : List zjs} {f : Int} (h : chainB l f = true) (n : Nat) : chainB (l.take n) f = true := by
 induction l generalizing f n with
 | nil => simp [chainB]
 | cons a l ih =>
  simp only [chainB, Bool.and_eq_true, decide_eq_true_eq] at h
  cases n with
  | zero => simp [chainB]
  | succ n => simp only [List.take_succ_cons, chainB, Bool.and_eq_true, decide_eq_true_eq]; exact ⟨h.1, h.2.1, ih h.2.2 n⟩
theorem zbyl {l : List zjs} {f : Int} (h : chainB l f = true) (n : Nat) : chainB (l.drop n) (f + n) = true := by
 induction l generalizing f n with
 | nil => simp [chainB]
 | cons a l ih =>
  simp only [chainB, Bool.and_eq_true, decide_eq_true_eq] at h
  cases n with
  | zero => simpa [chainB] using h
  | succ n =>
   have := ih h.2.2 n
   rw [List.drop_succ_cons, show f + ((n + 1 : Nat) : Int) = f + 1 + (n : Int) by omega]
   exact this
theorem zbym {l : List zjs} {f : Int} (h : chainB l f = true) (h0 : l ≠ []) (hl : l.length ≤ 256) : blkOk l = true := by
 cases l with
 | nil => exact absurd rfl h0
 | cons a l =>
  have := h
  simp only [chainB, Bool.and_eq_true, decide_eq_true_eq] at h
  simp only [blkOk, Bool.and_eq_true, decide_eq_true_eq]
  rw [h.2.1]
  exact ⟨this, by omega⟩
theorem zbyn {v : Int} {l : List zjs} (hf : ∀ r ∈ l, FitsR r) : (recsB v l).length ≤ 1010 * l.length := by
 induction l with
 | nil => simp [recsB]
 | cons r l ih =>
  have h1 := zbx6 (v := v) (hf r List.mem_cons_self)
  have h2 := zbuy ((recB v r).length : Int)
  have h3 := ih fun r hr => hf r (List.mem_cons_of_mem _ hr)
  simp only [recsB, List.length_append, List.length_cons]; omega
theorem zbyo : ∀ {l pr : List zjs}, (∀ r ∈ l, FitsR r) → (∀ r ∈ pr, FitsR r) → (blkB pr l).length ≤ 60 * l.length
 | [], pr, _, _ => by simp [blkB]
 | r :: l, pr, hf, hp => by
  have hr := hf r List.mem_cons_self
  obtain ⟨h1, h2, h3, h4, h5, h6, h7, h8, h9⟩ := hr
  have hlast := zbyc hp r.Proc
  have p1 := zbuy r.Proc
  have p2 := zbu9 (show inR .i64 (r.Seq - lastS pr r.Proc) from zbva (by omega) (by omega))
  have p3 := zbvb h7
  have p4 := zbu9 (show inR .i64 r.Resp from zbva (by omega) (by omega))
  have ih := zbyo (l := l) (pr := r :: pr) (fun r hr => hf r (List.mem_cons_of_mem _ hr)) (fun q hq => (List.mem_cons.1 hq).elim (fun e => e ▸ hf r List.mem_cons_self) (hp q))
  simp only [blkB, List.length_append, List.length_cons]; omega
theorem zbyp {v : Int} {l : List zjs} (hf : ∀ r ∈ l, FitsR r) : (dataB v l).length ≤ 1010 * l.length + 20 := by
 unfold dataB
 split
 ·cases l with
  | nil => simp [blkE]
  | cons r l =>
   have := zbyo (pr := []) hf (by simp)
   have p1 := zbuy r.Index
   have p2 := zbuy ((r :: l).length : Int)
   simp only [blkE, List.length_append]; omega
 ·have := zbyn (v := v) hf; omega
/-- The frames of records, sixteen by sixteen. -/
def blocksB (v : Int) : Nat → List zjs → List (List Int)
 | 0, _ => []
 | k + 1, l => if l.length = 0 then [] else encF (dataB v (l.take 16)) :: blocksB v k (l.drop 16)
end Go.Dvm.I
set_option linter.all false
set_option maxRecDepth 100000
namespace Go.Dvm.I
open Go Go.Dvm
theorem zbyq (o : zjr) : isB (opB o) := zbwk.2 ⟨zbwj _, zbwk.2 ⟨zbwi _, zbwi _⟩⟩
theorem zbyr : ∀ (l pr : List zjs), isB (blkB pr l)
 | [], pr => by intro c hc; simp [blkB] at hc
 | r :: l, pr => zbwk.2 ⟨zbwk.2 ⟨zbwj _, zbwk.2 ⟨zbwi _, zbwk.2 ⟨zbyq _, zbwi _⟩⟩⟩, zbyr l _⟩
theorem zbys (v : Int) : ∀ l : List zjs, isB (recsB v l)
 | [] => by intro c hc; simp [recsB] at hc
 | r :: l => zbwk.2 ⟨zbwk.2 ⟨zbwj _, zbx5⟩, zbys v l⟩
theorem zbyt (v : Int) (l : List zjs) : isB (dataB v l) := by
 unfold dataB
 split
 ·cases l with
  | nil => intro c hc; simp [blkE] at hc
  | cons r l => exact zbwk.2 ⟨zbwj _, zbwk.2 ⟨zbwj _, zbyr _ _⟩⟩
 ·exact zbys v l
theorem zbyu (s : Sl Int) (hb : isB s.l) (hl : s.l.length ≤ 1048576) : ∃ z, Ev (fun q => zke q s) ⟨z, true, encF s.l⟩ := by
 obtain ⟨z, h⟩ := zbwl s hb hl
 exact ⟨z, Ev.succ (Ev.bind h (Ev.ret _)) (fun q => rfl)⟩
theorem zbyv {v : Int} (v1 : 1 ≤ v) (v3 : v ≤ 3) (z1 : Bool) : ∀ (k : Nat) (l : List zjs) (f : Int) (h0z : Bool) (h0l : List (Sl Int)), chainB l f = true → l.length ≤ 16 * k → l.length ≤ 1000000 → h0l.length + k ≤ 4294967296 →
  ∃ z X, Ev (fun q => zky q v z1 l h0z h0l) ⟨z, true, h0l ++ X⟩ ∧ X.map (·.l) = blocksB v k l
 | 0, l, f, h0z, h0l, hc, hk, hl, hh => by
  refine ⟨h0z, [], Ev.succ (Ev.neg (by omega) (Ev.ret' (by simp))) (fun q => rfl), rfl⟩
 | k + 1, l, f, h0z, h0l, hc, hk, hl, hh => by
  by_cases h0 : l.length = 0
  ·refine ⟨h0z, [], Ev.succ (Ev.neg (by omega) (Ev.ret' (by simp))) (fun q => rfl), ?_⟩
   simp [blocksB, h0]
  ·obtain ⟨m, hm⟩ : ∃ m : Nat, m = min 16 l.length := ⟨_, rfl⟩
   have hmI : (if 16 < (l.length : Int) then (16 : Int) else (l.length : Int)) = (m : Int) := by split <;> omega
   have ht : l.take m = l.take 16 := by
    rcases Nat.le_total 16 l.length with h | h
    ·rw [hm, Nat.min_eq_left h]
    ·rw [hm, Nat.min_eq_right h, List.take_length, List.take_of_length_le h]
   have hd : l.drop m = l.drop 16 := by
    rcases Nat.le_total 16 l.length with h | h
    ·rw [hm, Nat.min_eq_left h]
    ·rw [hm, Nat.min_eq_right h, List.drop_length, List.drop_of_length_le h]
   have hf16 := zbye (zbyk hc 16)
   have hl16 : (l.take 16).length ≤ 16 := by simp; omega
   have hb16 : v = 3 → blkOk (l.take 16) = true := fun _ => zbym (zbyk hc 16) (fun e => by
    have := congrArg List.length e
    rw [List.length_take, List.length_nil] at this; omega) (by omega)
   obtain ⟨zd, hdat⟩ := zbyj v1 v3 ⟨z1, l.take 16⟩ hf16 hb16 (by simp only; omega)
   have hdl := zbyp (v := v) hf16
   obtain ⟨zf, hfr⟩ := zbyu ⟨zd, dataB v (l.take 16)⟩ (zbyt _ _) (by simp only; omega)
   obtain ⟨z, X, ih, hX⟩ := zbyv v1 v3 z1 k (l.drop 16) (f + 16) false (h0l ++ [⟨zf, encF (dataB v (l.take 16))⟩]) (by simpa using zbyl hc 16) (by simp; omega) (by simp; omega) (by simp; omega)
   have hT : (if 16 < (l.length : Int) then (16 : Int) else (l.length : Int)).toNat = m := by rw [hmI]; simp
   have hdat' : Ev (fun q => zkx q v ⟨z1, List.take ((if 16 < (l.length : Int) then (16 : Int) else (l.length : Int)).toNat) l⟩) ⟨zd, true, dataB v (l.take 16)⟩ := by rw [hT, ht]; exact hdat
   have ih' : Ev (fun q => zky q v z1 (List.drop ((if 16 < (l.length : Int) then (16 : Int) else (l.length : Int)).toNat) l) false (h0l ++ [⟨zf, encF (dataB v (l.take 16))⟩])) ⟨z, true, (h0l ++ [⟨zf, encF (dataB v (l.take 16))⟩]) ++ X⟩ := by rw [hT, hd]; exact ih
   refine ⟨z, ⟨zf, encF (dataB v (l.take 16))⟩ :: X, Ev.succ (Ev.pos (by omega) (Ev.pos (by rw [hmI]; omega) (Ev.pos (by omega) (Ev.pos (by rw [hT]; omega) (Ev.bind hdat' (Ev.bind hfr (Ev.pos (by omega) (Ev.pos (by rw [hmI]; omega) (Ev.cast ih' (by simp)))))))))) (fun q => rfl), ?_⟩
   simp only [blocksB, h0, if_false, List.map_cons, hX]
end Go.Dvm.I
set_option linter.all false
set_option maxRecDepth 100000
namespace Go.Dvm.I
open Go Go.Dvm
def headD (v kind first : Int) : List Int := (([108] ++ put v) ++ put kind) ++ put first
def headBad (kind first : Int) : Prop := kind < 0 ∨ 6 ≤ kind ∨ first < 0 ∨ 4611686018427387904 ≤ first
instance (k f : Int) : Decidable (headBad k f) := by unfold headBad; infer_instance
theorem zbyw (v kind first : Int) : isB (headD v kind first) ∧ (headD v kind first).length ≤ 31 := by
 have p1 := zbuy v
 have p2 := zbuy kind
 have p3 := zbuy first
 refine ⟨zbwk.2 ⟨zbwk.2 ⟨zbwk.2 ⟨by intro c hc; simp at hc; omega, zbwj _⟩, zbwj _⟩, zbwj _⟩, ?_⟩
 simp only [headD, List.length_append, List.length_cons, List.length_nil]; omega
theorem zbyx (v : Int) : Ev (fun q => zju q v) (decide (1 ≤ v ∧ v ≤ 3)) :=
 Ev.succ (Ev.ite (fun h => Ev.ret' (by simp [h])) fun h => Ev.ret' (by simp [h])) (fun q => rfl)
theorem zbyy (v kind first : Int) : ∃ z, Ev (fun q => zkf q v kind first) (if v < 1 ∨ 3 < v then (⟨true, true, []⟩, 6) else if headBad kind first then (⟨true, true, []⟩, 1) else (⟨z, true, encF (headD v kind first)⟩, 0)) := by
 obtain ⟨hb, hl⟩ := zbyw v kind first
 obtain ⟨z, hfr⟩ := zbyu ⟨false, headD v kind first⟩ hb (by simp only; omega)
 refine ⟨z, Ev.succ (Ev.bind (zbyx v) (Ev.ite (fun h => ?_) fun h => ?_)) (fun q => rfl)⟩
 ·simp only [decide_eq_true_eq] at h
  rw [if_neg (by omega)]
  have p1 := zbuy v
  have p2 := zbuy kind
  refine Ev.ite (fun h1 => ?_) fun h1 => Ev.ite (fun h2 => ?_) fun h2 => Ev.ite (fun h3 => ?_) fun h3 => Ev.ite (fun h4 => ?_) fun h4 => ?_
  ·rw [if_pos (.inl h1)]; exact Ev.ret _
  ·rw [if_pos (.inr (.inl h2))]; exact Ev.ret _
  ·rw [if_pos (.inr (.inr (.inl h3)))]; exact Ev.ret _
  ·rw [if_pos (.inr (.inr (.inr h4)))]; exact Ev.ret _
  ·rw [if_neg (by unfold headBad; omega)]
   exact Ev.bind (zbuz _ (by omega) (by omega) (by simp)) (Ev.bind (zbuz _ (by omega) (by omega) (by simp only [List.length_append, List.length_cons, List.length_nil]; omega)) (Ev.bind (zbuz _ (by omega) (by omega) (by simp only [List.length_append, List.length_cons, List.length_nil]; omega)) (Ev.bind hfr (Ev.ret _))))
 ·simp only [decide_eq_true_eq] at h
  rw [if_pos (by omega)]; exact Ev.ret _
end Go.Dvm.I
set_option linter.all false
set_option maxRecDepth 100000
namespace Go.Dvm.I
open Go Go.Dvm
theorem zbyz {v : Int} (v1 : 1 ≤ v) (v3 : v ≤ 3) (s : Sl zjs) {f : Int} (hc : chainB s.l f = true) (hL : s.l.length ≤ 1000000) : ∃ z X, Ev (fun q => zkz q v s) ⟨z, true, X⟩ ∧ X.map (·.l) = blocksB v s.l.length s.l := by
 obtain ⟨z, X, h1, h2⟩ := zbyv v1 v3 s.z s.l.length s.l f true [] hc (by omega) hL (by simp only [List.length_nil]; omega)
 exact ⟨z, X, Ev.succ (Ev.cast h1 (by simp)) (fun q => rfl), h2⟩
end Go.Dvm.I
set_option linter.all false
set_option maxRecDepth 100000
namespace Go.Dvm.I
open Go Go.Dvm
theorem zby0 (z z7 : Bool) (L : List zjs) (first : Int) (hr : inR .i64 first) (hL : L.length ≤ 1000000) : ∀ (k i : Nat), L.length = i + k → (0 < i → 0 ≤ first ∧ first < 4611686018427387904) →
  Ev (fun q => zkj q z L first z7 L (L.length : Int) (i : Int)) (chainB (L.drop i) (first + i) && decide ((L.length : Int) ≤ 4096))
 | 0, i, hk, h0 => by
  refine Ev.succ (Ev.neg (by omega) (Ev.ret' ?_)) (fun q => rfl)
  rw [List.drop_of_length_le (by omega)]; rfl
 | k + 1, i, hk, h0 => by
  have hi : i < L.length := by omega
  have he : L[((i : Int)).toNat]? = some L[i] := by simp [hi]
  have hR := inR64 hr
  have hw : wrp .i64 (first + (i : Int)) = first + (i : Int) := by
   by_cases h : 0 < i
   ·have := h0 h; rw [zbuo (by omega) (by omega)]
   ·rw [zbuo (by omega) (by omega)]
  refine Ev.succ (Ev.pos (by omega) (Ev.pos (by omega) (Ev.opt he (Ev.bind (zbu8 _) ?_)))) (fun q => rfl)
  rw [List.drop_eq_getElem_cons hi]
  simp only [chainB]
  refine Ev.ite (fun h => Ev.ite (fun h2 => ?_) fun h2 => Ev.ret' ?_) fun h => Ev.ret' ?_
  ·rw [hw] at h2
   have h' : FitsR L[i] := by simpa using h
   have hfi := zbx7 h'
   have := zby0 z z7 L first hr hL k (i + 1) (by omega) (fun _ => by
    by_cases h : 0 < i
    ·exact h0 h
    ·omega)
   rw [show wrp .i64 ((i : Int) + 1) = ((i + 1 : Nat) : Int) by rw [zbuo (by omega) (by omega)]; omega]
   refine Ev.cast this ?_
   simp only [h', decide_true, Bool.true_and, h2]
   rw [show first + ((i + 1 : Nat) : Int) = first + (i : Int) + 1 by omega]
  ·rw [hw] at h2
   simp [h2]
  ·have h' : ¬ FitsR L[i] := by simpa using h
   simp [h']
theorem zby1 (s : Sl zjs) (first : Int) (hr : inR .i64 first) (hL : s.l.length ≤ 1000000) : Ev (fun q => zkk q s first) (chainB s.l first && decide ((s.l.length : Int) ≤ 4096)) := by
 have := zby0 s.z s.z s.l first hr hL s.l.length 0 (by simp) (by omega)
 refine Ev.succ (Ev.cast this ?_) (fun q => rfl)
 simp
/-- May records be a segment's body? -/
def bodOk (l : List zjs) : Bool := match l with
 | [] => true
 | r :: _ => chainB l r.Index && decide ((l.length : Int) ≤ 4096)
/-- All bytes, one behind the other. -/
theorem zby2 (l : List (Sl Int)) : flat l = (l.map (·.l)).flatten := by simp [flat, List.flatMap]
theorem zby3 (l : List Int) : (encF l).length ≤ l.length + 14 ∧ 4 ≤ (encF l).length := by
 have := zbuy (l.length : Int)
 unfold encF fix4
 simp only [List.length_append, List.length_cons, List.length_nil]; omega
theorem zby4 {v : Int} : ∀ {k : Nat} {l : List zjs}, (∀ r ∈ l, FitsR r) → (blocksB v k l).flatten.length ≤ 20000 * l.length ∧ (blocksB v k l).length ≤ l.length
 | 0, l, hf => by simp [blocksB]
 | k + 1, l, hf => by
  simp only [blocksB]
  split
  ·simp
  ·have h1 := zbyp (v := v) (l := l.take 16) (fun r hr => hf r (List.mem_of_mem_take hr))
   have h2 := (zby3 (dataB v (l.take 16))).1
   obtain ⟨h3, h5⟩ := zby4 (v := v) (k := k) (l := l.drop 16) (fun r hr => hf r (List.mem_of_mem_drop hr))
   have h4 : (l.take 16).length ≤ 16 := by simp; omega
   simp only [List.length_drop] at h3 h5
   simp only [List.flatten_cons, List.length_append, List.length_cons]
   omega
theorem zby5 {v : Int} : ∀ {k : Nat} {l : List zjs}, (∀ r ∈ l, FitsR r) → ∀ f ∈ blocksB v k l, f.length ≤ 20000
 | 0, l, hf, f, h => by simp [blocksB] at h
 | k + 1, l, hf, f, h => by
  simp only [blocksB] at h
  split at h
  ·simp at h
  ·have h1 := zbyp (v := v) (l := l.take 16) (fun r hr => hf r (List.mem_of_mem_take hr))
   have h2 := (zby3 (dataB v (l.take 16))).1
   have h4 : (l.take 16).length ≤ 16 := by simp; omega
   rcases List.mem_cons.1 h with e | e
   ·rw [e]; omega
   ·exact zby5 (fun r hr => hf r (List.mem_of_mem_drop hr)) f e
def bodyB (v : Int) (l : List zjs) : List Int := (blocksB v l.length l).flatten
theorem zby6 {l : List zjs} (h : bodOk l = true) : ∃ f, chainB l f = true := by
 cases l with
 | nil => exact ⟨0, rfl⟩
 | cons r l => simp only [bodOk, Bool.and_eq_true] at h; exact ⟨_, h.1⟩
theorem zby7 (v : Int) (s : Sl zjs) (ho : ∀ r ∈ s.l, zjs.ok r) (hL : s.l.length ≤ 100000) : ∃ z, Ev (fun q => zk4 q v s) (if v < 1 ∨ 3 < v then (⟨true, true, []⟩, 6) else if bodOk s.l = true then (⟨z, true, bodyB v s.l⟩, 0) else (⟨true, true, []⟩, 1)) := by
 by_cases hv : v < 1 ∨ 3 < v
 ·refine ⟨true, Ev.succ (Ev.bind (zbyx v) (Ev.neg (by simp only [decide_eq_true_eq]; omega) (Ev.ret' ?_))) (fun q => rfl)⟩
  rw [if_pos hv]
 ·simp only [if_neg hv]
  have main : bodOk s.l = true → ∃ z, Ev (fun q => (zkz q v s).bind fun r4 => (zkc q ⟨r4.n, r4.xs⟩).bind fun r5 => some (r5, (0 : Int))) (⟨z, true, bodyB v s.l⟩, 0) := fun hb => by
   obtain ⟨f, hc⟩ := zby6 hb
   have hf := zbye hc
   obtain ⟨z, X, h1, h2⟩ := zbyz (v := v) (by omega) (by omega) s hc (by omega)
   obtain ⟨h3, h4⟩ := zby4 (v := v) (k := s.l.length) hf
   have h5 : X.length ≤ s.l.length := by rw [← h2, List.length_map] at h4; exact h4
   obtain ⟨z', hC⟩ := zbwh ⟨z, X⟩ (by simp only; omega) (by simp only [zby2, h2]; omega)
   simp only [zby2, h2] at hC
   exact ⟨z', Ev.bind h1 (Ev.bind hC (Ev.ret _))⟩
  by_cases hb : bodOk s.l = true
  ·simp only [if_pos hb]
   obtain ⟨z, hm⟩ := main hb
   refine ⟨z, Ev.succ (Ev.bind (zbyx v) (Ev.pos (by simp only [decide_eq_true_eq]; omega) ?_)) (fun q => rfl)⟩
   obtain ⟨sz, sl⟩ := s
   cases sl with
   | nil => exact Ev.neg (by simp) hm
   | cons r l =>
    refine Ev.pos (by simp only [List.length_cons]; omega) (Ev.opt (s := r) rfl (Ev.bind (zby1 _ _ (ho r List.mem_cons_self).1 (by omega)) (Ev.pos ?_ hm)))
    simpa only [bodOk] using hb
  ·simp only [if_neg hb]
   refine ⟨true, Ev.succ (Ev.bind (zbyx v) (Ev.pos (by simp only [decide_eq_true_eq]; omega) ?_)) (fun q => rfl)⟩
   obtain ⟨sz, sl⟩ := s
   cases sl with
   | nil => exact absurd rfl hb
   | cons r l =>
    refine Ev.pos (by simp only [List.length_cons]; omega) (Ev.opt (s := r) rfl (Ev.bind (zby1 _ _ (ho r List.mem_cons_self).1 (by omega)) (Ev.neg ?_ (Ev.ret _))))
    simpa only [bodOk] using hb
end Go.Dvm.I
set_option linter.all false
set_option maxRecDepth 100000
namespace Go.Dvm.I
open Go Go.Dvm
def lensB (F : List (List Int)) : List Int := F.flatMap fun f => put (f.length : Int)
theorem zby8 (f : List Int) (F : List (List Int)) : lensB (f :: F) = put (f.length : Int) ++ lensB F := by simp [lensB]
theorem zby9 (F : List (List Int)) : (lensB F).length ≤ 10 * F.length := by
 induction F with
 | nil => simp [lensB]
 | cons f F ih =>
  have := zbuy (f.length : Int)
  rw [zby8, List.length_append, List.length_cons]; omega
theorem zbza (F : List (List Int)) : isB (lensB F) := by
 induction F with
 | nil => intro c hc; simp [lensB] at hc
 | cons f F ih => rw [zby8]; exact zbwk.2 ⟨zbwj _, ih⟩
/-- The data of a footer, by the frames ahead of it. -/
def footD (F : List (List Int)) : List Int := put ((F.length : Int) - 1) ++ lensB F.dropLast
theorem zbzb (F : List (List Int)) : (footD F).length ≤ 10 * F.length + 10 := by
 have h1 := zbuy ((F.length : Int) - 1)
 have h2 := zby9 F.dropLast
 rw [List.length_dropLast] at h2
 unfold footD; rw [List.length_append]; omega
theorem zbzc (F : List (List Int)) : isB (footD F) := zbwk.2 ⟨zbwj _, zbza _⟩
theorem zbzd (z : Bool) (L : List (Sl Int)) (hL : L.length ≤ 100000) (he : ∀ e ∈ L, e.l.length ≤ 4294967296) : ∀ (k i : Nat) (n : Bool) (l : List Int), L.length = i + k → l.length ≤ 10 * i + 10 → isB l →
  ∃ z', Ev (fun q => zk0 q z L (L.length : Int) (i : Int) n l true) ⟨z', true, encF (l ++ lensB ((L.drop i).map (·.l)))⟩
 | 0, i, n, l, hk, hl, hb => by
  rw [List.drop_of_length_le (by omega)]
  obtain ⟨z', h⟩ := zbyu ⟨n, l⟩ hb (by simp only; omega)
  refine ⟨z', Ev.succ (Ev.neg (by omega) (Ev.bind h (Ev.ret' ?_))) (fun q => rfl)⟩
  simp [lensB]
 | k + 1, i, n, l, hk, hl, hb => by
  have hi : i < L.length := by omega
  have hg : L[((i : Int)).toNat]? = some L[i] := by simp [hi]
  have hm := he L[i] (List.getElem_mem hi)
  have hp := zbuy (L[i].l.length : Int)
  obtain ⟨z', ih⟩ := zbzd z L hL he k (i + 1) false (l ++ put (L[i].l.length : Int)) (by omega) (by rw [List.length_append]; omega) (zbwk.2 ⟨hb, zbwj _⟩)
  rw [show ((i + 1 : Nat) : Int) = wrp .i64 ((i : Int) + 1) by rw [zbuo (by omega) (by omega)]; omega] at ih
  refine ⟨z', Ev.succ (Ev.pos (by omega) (Ev.pos (by omega) (Ev.opt hg (Ev.bind (zbuz ⟨n, true, l⟩ (by omega) (by omega) (by simp only; omega)) (Ev.cast ih ?_))))) (fun q => rfl)⟩
  rw [List.drop_eq_getElem_cons hi, List.map_cons, zby8, List.append_assoc]
theorem zbze (s : Sl (Sl Int)) (h1 : 1 ≤ s.l.length) (h2 : s.l.length ≤ 100000) (h3 : ∀ e ∈ s.l, e.l.length ≤ 4294967296) : ∃ z, Ev (fun q => zk1 q s) ⟨z, true, encF (footD (s.l.map (·.l)))⟩ := by
 have hw : wrp .i64 ((s.l.length : Int) - 1) = ((s.l.length - 1 : Nat) : Int) := by rw [zbuo (by omega) (by omega)]; omega
 have hp := zbuy ((s.l.length - 1 : Nat) : Int)
 have ht : (s.l.take (s.l.length - 1)).length = s.l.length - 1 := by rw [List.length_take]; omega
 obtain ⟨z, h⟩ := zbzd s.z (s.l.take (s.l.length - 1)) (by omega) (fun e he => h3 e (List.mem_of_mem_take he)) (s.l.length - 1) 0 false ([] ++ put ((s.l.length - 1 : Nat) : Int)) (by omega) (by simpa using hp) (by simpa using zbwj _)
 rw [ht] at h
 refine ⟨z, Ev.succ (g := fun q => (zjx q ⟨true, true, []⟩ (wrp .i64 ((s.l.length : Int) - 1))).bind fun r1 => (if 0 ≤ (wrp .i64 ((s.l.length : Int) - 1)) then (if (wrp .i64 ((s.l.length : Int) - 1)).toNat ≤ s.l.length then (zk0 q s.z (List.take ((wrp .i64 ((s.l.length : Int) - 1)).toNat) s.l) (((min ((wrp .i64 ((s.l.length : Int) - 1)).toNat) s.l.length) : Nat) : Int) 0 r1.n r1.xs r1.x) else none) else none)) ?_ (fun q => rfl)⟩
 rw [hw]
 simp only [Int.toNat_natCast]
 refine Ev.bind (zbuz ⟨true, true, []⟩ (by omega) (by omega) (by simp)) (Ev.pos (by omega) (Ev.pos (by omega) ?_))
 rw [Nat.min_eq_left (by omega)]
 refine Ev.cast h ?_
 simp only [footD, List.nil_append, List.drop_zero, List.length_map, ← List.map_dropLast, List.dropLast_eq_take, ← List.map_take]
 rw [show (s.l.length : Int) - 1 = ((s.l.length - 1 : Nat) : Int) by omega]
/-- A segment's frames but the footer, and its bytes. -/
def segF (v k f : Int) (l : List zjs) : List (List Int) := encF (headD v k f) :: blocksB v l.length l
def segE (v k f : Int) (l : List zjs) : List Int := (segF v k f l).flatten ++ encF (footD (segF v k f l))
def segOk (k f : Int) (l : List zjs) : Prop := ¬ headBad k f ∧ (chainB l f && decide ((l.length : Int) ≤ 4096)) = true
instance (k f : Int) (l : List zjs) : Decidable (segOk k f l) := by unfold segOk; infer_instance
theorem zbzf (v k f : Int) : (encF (headD v k f)).length ≤ 45 := by
 have h1 := (zbyw v k f).2
 have h2 := (zby3 (headD v k f)).1
 omega
theorem notBad {k f : Int} (h : ¬ headBad k f) : 0 ≤ k ∧ k < 6 ∧ 0 ≤ f ∧ f < 4611686018427387904 := by unfold headBad at h; omega
theorem zbzg (v : Int) (s : zjt) (hL : s.Records.l.length ≤ 80000) : Ev (fun q => zk2 q v s) (if v < 1 ∨ 3 < v then (⟨true, true, []⟩, 6) else if segOk s.Kind s.First s.Records.l then (⟨false, true, segE v s.Kind s.First s.Records.l⟩, 0) else (⟨true, true, []⟩, 1)) := by
 obtain ⟨z, hh⟩ := zbyy v s.Kind s.First
 by_cases hv : v < 1 ∨ 3 < v
 ·rw [if_pos hv] at hh ⊢
  exact Ev.succ (Ev.bind hh (Ev.neg (by simp only; omega) (Ev.ret _))) (fun q => rfl)
 ·rw [if_neg hv] at hh ⊢
  by_cases hb : headBad s.Kind s.First
  ·rw [if_pos hb] at hh
   rw [if_neg (fun h => h.1 hb)]
   exact Ev.succ (Ev.bind hh (Ev.neg (by simp only; omega) (Ev.ret _))) (fun q => rfl)
  ·rw [if_neg hb] at hh
   have hk := notBad hb
   refine Ev.succ (Ev.bind hh (Ev.pos rfl (Ev.bind (zbx9 s.Records s.First ⟨hk.2.2.1, hk.2.2.2⟩ (by omega)) (Ev.ite (fun h => ?_) fun h => ?_)))) (fun q => rfl)
   ·rw [if_pos ⟨hb, h⟩]
    have hc : chainB s.Records.l s.First = true := by simp only [Bool.and_eq_true] at h; exact h.1
    have hf := zbye hc
    obtain ⟨z1, X, h1, h2⟩ := zbyz (v := v) (by omega) (by omega) s.Records hc (by omega)
    obtain ⟨h3, h4⟩ := zby4 (v := v) (k := s.Records.l.length) hf
    have h5 : X.length ≤ s.Records.l.length := by rw [← h2, List.length_map] at h4; exact h4
    have hhl := zbzf v s.Kind s.First
    have hF : ([⟨z, encF (headD v s.Kind s.First)⟩] ++ X : List (Sl Int)).map (·.l) = segF v s.Kind s.First s.Records.l := by simp [segF, h2]
    have hFl : (flat ([⟨z, encF (headD v s.Kind s.First)⟩] ++ X)).length ≤ 4000000000 := by
     rw [zby2, hF]; simp only [segF, List.flatten_cons, List.length_append]; omega
    obtain ⟨z2, hC⟩ := zbwh ⟨false, [⟨z, encF (headD v s.Kind s.First)⟩] ++ X⟩ (by simp; omega) (by simp only; omega)
    obtain ⟨z3, hF2⟩ := zbze ⟨false, [⟨z, encF (headD v s.Kind s.First)⟩] ++ X⟩ (by simp) (by simp; omega) (fun e he => by
     have : e.l ∈ (([⟨z, encF (headD v s.Kind s.First)⟩] ++ X : List (Sl Int)).map (·.l)) := List.mem_map_of_mem (f := fun x : Sl Int => x.l) he
     rw [hF] at this
     rcases List.mem_cons.1 this with e1 | e1
     ·rw [e1]; omega
     ·have := zby5 hf _ e1; omega)
    have hfl := zbzb (segF v s.Kind s.First s.Records.l)
    have hfs : (segF v s.Kind s.First s.Records.l).length ≤ 80001 := by rw [← hF]; simp; omega
    have hfe := zby3 (footD (segF v s.Kind s.First s.Records.l))
    simp only [hF] at hF2
    refine Ev.bind h1 (Ev.pos (by simp only; omega) (Ev.bind hC (Ev.bind hF2 (Ev.pos (by simp only; omega) (Ev.ret' ?_)))))
    simp only [zby2, hF, segE]
    rw [show decide ((encF (footD (segF v s.Kind s.First s.Records.l))).length = 0) = false by simp only [decide_eq_false_iff_not]; omega, Bool.and_false]
   ·rw [if_neg (fun h' => h h'.2)]; exact Ev.ret _
theorem put_lt {n : Int} (h1 : 0 ≤ n) (h2 : n < 128) : put n = [n] := by
 rw [put_ok h1 (by omega), grp_lt (by omega)]; simp; omega
theorem zbzh : segE 3 0 0 [] = [4, 108, 3, 0, 0] ++ (fix4 (bsum [4, 108, 3, 0, 0]).toNat ++ ([1, 0] ++ fix4 (bsum [1, 0]).toNat)) := by
 have h1 : encF (headD 3 0 0) = [4, 108, 3, 0, 0] ++ fix4 (bsum [4, 108, 3, 0, 0]).toNat := by
  simp [encF, headD, put_lt]
 have h2 : encF [0] = [1, 0] ++ fix4 (bsum [1, 0]).toNat := by simp [encF, put_lt]
 simp only [segE, segF, blocksB, List.length_nil, List.flatten_cons, List.flatten_nil, footD, List.length_cons]
 simp only [List.dropLast_singleton, lensB, List.flatMap_nil, List.append_nil]
 rw [show put (((0 + 1 : Nat) : Int) - 1) = [0] from by simp [put_lt], h1, h2]
 simp only [List.append_assoc]
theorem zbzi : Ev (fun q => zk3 q) true := by
 have h := zbzg 3 (⟨0, 0, ⟨true, []⟩⟩ : zjt) (by simp)
 rw [if_neg (by omega), if_pos (by simp [segOk, headBad, chainB])] at h
 simp only [zbzh] at h
 refine Ev.succ (Ev.bind h (Ev.pos rfl (Ev.pos (by simp [fix4]) (Ev.pos (by simp [fix4]) (Ev.neg (by simp) (Ev.pos (by simp [fix4]) (Ev.pos (by simp [fix4]) (Ev.ret' (by simp [fix4]))))))))) (fun q => rfl)
end Go.Dvm.I
set_option linter.all false
set_option maxRecDepth 100000
namespace Go.Dvm.I
open Go Go.Dvm
theorem zbzj {v : Int} : ∀ {k k' : Nat} {l : List zjs}, l.length ≤ 16 * k → l.length ≤ 16 * k' → blocksB v k l = blocksB v k' l
 | 0, 0, l, _, _ => rfl
 | 0, k' + 1, l, h, _ => by simp only [blocksB]; rw [if_pos (by omega)]
 | k + 1, 0, l, _, h => by simp only [blocksB]; rw [if_pos (by omega)]
 | k + 1, k' + 1, l, h, h' => by
  simp only [blocksB]
  split
  ·rfl
  ·rw [zbzj (k := k) (k' := k') (l := l.drop 16) (by rw [List.length_drop]; omega) (by rw [List.length_drop]; omega)]
theorem zbzk {l : List zjs} {f : Int} (h : chainB l f = true) (hl : l.length ≤ 4096) : bodOk l = true := by
 cases l with
 | nil => rfl
 | cons r l =>
  have h2 := h
  simp only [chainB, Bool.and_eq_true, decide_eq_true_eq] at h2
  simp only [bodOk, Bool.and_eq_true, decide_eq_true_eq]
  rw [h2.2.1]; exact ⟨h, by omega⟩
end Go.Dvm.I
set_option linter.all false
set_option maxRecDepth 100000
namespace Go.Dvm.I
open Go Go.Dvm
/-- The record that bytes begin with (its number is what is told), and how many bytes it has. -/
def rec1 (b : List Int) : zjs × Int :=
  if (getN b).2 = 0 then (noR, 0) else
  if (getS (b.drop (getN b).2.toNat)).2 = 0 then (noR, 0) else
  if (getO ((b.drop (getN b).2.toNat).drop (getS (b.drop (getN b).2.toNat)).2.toNat)).2 = 0 then (noR, 0) else
  if (getS (((b.drop (getN b).2.toNat).drop (getS (b.drop (getN b).2.toNat)).2.toNat).drop (getO ((b.drop (getN b).2.toNat).drop (getS (b.drop (getN b).2.toNat)).2.toNat)).2.toNat)).2 = 0 then (noR, 0) else
  (⟨0, (getN b).1, (getS (b.drop (getN b).2.toNat)).1, (getO ((b.drop (getN b).2.toNat).drop (getS (b.drop (getN b).2.toNat)).2.toNat)).1, (getS (((b.drop (getN b).2.toNat).drop (getS (b.drop (getN b).2.toNat)).2.toNat).drop (getO ((b.drop (getN b).2.toNat).drop (getS (b.drop (getN b).2.toNat)).2.toNat)).2.toNat)).1⟩,
   (getN b).2 + (getS (b.drop (getN b).2.toNat)).2 + (getO ((b.drop (getN b).2.toNat).drop (getS (b.drop (getN b).2.toNat)).2.toNat)).2 + (getS (((b.drop (getN b).2.toNat).drop (getS (b.drop (getN b).2.toNat)).2.toNat).drop (getO ((b.drop (getN b).2.toNat).drop (getS (b.drop (getN b).2.toNat)).2.toNat)).2.toNat)).2)
theorem zbzl (a b c d h1 h2 h3 h4 h5 h6 : Int) (ha : 0 ≤ a ∧ a ≤ 100) (hb : 0 ≤ b ∧ b ≤ 100) (hc : 0 ≤ c ∧ c ≤ 100) (hd : 0 ≤ d ∧ d ≤ 100) :
  Ev (fun q => zlm q 0 a b c d 0 h1 h2 h3 h4 h5 h6) (if a = 0 then (noR, 0) else if b = 0 then (noR, 0) else if c = 0 then (noR, 0) else if d = 0 then (noR, 0) else (⟨0, h1, h2, ⟨h3, h4, h5⟩, h6⟩, a + b + c + d)) := by
 have w1 : wrp .i64 ((0 : Int) + 1) = 1 := by rw [zbuo (by omega) (by omega)]; rfl
 have w2 : wrp .i64 ((1 : Int) + 1) = 2 := by rw [zbuo (by omega) (by omega)]; rfl
 have w3 : wrp .i64 ((2 : Int) + 1) = 3 := by rw [zbuo (by omega) (by omega)]; rfl
 have w4 : wrp .i64 ((3 : Int) + 1) = 4 := by rw [zbuo (by omega) (by omega)]; rfl
 have s1 : wrp .i64 (0 + a) = a := by rw [zbuo (by omega) (by omega)]; omega
 have s2 : wrp .i64 (a + b) = a + b := by rw [zbuo (by omega) (by omega)]
 have s3 : wrp .i64 (a + b + c) = a + b + c := by rw [zbuo (by omega) (by omega)]
 have s4 : wrp .i64 (a + b + c + d) = a + b + c + d := by rw [zbuo (by omega) (by omega)]
 refine Ev.succ (g := fun q => if a = 0 then some (noR, 0) else zlm q (wrp .i64 (0 + a)) a b c d (wrp .i64 (0 + 1)) h1 h2 h3 h4 h5 h6) ?_ (fun q => rfl)
 refine Ev.ite (fun h => ?_) fun h => ?_
 ·rw [if_pos h]; exact Ev.ret _
 rw [if_neg h, w1, s1]
 refine Ev.succ (g := fun q => if b = 0 then some (noR, 0) else zlm q (wrp .i64 (a + b)) a b c d (wrp .i64 (1 + 1)) h1 h2 h3 h4 h5 h6) ?_ (fun q => rfl)
 refine Ev.ite (fun h => ?_) fun h => ?_
 ·rw [if_pos h]; exact Ev.ret _
 rw [if_neg h, w2, s2]
 refine Ev.succ (g := fun q => if c = 0 then some (noR, 0) else zlm q (wrp .i64 (a + b + c)) a b c d (wrp .i64 (2 + 1)) h1 h2 h3 h4 h5 h6) ?_ (fun q => rfl)
 refine Ev.ite (fun h => ?_) fun h => ?_
 ·rw [if_pos h]; exact Ev.ret _
 rw [if_neg h, w3, s3]
 refine Ev.succ (g := fun q => if d = 0 then some (noR, 0) else zlm q (wrp .i64 (a + b + c + d)) a b c d (wrp .i64 (3 + 1)) h1 h2 h3 h4 h5 h6) ?_ (fun q => rfl)
 refine Ev.ite (fun h => ?_) fun h => ?_
 ·rw [if_pos h]; exact Ev.ret _
 rw [if_neg h, w4, s4]
 exact Ev.succ (g := fun q => some (⟨0, h1, h2, ⟨h3, h4, h5⟩, h6⟩, a + b + c + d)) (Ev.ret _) (fun q => rfl)
theorem zbzm (s : Sl Int) (hb : isB s.l) (hl : s.l.length ≤ 4294967296) : Ev (fun q => zln q s) (rec1 s.l) := by
 have n1 := zbws (l := s.l)
 have b1 := zbwz hb (getN s.l).2.toNat
 have n2 := zbxi (l := s.l.drop (getN s.l).2.toNat)
 have b2 := zbwz b1 (getS (s.l.drop (getN s.l).2.toNat)).2.toNat
 have n3 := zbxk (l := (s.l.drop (getN s.l).2.toNat).drop (getS (s.l.drop (getN s.l).2.toNat)).2.toNat)
 have b3 := zbwz b2 (getO ((s.l.drop (getN s.l).2.toNat).drop (getS (s.l.drop (getN s.l).2.toNat)).2.toNat)).2.toNat
 have n4 := zbxi (l := ((s.l.drop (getN s.l).2.toNat).drop (getS (s.l.drop (getN s.l).2.toNat)).2.toNat).drop (getO ((s.l.drop (getN s.l).2.toNat).drop (getS (s.l.drop (getN s.l).2.toNat)).2.toNat)).2.toNat)
 simp only [List.length_drop] at n2 n3 n4
 refine Ev.succ (Ev.bind (zbwr s hb) (Ev.pos (by omega) (Ev.pos (by omega) (Ev.bind (zbxh ⟨s.z, _⟩ b1) (Ev.pos (by simp only; omega) (Ev.pos (by simp only; omega) (Ev.bind (zbxj ⟨s.z, _⟩ b2 (by simp only [List.length_drop]; omega)) (Ev.pos (by simp only; omega) (Ev.pos (by simp only; omega) (Ev.bind (zbxh ⟨s.z, _⟩ b3) ?_)))))))))) (fun q => rfl)
 exact zbzl _ _ _ _ _ _ _ _ _ _ (by omega) (by simp only; omega) (by simp only; omega) (by simp only; omega)
theorem zbzn (b : List Int) : 0 ≤ (rec1 b).2 ∧ (rec1 b).2 ≤ b.length := by
 have n1 := zbws (l := b)
 have n2 := zbxi (l := b.drop (getN b).2.toNat)
 have n3 := zbxk (l := (b.drop (getN b).2.toNat).drop (getS (b.drop (getN b).2.toNat)).2.toNat)
 have n4 := zbxi (l := ((b.drop (getN b).2.toNat).drop (getS (b.drop (getN b).2.toNat)).2.toNat).drop (getO ((b.drop (getN b).2.toNat).drop (getS (b.drop (getN b).2.toNat)).2.toNat)).2.toNat)
 simp only [List.length_drop] at n2 n3 n4
 unfold rec1
 split
 ·simp
 split
 ·simp
 split
 ·simp
 split
 ·simp
 simp only; omega
/-- Records read one behind the other (those ahead turned round). -/
def rdK : Nat → Int → List Int → List zjs → Option (List zjs)
 | 0, _, _, pr => some pr.reverse
 | k + 1, ix, b, pr => if (rec1 b).2 = 0 then none else
  rdK k (ix + 1) (b.drop (rec1 b).2.toNat) (⟨ix, (rec1 b).1.Proc, wrp .i64 ((rec1 b).1.Seq + lastS pr (rec1 b).1.Proc), (rec1 b).1.Op, (rec1 b).1.Resp⟩ :: pr)
def fin7 (b : List Int) (r : Option (List zjs)) : Option (List zjs) := r.bind fun l => if blkOk l = true ∧ blkE l = b then some l else none
def resB : Option (List zjs) → (Ow zjs) × Int
 | some l => (⟨false, false, l⟩, 0)
 | none => (⟨true, true, []⟩, 3)
theorem zbzo (z : Bool) (B : List Int) (first : Int) (hf : 0 ≤ first ∧ first < 4611686018427387904) (many : Nat) (hm : many ≤ 256) (zz : Bool) : ∀ (k i : Nat) (b : List Int) (pr : List zjs) (h1z : Bool), many = i + k → pr.length = i → isB b → b.length ≤ 4294967296 → (0 < i → h1z = false) →
  Ev (fun q => zlp q z B first zz b (many : Int) (i : Int) (mapR pr) h1z pr.reverse) (resB (fin7 B (rdK k (first + i) b pr)))
 | 0, i, b, pr, h1z, hk, hp, hb, hl, hz => by
  have hlen : pr.reverse.length ≤ 1000000 := by rw [List.length_reverse]; omega
  refine Ev.succ (Ev.neg (by omega) (Ev.bind (zbyh ⟨h1z, pr.reverse⟩ hlen) ?_)) (fun q => rfl)
  simp only [rdK, fin7, Option.bind_some]
  by_cases ho : blkOk pr.reverse = true
  ·rw [if_pos ho]
   refine Ev.pos rfl (Ev.bind (Ev.succ (g := fun _ => some (decide (blkE pr.reverse = B))) (Ev.ret _) (fun q => rfl)) (Ev.ite (fun h => ?_) fun h => ?_))
   ·have h' : blkE pr.reverse = B := by simpa using h
    rw [if_pos ⟨ho, h'⟩]
    refine Ev.ret' ?_
    have : 0 < i := by
     cases pr with
     | nil => simp [blkOk] at ho
     | cons a l => rw [← hp]; simp
    rw [hz this]; rfl
   ·have h' : ¬ blkE pr.reverse = B := by simpa using h
    rw [if_neg (fun e => h' e.2)]; exact Ev.ret _
  ·rw [if_neg ho]
   rw [if_neg (fun e => ho e.1)]
   exact Ev.neg (by decide) (Ev.ret _)
 | k + 1, i, b, pr, h1z, hk, hp, hb, hl, hz => by
  have hr := zbzn b
  refine Ev.succ (Ev.pos (by omega) (Ev.bind (zbzm ⟨zz, b⟩ hb hl) ?_)) (fun q => rfl)
  simp only [rdK]
  refine Ev.ite (fun h => ?_) fun h => ?_
  ·rw [if_pos h]; exact Ev.ret _
  ·rw [if_neg h]
   have wi : wrp .i64 ((i : Int) + 1) = ((i + 1 : Nat) : Int) := by rw [zbuo (by omega) (by omega)]; omega
   have wx : wrp .i64 (first + (i : Int)) = first + (i : Int) := by rw [zbuo (by omega) (by omega)]
   have ih := zbzo z B first hf many hm zz k (i + 1) (b.drop (rec1 b).2.toNat) (⟨first + i, (rec1 b).1.Proc, wrp .i64 ((rec1 b).1.Seq + lastS pr (rec1 b).1.Proc), (rec1 b).1.Op, (rec1 b).1.Resp⟩ :: pr) false (by omega) (by rw [List.length_cons, hp]) (zbwz hb _) (by rw [List.length_drop]; omega) (fun _ => rfl)
   refine Ev.pos (by rw [List.length_reverse]; omega) (Ev.pos (by omega) (Ev.pos (by omega) ?_))
   rw [wi, wx, zbyb]
   simp only [mapR, List.reverse_cons] at ih
   rw [show first + ((i + 1 : Nat) : Int) = first + (i : Int) + 1 by omega] at ih
   exact ih
/-- The records of a block's bytes. -/
def blkD (b : List Int) : Option (List zjs) :=
 if (getN b).2 = 0 then none else if (getN (b.drop (getN b).2.toNat)).2 = 0 then none else if 256 < (getN (b.drop (getN b).2.toNat)).1 then none else
 fin7 b (rdK (getN (b.drop (getN b).2.toNat)).1.toNat (getN b).1 ((b.drop (getN b).2.toNat).drop (getN (b.drop (getN b).2.toNat)).2.toNat) [])
theorem zbzp (s : Sl Int) (hb : isB s.l) (hl : s.l.length ≤ 4294967296) : Ev (fun q => zlq q s) (resB (blkD s.l)) := by
 have n1 := zbws (l := s.l)
 have b1 := zbwz hb (getN s.l).2.toNat
 have n2 := zbws (l := s.l.drop (getN s.l).2.toNat)
 have b2 := zbwz b1 (getN (s.l.drop (getN s.l).2.toNat)).2.toNat
 have n2' := n2.2.1
 rw [List.length_drop] at n2'
 have hw : wrp .i64 ((getN s.l).2 + (getN (s.l.drop (getN s.l).2.toNat)).2) = (getN s.l).2 + (getN (s.l.drop (getN s.l).2.toNat)).2 := by rw [zbuo (by omega) (by omega)]
 unfold blkD
 refine Ev.succ (Ev.bind (zbwr s hb) (Ev.pos (by omega) (Ev.pos (by omega) (Ev.bind (zbwr ⟨s.z, _⟩ b1) (Ev.ite (fun h => ?_) fun h => Ev.ite (fun h2 => ?_) fun h2 => Ev.ite (fun h3 => ?_) fun h3 => ?_))))) (fun q => rfl)
 ·rw [if_pos h]; exact Ev.ret _
 ·rw [if_neg h, if_pos h2]; exact Ev.ret _
 ·rw [if_neg h, if_neg h2, if_pos h3]; exact Ev.ret _
 rw [if_neg h, if_neg h2, if_neg h3]
 rw [hw]
 simp only at h2 h3
 have e1 : (s.l.drop ((getN s.l).2 + (getN (s.l.drop (getN s.l).2.toNat)).2).toNat) = (s.l.drop (getN s.l).2.toNat).drop (getN (s.l.drop (getN s.l).2.toNat)).2.toNat := by
  rw [List.drop_drop]; congr 1; omega
 rw [e1]
 have := zbzo s.z s.l (getN s.l).1 ⟨n1.2.2.2.1, n1.2.2.2.2⟩ (getN (s.l.drop (getN s.l).2.toNat)).1.toNat (by omega) s.z (getN (s.l.drop (getN s.l).2.toNat)).1.toNat 0 ((s.l.drop (getN s.l).2.toNat).drop (getN (s.l.drop (getN s.l).2.toNat)).2.toNat) [] true (by omega) rfl b2 (by simp only [List.length_drop]; omega) (by omega)
 rw [Int.toNat_of_nonneg (by omega)] at this
 refine Ev.pos (by omega) (Ev.pos (by omega) (Ev.cast this ?_))
 simp
theorem zbzq {b : List Int} {l : List zjs} (h : blkD b = some l) : blkOk l = true ∧ blkE l = b := by
 unfold blkD at h
 split at h
 ·cases h
 split at h
 ·cases h
 split at h
 ·cases h
 unfold fin7 at h
 revert h
 generalize rdK _ _ _ _ = r
 intro h
 cases r with
 | none => cases h
 | some l' =>
  simp only [Option.bind_some] at h
  split at h
  ·rename_i h2; cases h; exact h2
  ·cases h
theorem zbzr {pr : List zjs} {r : zjs} {x : List Int} (hr : FitsR r) (hp : ∀ r ∈ pr, FitsR r) :
  rec1 ((put r.Proc ++ (putS (r.Seq - lastS pr r.Proc) ++ (opB r.Op ++ putS r.Resp))) ++ x) = (⟨0, r.Proc, r.Seq - lastS pr r.Proc, r.Op, r.Resp⟩, (((put r.Proc ++ (putS (r.Seq - lastS pr r.Proc) ++ (opB r.Op ++ putS r.Resp))).length : Nat) : Int)) := by
 obtain ⟨h1, h2, h3, h4, h5, h6, h7, h8, h9⟩ := hr
 have hlast := zbyc hp r.Proc
 have i1 : inR .i64 (r.Seq - lastS pr r.Proc) := zbva (by omega) (by omega)
 have i2 : inR .i64 r.Resp := zbva (by omega) (by omega)
 have p1 := zbxv (n := r.Proc) h3 (by omega)
 have p2 := zbxu (r.Seq - lastS pr r.Proc)
 have p4 := zbxu r.Resp
 have p3 : 1 ≤ (opB r.Op).length := by unfold opB; simp only [List.length_append]; have := zbxu r.Op.A; omega
 have e1 : getN ((put r.Proc ++ (putS (r.Seq - lastS pr r.Proc) ++ (opB r.Op ++ putS r.Resp))) ++ x) = (r.Proc, ((put r.Proc).length : Int)) := by
  rw [List.append_assoc]; exact zbw1 h3 (by omega)
 have d1 : ((put r.Proc ++ (putS (r.Seq - lastS pr r.Proc) ++ (opB r.Op ++ putS r.Resp))) ++ x).drop (put r.Proc).length = putS (r.Seq - lastS pr r.Proc) ++ (opB r.Op ++ (putS r.Resp ++ x)) := by
  simp only [List.append_assoc, List.drop_left]
 have e2 := zbxt (x := opB r.Op ++ (putS r.Resp ++ x)) i1
 have d2 : (putS (r.Seq - lastS pr r.Proc) ++ (opB r.Op ++ (putS r.Resp ++ x))).drop (putS (r.Seq - lastS pr r.Proc)).length = opB r.Op ++ (putS r.Resp ++ x) := List.drop_left
 have e3 := zbxw (x := putS r.Resp ++ x) h7
 have d3 : (opB r.Op ++ (putS r.Resp ++ x)).drop (opB r.Op).length = putS r.Resp ++ x := List.drop_left
 have e4 := zbxt (x := x) i2
 unfold rec1
 simp only [e1, Int.toNat_natCast, d1, e2, d2, e3, d3, e4]
 rw [if_neg (by omega), if_neg (by omega), if_neg (by omega), if_neg (by omega)]
 simp only [List.length_append, Prod.mk.injEq, true_and]
 omega
theorem zbzs : ∀ {l : List zjs} {ix : Int} {pr : List zjs} {x : List Int}, chainB l ix = true → (∀ r ∈ pr, FitsR r) → rdK l.length ix (blkB pr l ++ x) pr = some (pr.reverse ++ l)
 | [], ix, pr, x, hc, hp => by simp [rdK]
 | r :: l, ix, pr, x, hc, hp => by
  have hc2 := hc
  simp only [chainB, Bool.and_eq_true, decide_eq_true_eq] at hc2
  obtain ⟨hr, hix, hc3⟩ := hc2
  have hlast := zbyc hp r.Proc
  have hr2 := hr
  obtain ⟨h1, h2, h3, h4, h5, h6, h7, h8, h9⟩ := hr2
  simp only [blkB, List.length_cons, rdK, List.append_assoc _ (blkB _ _) x]
  have e := zbzr (x := blkB (r :: pr) l ++ x) hr hp
  rw [e]
  have p1 := zbxv (n := r.Proc) h3 (by omega)
  simp only [Int.toNat_natCast]
  rw [if_neg (by simp only [List.length_append]; omega), List.drop_left]
  have er : (⟨ix, r.Proc, wrp .i64 (r.Seq - lastS pr r.Proc + lastS pr r.Proc), r.Op, r.Resp⟩ : zjs) = r := by
   rw [zbuo (by omega) (by omega), ← hix, show r.Seq - lastS pr r.Proc + lastS pr r.Proc = r.Seq by omega]
  rw [er, zbzs (l := l) (pr := r :: pr) hc3 (fun a ha => (List.mem_cons.1 ha).elim (fun e => e ▸ hr) (hp a))]
  simp
theorem zbzt {l : List zjs} (h : blkOk l = true) : blkD (blkE l) = some l := by
 cases l with
 | nil => simp [blkOk] at h
 | cons r l =>
  have h2 := h
  simp only [blkOk, Bool.and_eq_true, decide_eq_true_eq] at h2
  have hr := zbx7 (zbye h2.1 r List.mem_cons_self)
  have e1 : getN (blkE (r :: l)) = (r.Index, ((put r.Index).length : Int)) := zbw1 hr.1 hr.2
  have d1 : (blkE (r :: l)).drop (put r.Index).length = put ((r :: l).length : Int) ++ blkB [] (r :: l) := List.drop_left
  have e2 : getN (put ((r :: l).length : Int) ++ blkB [] (r :: l)) = (((r :: l).length : Int), ((put ((r :: l).length : Int)).length : Int)) := zbw1 (by omega) (by omega)
  have d2 : (put ((r :: l).length : Int) ++ blkB [] (r :: l)).drop (put ((r :: l).length : Int)).length = blkB [] (r :: l) := List.drop_left
  have p1 := zbxv hr.1 hr.2
  have p2 := zbxv (n := ((r :: l).length : Int)) (by omega) (by omega)
  unfold blkD
  simp only [e1, Int.toNat_natCast, d1, e2, d2]
  rw [if_neg (by omega), if_neg (by omega), if_neg (by omega)]
  have := zbzs (x := []) h2.1 (pr := []) (by simp)
  rw [List.append_nil] at this
  rw [this]
  simp only [fin7, Option.bind_some, List.reverse_nil, List.nil_append]
  rw [if_pos ⟨h, trivial⟩]
end Go.Dvm.I
set_option linter.all false
set_option maxRecDepth 100000
namespace Go.Dvm.I
open Go Go.Dvm
/-- The records of a block of an elder version. -/
def eldD (v : Int) : Nat → List Int → List zjs → Option (List zjs)
 | 0, _, _ => none
 | k + 1, d, acc => if d.length = 0 then some acc else
  if (getN d).2 = 0 then none else if (getN d).1 = 0 then none else if (d.length : Int) - (getN d).2 < (getN d).1 then none else
  if d[(getN d).2.toNat]? = some v then
   (if (decR ((d.drop (getN d).2.toNat).take (getN d).1.toNat)).2 = 0 then eldD v k (d.drop ((getN d).2 + (getN d).1).toNat) (acc ++ [(decR ((d.drop (getN d).2.toNat).take (getN d).1.toNat)).1]) else none)
  else none
def resE (z : Bool) : Option (List zjs) → (Ow zjs) × Bool
 | some l => (⟨z, true, l⟩, true)
 | none => (⟨true, true, []⟩, false)
theorem zbzu {v : Int} (v1 : 1 ≤ v) (v3 : v ≤ 3) (zz : Bool) : ∀ (k : Nat) (d : List Int) (acc : List zjs) (h0z : Bool), d.length < k → isB d → d.length ≤ 4294967296 → acc.length + d.length ≤ 4294967296 →
  ∃ z, Ev (fun q => zlz q v zz d h0z acc) (resE z (eldD v k d acc))
 | 0, d, acc, h0z, hk, hb, hl, ha => by omega
 | k + 1, d, acc, h0z, hk, hb, hl, ha => by
  have n1 := zbws (l := d)
  by_cases h0 : d.length = 0
  ·refine ⟨h0z, Ev.succ (Ev.neg (by omega) (Ev.ret' ?_)) (fun q => rfl)⟩
   simp only [eldD, h0, if_true, resE]
  ·have w1 : wrp .i64 ((d.length : Int) - (getN d).2) = (d.length : Int) - (getN d).2 := by rw [zbuo (by omega) (by omega)]
   by_cases hg : (getN d).2 = 0
   ·refine ⟨true, Ev.succ (Ev.pos (by omega) (Ev.bind (zbwr ⟨zz, d⟩ hb) (Ev.pos hg (Ev.ret' ?_)))) (fun q => rfl)⟩
    simp only [eldD, h0, hg, if_true, if_false, resE]
   by_cases hn : (getN d).1 = 0
   ·refine ⟨true, Ev.succ (Ev.pos (by omega) (Ev.bind (zbwr ⟨zz, d⟩ hb) (Ev.neg hg (Ev.pos hn (Ev.ret' ?_))))) (fun q => rfl)⟩
    simp only [eldD, h0, hg, hn, if_true, if_false, resE]
   by_cases ht : (d.length : Int) - (getN d).2 < (getN d).1
   ·refine ⟨true, Ev.succ (Ev.pos (by omega) (Ev.bind (zbwr ⟨zz, d⟩ hb) (Ev.neg hg (Ev.neg hn (Ev.pos (by rw [w1]; exact ht) (Ev.ret' ?_)))))) (fun q => rfl)⟩
    simp only [eldD, h0, hg, hn, ht, if_true, if_false, resE]
   have hi : (getN d).2.toNat < d.length := by omega
   have w2 : wrp .i64 ((getN d).2 + (getN d).1) = (getN d).2 + (getN d).1 := by rw [zbuo (by omega) (by omega)]
   have w3 : wrp .u8 v = v := by rw [wrp_u8]; omega
   have he : d[(getN d).2.toNat]? = some d[(getN d).2.toNat] := by simp [hi]
   by_cases hv : d[(getN d).2.toNat] = v
   ·have es : List.drop (getN d).2.toNat (List.take ((getN d).2 + (getN d).1).toNat d) = (d.drop (getN d).2.toNat).take (getN d).1.toNat := by
     rw [List.drop_take]; congr 1; omega
    have hbs : isB ((d.drop (getN d).2.toNat).take (getN d).1.toNat) := zbwy (zbwz hb _) _
    by_cases hr : (decR ((d.drop (getN d).2.toNat).take (getN d).1.toNat)).2 = 0
    ·obtain ⟨z, ih⟩ := zbzu v1 v3 zz k (d.drop ((getN d).2 + (getN d).1).toNat) (acc ++ [(decR ((d.drop (getN d).2.toNat).take (getN d).1.toNat)).1]) false (by rw [List.length_drop]; omega) (zbwz hb _) (by rw [List.length_drop]; omega) (by simp only [List.length_drop, List.length_append, List.length_cons, List.length_nil]; omega)
     refine ⟨z, Ev.succ (Ev.pos (by omega) (Ev.bind (zbwr ⟨zz, d⟩ hb) (Ev.neg hg (Ev.neg hn (Ev.neg (by rw [w1]; exact ht) (Ev.pos (by simp only; omega) (Ev.opt he (Ev.pos (by rw [w3]; exact hv) ?_)))))))) (fun q => rfl)⟩
     simp only [w2, es]
     refine Ev.pos (by omega) (Ev.pos (by omega) (Ev.bind (zbxs ⟨zz, _⟩ hbs (by simp only [List.length_take, List.length_drop]; omega)) (Ev.pos hr (Ev.pos (by omega) (Ev.pos (by omega) (Ev.pos (by omega) (Ev.cast ih ?_)))))))
     simp only [eldD, h0, hg, hn, ht, he, hv, hr, if_true, if_false]
    ·refine ⟨true, Ev.succ (Ev.pos (by omega) (Ev.bind (zbwr ⟨zz, d⟩ hb) (Ev.neg hg (Ev.neg hn (Ev.neg (by rw [w1]; exact ht) (Ev.pos (by simp only; omega) (Ev.opt he (Ev.pos (by rw [w3]; exact hv) ?_)))))))) (fun q => rfl)⟩
     simp only [w2, es]
     refine Ev.pos (by omega) (Ev.pos (by omega) (Ev.bind (zbxs ⟨zz, _⟩ hbs (by simp only [List.length_take, List.length_drop]; omega)) (Ev.neg hr (Ev.ret' ?_))))
     simp only [eldD, h0, hg, hn, ht, he, hv, hr, if_true, if_false, resE]
   ·refine ⟨true, Ev.succ (Ev.pos (by omega) (Ev.bind (zbwr ⟨zz, d⟩ hb) (Ev.neg hg (Ev.neg hn (Ev.neg (by rw [w1]; exact ht) (Ev.pos (by simp only; omega) (Ev.opt he (Ev.neg (by rw [w3]; exact hv) (Ev.ret' ?_))))))))) (fun q => rfl)⟩
    simp only [eldD, h0, hg, hn, ht, he, Option.some.injEq, hv, if_false, resE]
theorem zbzv {v : Int} (v1 : 1 ≤ v) (v3 : v ≤ 3) (s : Sl Int) (hb : isB s.l) (hl : s.l.length ≤ 4294967296) : ∃ z, Ev (fun q => zl0 q v s) (resE z (eldD v (s.l.length + 1) s.l [])) := by
 obtain ⟨z, h⟩ := zbzu v1 v3 s.z (s.l.length + 1) s.l [] true (by omega) hb hl (by simpa using hl)
 exact ⟨z, Ev.succ h (fun q => rfl)⟩
theorem zbzw {v : Int} : ∀ {k : Nat} {d : List Int} {acc l : List zjs}, eldD v k d acc = some l → l.length ≤ acc.length + d.length
 | 0, d, acc, l, h => by simp [eldD] at h
 | k + 1, d, acc, l, h => by
  have n1 := zbws (l := d)
  simp only [eldD] at h
  split at h
  ·cases h; omega
  split at h
  ·cases h
  split at h
  ·cases h
  split at h
  ·cases h
  split at h
  ·split at h
   ·have := zbzw h
    simp only [List.length_append, List.length_cons, List.length_nil, List.length_drop] at this
    omega
   ·cases h
  ·cases h
/-- The records of a block's data. -/
def blockR (v : Int) (d : List Int) : Option (List zjs) := if v = 3 then blkD d else eldD v (d.length + 1) d []
theorem zbzx {v : Int} {d : List Int} {l : List zjs} (h : blockR v d = some l) : l.length ≤ d.length + 256 := by
 unfold blockR at h
 split at h
 ·have h2 := (zbzq h).1
  cases l with
  | nil => simp
  | cons a l => simp only [blkOk, Bool.and_eq_true, decide_eq_true_eq] at h2; omega
 ·have := zbzw h; rw [List.length_nil] at this; omega
def stepW (first : Int) (acc : List zjs) (full : Bool) (l : List zjs) : Int :=
 if full = true ∧ l.length ≠ 0 ∧ l.length ≤ 16 ∧ chainB l (first + acc.length) = true then (if 4096 < acc.length + l.length then 5 else 0) else 3
theorem zbzy {R : Type} {full : Bool} {s : Sl zjs} {first nx tot : Int} {acc : List zjs} {cap : Prop} [Decidable cap] {E3 E5 : R} {rec : Nat → Option R} {res : R} (hf : 0 ≤ first ∧ first < 4611686018427387904) (ha : acc.length ≤ 4096) (hs : s.l.length ≤ 100000000)
  (hnx : nx = first + acc.length) (htot : tot = acc.length + s.l.length) (hcap : acc.length + s.l.length ≤ 4294967296 → cap)
  (h3 : stepW first acc full s.l = 3 → res = E3) (h5 : stepW first acc full s.l = 5 → res = E5) (h0 : stepW first acc full s.l = 0 → Ev rec res) :
  Ev (fun q => if full = true then (if (s.l.length : Int) = 0 then some E3 else (if 16 < (s.l.length : Int) then some E3 else ((zkk q s (wrp .i64 nx)).bind fun r => (if r = true then (if 4096 < (wrp .i64 tot) then some E5 else (if cap then rec q else none)) else some E3)))) else some E3) res := by
 unfold stepW at h3 h5 h0
 refine Ev.ite (fun hfull => ?_) fun hfull => ?_
 ·by_cases hc : full = true ∧ s.l.length ≠ 0 ∧ s.l.length ≤ 16 ∧ chainB s.l (first + acc.length) = true
  ·rw [if_pos hc] at h3 h5 h0
   have w1 : wrp .i64 nx = first + acc.length := by rw [hnx, zbuo (by omega) (by omega)]
   have w2 : wrp .i64 tot = acc.length + s.l.length := by rw [htot, zbuo (by omega) (by omega)]
   rw [w1, w2]
   refine Ev.neg (by omega) (Ev.neg (by omega) (Ev.bind (zby1 s _ (zbva (by omega) (by omega)) (by omega)) (Ev.pos ?_ (Ev.ite (fun h => ?_) fun h => ?_))))
   ·rw [hc.2.2.2]; simp only [Bool.true_and, decide_eq_true_eq]; omega
   ·exact Ev.ret' (h5 (if_pos (by omega))).symm
   ·exact Ev.pos (hcap (by omega)) (h0 (if_neg (by omega)))
  ·rw [if_neg hc] at h3
   refine Ev.ite (fun h => Ev.ret' (h3 rfl).symm) fun h => Ev.ite (fun h' => Ev.ret' (h3 rfl).symm) fun h' => ?_
   have w1 : wrp .i64 nx = first + acc.length := by rw [hnx, zbuo (by omega) (by omega)]
   rw [w1]
   refine Ev.bind (zby1 s _ (zbva (by omega) (by omega)) (by omega)) (Ev.neg ?_ (Ev.ret' (h3 rfl).symm))
   intro e
   simp only [Bool.and_eq_true] at e
   exact hc ⟨hfull, by omega, by omega, e.1⟩
 ·rw [if_neg (fun h => hfull h.1)] at h3
  exact Ev.ret' (h3 rfl).symm
/-- A walk over frames' data: how many are of it, the first error, the records, is the last block full? -/
def walkS (v first : Int) : List (List Int) → Nat → List zjs → Bool → Nat × Int × List zjs × Bool
 | [], i, acc, full => (i, 0, acc, full)
 | d :: D, i, acc, full => match blockR v d with
  | none => (i, 3, acc, full)
  | some l => if stepW first acc full l = 0 then walkS v first D (i + 1) (acc ++ l) (decide (l.length = 16)) else (i, stepW first acc full l, acc, full)
def T0 (n : Nat) (e v k f : Int) (full : Bool) : Nat × Int × Int × Int × Int × Int × Bool × Int × Int × Int × Int × Int × Nat × Bool × Bool × (List zjs) := (0, (n : Int), e, v, k, f, full, 0, 0, 0, 0, 0, 0, false, false, [])
def T1 (n : Nat) (e v k f : Int) (full z : Bool) (l : List zjs) : Nat × Int × Int × Int × Int × Int × Bool × Int × Int × Int × Int × Int × Nat × Bool × Bool × (List zjs) := (1, 0, 0, 0, 0, 0, false, (n : Int), e, v, k, f, l.length, full, z, l)
theorem zbzz {first : Int} {acc : List zjs} {full : Bool} {l : List zjs} (h : stepW first acc full l = 0) : full = true ∧ l.length ≠ 0 ∧ l.length ≤ 16 ∧ chainB l (first + acc.length) = true ∧ acc.length + l.length ≤ 4096 := by
 unfold stepW at h
 split at h
 ·rename_i hc
  split at h
  ·omega
  ·exact ⟨hc.1, hc.2.1, hc.2.2.1, hc.2.2.2, by omega⟩
 ·omega
/-- A head's data. -/
def headR (d : List Int) : Int × Int × Int × Int × Bool :=
  if d.length = 0 then (3, 0, 0, 0, false) else if d[0]? = some 108 then
    (if (getN (d.drop 1)).2 = 0 then (3, 0, 0, 0, false) else
     if (getN ((d.drop 1).drop (getN (d.drop 1)).2.toNat)).2 = 0 then (3, 0, 0, 0, false) else
     if (getN (((d.drop 1).drop (getN (d.drop 1)).2.toNat).drop (getN ((d.drop 1).drop (getN (d.drop 1)).2.toNat)).2.toNat)).2 = 0 then (3, 0, 0, 0, false) else
     if 0 < ((((d.drop 1).drop (getN (d.drop 1)).2.toNat).drop (getN ((d.drop 1).drop (getN (d.drop 1)).2.toNat)).2.toNat).drop (getN (((d.drop 1).drop (getN (d.drop 1)).2.toNat).drop (getN ((d.drop 1).drop (getN (d.drop 1)).2.toNat)).2.toNat)).2.toNat).length then (3, 0, 0, 0, false) else
     if 1 ≤ (getN (d.drop 1)).1 ∧ (getN (d.drop 1)).1 ≤ 3 then
       (if 6 ≤ (getN ((d.drop 1).drop (getN (d.drop 1)).2.toNat)).1 then (1, 0, 0, 0, false) else (0, (getN (d.drop 1)).1, (getN ((d.drop 1).drop (getN (d.drop 1)).2.toNat)).1, (getN (((d.drop 1).drop (getN (d.drop 1)).2.toNat).drop (getN ((d.drop 1).drop (getN (d.drop 1)).2.toNat)).2.toNat)).1, true))
     else (6, 0, 0, 0, false)) else (3, 0, 0, 0, false)
theorem zbz0 {d : List Int} (h : (headR d).1 = 0) : 1 ≤ (headR d).2.1 ∧ (headR d).2.1 ≤ 3 ∧ 0 ≤ (headR d).2.2.1 ∧ (headR d).2.2.1 < 6 ∧ 0 ≤ (headR d).2.2.2.1 ∧ (headR d).2.2.2.1 < 4611686018427387904 ∧ (headR d).2.2.2.2 = true := by
 have n2 := zbws (l := (d.drop 1).drop (getN (d.drop 1)).2.toNat)
 have n3 := zbws (l := ((d.drop 1).drop (getN (d.drop 1)).2.toNat).drop (getN ((d.drop 1).drop (getN (d.drop 1)).2.toNat)).2.toNat)
 unfold headR at h ⊢
 repeat' split at h
 all_goals first | (simp only at h; omega) | skip
 rename_i c1 c2 c3 c4 c5 c6 c7 c8
 rw [if_neg c1, if_pos c2, if_neg c3, if_neg c4, if_neg c5, if_neg c6, if_pos c7, if_neg c8]
 simp only
 exact ⟨c7.1, c7.2, by omega, by omega, by omega, by omega, trivial⟩
theorem zbz1 (d : Sl Int) (hb : isB d.l) (hl : d.l.length ≤ 4294967296) (h1z : Bool) (h1l : List (Sl Int)) (h1x : Bool) : Ev (fun q => zl3 q d.z d.l h1z h1l h1x) (headR d.l) := by
 obtain ⟨z, l⟩ := d
 simp only at hb hl ⊢
 have w1 : wrp .i64 ((0 : Int) + 1) = 1 := by rw [zbuo (by omega) (by omega)]; rfl
 have w2 : wrp .i64 ((1 : Int) + 1) = 2 := by rw [zbuo (by omega) (by omega)]; rfl
 have w3 : wrp .i64 ((2 : Int) + 1) = 3 := by rw [zbuo (by omega) (by omega)]; rfl
 unfold headR
 by_cases h0 : l.length = 0
 ·rw [if_pos h0]
  exact Ev.succ (Ev.pos (by omega) (Ev.ret _)) (fun q => rfl)
 rw [if_neg h0]
 have he : l[0]? = some l[0] := List.getElem?_eq_getElem (by omega)
 by_cases hm : l[0] = 108
 ·rw [if_pos (by rw [he, hm])]
  refine Ev.succ (Ev.neg (by omega) (Ev.opt he (Ev.pos hm (Ev.pos (by omega) ?_)))) (fun q => rfl)
  have b0 := zbwz hb 1
  generalize l.drop 1 = l0 at b0 ⊢
  have n1 := zbws (l := l0)
  refine Ev.succ (g := fun q => (zlb q ⟨z, l0⟩).bind fun r2 => if r2.2 = 0 then some (3, 0, 0, 0, false) else if 0 ≤ r2.2 then (if r2.2 ≤ (l0.length : Int) then zl2 q z (List.drop r2.2.toNat l0) (wrp .i64 (0 + 1)) h1z h1l h1x r2.1 0 0 else none) else none) ?_ (fun q => rfl)
  refine Ev.bind (zbwr ⟨z, l0⟩ b0) (Ev.ite (fun h => ?_) fun h => ?_)
  ·rw [if_pos h]; exact Ev.ret _
  rw [if_neg h, w1]
  refine Ev.pos (by simp only; omega) (Ev.pos (by simp only; omega) ?_)
  have b1 := zbwz b0 (getN l0).2.toNat
  simp only
  generalize l0.drop (getN l0).2.toNat = l1 at b1 ⊢
  have n2 := zbws (l := l1)
  refine Ev.succ (g := fun q => (zlb q ⟨z, l1⟩).bind fun r2 => if r2.2 = 0 then some (3, 0, 0, 0, false) else if 0 ≤ r2.2 then (if r2.2 ≤ (l1.length : Int) then zl2 q z (List.drop r2.2.toNat l1) (wrp .i64 (1 + 1)) h1z h1l h1x (getN l0).1 r2.1 0 else none) else none) ?_ (fun q => rfl)
  refine Ev.bind (zbwr ⟨z, l1⟩ b1) (Ev.ite (fun h => ?_) fun h => ?_)
  ·rw [if_pos h]; exact Ev.ret _
  rw [if_neg h, w2]
  refine Ev.pos (by simp only; omega) (Ev.pos (by simp only; omega) ?_)
  have b2 := zbwz b1 (getN l1).2.toNat
  simp only
  generalize l1.drop (getN l1).2.toNat = l2 at b2 ⊢
  have n3 := zbws (l := l2)
  refine Ev.succ (g := fun q => (zlb q ⟨z, l2⟩).bind fun r2 => if r2.2 = 0 then some (3, 0, 0, 0, false) else if 0 ≤ r2.2 then (if r2.2 ≤ (l2.length : Int) then zl2 q z (List.drop r2.2.toNat l2) (wrp .i64 (2 + 1)) h1z h1l h1x (getN l0).1 (getN l1).1 r2.1 else none) else none) ?_ (fun q => rfl)
  refine Ev.bind (zbwr ⟨z, l2⟩ b2) (Ev.ite (fun h => ?_) fun h => ?_)
  ·rw [if_pos h]; exact Ev.ret _
  rw [if_neg h, w3]
  refine Ev.pos (by simp only; omega) (Ev.pos (by simp only; omega) ?_)
  simp only
  generalize l2.drop (getN l2).2.toNat = l3
  refine Ev.succ (g := fun q => if 0 < (l3.length : Int) then some (3, 0, 0, 0, false) else (zju q (getN l0).1).bind fun r3 => if r3 = true then (if 6 ≤ (getN l1).1 then some (1, 0, 0, 0, false) else some (0, (getN l0).1, (getN l1).1, (getN l2).1, true)) else some (6, 0, 0, 0, false)) ?_ (fun q => rfl)
  refine Ev.ite (fun h => ?_) fun h => ?_
  ·rw [if_pos (show 0 < l3.length by omega)]; exact Ev.ret _
  rw [if_neg (show ¬ 0 < l3.length by omega)]
  refine Ev.bind (zbyx _) (Ev.ite (fun h => ?_) fun h => ?_)
  ·rw [if_pos (show 1 ≤ (getN l0).1 ∧ (getN l0).1 ≤ 3 by simpa using h)]
   refine Ev.ite (fun h => ?_) fun h => ?_
   ·rw [if_pos h]; exact Ev.ret _
   ·rw [if_neg h]; exact Ev.ret _
  ·rw [if_neg (show ¬ (1 ≤ (getN l0).1 ∧ (getN l0).1 ≤ 3) by simpa using h)]; exact Ev.ret _
 ·rw [if_neg (by rw [he]; simpa using hm)]
  exact Ev.succ (Ev.neg (by omega) (Ev.opt he (Ev.neg hm (Ev.ret _)))) (fun q => rfl)
theorem zbz2 {v k f : Int} (v1 : 1 ≤ v) (v3 : v ≤ 3) (hf : 0 ≤ f ∧ f < 4611686018427387904) (m : Nat) (h1z : Bool) (h1l : List (Sl Int)) (h1x : Bool) (hm1 : 1 ≤ m) (hm : m ≤ h1l.length) (hB : ∀ e ∈ h1l, isB e.l ∧ e.l.length ≤ 10000000) (hL : m ≤ 1000000000) (hme : m = h1l.length) : ∀ (n i : Nat) (acc : List zjs) (full z : Bool), m - 1 = i + n → acc.length ≤ 4096 →
  ∃ z', Ev (fun q => zl4 q (m - 1) ((m - 1 : Nat) : Int) (i : Int) h1z h1l h1x v k f full z acc) (T1 (walkS v f (((h1l.take m).drop (1 + i)).map (·.l)) (1 + i) acc full).1 (walkS v f (((h1l.take m).drop (1 + i)).map (·.l)) (1 + i) acc full).2.1 v k f (walkS v f (((h1l.take m).drop (1 + i)).map (·.l)) (1 + i) acc full).2.2.2 z' (walkS v f (((h1l.take m).drop (1 + i)).map (·.l)) (1 + i) acc full).2.2.1)
 | 0, i, acc, full, z, hk, ha => by
  refine ⟨z, Ev.succ (Ev.neg (by omega) (Ev.ret' ?_)) (fun q => rfl)⟩
  rw [List.drop_of_length_le (by rw [List.length_take]; omega)]
  simp only [List.map_nil, walkS, T1]
  rw [show 1 + i = m by omega, hme]
 | n + 1, i, acc, full, z, hk, ha => by
  have hi : 1 + i < h1l.length := by omega
  have hd : (h1l.take m).drop (1 + i) = h1l[1 + i] :: (h1l.take m).drop (1 + (i + 1)) := by
   rw [List.drop_eq_getElem_cons (by rw [List.length_take]; omega)]
   congr 1
   exact List.getElem_take
  have hg : h1l[1 + (((i : Nat) : Int)).toNat]? = some h1l[1 + i] := by rw [Int.toNat_natCast]; exact List.getElem?_eq_getElem hi
  obtain ⟨hb, hl⟩ := hB h1l[1 + i] (List.getElem_mem hi)
  have wi : wrp .i64 ((i : Int) + 1) = ((1 + i : Nat) : Int) := by rw [zbuo (by omega) (by omega)]; omega
  have wi' : wrp .i64 ((i : Int) + 1) = ((i + 1 : Nat) : Int) := by rw [zbuo (by omega) (by omega)]; omega
  rw [hd, List.map_cons]
  have body : ∀ (l : List zjs) (zz : Bool), blockR v h1l[1 + i].l = some l → ∃ z', Ev (fun q => if full = true then (if (l.length : Int) = 0 then some (T1 (1 + i) 3 v k f full z acc) else (if 16 < (l.length : Int) then some (T1 (1 + i) 3 v k f full z acc) else ((zkk q ⟨zz, l⟩ (wrp .i64 (f + (acc.length : Int)))).bind fun r => (if r = true then (if 4096 < (wrp .i64 ((acc.length : Int) + (l.length : Int))) then some (T1 (1 + i) 5 v k f full z acc) else (if (acc.length + l.length) ≤ 4294967296 then zl4 q (m - 1) ((m - 1 : Nat) : Int) (wrp .i64 ((i : Int) + 1)) h1z h1l h1x v k f (decide ((l.length : Int) = 16)) (z && (decide (l.length = 0))) (acc ++ l) else none)) else some (T1 (1 + i) 3 v k f full z acc))))) else some (T1 (1 + i) 3 v k f full z acc)) (T1 (walkS v f (h1l[1 + i].l :: ((h1l.take m).drop (1 + (i + 1))).map (·.l)) (1 + i) acc full).1 (walkS v f (h1l[1 + i].l :: ((h1l.take m).drop (1 + (i + 1))).map (·.l)) (1 + i) acc full).2.1 v k f (walkS v f (h1l[1 + i].l :: ((h1l.take m).drop (1 + (i + 1))).map (·.l)) (1 + i) acc full).2.2.2 z' (walkS v f (h1l[1 + i].l :: ((h1l.take m).drop (1 + (i + 1))).map (·.l)) (1 + i) acc full).2.2.1) := fun l zz hR => by
   have hll := zbzx hR
   simp only [walkS, hR]
   by_cases h0 : stepW f acc full l = 0
   ·obtain ⟨c1, c2, c3, c4, c5⟩ := zbzz h0
    obtain ⟨z', ih⟩ := zbz2 (k := k) v1 v3 hf m h1z h1l h1x hm1 hm hB hL hme n (i + 1) (acc ++ l) (decide (l.length = 16)) (z && (decide (l.length = 0))) (by omega) (by rw [List.length_append]; omega)
    refine ⟨z', zbzy (s := ⟨zz, l⟩) (acc := acc) hf ha (by simp only; omega) rfl rfl (fun h => h) (fun h => absurd (h0.symm.trans h) (by decide)) (fun h => absurd (h0.symm.trans h) (by decide)) (fun _ => ?_)⟩
    rw [if_pos h0, wi', show (decide ((l.length : Int) = 16)) = decide (l.length = 16) by by_cases h : l.length = 16 <;> simp [h] <;> omega, show 1 + i + 1 = 1 + (i + 1) by omega]
    exact ih
   ·rw [if_neg h0]
    refine ⟨z, zbzy (s := ⟨zz, l⟩) (acc := acc) hf ha (by simp only; omega) rfl rfl (fun h => h) (fun h => ?_) (fun h => ?_) (fun h => absurd h h0)⟩
    ·simp only [h]
    ·simp only [h]
  have none_ : blockR v h1l[1 + i].l = none → (T1 (1 + i) 3 v k f full z acc) = (T1 (walkS v f (h1l[1 + i].l :: ((h1l.take m).drop (1 + (i + 1))).map (·.l)) (1 + i) acc full).1 (walkS v f (h1l[1 + i].l :: ((h1l.take m).drop (1 + (i + 1))).map (·.l)) (1 + i) acc full).2.1 v k f (walkS v f (h1l[1 + i].l :: ((h1l.take m).drop (1 + (i + 1))).map (·.l)) (1 + i) acc full).2.2.2 z (walkS v f (h1l[1 + i].l :: ((h1l.take m).drop (1 + (i + 1))).map (·.l)) (1 + i) acc full).2.2.1) := fun h => by simp only [walkS, h]
  by_cases h3 : v = 3
  ·have hE := zbzp h1l[1 + i] hb (by omega)
   cases hR : blkD h1l[1 + i].l with
   | none =>
    rw [hR] at hE
    refine ⟨z, Ev.succ (Ev.pos (by omega) (Ev.pos (by omega) (Ev.pos (by omega) (Ev.opt hg (Ev.pos h3 (Ev.bind hE (Ev.neg (by simp only [resB]; omega) (Ev.ret' ?_)))))))) (fun q => rfl)⟩
    rw [wi]; exact none_ (by unfold blockR; rw [if_pos h3, hR])
   | some l =>
    rw [hR] at hE
    obtain ⟨z', hBd⟩ := body l false (by unfold blockR; rw [if_pos h3, hR])
    refine ⟨z', Ev.succ (Ev.pos (by omega) (Ev.pos (by omega) (Ev.pos (by omega) (Ev.opt hg (Ev.pos h3 (Ev.bind hE (Ev.pos rfl ?_))))))) (fun q => rfl)⟩
    unfold T1 at hBd; rw [← wi] at hBd
    exact hBd
  ·obtain ⟨ze, hE⟩ := zbzv v1 v3 h1l[1 + i] hb (by omega)
   cases hR : eldD v (h1l[1 + i].l.length + 1) h1l[1 + i].l [] with
   | none =>
    rw [hR] at hE
    refine ⟨z, Ev.succ (Ev.pos (by omega) (Ev.pos (by omega) (Ev.pos (by omega) (Ev.opt hg (Ev.neg h3 (Ev.bind hE (Ev.neg (by simp only [resE]; decide) (Ev.ret' ?_)))))))) (fun q => rfl)⟩
    rw [wi]; exact none_ (by unfold blockR; rw [if_neg h3, hR])
   | some l =>
    rw [hR] at hE
    obtain ⟨z', hBd⟩ := body l ze (by unfold blockR; rw [if_neg h3, hR])
    refine ⟨z', Ev.succ (Ev.pos (by omega) (Ev.pos (by omega) (Ev.pos (by omega) (Ev.opt hg (Ev.neg h3 (Ev.bind hE (Ev.pos rfl ?_))))))) (fun q => rfl)⟩
    unfold T1 at hBd; rw [← wi] at hBd
    exact hBd
theorem zbz3 (d : Sl Int) (hb : isB d.l) (hl : d.l.length ≤ 4294967296) (h1z : Bool) (h1l : List (Sl Int)) (h1x : Bool) : Ev (fun q => zms q d.z d.l h1z h1l h1x) (headR d.l) := by
 obtain ⟨z, l⟩ := d
 simp only at hb hl ⊢
 have w1 : wrp .i64 ((0 : Int) + 1) = 1 := by rw [zbuo (by omega) (by omega)]; rfl
 have w2 : wrp .i64 ((1 : Int) + 1) = 2 := by rw [zbuo (by omega) (by omega)]; rfl
 have w3 : wrp .i64 ((2 : Int) + 1) = 3 := by rw [zbuo (by omega) (by omega)]; rfl
 unfold headR
 by_cases h0 : l.length = 0
 ·rw [if_pos h0]
  exact Ev.succ (Ev.pos (by omega) (Ev.ret _)) (fun q => rfl)
 rw [if_neg h0]
 have he : l[0]? = some l[0] := List.getElem?_eq_getElem (by omega)
 by_cases hm : l[0] = 108
 ·rw [if_pos (by rw [he, hm])]
  refine Ev.succ (Ev.neg (by omega) (Ev.opt he (Ev.pos hm (Ev.pos (by omega) ?_)))) (fun q => rfl)
  have b0 := zbwz hb 1
  generalize l.drop 1 = l0 at b0 ⊢
  have n1 := zbws (l := l0)
  refine Ev.succ (g := fun q => (zlb q ⟨z, l0⟩).bind fun r2 => if r2.2 = 0 then some (3, 0, 0, 0, false) else if 0 ≤ r2.2 then (if r2.2 ≤ (l0.length : Int) then zmr q z (List.drop r2.2.toNat l0) (wrp .i64 (0 + 1)) h1z h1l h1x r2.1 0 0 else none) else none) ?_ (fun q => rfl)
  refine Ev.bind (zbwr ⟨z, l0⟩ b0) (Ev.ite (fun h => ?_) fun h => ?_)
  ·rw [if_pos h]; exact Ev.ret _
  rw [if_neg h, w1]
  refine Ev.pos (by simp only; omega) (Ev.pos (by simp only; omega) ?_)
  have b1 := zbwz b0 (getN l0).2.toNat
  simp only
  generalize l0.drop (getN l0).2.toNat = l1 at b1 ⊢
  have n2 := zbws (l := l1)
  refine Ev.succ (g := fun q => (zlb q ⟨z, l1⟩).bind fun r2 => if r2.2 = 0 then some (3, 0, 0, 0, false) else if 0 ≤ r2.2 then (if r2.2 ≤ (l1.length : Int) then zmr q z (List.drop r2.2.toNat l1) (wrp .i64 (1 + 1)) h1z h1l h1x (getN l0).1 r2.1 0 else none) else none) ?_ (fun q => rfl)
  refine Ev.bind (zbwr ⟨z, l1⟩ b1) (Ev.ite (fun h => ?_) fun h => ?_)
  ·rw [if_pos h]; exact Ev.ret _
  rw [if_neg h, w2]
  refine Ev.pos (by simp only; omega) (Ev.pos (by simp only; omega) ?_)
  have b2 := zbwz b1 (getN l1).2.toNat
  simp only
  generalize l1.drop (getN l1).2.toNat = l2 at b2 ⊢
  have n3 := zbws (l := l2)
  refine Ev.succ (g := fun q => (zlb q ⟨z, l2⟩).bind fun r2 => if r2.2 = 0 then some (3, 0, 0, 0, false) else if 0 ≤ r2.2 then (if r2.2 ≤ (l2.length : Int) then zmr q z (List.drop r2.2.toNat l2) (wrp .i64 (2 + 1)) h1z h1l h1x (getN l0).1 (getN l1).1 r2.1 else none) else none) ?_ (fun q => rfl)
  refine Ev.bind (zbwr ⟨z, l2⟩ b2) (Ev.ite (fun h => ?_) fun h => ?_)
  ·rw [if_pos h]; exact Ev.ret _
  rw [if_neg h, w3]
  refine Ev.pos (by simp only; omega) (Ev.pos (by simp only; omega) ?_)
  simp only
  generalize l2.drop (getN l2).2.toNat = l3
  refine Ev.succ (g := fun q => if 0 < (l3.length : Int) then some (3, 0, 0, 0, false) else (zju q (getN l0).1).bind fun r3 => if r3 = true then (if 6 ≤ (getN l1).1 then some (1, 0, 0, 0, false) else some (0, (getN l0).1, (getN l1).1, (getN l2).1, true)) else some (6, 0, 0, 0, false)) ?_ (fun q => rfl)
  refine Ev.ite (fun h => ?_) fun h => ?_
  ·rw [if_pos (show 0 < l3.length by omega)]; exact Ev.ret _
  rw [if_neg (show ¬ 0 < l3.length by omega)]
  refine Ev.bind (zbyx _) (Ev.ite (fun h => ?_) fun h => ?_)
  ·rw [if_pos (show 1 ≤ (getN l0).1 ∧ (getN l0).1 ≤ 3 by simpa using h)]
   refine Ev.ite (fun h => ?_) fun h => ?_
   ·rw [if_pos h]; exact Ev.ret _
   ·rw [if_neg h]; exact Ev.ret _
  ·rw [if_neg (show ¬ (1 ≤ (getN l0).1 ∧ (getN l0).1 ≤ 3) by simpa using h)]; exact Ev.ret _
 ·rw [if_neg (by rw [he]; simpa using hm)]
  exact Ev.succ (Ev.neg (by omega) (Ev.opt he (Ev.neg hm (Ev.ret _)))) (fun q => rfl)
theorem zbz4 {v k f : Int} (v1 : 1 ≤ v) (v3 : v ≤ 3) (hf : 0 ≤ f ∧ f < 4611686018427387904) (m : Nat) (h1z : Bool) (h1l : List (Sl Int)) (h1x : Bool) (hm1 : 1 ≤ m) (hm : m ≤ h1l.length) (hB : ∀ e ∈ h1l, isB e.l ∧ e.l.length ≤ 10000000) (hL : m ≤ 1000000000) : ∀ (n i : Nat) (acc : List zjs) (full z : Bool), m - 1 = i + n → acc.length ≤ 4096 →
  ∃ z', Ev (fun q => zmt q m (m - 1) ((m - 1 : Nat) : Int) (i : Int) h1z h1l h1x v k f full z acc) (T1 (walkS v f (((h1l.take m).drop (1 + i)).map (·.l)) (1 + i) acc full).1 (walkS v f (((h1l.take m).drop (1 + i)).map (·.l)) (1 + i) acc full).2.1 v k f (walkS v f (((h1l.take m).drop (1 + i)).map (·.l)) (1 + i) acc full).2.2.2 z' (walkS v f (((h1l.take m).drop (1 + i)).map (·.l)) (1 + i) acc full).2.2.1)
 | 0, i, acc, full, z, hk, ha => by
  refine ⟨z, Ev.succ (Ev.neg (by omega) (Ev.ret' ?_)) (fun q => rfl)⟩
  rw [List.drop_of_length_le (by rw [List.length_take]; omega)]
  simp only [List.map_nil, walkS, T1]
  rw [show 1 + i = m by omega]
 | n + 1, i, acc, full, z, hk, ha => by
  have hi : 1 + i < h1l.length := by omega
  have hd : (h1l.take m).drop (1 + i) = h1l[1 + i] :: (h1l.take m).drop (1 + (i + 1)) := by
   rw [List.drop_eq_getElem_cons (by rw [List.length_take]; omega)]
   congr 1
   exact List.getElem_take
  have hg : h1l[1 + (((i : Nat) : Int)).toNat]? = some h1l[1 + i] := by rw [Int.toNat_natCast]; exact List.getElem?_eq_getElem hi
  obtain ⟨hb, hl⟩ := hB h1l[1 + i] (List.getElem_mem hi)
  have wi : wrp .i64 ((i : Int) + 1) = ((1 + i : Nat) : Int) := by rw [zbuo (by omega) (by omega)]; omega
  have wi' : wrp .i64 ((i : Int) + 1) = ((i + 1 : Nat) : Int) := by rw [zbuo (by omega) (by omega)]; omega
  rw [hd, List.map_cons]
  have body : ∀ (l : List zjs) (zz : Bool), blockR v h1l[1 + i].l = some l → ∃ z', Ev (fun q => if full = true then (if (l.length : Int) = 0 then some (T1 (1 + i) 3 v k f full z acc) else (if 16 < (l.length : Int) then some (T1 (1 + i) 3 v k f full z acc) else ((zkk q ⟨zz, l⟩ (wrp .i64 (f + (acc.length : Int)))).bind fun r => (if r = true then (if 4096 < (wrp .i64 ((acc.length : Int) + (l.length : Int))) then some (T1 (1 + i) 5 v k f full z acc) else (if (acc.length + l.length) ≤ 4294967296 then zmt q m (m - 1) ((m - 1 : Nat) : Int) (wrp .i64 ((i : Int) + 1)) h1z h1l h1x v k f (decide ((l.length : Int) = 16)) (z && (decide (l.length = 0))) (acc ++ l) else none)) else some (T1 (1 + i) 3 v k f full z acc))))) else some (T1 (1 + i) 3 v k f full z acc)) (T1 (walkS v f (h1l[1 + i].l :: ((h1l.take m).drop (1 + (i + 1))).map (·.l)) (1 + i) acc full).1 (walkS v f (h1l[1 + i].l :: ((h1l.take m).drop (1 + (i + 1))).map (·.l)) (1 + i) acc full).2.1 v k f (walkS v f (h1l[1 + i].l :: ((h1l.take m).drop (1 + (i + 1))).map (·.l)) (1 + i) acc full).2.2.2 z' (walkS v f (h1l[1 + i].l :: ((h1l.take m).drop (1 + (i + 1))).map (·.l)) (1 + i) acc full).2.2.1) := fun l zz hR => by
   have hll := zbzx hR
   simp only [walkS, hR]
   by_cases h0 : stepW f acc full l = 0
   ·obtain ⟨c1, c2, c3, c4, c5⟩ := zbzz h0
    obtain ⟨z', ih⟩ := zbz4 (k := k) v1 v3 hf m h1z h1l h1x hm1 hm hB hL  n (i + 1) (acc ++ l) (decide (l.length = 16)) (z && (decide (l.length = 0))) (by omega) (by rw [List.length_append]; omega)
    refine ⟨z', zbzy (s := ⟨zz, l⟩) (acc := acc) hf ha (by simp only; omega) rfl rfl (fun h => h) (fun h => absurd (h0.symm.trans h) (by decide)) (fun h => absurd (h0.symm.trans h) (by decide)) (fun _ => ?_)⟩
    rw [if_pos h0, wi', show (decide ((l.length : Int) = 16)) = decide (l.length = 16) by by_cases h : l.length = 16 <;> simp [h] <;> omega, show 1 + i + 1 = 1 + (i + 1) by omega]
    exact ih
   ·rw [if_neg h0]
    refine ⟨z, zbzy (s := ⟨zz, l⟩) (acc := acc) hf ha (by simp only; omega) rfl rfl (fun h => h) (fun h => ?_) (fun h => ?_) (fun h => absurd h h0)⟩
    ·simp only [h]
    ·simp only [h]
  have none_ : blockR v h1l[1 + i].l = none → (T1 (1 + i) 3 v k f full z acc) = (T1 (walkS v f (h1l[1 + i].l :: ((h1l.take m).drop (1 + (i + 1))).map (·.l)) (1 + i) acc full).1 (walkS v f (h1l[1 + i].l :: ((h1l.take m).drop (1 + (i + 1))).map (·.l)) (1 + i) acc full).2.1 v k f (walkS v f (h1l[1 + i].l :: ((h1l.take m).drop (1 + (i + 1))).map (·.l)) (1 + i) acc full).2.2.2 z (walkS v f (h1l[1 + i].l :: ((h1l.take m).drop (1 + (i + 1))).map (·.l)) (1 + i) acc full).2.2.1) := fun h => by simp only [walkS, h]
  by_cases h3 : v = 3
  ·have hE := zbzp h1l[1 + i] hb (by omega)
   cases hR : blkD h1l[1 + i].l with
   | none =>
    rw [hR] at hE
    refine ⟨z, Ev.succ (Ev.pos (by omega) (Ev.pos (by omega) (Ev.pos (by omega) (Ev.opt hg (Ev.pos h3 (Ev.bind hE (Ev.neg (by simp only [resB]; omega) (Ev.ret' ?_)))))))) (fun q => rfl)⟩
    rw [wi]; exact none_ (by unfold blockR; rw [if_pos h3, hR])
   | some l =>
    rw [hR] at hE
    obtain ⟨z', hBd⟩ := body l false (by unfold blockR; rw [if_pos h3, hR])
    refine ⟨z', Ev.succ (Ev.pos (by omega) (Ev.pos (by omega) (Ev.pos (by omega) (Ev.opt hg (Ev.pos h3 (Ev.bind hE (Ev.pos rfl ?_))))))) (fun q => rfl)⟩
    unfold T1 at hBd; rw [← wi] at hBd
    exact hBd
  ·obtain ⟨ze, hE⟩ := zbzv v1 v3 h1l[1 + i] hb (by omega)
   cases hR : eldD v (h1l[1 + i].l.length + 1) h1l[1 + i].l [] with
   | none =>
    rw [hR] at hE
    refine ⟨z, Ev.succ (Ev.pos (by omega) (Ev.pos (by omega) (Ev.pos (by omega) (Ev.opt hg (Ev.neg h3 (Ev.bind hE (Ev.neg (by simp only [resE]; decide) (Ev.ret' ?_)))))))) (fun q => rfl)⟩
    rw [wi]; exact none_ (by unfold blockR; rw [if_neg h3, hR])
   | some l =>
    rw [hR] at hE
    obtain ⟨z', hBd⟩ := body l ze (by unfold blockR; rw [if_neg h3, hR])
    refine ⟨z', Ev.succ (Ev.pos (by omega) (Ev.pos (by omega) (Ev.pos (by omega) (Ev.opt hg (Ev.neg h3 (Ev.bind hE (Ev.pos rfl ?_))))))) (fun q => rfl)⟩
    unfold T1 at hBd; rw [← wi] at hBd
    exact hBd
end Go.Dvm.I
set_option linter.all false
set_option maxRecDepth 100000
namespace Go.Dvm.I
open Go Go.Dvm
theorem zbz5 {d : List Int} (h : (headR d).1 ≠ 0) : headR d = ((headR d).1, 0, 0, 0, false) := by
 unfold headR at h ⊢
 repeat' split
 all_goals first | rfl | skip
 rename_i c1 c2 c3 c4 c5 c6 c7 c8
 rw [if_neg c1, if_pos c2, if_neg c3, if_neg c4, if_neg c5, if_neg c6, if_pos c7, if_neg c8] at h
 exact absurd rfl h
def IsT (T : Nat × Int × Int × Int × Int × Int × Bool × Int × Int × Int × Int × Int × Nat × Bool × Bool × (List zjs)) (w : Nat × Int × List zjs × Bool) (v k f : Int) : Prop :=
 (T = T0 w.1 w.2.1 v k f w.2.2.2 ∧ w.2.2.1 = []) ∨ ∃ z, T = T1 w.1 w.2.1 v k f w.2.2.2 z w.2.2.1
/-- A walk over frames' data, the head's first: how many, the first error, the version, the kind, the first index, the records. -/
def walkA : List (List Int) → Nat × Int × Int × Int × Int × List zjs
 | [] => (0, 0, 0, 0, 0, [])
 | d :: D => if (headR d).1 = 0 then ((walkS (headR d).2.1 (headR d).2.2.2.1 D 1 [] true).1, (walkS (headR d).2.1 (headR d).2.2.2.1 D 1 [] true).2.1, (headR d).2.1, (headR d).2.2.1, (headR d).2.2.2.1, (walkS (headR d).2.1 (headR d).2.2.2.1 D 1 [] true).2.2.1) else (0, (headR d).1, 0, 0, 0, [])
def IsA (T : Nat × Int × Int × Int × Int × Int × Bool × Int × Int × Int × Int × Int × Nat × Bool × Bool × (List zjs)) (w : Nat × Int × Int × Int × Int × List zjs) : Prop :=
 (∃ full, T = T0 w.1 w.2.1 w.2.2.1 w.2.2.2.1 w.2.2.2.2.1 full ∧ w.2.2.2.2.2 = []) ∨ ∃ full z, T = T1 w.1 w.2.1 w.2.2.1 w.2.2.2.1 w.2.2.2.2.1 full z w.2.2.2.2.2
theorem zbz6 {v k f : Int} (v1 : 1 ≤ v) (v3 : v ≤ 3) (hf : 0 ≤ f ∧ f < 4611686018427387904) (m : Nat) (h1z : Bool) (h1l : List (Sl Int)) (h1x : Bool) (hm1 : 1 ≤ m) (hm : m ≤ h1l.length) (hB : ∀ e ∈ h1l, isB e.l ∧ e.l.length ≤ 10000000) (hL : m ≤ 1000000000) (hme : m = h1l.length) :
  ∃ T, Ev (fun q => zl5 q (m - 1) ((m - 1 : Nat) : Int) h1z h1l h1x v k f true) T ∧ IsT T (walkS v f (((h1l.take m).drop 1).map (·.l)) 1 [] true) v k f := by
 have w1 : wrp .i64 1 = 1 := by rw [zbuo (by omega) (by omega)]
 by_cases hm2 : m = 1
 ·refine ⟨_, Ev.succ (Ev.neg (by omega) (Ev.ret _)) (fun q => rfl), ?_⟩
  rw [List.drop_of_length_le (by rw [List.length_take]; omega)]
  refine .inl ⟨?_, rfl⟩
  simp only [List.map_nil, walkS, T0]
  rw [← hme, hm2]
 ·have hi : 1 < h1l.length := by omega
  have hd : (h1l.take m).drop 1 = h1l[1] :: (h1l.take m).drop (1 + 1) := by
   rw [List.drop_eq_getElem_cons (by rw [List.length_take]; omega)]
   congr 1
   exact List.getElem_take
  have hg : h1l[1]? = some h1l[1] := List.getElem?_eq_getElem hi
  obtain ⟨hb, hl⟩ := hB h1l[1] (List.getElem_mem hi)
  rw [hd, List.map_cons]
  have body : ∀ (l : List zjs) (zz : Bool), blockR v h1l[1].l = some l → ∃ T, Ev (fun q => if true = true then (if (l.length : Int) = 0 then some (T0 1 3 v k f true) else (if 16 < (l.length : Int) then some (T0 1 3 v k f true) else ((zkk q ⟨zz, l⟩ (wrp .i64 (f + 0))).bind fun r => (if r = true then (if 4096 < (wrp .i64 (0 + (l.length : Int))) then some (T0 1 5 v k f true) else (if l.length ≤ 4294967296 then zl4 q (m - 1) ((m - 1 : Nat) : Int) (wrp .i64 1) h1z h1l h1x v k f (decide ((l.length : Int) = 16)) (decide (l.length = 0)) l else none)) else some (T0 1 3 v k f true))))) else some (T0 1 3 v k f true)) T ∧ IsT T (walkS v f (h1l[1].l :: ((h1l.take m).drop (1 + 1)).map (·.l)) 1 [] true) v k f := fun l zz hR => by
   have hll := zbzx hR
   simp only [walkS, hR]
   by_cases h0 : stepW f [] true l = 0
   ·obtain ⟨c1, c2, c3, c4, c5⟩ := zbzz h0
    rw [List.length_nil] at c5
    obtain ⟨z', ih⟩ := zbz2 (k := k) v1 v3 hf m h1z h1l h1x hm1 hm hB hL hme (m - 2) 1 l (decide (l.length = 16)) (decide (l.length = 0)) (by omega) (by omega)
    refine ⟨_, zbzy (s := ⟨zz, l⟩) (acc := []) (full := true) hf (by simp) (by simp only; omega) (by simp) (by simp) (fun h => by simpa using h) (fun h => absurd (h0.symm.trans h) (by decide)) (fun h => absurd (h0.symm.trans h) (by decide)) (fun _ => ?_), .inr ⟨z', rfl⟩⟩
    rw [if_pos h0, w1, show (decide ((l.length : Int) = 16)) = decide (l.length = 16) by by_cases h : l.length = 16 <;> simp [h] <;> omega]
    exact ih
   ·rw [if_neg h0]
    refine ⟨_, zbzy (s := ⟨zz, l⟩) (acc := []) (full := true) (res := T0 1 (stepW f [] true l) v k f true) hf (by simp) (by simp only; omega) (by simp) (by simp) (fun h => by simpa using h) (fun h => ?_) (fun h => ?_) (fun h => absurd h h0), .inl ⟨rfl, rfl⟩⟩
    ·simp only [h]
    ·simp only [h]
  have none_ : blockR v h1l[1].l = none → IsT (T0 1 3 v k f true) (walkS v f (h1l[1].l :: ((h1l.take m).drop (1 + 1)).map (·.l)) 1 [] true) v k f := fun h => by simp only [walkS, h]; exact .inl ⟨rfl, rfl⟩
  by_cases h3 : v = 3
  ·have hE := zbzp h1l[1] hb (by omega)
   cases hR : blkD h1l[1].l with
   | none =>
    rw [hR] at hE
    refine ⟨_, Ev.succ (Ev.pos (by omega) (Ev.pos (by omega) (Ev.opt hg (Ev.pos h3 (Ev.bind hE (Ev.neg (by simp only [resB]; omega) (Ev.ret' ?_))))))) (fun q => rfl), none_ (by unfold blockR; rw [if_pos h3, hR])⟩
    rw [w1]; rfl
   | some l =>
    rw [hR] at hE
    obtain ⟨T, hBd, hT⟩ := body l false (by unfold blockR; rw [if_pos h3, hR])
    refine ⟨T, Ev.succ (Ev.pos (by omega) (Ev.pos (by omega) (Ev.opt hg (Ev.pos h3 (Ev.bind hE (Ev.pos rfl ?_)))))) (fun q => rfl), hT⟩
    rw [w1] at hBd ⊢
    exact hBd
  ·obtain ⟨ze, hE⟩ := zbzv v1 v3 h1l[1] hb (by omega)
   cases hR : eldD v (h1l[1].l.length + 1) h1l[1].l [] with
   | none =>
    rw [hR] at hE
    refine ⟨_, Ev.succ (Ev.pos (by omega) (Ev.pos (by omega) (Ev.opt hg (Ev.neg h3 (Ev.bind hE (Ev.neg (by simp only [resE]; decide) (Ev.ret' ?_))))))) (fun q => rfl), none_ (by unfold blockR; rw [if_neg h3, hR])⟩
    rw [w1]; rfl
   | some l =>
    rw [hR] at hE
    obtain ⟨T, hBd, hT⟩ := body l ze (by unfold blockR; rw [if_neg h3, hR])
    refine ⟨T, Ev.succ (Ev.pos (by omega) (Ev.pos (by omega) (Ev.opt hg (Ev.neg h3 (Ev.bind hE (Ev.pos rfl ?_)))))) (fun q => rfl), hT⟩
    rw [w1] at hBd ⊢
    exact hBd
theorem zbz7 (m : Nat) (h1z : Bool) (h1l : List (Sl Int)) (h1x : Bool) (hm1 : 1 ≤ m) (hm : m ≤ h1l.length) (hB : ∀ e ∈ h1l, isB e.l ∧ e.l.length ≤ 10000000) (hL : m ≤ 1000000000) (hme : m = h1l.length) :
  ∃ T, Ev (fun q => zl6 q h1z h1l h1x) T ∧ IsA T (walkA ((h1l.take m).map (·.l))) := by
 have hi : 0 < h1l.length := by omega
 have hg : h1l[0]? = some h1l[0] := List.getElem?_eq_getElem hi
 obtain ⟨hb, hl⟩ := hB h1l[0] (List.getElem_mem hi)
 have hd : h1l.take m = h1l[0] :: (h1l.take m).drop 1 := by
  have := List.drop_eq_getElem_cons (l := h1l.take m) (i := 0) (by rw [List.length_take]; omega)
  rw [List.drop_zero] at this
  refine this.trans ?_
  congr 1
  exact List.getElem_take
 rw [hd, List.map_cons]
 have hH := zbz1 h1l[0] hb (by omega) h1z h1l h1x
 by_cases he : (headR h1l[0].l).1 = 0
 ·obtain ⟨o1, o2, o3, o4, o5, o6, o7⟩ := zbz0 he
  obtain ⟨T, hT, hI⟩ := zbz6 (k := (headR h1l[0].l).2.2.1) o1 o2 ⟨o5, o6⟩ m h1z h1l h1x hm1 hm hB hL hme
  refine ⟨T, Ev.succ (Ev.pos (by omega) (Ev.opt hg (Ev.bind hH (Ev.pos he (Ev.pos (by omega) ?_))))) (fun q => rfl), ?_⟩
  ·rw [o7]; subst hme; exact hT
  ·simp only [walkA]
   rw [if_pos he]
   rcases hI with ⟨h1, h2⟩ | ⟨z, h1⟩
   ·exact .inl ⟨_, h1, h2⟩
   ·exact .inr ⟨_, z, h1⟩
 ·refine ⟨_, Ev.succ (Ev.pos (by omega) (Ev.opt hg (Ev.bind hH (Ev.neg he (Ev.ret _))))) (fun q => rfl), ?_⟩
  simp only [walkA]
  rw [if_neg he, zbz5 he]
  exact .inl ⟨false, rfl, rfl⟩
theorem zbz8 {v k f : Int} (v1 : 1 ≤ v) (v3 : v ≤ 3) (hf : 0 ≤ f ∧ f < 4611686018427387904) (m : Nat) (h1z : Bool) (h1l : List (Sl Int)) (h1x : Bool) (hm1 : 1 ≤ m) (hm : m ≤ h1l.length) (hB : ∀ e ∈ h1l, isB e.l ∧ e.l.length ≤ 10000000) (hL : m ≤ 1000000000) :
  ∃ T, Ev (fun q => zmu q m (m - 1) ((m - 1 : Nat) : Int) h1z h1l h1x v k f true) T ∧ IsT T (walkS v f (((h1l.take m).drop 1).map (·.l)) 1 [] true) v k f := by
 have w1 : wrp .i64 1 = 1 := by rw [zbuo (by omega) (by omega)]
 by_cases hm2 : m = 1
 ·refine ⟨_, Ev.succ (Ev.neg (by omega) (Ev.ret _)) (fun q => rfl), ?_⟩
  rw [List.drop_of_length_le (by rw [List.length_take]; omega)]
  refine .inl ⟨?_, rfl⟩
  simp only [List.map_nil, walkS, T0]
  rw [hm2]
 ·have hi : 1 < h1l.length := by omega
  have hd : (h1l.take m).drop 1 = h1l[1] :: (h1l.take m).drop (1 + 1) := by
   rw [List.drop_eq_getElem_cons (by rw [List.length_take]; omega)]
   congr 1
   exact List.getElem_take
  have hg : h1l[1]? = some h1l[1] := List.getElem?_eq_getElem hi
  obtain ⟨hb, hl⟩ := hB h1l[1] (List.getElem_mem hi)
  rw [hd, List.map_cons]
  have body : ∀ (l : List zjs) (zz : Bool), blockR v h1l[1].l = some l → ∃ T, Ev (fun q => if true = true then (if (l.length : Int) = 0 then some (T0 1 3 v k f true) else (if 16 < (l.length : Int) then some (T0 1 3 v k f true) else ((zkk q ⟨zz, l⟩ (wrp .i64 (f + 0))).bind fun r => (if r = true then (if 4096 < (wrp .i64 (0 + (l.length : Int))) then some (T0 1 5 v k f true) else (if l.length ≤ 4294967296 then zmt q m (m - 1) ((m - 1 : Nat) : Int) (wrp .i64 1) h1z h1l h1x v k f (decide ((l.length : Int) = 16)) (decide (l.length = 0)) l else none)) else some (T0 1 3 v k f true))))) else some (T0 1 3 v k f true)) T ∧ IsT T (walkS v f (h1l[1].l :: ((h1l.take m).drop (1 + 1)).map (·.l)) 1 [] true) v k f := fun l zz hR => by
   have hll := zbzx hR
   simp only [walkS, hR]
   by_cases h0 : stepW f [] true l = 0
   ·obtain ⟨c1, c2, c3, c4, c5⟩ := zbzz h0
    rw [List.length_nil] at c5
    obtain ⟨z', ih⟩ := zbz4 (k := k) v1 v3 hf m h1z h1l h1x hm1 hm hB hL (m - 2) 1 l (decide (l.length = 16)) (decide (l.length = 0)) (by omega) (by omega)
    refine ⟨_, zbzy (s := ⟨zz, l⟩) (acc := []) (full := true) hf (by simp) (by simp only; omega) (by simp) (by simp) (fun h => by simpa using h) (fun h => absurd (h0.symm.trans h) (by decide)) (fun h => absurd (h0.symm.trans h) (by decide)) (fun _ => ?_), .inr ⟨z', rfl⟩⟩
    rw [if_pos h0, w1, show (decide ((l.length : Int) = 16)) = decide (l.length = 16) by by_cases h : l.length = 16 <;> simp [h] <;> omega]
    exact ih
   ·rw [if_neg h0]
    refine ⟨_, zbzy (s := ⟨zz, l⟩) (acc := []) (full := true) (res := T0 1 (stepW f [] true l) v k f true) hf (by simp) (by simp only; omega) (by simp) (by simp) (fun h => by simpa using h) (fun h => ?_) (fun h => ?_) (fun h => absurd h h0), .inl ⟨rfl, rfl⟩⟩
    ·simp only [h]
    ·simp only [h]
  have none_ : blockR v h1l[1].l = none → IsT (T0 1 3 v k f true) (walkS v f (h1l[1].l :: ((h1l.take m).drop (1 + 1)).map (·.l)) 1 [] true) v k f := fun h => by simp only [walkS, h]; exact .inl ⟨rfl, rfl⟩
  by_cases h3 : v = 3
  ·have hE := zbzp h1l[1] hb (by omega)
   cases hR : blkD h1l[1].l with
   | none =>
    rw [hR] at hE
    refine ⟨_, Ev.succ (Ev.pos (by omega) (Ev.pos (by omega) (Ev.opt hg (Ev.pos h3 (Ev.bind hE (Ev.neg (by simp only [resB]; omega) (Ev.ret' ?_))))))) (fun q => rfl), none_ (by unfold blockR; rw [if_pos h3, hR])⟩
    rw [w1]; rfl
   | some l =>
    rw [hR] at hE
    obtain ⟨T, hBd, hT⟩ := body l false (by unfold blockR; rw [if_pos h3, hR])
    refine ⟨T, Ev.succ (Ev.pos (by omega) (Ev.pos (by omega) (Ev.opt hg (Ev.pos h3 (Ev.bind hE (Ev.pos rfl ?_)))))) (fun q => rfl), hT⟩
    rw [w1] at hBd ⊢
    exact hBd
  ·obtain ⟨ze, hE⟩ := zbzv v1 v3 h1l[1] hb (by omega)
   cases hR : eldD v (h1l[1].l.length + 1) h1l[1].l [] with
   | none =>
    rw [hR] at hE
    refine ⟨_, Ev.succ (Ev.pos (by omega) (Ev.pos (by omega) (Ev.opt hg (Ev.neg h3 (Ev.bind hE (Ev.neg (by simp only [resE]; decide) (Ev.ret' ?_))))))) (fun q => rfl), none_ (by unfold blockR; rw [if_neg h3, hR])⟩
    rw [w1]; rfl
   | some l =>
    rw [hR] at hE
    obtain ⟨T, hBd, hT⟩ := body l ze (by unfold blockR; rw [if_neg h3, hR])
    refine ⟨T, Ev.succ (Ev.pos (by omega) (Ev.pos (by omega) (Ev.opt hg (Ev.neg h3 (Ev.bind hE (Ev.pos rfl ?_)))))) (fun q => rfl), hT⟩
    rw [w1] at hBd ⊢
    exact hBd
theorem zbz9 (m : Nat) (h1z : Bool) (h1l : List (Sl Int)) (h1x : Bool) (hm1 : 1 ≤ m) (hm : m ≤ h1l.length) (hB : ∀ e ∈ h1l, isB e.l ∧ e.l.length ≤ 10000000) (hL : m ≤ 1000000000) :
  ∃ T, Ev (fun q => zmv q m h1z h1l h1x) T ∧ IsA T (walkA ((h1l.take m).map (·.l))) := by
 have hi : 0 < h1l.length := by omega
 have hg : h1l[0]? = some h1l[0] := List.getElem?_eq_getElem hi
 obtain ⟨hb, hl⟩ := hB h1l[0] (List.getElem_mem hi)
 have hd : h1l.take m = h1l[0] :: (h1l.take m).drop 1 := by
  have := List.drop_eq_getElem_cons (l := h1l.take m) (i := 0) (by rw [List.length_take]; omega)
  rw [List.drop_zero] at this
  refine this.trans ?_
  congr 1
  exact List.getElem_take
 rw [hd, List.map_cons]
 have hH := zbz3 h1l[0] hb (by omega) h1z h1l h1x
 by_cases he : (headR h1l[0].l).1 = 0
 ·obtain ⟨o1, o2, o3, o4, o5, o6, o7⟩ := zbz0 he
  obtain ⟨T, hT, hI⟩ := zbz8 (k := (headR h1l[0].l).2.2.1) o1 o2 ⟨o5, o6⟩ m h1z h1l h1x hm1 hm hB hL
  refine ⟨T, Ev.succ (Ev.pos (by omega) (Ev.opt hg (Ev.bind hH (Ev.pos he (Ev.pos (by omega) ?_))))) (fun q => rfl), ?_⟩
  ·rw [o7]; exact hT
  ·simp only [walkA]
   rw [if_pos he]
   rcases hI with ⟨h1, h2⟩ | ⟨z, h1⟩
   ·exact .inl ⟨_, h1, h2⟩
   ·exact .inr ⟨_, z, h1⟩
 ·refine ⟨_, Ev.succ (Ev.pos (by omega) (Ev.opt hg (Ev.bind hH (Ev.neg he (Ev.ret _))))) (fun q => rfl), ?_⟩
  simp only [walkA]
  rw [if_neg he, zbz5 he]
  exact .inl ⟨false, rfl, rfl⟩
end Go.Dvm.I
set_option linter.all false
set_option maxRecDepth 100000
namespace Go.Dvm.I
open Go Go.Dvm
theorem zb0a {D : Nat → Sl Int → Option (Ow Int × Int × Int)} {W : Nat → Bool → List Int → Int → Bool → List (Sl Int) → Option (Ow (Sl Int) × Int × Int)}
  (hW : ∀ q z L i z2 h, W (q + 1) z L i z2 h = if i < (L.length : Int) then (if 0 ≤ i then (if i ≤ (L.length : Int) then ((D q ⟨z, (List.drop i.toNat L)⟩).bind fun r1 => (if r1.2.2 = 0 then (if (h.length + 1) ≤ 4294967296 then (W q z L (wrp .i64 (i + r1.2.1)) false (h ++ [⟨r1.1.n, r1.1.xs⟩])) else none) else (some (⟨z2, true, h⟩, i, r1.2.2)))) else none) else none) else (some (⟨z2, true, h⟩, i, 0)))
  (z : Bool) (L : List Int) (hb : isB L) (hL : L.length ≤ 4294967296)
  (hD : ∀ i : Nat, i < L.length → ∃ z', Ev (fun q => D q ⟨z, L.drop i⟩) (⟨z', true, (decF (L.drop i)).1⟩, (decF (L.drop i)).2.1, (decF (L.drop i)).2.2)) :
  ∀ (f i : Nat) (z2 : Bool) (h : List (Sl Int)), i ≤ L.length → L.length - i < f → h.length ≤ i → ∃ z3 X, Ev (fun q => W q z L (i : Int) z2 h) (⟨z3, true, h ++ X⟩, ((i + (walkF f (L.drop i)).2.1 : Nat) : Int), (walkF f (L.drop i)).2.2) ∧ X.map (·.l) = (walkF f (L.drop i)).1 ∧ (z2 = false ∨ X ≠ [] → z3 = false)
 | 0, i, z2, h, hi, hf, hh => by omega
 | f + 1, i, z2, h, hi, hf, hh => by
  by_cases hlt : i < L.length
  ·have hne : L.drop i ≠ [] := by intro e; have := congrArg List.length e; simp at this; omega
   obtain ⟨z', hd⟩ := hD i hlt
   simp only [walkF]
   rw [if_neg hne]
   by_cases he : (decF (L.drop i)).2.2 = 0
   ·rw [if_pos he]
    obtain ⟨k1, k2⟩ := zbw7 (zbwz hb i) he
    rw [List.length_drop] at k2
    obtain ⟨z3, X, hx, hm, hz⟩ := zb0a hW z L hb hL hD f (i + (decF (L.drop i)).2.1.toNat) false (h ++ [⟨z', (decF (L.drop i)).1⟩]) (by omega) (by omega) (by simp; omega)
    rw [← List.drop_drop] at hx hm
    refine ⟨z3, ⟨z', (decF (L.drop i)).1⟩ :: X, ?_, ?_, fun _ => hz (.inl rfl)⟩
    ·refine Ev.succ (Ev.pos (by omega) (Ev.pos (by omega) (Ev.pos (by omega) (Ev.bind hd (Ev.pos he (Ev.pos (by omega) ?_)))))) (fun q => hW q _ _ _ _ _)
     have wi : wrp .i64 ((i : Int) + (decF (L.drop i)).2.1) = ((i + (decF (L.drop i)).2.1.toNat : Nat) : Int) := by
      rw [zbuo (by omega) (by omega)]; omega
     simp only [wi]
     refine hx.cast ?_
     simp only [List.append_assoc, List.cons_append, List.nil_append, Nat.add_assoc]
    ·simp [hm]
   ·rw [if_neg he]
    refine ⟨z2, [], Ev.succ (Ev.pos (by omega) (Ev.pos (by omega) (Ev.pos (by omega) (Ev.bind hd (Ev.neg he (Ev.ret' (by simp))))))) (fun q => hW q _ _ _ _ _), rfl, fun h => h.elim id (fun h => absurd rfl h)⟩
  ·rw [List.drop_of_length_le (by omega)]
   simp only [walkF, if_true]
   exact ⟨z2, [], Ev.succ (Ev.neg (by omega) (Ev.ret' (by simp))) (fun q => hW q _ _ _ _ _), rfl, fun h => h.elim id (fun h => absurd rfl h)⟩
theorem zb0b (s : Sl Int) (hz : s.z = true → s.l = []) (hb : isB s.l) (hl : s.l.length ≤ 4294967296) : ∃ z X, Ev (fun q => zlh q s) (⟨z, true, X⟩, (((allF s.l).2.1 : Nat) : Int), (allF s.l).2.2) ∧ X.map (·.l) = (allF s.l).1 ∧ (X ≠ [] → z = false) := by
 obtain ⟨z, X, h, hm, hz3⟩ := zb0a (D := fun q s => zlf q s) (W := zlg) (fun q z L i z2 h => rfl) s.z s.l hb hl (fun i hi => zbw0 ⟨s.z, s.l.drop i⟩ (fun h => by rw [hz h]; simp) (zbwz hb i) (by simp; omega)) (s.l.length + 1) 0 true [] (by omega) (by omega) (by simp)
 rw [List.drop_zero] at h hm
 refine ⟨z, X, Ev.succ h (fun q => rfl) |>.cast ?_, hm, fun h => hz3 (.inr h)⟩
 simp [allF]
theorem zb0c (s : Sl Int) (hz : s.z = true → s.l = []) (hb : isB s.l) (hl : s.l.length ≤ 4294967296) : ∃ z X, Ev (fun q => zmj q s) (⟨z, true, X⟩, (allE s.l).2) ∧ X.map (·.l) = (allE s.l).1 ∧ (X ≠ [] → z = false) := by
 obtain ⟨z, X, h, hm, h3⟩ := zb0b s hz hb hl
 unfold allE
 by_cases he : (allF s.l).2.2 = 0
 ·rw [if_pos he]; exact ⟨z, X, Ev.succ (Ev.bind h (Ev.pos he (Ev.ret _))) (fun q => rfl), hm, h3⟩
 ·rw [if_neg he]; exact ⟨true, [], Ev.succ (Ev.bind h (Ev.neg he (Ev.ret _))) (fun q => rfl), rfl, fun h => absurd rfl h⟩
theorem zb0d (s : Sl Int) (hz : s.z = true → s.l = []) (hb : isB s.l) (hl : s.l.length ≤ 4294967296) : ∃ z X, Ev (fun q => zli q s) (⟨z, true, X⟩, (((allF s.l).2.1 : Nat) : Int)) ∧ X.map (·.l) = (allF s.l).1 ∧ (X ≠ [] → z = false) := by
 obtain ⟨z, X, h, hm, h3⟩ := zb0b s hz hb hl
 exact ⟨z, X, Ev.succ (Ev.bind h (Ev.ret _)) (fun q => rfl), hm, h3⟩
theorem zb0e : ∀ {f : Nat} {l : List Int}, isB l → ∀ d ∈ (walkF f l).1, isB d ∧ d.length ≤ 1048576
 | 0, l, hb, d, h => by simp [walkF] at h
 | f + 1, l, hb, d, h => by
  simp only [walkF] at h
  split at h
  ·simp at h
  ·split at h
   ·rename_i h1 h2
    rcases List.mem_cons.1 h with e | e
    ·rw [e]
     exact ⟨zbw6 hb, (zbw5 (l := l) (x := (decF l).1) (n := (decF l).2.1) hb (by rw [← h2])).1⟩
    ·exact zb0e (zbwz hb _) d e
   ·simp at h
theorem zb0f {l : List Int} (hb : isB l) : (∀ d ∈ (allE l).1, isB d ∧ d.length ≤ 1048576) ∧ (allE l).1.length ≤ l.length := by
 unfold allE
 split
 ·exact ⟨zb0e hb, zbw8 hb⟩
 ·simp
theorem zb0g (z : Bool) (L : List (Sl Int)) (hL : L.length ≤ 1000000000) (hB : ∀ e ∈ L, isB e.l ∧ e.l.length ≤ 1048576) : ∀ (k i : Nat) (h0z : Bool) (h0l : List (Sl Int)), L.length = i + k → h0l.length = i →
  ∃ z' X, Ev (fun q => zmk q z L (L.length : Int) (i : Int) h0z h0l) ⟨z', true, h0l ++ X⟩ ∧ X.map (·.l) = (L.drop i).map fun e => encF e.l
 | 0, i, h0z, h0l, hk, hh => by
  refine ⟨h0z, [], Ev.succ (Ev.neg (by omega) (Ev.ret' (by simp))) (fun q => rfl), ?_⟩
  rw [List.drop_of_length_le (by omega)]; rfl
 | k + 1, i, h0z, h0l, hk, hh => by
  have hi : i < L.length := by omega
  have he : L[((i : Int)).toNat]? = some L[i] := by simp [hi]
  obtain ⟨hb, hl⟩ := hB L[i] (List.getElem_mem hi)
  obtain ⟨zf, hf⟩ := zbyu L[i] hb hl
  obtain ⟨z', X, ih, hX⟩ := zb0g z L hL hB k (i + 1) false (h0l ++ [⟨zf, encF L[i].l⟩]) (by omega) (by simp [hh])
  rw [show ((i + 1 : Nat) : Int) = wrp .i64 ((i : Int) + 1) by rw [zbuo (by omega) (by omega)]; omega] at ih
  refine ⟨z', ⟨zf, encF L[i].l⟩ :: X, Ev.succ (Ev.pos (by omega) (Ev.pos (by omega) (Ev.opt he (Ev.bind hf (Ev.pos (by omega) (Ev.cast ih ?_)))))) (fun q => rfl), ?_⟩
  ·simp
  ·rw [List.drop_eq_getElem_cons hi, List.map_cons, List.map_cons, hX]
theorem zb0h (s : Sl (Sl Int)) (hL : s.l.length ≤ 1000000000) (hB : ∀ e ∈ s.l, isB e.l ∧ e.l.length ≤ 1048576) : ∃ z' X, Ev (fun q => zml q s) ⟨z', true, X⟩ ∧ X.map (·.l) = s.l.map fun e => encF e.l := by
 obtain ⟨z', X, h, hX⟩ := zb0g s.z s.l hL hB s.l.length 0 true [] (by omega) rfl
 exact ⟨z', X, Ev.succ (Ev.cast h (by simp)) (fun q => rfl), by simpa using hX⟩
/-- A segment's reading: kind, first index, records; the frames ahead of the footer; the error. -/
def segD (b : List Int) : (Int × Int × List zjs) × List (List Int) × Int :=
 if (allE b).2 = 0 then
  if (allE b).1.length < 2 then ((0, 0, []), [], 16) else
  if (walkA ((allE b).1.take ((allE b).1.length - 1))).2.1 = 0 then
   if encF (footD (((allE b).1.take ((allE b).1.length - 1)).map encF)) = encF ((allE b).1.getD ((allE b).1.length - 1) []) then
    (((walkA ((allE b).1.take ((allE b).1.length - 1))).2.2.2.1, (walkA ((allE b).1.take ((allE b).1.length - 1))).2.2.2.2.1, (walkA ((allE b).1.take ((allE b).1.length - 1))).2.2.2.2.2), ((allE b).1.take ((allE b).1.length - 1)).map encF, 0)
   else ((0, 0, []), [], 16)
  else ((0, 0, []), [], (walkA ((allE b).1.take ((allE b).1.length - 1))).2.1)
 else ((0, 0, []), [], (allE b).2)
theorem zb0i (s : Sl Int) (hz : s.z = true → s.l = []) (hb : isB s.l) (hl : s.l.length ≤ 90000) : ∃ sz z x X, Ev (fun q => zmw q s) (⟨(segD s.l).1.1, (segD s.l).1.2.1, ⟨sz, (segD s.l).1.2.2⟩⟩, ⟨z, x, X⟩, (segD s.l).2.2) ∧ X.map (·.l) = (segD s.l).2.1 := by
 obtain ⟨z0, X, hA, hX, hz0⟩ := zb0c s hz hb (by omega)
 obtain ⟨hM, hMl⟩ := zb0f hb
 have hXl : X.length = (allE s.l).1.length := by rw [← hX, List.length_map]
 unfold segD
 by_cases he : (allE s.l).2 = 0
 ·simp only [if_pos he]
  by_cases h2 : (allE s.l).1.length < 2
  ·simp only [if_pos h2]
   exact ⟨true, true, true, [], Ev.succ (Ev.bind hA (Ev.pos he (Ev.pos (by simp only; omega) (Ev.ret _)))) (fun q => rfl), rfl⟩
  ·simp only [if_neg h2]
   have hw : wrp .i64 ((X.length : Int) - 1) = ((X.length - 1 : Nat) : Int) := by rw [zbuo (by omega) (by omega)]; omega
   have hzf : z0 = false := hz0 (fun e => by rw [e] at hXl; simp at hXl; omega)
   have hB : ∀ e ∈ X, isB e.l ∧ e.l.length ≤ 1048576 := fun e he => hM e.l (by rw [← hX]; exact List.mem_map_of_mem (f := fun x : Sl Int => x.l) he)
   obtain ⟨T, hT, hI⟩ := zbz9 (X.length - 1) false X true (by omega) (by omega) (fun e he => ⟨(hB e he).1, by have := (hB e he).2; omega⟩) (by omega)
   have htk : (X.take (X.length - 1)).map (·.l) = (allE s.l).1.take ((allE s.l).1.length - 1) := by rw [List.map_take, hX, hXl]
   rw [htk] at hI
   subst hzf
   -- how it goes on
   have go : ∀ (S : zjt), (walkA ((allE s.l).1.take ((allE s.l).1.length - 1))).2.1 = 0 →
     ∃ z x Y, Ev (fun q => (zml q ⟨false, (List.take (X.length - 1) X)⟩).bind fun r14 => ((zk1 q ⟨r14.n, r14.xs⟩).bind fun r15 => (if (X.length - 1) < X.length then ((X[(X.length - 1)]?).bind fun e16 => ((zke q e16).bind fun r17 => ((zlo q ⟨r15.n, r15.xs⟩ ⟨r17.n, r17.xs⟩).bind fun r18 => (if r18 = true then (some (S, (⟨r14.n, false, r14.xs⟩ : Ow (Sl Int)), (0 : Int))) else (some ((⟨0, 0, ⟨true, []⟩⟩ : zjt), ⟨true, true, []⟩, 16)))))) else none)))
      (if encF (footD (((allE s.l).1.take ((allE s.l).1.length - 1)).map encF)) = encF ((allE s.l).1.getD ((allE s.l).1.length - 1) []) then (S, ⟨z, x, Y⟩, 0) else ((⟨0, 0, ⟨true, []⟩⟩ : zjt), ⟨true, true, []⟩, 16)) ∧ Y.map (·.l) = ((allE s.l).1.take ((allE s.l).1.length - 1)).map encF := fun S _ => by
    have hB' : ∀ e ∈ X.take (X.length - 1), isB e.l ∧ e.l.length ≤ 1048576 := fun e he => hB e (List.mem_of_mem_take he)
    obtain ⟨zf, Y, hF, hY⟩ := zb0h ⟨false, X.take (X.length - 1)⟩ (by simp only [List.length_take]; omega) hB'
    have hYm : Y.map (·.l) = ((allE s.l).1.take ((allE s.l).1.length - 1)).map encF := by rw [hY, ← htk, List.map_map]; rfl
    have hYl : Y.length = X.length - 1 := by
     have := congrArg List.length hY
     rw [List.length_map, List.length_map, List.length_take] at this; omega
    obtain ⟨zt, hFt⟩ := zbze ⟨zf, Y⟩ (by simp only; omega) (by simp only; omega) (fun e he => by
     have : e.l ∈ Y.map (·.l) := List.mem_map_of_mem (f := fun x : Sl Int => x.l) he
     rw [hY] at this
     obtain ⟨a, ha, hae⟩ := List.mem_map.1 this
     have h1 := (hB' a ha).2
     have h2 := (zby3 a.l).1
     rw [← hae]; omega)
    simp only [hYm] at hFt
    have hg : X[X.length - 1]? = some X[X.length - 1] := List.getElem?_eq_getElem (by omega)
    obtain ⟨b1, b2⟩ := hB X[X.length - 1] (List.getElem_mem (by omega))
    obtain ⟨zl, hLf⟩ := zbyu X[X.length - 1] b1 b2
    have hlast : X[X.length - 1].l = (allE s.l).1.getD ((allE s.l).1.length - 1) [] := by
     rw [← hXl, ← hX, List.getD_eq_getElem?_getD, List.getElem?_map, hg]; rfl
    refine ⟨zf, false, Y, Ev.bind hF (Ev.bind hFt (Ev.pos (by omega) (Ev.opt hg (Ev.bind hLf (Ev.bind (Ev.succ (g := fun _ => some (decide (encF (footD (((allE s.l).1.take ((allE s.l).1.length - 1)).map encF)) = encF X[X.length - 1].l))) (Ev.ret _) (fun q => rfl)) (Ev.ite (fun h => ?_) fun h => ?_)))))), hYm⟩
    ·rw [hlast] at h
     rw [if_pos (by simpa using h)]; exact Ev.ret _
    ·rw [hlast] at h
     rw [if_neg (by simpa using h)]; exact Ev.ret _
   have pre : ∀ {r}, Ev (fun q => if T.1 = 0 then (if T.2.2.1 = 0 then ((zml q ⟨false, (List.take (X.length - 1) X)⟩).bind fun r14 => ((zk1 q ⟨r14.n, r14.xs⟩).bind fun r15 => (if (X.length - 1) < X.length then ((X[(X.length - 1)]?).bind fun e16 => ((zke q e16).bind fun r17 => ((zlo q ⟨r15.n, r15.xs⟩ ⟨r17.n, r17.xs⟩).bind fun r18 => (if r18 = true then (some ((⟨T.2.2.2.2.1, T.2.2.2.2.2.1, ⟨true, []⟩⟩ : zjt), (⟨r14.n, false, r14.xs⟩ : Ow (Sl Int)), (0 : Int))) else (some ((⟨0, 0, ⟨true, []⟩⟩ : zjt), ⟨true, true, []⟩, 16)))))) else none))) else (some ((⟨0, 0, ⟨true, []⟩⟩ : zjt), ⟨true, true, []⟩, T.2.2.1))) else (if T.2.2.2.2.2.2.2.2.1 = 0 then ((zml q ⟨false, (List.take (X.length - 1) X)⟩).bind fun r14 => ((zk1 q ⟨r14.n, r14.xs⟩).bind fun r15 => (if (X.length - 1) < X.length then ((X[(X.length - 1)]?).bind fun e16 => ((zke q e16).bind fun r17 => ((zlo q ⟨r15.n, r15.xs⟩ ⟨r17.n, r17.xs⟩).bind fun r18 => (if r18 = true then (some ((⟨T.2.2.2.2.2.2.2.2.2.2.1, T.2.2.2.2.2.2.2.2.2.2.2.1, ⟨T.2.2.2.2.2.2.2.2.2.2.2.2.2.2.1, T.2.2.2.2.2.2.2.2.2.2.2.2.2.2.2⟩⟩ : zjt), (⟨r14.n, false, r14.xs⟩ : Ow (Sl Int)), (0 : Int))) else (some ((⟨0, 0, ⟨true, []⟩⟩ : zjt), ⟨true, true, []⟩, 16)))))) else none))) else (some ((⟨0, 0, ⟨true, []⟩⟩ : zjt), ⟨true, true, []⟩, T.2.2.2.2.2.2.2.2.1)))) r → Ev (fun q => zmw q s) r := fun {r} h => by
    refine Ev.succ (Ev.bind hA (Ev.pos he (Ev.neg (by simp only; omega) (Ev.pos ?_ (Ev.pos ?_ (Ev.neg (show ¬ (false = true) by decide) (Ev.bind (s := T) ?_ ?_))))))) (fun q => rfl)
    ·simp only [hw]; omega
    ·simp only [hw, Int.toNat_natCast]; omega
    ·simp only [hw, Int.toNat_natCast]; exact hT
    ·simp only [hw, Int.toNat_natCast]; exact h
   rcases hI with ⟨full, hTe, hr⟩ | ⟨full, zr, hTe⟩
   ·by_cases hw0 : (walkA ((allE s.l).1.take ((allE s.l).1.length - 1))).2.1 = 0
    ·simp only [if_pos hw0]
     obtain ⟨z, x, Y, hg, hY⟩ := go ⟨T.2.2.2.2.1, T.2.2.2.2.2.1, ⟨true, []⟩⟩ hw0
     by_cases hc : encF (footD (((allE s.l).1.take ((allE s.l).1.length - 1)).map encF)) = encF ((allE s.l).1.getD ((allE s.l).1.length - 1) [])
     ·simp only [if_pos hc] at hg ⊢
      refine ⟨true, z, x, Y, pre (Ev.pos (by rw [hTe]; rfl) (Ev.pos (by rw [hTe]; exact hw0) (Ev.cast hg ?_))), hY⟩
      rw [hr, hTe]; rfl
     ·simp only [if_neg hc] at hg ⊢
      exact ⟨true, true, true, [], pre (Ev.pos (by rw [hTe]; rfl) (Ev.pos (by rw [hTe]; exact hw0) hg)), rfl⟩
    ·simp only [if_neg hw0]
     refine ⟨true, true, true, [], pre (Ev.pos (by rw [hTe]; rfl) (Ev.neg (by rw [hTe]; exact hw0) (Ev.ret' ?_))), rfl⟩
     rw [hTe]; rfl
   ·by_cases hw0 : (walkA ((allE s.l).1.take ((allE s.l).1.length - 1))).2.1 = 0
    ·simp only [if_pos hw0]
     obtain ⟨z, x, Y, hg, hY⟩ := go ⟨T.2.2.2.2.2.2.2.2.2.2.1, T.2.2.2.2.2.2.2.2.2.2.2.1, ⟨T.2.2.2.2.2.2.2.2.2.2.2.2.2.2.1, T.2.2.2.2.2.2.2.2.2.2.2.2.2.2.2⟩⟩ hw0
     by_cases hc : encF (footD (((allE s.l).1.take ((allE s.l).1.length - 1)).map encF)) = encF ((allE s.l).1.getD ((allE s.l).1.length - 1) [])
     ·simp only [if_pos hc] at hg ⊢
      refine ⟨zr, z, x, Y, pre (Ev.neg (by rw [hTe]; exact Nat.one_ne_zero) (Ev.pos (by rw [hTe]; exact hw0) (Ev.cast hg ?_))), hY⟩
      rw [hTe]; rfl
     ·simp only [if_neg hc] at hg ⊢
      exact ⟨true, true, true, [], pre (Ev.neg (by rw [hTe]; exact Nat.one_ne_zero) (Ev.pos (by rw [hTe]; exact hw0) hg)), rfl⟩
    ·simp only [if_neg hw0]
     refine ⟨true, true, true, [], pre (Ev.neg (by rw [hTe]; exact Nat.one_ne_zero) (Ev.neg (by rw [hTe]; exact hw0) (Ev.ret' ?_))), rfl⟩
     rw [hTe]; rfl
 ·simp only [if_neg he]
  exact ⟨true, true, true, [], Ev.succ (Ev.bind hA (Ev.neg he (Ev.ret _))) (fun q => rfl), rfl⟩
theorem zb0j (s : Sl Int) (hz : s.z = true → s.l = []) (hb : isB s.l) (hl : s.l.length ≤ 90000) : ∃ sz, Ev (fun q => zmx q s) (⟨(segD s.l).1.1, (segD s.l).1.2.1, ⟨sz, (segD s.l).1.2.2⟩⟩, (segD s.l).2.2) := by
 obtain ⟨sz, z, x, X, h, _⟩ := zb0i s hz hb hl
 exact ⟨sz, Ev.succ (Ev.bind h (Ev.ret _)) (fun q => rfl)⟩
end Go.Dvm.I
set_option linter.all false
set_option maxRecDepth 100000
namespace Go.Dvm.I
open Go Go.Dvm
theorem zb0k {v f : Int} : ∀ {D : List (List Int)} {i : Nat} {acc : List zjs} {full : Bool}, i ≤ (walkS v f D i acc full).1 ∧ (walkS v f D i acc full).1 ≤ i + D.length
 | [], i, acc, full => by simp [walkS]
 | d :: D, i, acc, full => by
  simp only [walkS]
  split
  ·simp
  ·split
   ·rename_i l hl h0
    have := zb0k (v := v) (f := f) (D := D) (i := i + 1) (acc := acc ++ l) (full := decide (l.length = 16))
    rw [List.length_cons]; omega
   ·simp
theorem zb0l {L : List (List Int)} : (walkA L).1 ≤ L.length := by
 cases L with
 | nil => simp [walkA]
 | cons d D =>
  simp only [walkA]
  split
  ·have := (zb0k (v := (headR d).2.1) (f := (headR d).2.2.2.1) (D := D) (i := 1) (acc := []) (full := true)).2
   simp only [List.length_cons]; omega
  ·simp
def lenF (L : List (List Int)) : Nat := (L.map encF).flatten.length
theorem zb0m (d : List Int) (L : List (List Int)) : lenF (d :: L) = (encF d).length + lenF L := by simp [lenF]
theorem zb0n (X : List (Sl Int)) (hX : X.length ≤ 100000) (hB : ∀ e ∈ X, e.l.length ≤ 1048576) (n : Nat) (hn : n ≤ X.length) (h0 h1 h2 : Int) (h4 z x : Bool) : ∀ (j i m : Nat), n = i + j → m ≤ i * 2000000 →
  Ev (fun q => zl8 q (m : Int) n (n : Int) (i : Int) h0 h1 h2 h4 z X x) (⟨h1, h2, ⟨true, []⟩⟩, ((m + lenF (((X.take n).drop i).map (·.l)) : Nat) : Int), true)
 | 0, i, m, hk, hm => by
  refine Ev.succ (Ev.neg (by omega) (Ev.ret' ?_)) (fun q => rfl)
  rw [List.drop_of_length_le (by rw [List.length_take]; omega)]; rfl
 | j + 1, i, m, hk, hm => by
  have hi : i < X.length := by omega
  have hd : (X.take n).drop i = X[i] :: (X.take n).drop (i + 1) := by
   rw [List.drop_eq_getElem_cons (by rw [List.length_take]; omega)]
   congr 1
   exact List.getElem_take
  have hg : X[((i : Int)).toNat]? = some X[i] := by rw [Int.toNat_natCast]; exact List.getElem?_eq_getElem hi
  have hl := hB X[i] (List.getElem_mem hi)
  have he := zbwn hl
  have hls := zby3 X[i].l
  have ih := zb0n X hX hB n hn h0 h1 h2 h4 z x j (i + 1) (m + (encF X[i].l).length) (by omega) (by omega)
  have w1 : wrp .i64 ((i : Int) + 1) = ((i + 1 : Nat) : Int) := by rw [zbuo (by omega) (by omega)]; omega
  have w2 : wrp .i64 ((m : Int) + sizeF (X[i].l.length : Int)) = ((m + (encF X[i].l).length : Nat) : Int) := by rw [← he, zbuo (by omega) (by omega)]; omega
  rw [hd, List.map_cons, zb0m]
  refine Ev.succ (Ev.pos (by omega) (Ev.pos (by omega) (Ev.pos (by omega) (Ev.opt hg (Ev.bind (zbwm _) ?_))))) (fun q => rfl)
  rw [w1, w2]
  refine Ev.cast ih ?_
  rw [Nat.add_assoc]
theorem zb0o (X : List (Sl Int)) (hX : X.length ≤ 100000) (hB : ∀ e ∈ X, e.l.length ≤ 1048576) (n : Nat) (hn : n ≤ X.length) (h0 h1 h2 : Int) (hlen : Nat) (h4 z x : Bool) (hz3 : Bool) (hr3 : List zjs) : ∀ (j i m : Nat), n = i + j → m ≤ i * 2000000 →
  Ev (fun q => zma q (m : Int) n (n : Int) (i : Int) h0 h1 h2 hlen h4 z X x hz3 hr3) (⟨h1, h2, ⟨hz3, hr3⟩⟩, ((m + lenF (((X.take n).drop i).map (·.l)) : Nat) : Int), true)
 | 0, i, m, hk, hm => by
  refine Ev.succ (Ev.neg (by omega) (Ev.ret' ?_)) (fun q => rfl)
  rw [List.drop_of_length_le (by rw [List.length_take]; omega)]; rfl
 | j + 1, i, m, hk, hm => by
  have hi : i < X.length := by omega
  have hd : (X.take n).drop i = X[i] :: (X.take n).drop (i + 1) := by
   rw [List.drop_eq_getElem_cons (by rw [List.length_take]; omega)]
   congr 1
   exact List.getElem_take
  have hg : X[((i : Int)).toNat]? = some X[i] := by rw [Int.toNat_natCast]; exact List.getElem?_eq_getElem hi
  have hl := hB X[i] (List.getElem_mem hi)
  have he := zbwn hl
  have hls := zby3 X[i].l
  have ih := zb0o X hX hB n hn h0 h1 h2 hlen h4 z x hz3 hr3 j (i + 1) (m + (encF X[i].l).length) (by omega) (by omega)
  have w1 : wrp .i64 ((i : Int) + 1) = ((i + 1 : Nat) : Int) := by rw [zbuo (by omega) (by omega)]; omega
  have w2 : wrp .i64 ((m : Int) + sizeF (X[i].l.length : Int)) = ((m + (encF X[i].l).length : Nat) : Int) := by rw [← he, zbuo (by omega) (by omega)]; omega
  rw [hd, List.map_cons, zb0m]
  refine Ev.succ (Ev.pos (by omega) (Ev.pos (by omega) (Ev.pos (by omega) (Ev.opt hg (Ev.bind (zbwm _) ?_))))) (fun q => rfl)
  rw [w1, w2]
  refine Ev.cast ih ?_
  rw [Nat.add_assoc]
/-- What is whole of a segment's bytes. -/
def recS (b : List Int) : (Int × Int × List zjs) × Int × Bool :=
 if (allF b).1.length = 0 then ((0, 0, []), 0, false) else
 if (walkA (allF b).1).1 = 0 then ((0, 0, []), 0, false) else
 (((walkA (allF b).1).2.2.2.1, (walkA (allF b).1).2.2.2.2.1, (walkA (allF b).1).2.2.2.2.2), (lenF ((allF b).1.take (walkA (allF b).1).1) : Int), true)
theorem zb0p (s : Sl Int) (hz : s.z = true → s.l = []) (hb : isB s.l) (hl : s.l.length ≤ 90000) : ∃ sz, Ev (fun q => zmb q s) (⟨(recS s.l).1.1, (recS s.l).1.2.1, ⟨sz, (recS s.l).1.2.2⟩⟩, (recS s.l).2.1, (recS s.l).2.2) := by
 obtain ⟨z0, X, hA, hX, hz0⟩ := zb0d s hz hb (by omega)
 have hM := zb0e (f := s.l.length + 1) hb
 have hMl := zbw8 (f := s.l.length + 1) hb
 have hXl : X.length = (allF s.l).1.length := by rw [← hX, List.length_map]
 have hXm : X.length ≤ 90000 := by rw [hXl]; unfold allF; omega
 unfold recS
 by_cases h0 : (allF s.l).1.length = 0
 ·simp only [if_pos h0]
  exact ⟨true, Ev.succ (Ev.bind hA (Ev.pos (by simp only; omega) (Ev.ret _))) (fun q => rfl)⟩
 ·simp only [if_neg h0]
  have hzf : z0 = false := hz0 (fun e => by rw [e] at hXl; simp at hXl; omega)
  subst hzf
  have hB : ∀ e ∈ X, isB e.l ∧ e.l.length ≤ 1048576 := fun e he => hM e.l (by
   show e.l ∈ (allF s.l).1
   rw [← hX]; exact List.mem_map_of_mem (f := fun x : Sl Int => x.l) he)
  obtain ⟨T, hT, hI⟩ := zbz7 X.length false X true (by omega) (by omega) (fun e he => ⟨(hB e he).1, by have := (hB e he).2; omega⟩) (by omega) rfl
  rw [List.take_length, hX] at hI
  have hle := zb0l (L := (allF s.l).1)
  by_cases hw0 : (walkA (allF s.l).1).1 = 0
  ·simp only [if_pos hw0]
   rcases hI with ⟨full, hTe, hr⟩ | ⟨full, zr, hTe⟩
   ·exact ⟨true, Ev.succ (Ev.bind hA (Ev.neg (by simp only; omega) (Ev.bind hT (Ev.pos (by rw [hTe]; rfl) (Ev.pos (by rw [hTe]; simp only [T0, hw0]; rfl) (Ev.ret _)))))) (fun q => rfl)⟩
   ·exact ⟨true, Ev.succ (Ev.bind hA (Ev.neg (by simp only; omega) (Ev.bind hT (Ev.neg (by rw [hTe]; exact Nat.one_ne_zero) (Ev.pos (by rw [hTe]; simp only [T1, hw0]; rfl) (Ev.ret _)))))) (fun q => rfl)⟩
  ·simp only [if_neg hw0]
   rcases hI with ⟨full, hTe, hr⟩ | ⟨full, zr, hTe⟩
   ·have hn : T.2.1.toNat = (walkA (allF s.l).1).1 := by rw [hTe]; simp [T0]
    have hn2 : T.2.1 = ((walkA (allF s.l).1).1 : Int) := by rw [hTe]; rfl
    have := zb0n X (by omega) (fun e he => (hB e he).2) (walkA (allF s.l).1).1 (by omega) T.2.2.2.1 T.2.2.2.2.1 T.2.2.2.2.2.1 T.2.2.2.2.2.2.1 false true (walkA (allF s.l).1).1 0 0 (by omega) (by omega)
    rw [← hn] at this
    refine ⟨true, Ev.succ (Ev.bind hA (Ev.neg (by simp only; omega) (Ev.bind hT (Ev.pos (by rw [hTe]; rfl) (Ev.neg (by rw [hn2]; omega) (Ev.pos (by rw [hn2]; omega) (Ev.pos (by rw [hn]; simp only; omega) (Ev.neg (show ¬ (false = true) by decide) (Ev.cast this ?_))))))))) (fun q => rfl)⟩
    rw [hn, List.drop_zero, List.map_take, hX, Nat.zero_add, hr, hTe]; rfl
   ·have hn : T.2.2.2.2.2.2.2.2.1.toNat = 0 + (walkA (allF s.l).1).2.1.toNat := by rw [hTe]; simp [T1]
    have hm : T.2.2.2.2.2.2.2.1.toNat = (walkA (allF s.l).1).1 := by rw [hTe]; simp [T1]
    have hm2 : T.2.2.2.2.2.2.2.1 = ((walkA (allF s.l).1).1 : Int) := by rw [hTe]; rfl
    have := zb0o X (by omega) (fun e he => (hB e he).2) (walkA (allF s.l).1).1 (by omega) T.2.2.2.2.2.2.2.2.2.1 T.2.2.2.2.2.2.2.2.2.2.1 T.2.2.2.2.2.2.2.2.2.2.2.1 T.2.2.2.2.2.2.2.2.2.2.2.2.1 T.2.2.2.2.2.2.2.2.2.2.2.2.2.1 false true T.2.2.2.2.2.2.2.2.2.2.2.2.2.2.1 T.2.2.2.2.2.2.2.2.2.2.2.2.2.2.2 (walkA (allF s.l).1).1 0 0 (by omega) (by omega)
    rw [← hm] at this
    refine ⟨zr, Ev.succ (Ev.bind hA (Ev.neg (by simp only; omega) (Ev.bind hT (Ev.neg (by rw [hTe]; exact Nat.one_ne_zero) (Ev.neg (by rw [hm2]; omega) (Ev.pos (by rw [hm2]; omega) (Ev.pos (by rw [hm]; simp only; omega) (Ev.neg (show ¬ (false = true) by decide) (Ev.cast this ?_))))))))) (fun q => rfl)⟩
    rw [hm, List.drop_zero, List.map_take, hX, Nat.zero_add, hTe]; rfl
end Go.Dvm.I
set_option linter.all false
set_option maxRecDepth 100000
namespace Go.Dvm.I
open Go Go.Dvm
theorem zb0q (L : List (List Int)) : BB L = (L.map encF).flatten := by simp [BB, List.flatMap]
end Go.Dvm.I
set_option linter.all false
set_option maxRecDepth 100000
namespace Go.Dvm.I
open Go Go.Dvm
/-- The data of blocks, sixteen by sixteen. -/
def datB (v : Int) : Nat → List zjs → List (List Int)
 | 0, _ => []
 | k + 1, l => if l.length = 0 then [] else dataB v (l.take 16) :: datB v k (l.drop 16)
theorem zb0r {v : Int} : ∀ {k : Nat} {l : List zjs}, blocksB v k l = (datB v k l).map encF
 | 0, l => rfl
 | k + 1, l => by
  simp only [blocksB, datB]
  split
  ·rfl
  ·rw [List.map_cons, zb0r]
theorem zb0s {v : Int} : ∀ {k : Nat} {l : List zjs}, (∀ r ∈ l, FitsR r) → ∀ d ∈ datB v k l, isB d ∧ d.length ≤ 20000
 | 0, l, hf, d, h => by simp [datB] at h
 | k + 1, l, hf, d, h => by
  simp only [datB] at h
  split at h
  ·simp at h
  ·have h1 := zbyp (v := v) (l := l.take 16) (fun r hr => hf r (List.mem_of_mem_take hr))
   have h4 : (l.take 16).length ≤ 16 := by simp; omega
   rcases List.mem_cons.1 h with e | e
   ·rw [e]; exact ⟨zbyt _ _, by omega⟩
   ·exact zb0s (fun r hr => hf r (List.mem_of_mem_drop hr)) d e
theorem zb0t {v : Int} : ∀ {k : Nat} {l : List zjs}, (datB v k l).length ≤ l.length
 | 0, l => by simp [datB]
 | k + 1, l => by
  simp only [datB]
  split
  ·simp
  ·have := zb0t (v := v) (k := k) (l := l.drop 16)
   rw [List.length_drop] at this
   rw [List.length_cons]; omega
theorem upR3 (r : zjs) : upR 3 r = r := by simp [upR]
theorem zb0u {v : Int} (v1 : 1 ≤ v) (v3 : v ≤ 3) : ∀ {l acc : List zjs} {k : Nat}, (∀ r ∈ l, FitsR r) → (recsB v l).length < k → eldD v k (recsB v l) acc = some (acc ++ l.map (upR v))
 | [], acc, 0, hf, hk => by omega
 | [], acc, k + 1, hf, hk => by simp [recsB, eldD]
 | r :: l, acc, 0, hf, hk => by omega
 | r :: l, acc, k + 1, hf, hk => by
  have hr := hf r List.mem_cons_self
  have hlen := zbx6 (v := v) hr
  have hpos : 1 ≤ (recB v r).length := by
   unfold recB; rw [put_lt (by omega) (by omega)]; simp
  have p1 := zbxv (n := ((recB v r).length : Int)) (by omega) (by omega)
  have e0 : recsB v (r :: l) = put ((recB v r).length : Int) ++ (recB v r ++ recsB v l) := by simp only [recsB, List.append_assoc]
  have e1 : getN (recsB v (r :: l)) = (((recB v r).length : Int), ((put ((recB v r).length : Int)).length : Int)) := by
   rw [e0]; exact zbw1 (by omega) (by omega)
  have d1 : (recsB v (r :: l)).drop (put ((recB v r).length : Int)).length = recB v r ++ recsB v l := by rw [e0, List.drop_left]
  have ll : (recsB v (r :: l)).length = (put ((recB v r).length : Int)).length + ((recB v r).length + (recsB v l).length) := by rw [e0, List.length_append, List.length_append]
  have g1 : (recsB v (r :: l))[(put ((recB v r).length : Int)).length]? = some v := by
   rw [e0, List.getElem?_append_right (by omega), Nat.sub_self]
   unfold recB; rw [put_lt (by omega) (by omega)]; rfl
  have d2 : (recsB v (r :: l)).drop ((((put ((recB v r).length : Int)).length : Int) + ((recB v r).length : Int))).toNat = recsB v l := by
   rw [show (((put ((recB v r).length : Int)).length : Int) + ((recB v r).length : Int)).toNat = (put ((recB v r).length : Int)).length + (recB v r).length by omega, ← List.drop_drop, d1, List.drop_left]
  simp only [eldD, e1, Int.toNat_natCast, d1, g1, d2]
  rw [if_neg (by omega), if_neg (by omega), if_neg (by omega), if_neg (by omega)]
  rw [List.take_left, zbx4 v1 v3 hr]
  simp only [if_true]
  rw [zb0u v1 v3 (fun a ha => hf a (List.mem_cons_of_mem _ ha)) (by omega)]
  simp
theorem zb0v {v f : Int} (v1 : 1 ≤ v) (v3 : v ≤ 3) {l : List zjs} (hc : chainB l f = true) (h0 : l ≠ []) (hl : l.length ≤ 256) : blockR v (dataB v l) = some (l.map (upR v)) := by
 unfold blockR dataB
 by_cases h : v = 3
 ·rw [if_pos h, if_pos h, zbzt (zbym hc h0 hl)]
  subst h
  congr 1
  exact (List.map_id'' upR3 l).symm
 ·rw [if_neg h, if_neg h, zb0u v1 v3 (zbye hc) (by omega), List.nil_append]
theorem zb0w {v : Int} : ∀ {l : List zjs} {f : Int}, chainB l f = true → chainB (l.map (upR v)) f = true
 | [], f, h => rfl
 | r :: l, f, h => by
  simp only [chainB, Bool.and_eq_true, decide_eq_true_eq, List.map_cons] at h ⊢
  exact ⟨zbvp h.1, h.2.1, zb0w h.2.2⟩
theorem zb0x {v f : Int} (v1 : 1 ≤ v) (v3 : v ≤ 3) : ∀ {k : Nat} {l : List zjs} {i : Nat} {acc : List zjs}, l.length ≤ 16 * k → chainB l (f + acc.length) = true → acc.length + l.length ≤ 4096 →
  ∃ full, walkS v f (datB v k l) i acc true = (i + (datB v k l).length, 0, acc ++ l.map (upR v), full)
 | 0, l, i, acc, hk, hc, hl => by
  have : l = [] := List.eq_nil_of_length_eq_zero (by omega)
  subst this
  exact ⟨true, by simp [datB, walkS]⟩
 | k + 1, l, i, acc, hk, hc, hl => by
  simp only [datB]
  by_cases h0 : l.length = 0
  ·have : l = [] := List.eq_nil_of_length_eq_zero h0
   subst this
   exact ⟨true, by simp [walkS]⟩
  ·rw [if_neg h0]
   have hct := zbyk hc 16
   have hcd := zbyl hc 16
   have hlt : (l.take 16).length = min 16 l.length := List.length_take
   have hne : l.take 16 ≠ [] := fun e => by have := congrArg List.length e; rw [hlt, List.length_nil] at this; omega
   simp only [walkS, zb0v v1 v3 hct hne (by omega)]
   have hs : stepW f acc true ((l.take 16).map (upR v)) = 0 := by
    unfold stepW
    rw [if_pos ⟨rfl, by rw [List.length_map]; omega, by rw [List.length_map]; omega, zb0w hct⟩, if_neg (by rw [List.length_map]; omega)]
   rw [if_pos hs, List.length_map]
   by_cases h16 : 16 ≤ l.length
   ·have hl16 : (l.take 16).length = 16 := by omega
    obtain ⟨full, ih⟩ := zb0x v1 v3 (k := k) (l := l.drop 16) (i := i + 1) (acc := acc ++ (l.take 16).map (upR v)) (by rw [List.length_drop]; omega) (by
     rw [List.length_append, List.length_map, hl16]
     rw [show f + (acc.length : Int) + ((16 : Nat) : Int) = f + ((acc.length + 16 : Nat) : Int) by omega] at hcd
     exact hcd) (by rw [List.length_append, List.length_map, List.length_drop]; omega)
    refine ⟨full, ?_⟩
    rw [show decide ((l.take 16).length = 16) = true by rw [hl16]; rfl, ih, List.append_assoc, ← List.map_append, List.take_append_drop, List.length_cons, Nat.add_assoc, Nat.add_comm 1]
   ·have : l.drop 16 = [] := List.drop_of_length_le (by omega)
    rw [this]
    have hd : datB v k [] = [] := by cases k <;> simp [datB]
    rw [hd]
    refine ⟨decide (l.length = 16), ?_⟩
    rw [List.take_of_length_le (by omega)]
    simp only [walkS, List.length_cons, List.length_nil, Nat.zero_add]
theorem zb0y {v k f : Int} (v1 : 1 ≤ v) (v3 : v ≤ 3) (h : ¬ headBad k f) : headR (headD v k f) = (0, v, k, f, true) := by
 obtain ⟨k1, k2, f1, f2⟩ := notBad h
 have e : headD v k f = 108 :: (put v ++ (put k ++ (put f ++ []))) := by simp [headD]
 have p1 := zbxv (n := v) (by omega) (by omega)
 have p2 := zbxv (n := k) (by omega) (by omega)
 have p3 := zbxv (n := f) (by omega) (by omega)
 unfold headR
 rw [e]
 simp only [List.drop_succ_cons, List.drop_zero]
 rw [zbw1 (n := v) (by omega) (by omega)]
 simp only [Int.toNat_natCast, List.drop_left]
 rw [zbw1 (n := k) (by omega) (by omega)]
 simp only [Int.toNat_natCast, List.drop_left]
 rw [zbw1 (n := f) (by omega) (by omega)]
 simp only [Int.toNat_natCast, List.drop_left]
 rw [if_neg (by simp), if_pos (show (108 :: (put v ++ (put k ++ (put f ++ []))))[0]? = some 108 from rfl), if_neg (by omega), if_neg (by omega), if_neg (by omega), if_neg (by simp), if_pos ⟨v1, v3⟩, if_neg (by omega)]
/-- The data of a segment's frames. -/
def segW (v k f : Int) (l : List zjs) : List (List Int) := headD v k f :: datB v l.length l
theorem segF_W (v k f : Int) (l : List zjs) : segF v k f l = (segW v k f l).map encF := by
 unfold segF segW; rw [zb0r, List.map_cons]
theorem segE_W (v k f : Int) (l : List zjs) : segE v k f l = BB (segW v k f l ++ [footD (segF v k f l)]) := by
 unfold segE; rw [BB_app, zb0q, ← segF_W]; simp [BB]
theorem zb0z {v k f : Int} {l : List zjs} (hf : ∀ r ∈ l, FitsR r) : ∀ d ∈ segW v k f l, isB d ∧ d.length ≤ 20000 := fun d hd => by
 rcases List.mem_cons.1 hd with e | e
 ·rw [e]; have := zbyw v k f; exact ⟨this.1, by omega⟩
 ·exact zb0s hf d e
theorem zb00 {v k f : Int} {l : List zjs} (hf : ∀ r ∈ l, FitsR r) (hl : l.length ≤ 4096) : ∀ d ∈ segW v k f l ++ [footD (segF v k f l)], isB d ∧ d.length ≤ 1048576 := fun d hd => by
 rcases List.mem_append.1 hd with e | e
 ·have := zb0z hf d e; exact ⟨this.1, by omega⟩
 ·have h1 := zbzb (segF v k f l)
  have h2 : (segF v k f l).length ≤ l.length + 1 := by rw [segF_W, List.length_map, segW, List.length_cons]; have := zb0t (v := v) (k := l.length) (l := l); omega
  rw [List.mem_singleton.1 e]; exact ⟨zbzc _, by omega⟩
theorem zb01 {v k f : Int} {l : List zjs} (v1 : 1 ≤ v) (v3 : v ≤ 3) (h : segOk k f l) (n : Nat) (hn : l.length ≤ 16 * n) : walkA (headD v k f :: datB v n l) = (1 + (datB v n l).length, 0, v, k, f, l.map (upR v)) := by
 have h2 := h.2
 simp only [Bool.and_eq_true, decide_eq_true_eq] at h2
 obtain ⟨full, hw⟩ := zb0x (f := f) v1 v3 (k := n) (l := l) (i := 1) (acc := []) hn (by simpa using h2.1) (by rw [List.length_nil]; omega)
 simp only [walkA, zb0y v1 v3 h.1, if_true, hw, List.nil_append]
instance : DecidableEq zjr := fun a b => if h : a.Code = b.Code ∧ a.A = b.A ∧ a.B = b.B then isTrue (by cases a; cases b; simp_all) else isFalse (fun e => h (by rw [e]; exact ⟨rfl, rfl, rfl⟩))
instance : DecidableEq zjs := fun a b => if h : a.Index = b.Index ∧ a.Proc = b.Proc ∧ a.Seq = b.Seq ∧ a.Op = b.Op ∧ a.Resp = b.Resp then isTrue (by cases a; cases b; simp_all) else isFalse (fun e => h (by rw [e]; exact ⟨rfl, rfl, rfl, rfl, rfl⟩))
theorem zb02 (z z2 : Bool) (A B : List zjs) (hl : A.length = B.length) (hL : A.length ≤ 1099511627776) : ∀ (k i : Nat), A.length = i + k → Ev (fun q => zmg q z A z2 B (i : Int)) (decide (A.drop i = B.drop i))
 | 0, i, hk => by
  refine Ev.succ (Ev.neg (by omega) (Ev.ret' ?_)) (fun q => rfl)
  rw [List.drop_of_length_le (by omega), List.drop_of_length_le (by omega)]; simp
 | k + 1, i, hk => by
  have hi : i < A.length := by omega
  have hi2 : i < B.length := by omega
  have e1 : A[((i : Int)).toNat]? = some A[i] := by simp [hi]
  have e2 : B[((i : Int)).toNat]? = some B[i] := by simp [hi2]
  have no : A[i] ≠ B[i] → decide (A.drop i = B.drop i) = false := fun h => by
   rw [List.drop_eq_getElem_cons hi, List.drop_eq_getElem_cons hi2]
   simp only [decide_eq_false_iff_not]
   intro e; exact h (List.cons.inj e).1
  refine Ev.succ (Ev.pos (by omega) (Ev.pos (by omega) (Ev.opt e1 (Ev.opt e2 ?_)))) (fun q => rfl)
  refine Ev.ite (fun h1 => Ev.ite (fun h2 => Ev.ite (fun h3 => Ev.ite (fun h4 => Ev.ite (fun h5 => Ev.ite (fun h6 => Ev.ite (fun h7 => ?_) fun h7 => ?_) fun h6 => ?_) fun h5 => ?_) fun h4 => ?_) fun h3 => ?_) fun h2 => ?_) fun h1 => ?_
  ·have e : A[i] = B[i] := zbvo h1 h2 h3 (by
    generalize A[i].Op = a at *
    generalize B[i].Op = b at *
    cases a; cases b; simp_all) h7
   rw [show wrp .i64 ((i : Int) + 1) = ((i + 1 : Nat) : Int) by rw [zbuo (by omega) (by omega)]; omega]
   refine Ev.cast (zb02 z z2 A B hl hL k (i + 1) (by omega)) ?_
   rw [List.drop_eq_getElem_cons hi, List.drop_eq_getElem_cons hi2, e]
   simp only [List.cons.injEq, true_and]
  all_goals exact Ev.ret' (no (fun e => by simp_all)).symm
theorem zb03 (a b : Sl zjs) (hL : a.l.length ≤ 1099511627776) : Ev (fun q => zmh q a b) (decide (a.l = b.l)) := by
 refine Ev.succ (Ev.ite (fun h => ?_) fun h => Ev.ret' ?_) (fun q => rfl)
 ·have := zb02 a.z b.z a.l b.l (by omega) hL a.l.length 0 (by omega)
  simpa using this
 ·symm; simp only [decide_eq_false_iff_not]; intro e; rw [e] at h; exact h rfl
theorem zb04 (a b : zjt) (hL : a.Records.l.length ≤ 1099511627776) : Ev (fun q => zmi q a b) (decide (a.Records.l = b.Records.l ∧ a.Kind = b.Kind ∧ a.First = b.First)) := by
 refine Ev.succ (Ev.bind (zb03 a.Records b.Records hL) (Ev.ite (fun h => Ev.ite (fun h2 => Ev.ret' ?_) fun h2 => Ev.ret' ?_) fun h => Ev.ret' ?_)) (fun q => rfl)
 ·have h' : a.Records.l = b.Records.l := by simpa using h
  simp [h', h2]
 ·simp [h2]
 ·have h' : ¬ a.Records.l = b.Records.l := by simpa using h
  simp [h']
theorem zb05 {v : Int} (v1 : 1 ≤ v) (v3 : v ≤ 3) (k0 f0 : Int) (z : Bool) (L : List zjs) (k f : Int) (hL : L.length ≤ 1000000) : ∀ (n i : Nat) (acc : List zjs), L.length = i + n → acc.length = i →
  Ev (fun q => zmd q v (i : Int) k0 f0 z L k f acc) ⟨k, f, ⟨false, acc ++ (L.drop i).map (upR v)⟩⟩
 | 0, i, acc, hk, ha => by
  refine Ev.succ (Ev.neg (by omega) (Ev.ret' ?_)) (fun q => rfl)
  rw [List.drop_of_length_le (by omega)]; simp
 | n + 1, i, acc, hk, ha => by
  have hi : i < L.length := by omega
  have he : L[((i : Int)).toNat]? = some L[i] := by simp [hi]
  have hu := zbvq v L[i]
  rw [if_neg (by omega)] at hu
  have ih := zb05 v1 v3 k0 f0 z L k f hL n (i + 1) (acc ++ [upR v L[i]]) (by omega) (by simp [ha])
  rw [show ((i + 1 : Nat) : Int) = wrp .i64 ((i : Int) + 1) by rw [zbuo (by omega) (by omega)]; omega] at ih
  refine Ev.succ (Ev.pos (by omega) (Ev.pos (by omega) (Ev.opt he (Ev.bind hu (Ev.pos (by omega) (Ev.cast ih ?_)))))) (fun q => rfl)
  rw [List.drop_eq_getElem_cons hi, List.map_cons, List.append_assoc]; rfl
theorem zb06 {v : Int} (v1 : 1 ≤ v) (v3 : v ≤ 3) (s : zjt) (hL : s.Records.l.length ≤ 1000000) : ∃ z, Ev (fun q => zmf q v s) ⟨s.Kind, s.First, ⟨z, s.Records.l.map (upR v)⟩⟩ := by
 by_cases h : 0 < s.Records.l.length
 ·have he : s.Records.l[0]? = some s.Records.l[0] := List.getElem?_eq_getElem h
  have hu := zbvq v s.Records.l[0]
  rw [if_neg (by omega)] at hu
  have ih := zb05 v1 v3 s.Kind s.First s.Records.z s.Records.l s.Kind s.First hL (s.Records.l.length - 1) 1 [upR v s.Records.l[0]] (by omega) rfl
  rw [show ((1 : Nat) : Int) = wrp .i64 1 by rw [zbuo (by omega) (by omega)]; rfl] at ih
  refine ⟨false, Ev.succ (Ev.succ (Ev.pos (by omega) (Ev.opt he (Ev.bind hu (Ev.cast ih ?_)))) (fun q => rfl)) (fun q => rfl)⟩
  congr 2
  generalize s.Records.l = l at *
  cases l with
  | nil => simp at h
  | cons a l => simp
 ·refine ⟨true, Ev.succ (Ev.succ (Ev.neg (by omega) (Ev.ret' ?_)) (fun q => rfl)) (fun q => rfl)⟩
  rw [List.eq_nil_of_length_eq_zero (l := s.Records.l) (by omega)]; rfl
theorem zb07 {v : Int} {r : zjs} (h : FitsR r) : (recB v r).length ≤ 220 := by
 have go : ∀ L : List Int, (∀ f ∈ L, 1 ≤ f ∧ f ≤ 5) → (fieldsB r L).length ≤ 40 * L.length := by
  intro L hL
  induction L with
  | nil => simp [fieldsB]
  | cons f L ih =>
   have h1 := zbuy f
   have h2 := zbvd (f := f) h
   have h3 := ih fun g hg => hL g (List.mem_cons_of_mem _ hg)
   simp only [fieldsB, List.length_append, List.length_cons]; omega
 have h1 := zbuy v
 have h2 := go (fieldsOf v) (zbvi).1
 have h3 := (zbvi (v := v)).2
 simp only [recB, List.length_append]; omega
theorem zb08 {v : Int} {l : List zjs} (hf : ∀ r ∈ l, FitsR r) : (recsB v l).length ≤ 230 * l.length := by
 induction l with
 | nil => simp [recsB]
 | cons r l ih =>
  have h1 := zb07 (v := v) (hf r List.mem_cons_self)
  have h2 := zbuy ((recB v r).length : Int)
  have h3 := ih fun r hr => hf r (List.mem_cons_of_mem _ hr)
  simp only [recsB, List.length_append, List.length_cons]; omega
theorem zb09 {v : Int} {l : List zjs} (hf : ∀ r ∈ l, FitsR r) : (dataB v l).length ≤ 230 * l.length + 20 := by
 unfold dataB
 split
 ·cases l with
  | nil => simp [blkE]
  | cons r l =>
   have := zbyo (pr := []) hf (by simp)
   have p1 := zbuy r.Index
   have p2 := zbuy ((r :: l).length : Int)
   simp only [blkE, List.length_append]; omega
 ·have := zb08 (v := v) hf; omega
theorem zb1a {v : Int} : ∀ {k : Nat} {l : List zjs}, (∀ r ∈ l, FitsR r) → (blocksB v k l).flatten.length ≤ 270 * l.length
 | 0, l, hf => by simp [blocksB]
 | k + 1, l, hf => by
  simp only [blocksB]
  split
  ·simp
  ·have h1 := zb09 (v := v) (l := l.take 16) (fun r hr => hf r (List.mem_of_mem_take hr))
   have h2 := (zby3 (dataB v (l.take 16))).1
   have h3 := zb1a (v := v) (k := k) (l := l.drop 16) (fun r hr => hf r (List.mem_of_mem_drop hr))
   have h4 : (l.take 16).length = min 16 l.length := List.length_take
   simp only [List.length_drop] at h3
   simp only [List.flatten_cons, List.length_append]
   omega
theorem zb1b {v k f : Int} {l : List zjs} (hf : ∀ r ∈ l, FitsR r) : (segE v k f l).length ≤ 100 + 300 * l.length := by
 have h1 := zbzf v k f
 have h2 := zb1a (v := v) (k := l.length) hf
 have h2' := zby4 (v := v) (k := l.length) hf
 have h3 := zbzb (segF v k f l)
 have h4 := zby3 (footD (segF v k f l))
 have h5 : (segF v k f l).length ≤ l.length + 1 := by simp only [segF, List.length_cons]; omega
 unfold segE
 rw [List.length_append]
 unfold segF at *
 rw [List.flatten_cons, List.length_append]
 omega
theorem zb1c {v k f : Int} {l : List zjs} (hf : ∀ r ∈ l, FitsR r) (hl : l.length ≤ 4096) : isB (segE v k f l) := by
 rw [segE_W]; exact BB_isB (fun d hd => (zb00 hf hl d hd).1)
end Go.Dvm.I
set_option linter.all false
set_option maxRecDepth 100000
namespace Go.Dvm.I
open Go Go.Dvm
theorem zb1d (D : List (List Int)) : lenF D = (BB D).length := by unfold lenF; rw [zb0q]
theorem zb1e {k f : Int} {l : List zjs} (h : segOk k f l) (n : Nat) : segOk k f (l.take n) := by
 have h2 := h.2
 simp only [Bool.and_eq_true, decide_eq_true_eq] at h2
 refine ⟨h.1, ?_⟩
 simp only [Bool.and_eq_true, decide_eq_true_eq]
 exact ⟨zbyk h2.1 n, by rw [List.length_take]; omega⟩
theorem zb1f {k f : Int} {l : List zjs} (h : segOk k f l) : (∀ r ∈ l, FitsR r) ∧ l.length ≤ 4096 ∧ chainB l f = true := by
 have h2 := h.2
 simp only [Bool.and_eq_true, decide_eq_true_eq] at h2
 exact ⟨zbye h2.1, by omega, h2.1⟩
theorem zb1g {v k f : Int} {l : List zjs} (v1 : 1 ≤ v) (v3 : v ≤ 3) (h : segOk k f l) (n : Nat) (hn : l.length ≤ 16 * n) {b : List Int} (hb : (allF b).1 = headD v k f :: datB v n l) :
  recS b = ((k, f, l.map (upR v)), ((BB (headD v k f :: datB v n l)).length : Int), true) := by
 have hw := zb01 v1 v3 h n hn
 unfold recS
 rw [hb, hw]
 simp only
 rw [if_neg (by simp), if_neg (by omega)]
 rw [List.take_of_length_le (by rw [List.length_cons]; omega), zb1d]
end Go.Dvm.I
