/- Plain laws of the functions: part 1. -/
import Derived.Test.YtlcndafgippgjaaQi
set_option linter.all false
namespace Go.Dvm.I
open Go Go.Dvm

/-- With enough rounds. -/
def Ev {R : Type} (g : Nat → Option R) (r : R) : Prop := ∃ N, ∀ q, N ≤ q → g q = some r
section
variable {R S : Type}
theorem Ev.ret (r : R) : Ev (fun _ => some r) r := ⟨0, fun _ _ => rfl⟩
theorem Ev.ret' {r r' : R} (h : r = r') : Ev (fun _ => some r) r' := ⟨0, fun _ _ => by rw [h]⟩
theorem Ev.succ {f g : Nat → Option R} {r : R} (h : Ev g r) (e : ∀ q, f (q + 1) = g q) : Ev f r := by
  obtain ⟨N, h⟩ := h
  refine ⟨N + 1, fun q hq => ?_⟩
  obtain ⟨q, rfl⟩ : ∃ p, q = p + 1 := ⟨q - 1, by omega⟩
  rw [e]; exact h q (by omega)
theorem Ev.bind {g : Nat → Option S} {k : Nat → S → Option R} {s : S} {r : R} (h : Ev g s) (h2 : Ev (fun q => k q s) r) : Ev (fun q => (g q).bind (k q)) r := by
  obtain ⟨N, h⟩ := h
  obtain ⟨M, h2⟩ := h2
  exact ⟨N + M, fun q hq => by show (g q).bind (k q) = some r; rw [h q (by omega), Option.bind_some]; exact h2 q (by omega)⟩
theorem Ev.opt {o : Option S} {k : Nat → S → Option R} {s : S} {r : R} (h : o = some s) (h2 : Ev (fun q => k q s) r) : Ev (fun q => o.bind (k q)) r := by
  subst h; exact h2
theorem Ev.pos {c : Prop} [Decidable c] {a b : Nat → Option R} {r : R} (hc : c) (h : Ev a r) : Ev (fun q => if c then a q else b q) r := by
  obtain ⟨N, h⟩ := h
  exact ⟨N, fun q hq => by show (if c then a q else b q) = some r; rw [if_pos hc]; exact h q hq⟩
theorem Ev.neg {c : Prop} [Decidable c] {a b : Nat → Option R} {r : R} (hc : ¬ c) (h : Ev b r) : Ev (fun q => if c then a q else b q) r := by
  obtain ⟨N, h⟩ := h
  exact ⟨N, fun q hq => by show (if c then a q else b q) = some r; rw [if_neg hc]; exact h q hq⟩
theorem Ev.ite {c : Prop} [Decidable c] {a b : Nat → Option R} {r : R} (h1 : c → Ev a r) (h2 : ¬ c → Ev b r) : Ev (fun q => if c then a q else b q) r := by
  by_cases hc : c
  · exact .pos hc (h1 hc)
  · exact .neg hc (h2 hc)
theorem Ev.get {f : Nat → Option R} {r : R} (h : Ev f r) : ∃ q, f q = some r := by
  obtain ⟨N, h⟩ := h; exact ⟨N, h N (Nat.le_refl _)⟩
theorem Ev.cast {f : Nat → Option R} {r r' : R} (h : Ev f r) (e : r = r') : Ev f r' := e ▸ h
end

theorem wrp_i64 {x : Int} (h1 : -9223372036854775808 ≤ x) (h2 : x ≤ 9223372036854775807) : wrp .i64 x = x := by
  unfold wrp; simp [IntKind.wrap, IntKind.min, IntKind.max, IntKind.signed, IntKind.bits] <;> omega
theorem wrp_u64 {x : Int} (h1 : 0 ≤ x) (h2 : x ≤ 18446744073709551615) : wrp .u64 x = x := by
  unfold wrp; simp [IntKind.wrap, IntKind.min, IntKind.max, IntKind.signed, IntKind.bits] <;> omega
theorem wrp_u32 {x : Int} (h1 : 0 ≤ x) (h2 : x ≤ 4294967295) : wrp .u32 x = x := by
  unfold wrp; simp [IntKind.wrap, IntKind.min, IntKind.max, IntKind.signed, IntKind.bits] <;> omega
theorem wrp_u8 (x : Int) : wrp .u8 x = x % 256 := by
  unfold wrp; simp [IntKind.wrap, IntKind.min, IntKind.max, IntKind.signed, IntKind.bits] <;> omega
theorem ishr_u64 {x : Int} (h1 : 0 ≤ x) : ishr .u64 x 7 = x / 128 := by
  unfold ishr; simp [IntKind.bits]
  rw [Int.fdiv_eq_ediv_of_nonneg]; omega
theorem or128 {x : Int} (h1 : 0 ≤ x) (h2 : x < 256) : ibits .or .u8 x 128 = x % 128 + 128 := by
  obtain ⟨n, rfl⟩ := Int.eq_ofNat_of_zero_le h1
  have hn : n < 256 := by omega
  have : ∀ m : Fin 256, ibits .or .u8 (m.val : Int) 128 = (m.val : Int) % 128 + 128 := by unfold ibits; decide +kernel
  exact this ⟨n, hn⟩

/-- A number's groups. -/
def grp (n : Nat) : List Int := if h : n < 128 then [(n : Int)] else ((n % 128 + 128 : Nat) : Int) :: grp (n / 128)
theorem grp_lt {n : Nat} (h : n < 128) : grp n = [(n : Int)] := by rw [grp, dif_pos h]
theorem grp_ge {n : Nat} (h : ¬ n < 128) : grp n = ((n % 128 + 128 : Nat) : Int) :: grp (n / 128) := by rw [grp, dif_neg h]
theorem grp_len : ∀ (k : Nat) {n : Nat}, n < 128 ^ (k + 1) → (grp n).length ≤ k + 1
  | 0, n, h => by rw [grp_lt (by simpa using h)]; simp
  | k + 1, n, h => by
    by_cases hn : n < 128
    · rw [grp_lt hn]; simp
    · rw [grp_ge hn]
      have := grp_len k (n := n / 128) (by rw [Nat.div_lt_iff_lt_mul (by omega)]; rw [Nat.pow_succ] at h; exact h)
      simp; omega
theorem grp_len10 {n : Nat} (h : n < 18446744073709551616) : (grp n).length ≤ 10 := grp_len 9 (by omega)
theorem num_groups_l0_ev : ∀ (n : Nat) (z : Bool) (l : List Int) (x : Bool), l.length + (grp n).length ≤ 4294967296 → Ev (fun q => num_groups_l0 q (n : Int) z l x) ⟨false, x, l ++ grp n⟩ := by
  intro n
  induction n using Nat.strongRecOn with
  | ind n ih =>
    intro z l x hl
    refine Ev.succ ?_ (fun q => rfl)
    by_cases hn : n < 128
    · rw [grp_lt hn] at hl ⊢
      refine Ev.neg (by omega) (Ev.pos (by simpa using hl) (Ev.ret' ?_))
      rw [wrp_u8]; congr 3; omega
    · rw [grp_ge hn] at hl ⊢
      simp only [List.length_cons] at hl
      refine Ev.pos (by omega) (Ev.pos (by omega) ?_)
      rw [ishr_u64 (by omega), wrp_u8, or128 (by omega) (by omega)]
      have := ih (n / 128) (by omega) false (l ++ [((n % 128 + 128 : Nat) : Int)]) x (by simp; omega)
      rw [show ((n : Int) % 256 % 128 + 128) = ((n % 128 + 128 : Nat) : Int) by omega, show ((n : Int) / 128) = ((n / 128 : Nat) : Int) by omega]
      simpa using this

theorem num_groups_ev {u : Int} (h1 : 0 ≤ u) (b : Ow Int) (hl : b.xs.length + (grp u.toNat).length ≤ 4294967296) : Ev (fun q => num_groups q b u) ⟨false, b.x, b.xs ++ grp u.toNat⟩ := by
  have := num_groups_l0_ev u.toNat b.n b.xs b.x hl
  rw [Int.toNat_of_nonneg h1] at this
  exact Ev.succ this (fun q => rfl)

/-- What a number puts behind bytes. -/
def put (n : Int) : List Int := if n < 0 then [] else if 4611686018427387904 ≤ n then [] else grp n.toNat
theorem put_ok {n : Int} (h1 : 0 ≤ n) (h2 : n < 4611686018427387904) : put n = grp n.toNat := by
  unfold put; rw [if_neg (by omega), if_neg (by omega)]
theorem put_len (n : Int) : (put n).length ≤ 10 := by
  unfold put; split
  · simp
  · split
    · simp
    · exact grp_len10 (by omega)
theorem num_Put_ev {n : Int} (b : Ow Int) (h1 : 0 ≤ n) (h2 : n < 4611686018427387904) (hl : b.xs.length + 10 ≤ 4294967296) : Ev (fun q => num_Put q b n) ⟨false, b.x, b.xs ++ put n⟩ := by
  refine Ev.succ ?_ (fun q => rfl)
  rw [put_ok h1 h2]
  have hg := grp_len10 (n := n.toNat) (by omega)
  refine Ev.neg (by omega) (Ev.neg (by omega) ?_)
  rw [wrp_u64 h1 (by omega)]
  exact Ev.bind (num_groups_ev h1 b (by omega)) (Ev.ret _)

/-- Zigzag. -/
def zig (n : Int) : Nat := if 0 ≤ n then 2 * n.toNat else 2 * (-n).toNat - 1
theorem zig_lt {n : Int} (h : inR .i64 n) : zig n < 18446744073709551616 := by
  simp [inR, IntKind.min, IntKind.max, IntKind.signed, IntKind.bits] at h
  unfold zig; split <;> omega
def putS (n : Int) : List Int := grp (zig n)
theorem wrp_def (k : IntKind) (n : Int) : k.wrap n = wrp k n := by unfold wrp; rfl
theorem xor0 {x : Int} (h1 : 0 ≤ x) (h2 : x < 18446744073709551616) : ibits .xor .u64 x 0 = x := by
  have e : ibits .xor .u64 x 0 = IntKind.wrap .u64 (((BitVec.ofInt 64 x ^^^ 0#64 : BitVec 64).toNat : Nat) : Int) := by unfold ibits; rfl
  rw [e, BitVec.xor_zero, BitVec.toNat_ofInt, wrp_def, wrp_u64] <;> omega
theorem xor1 {x : Int} (h1 : 0 ≤ x) (h2 : x < 18446744073709551616) : ibits .xor .u64 x 18446744073709551615 = 18446744073709551615 - x := by
  have e : ibits .xor .u64 x 18446744073709551615 = IntKind.wrap .u64 (((BitVec.ofInt 64 x ^^^ BitVec.allOnes 64 : BitVec 64).toNat : Nat) : Int) := by unfold ibits; rfl
  rw [e, BitVec.xor_allOnes, BitVec.toNat_not, BitVec.toNat_ofInt, wrp_def, wrp_u64] <;> omega
theorem ishl1 {x : Int} (h1 : 0 ≤ x) : ishl .u64 x 1 = (2 * x) % 18446744073709551616 := by
  unfold ishl
  simp [IntKind.wrap, IntKind.signed, IntKind.bits]
  omega
theorem wrp_u64m (x : Int) : wrp .u64 x = x % 18446744073709551616 := by
  unfold wrp; simp [IntKind.wrap, IntKind.signed, IntKind.bits]
theorem ishr63 {x : Int} (h : inR .i64 x) : ishr .i64 x 63 = if 0 ≤ x then 0 else -1 := by
  simp [inR, IntKind.min, IntKind.max, IntKind.signed, IntKind.bits] at h
  unfold ishr; simp [IntKind.bits]
  rw [Int.fdiv_eq_ediv_of_nonneg _ (by omega)]
  split <;> omega
theorem num_Zig_ev {n : Int} (h : inR .i64 n) : Ev (fun q => num_Zig q n) ((zig n : Nat) : Int) := by
  refine Ev.succ (Ev.ret' ?_) (fun q => rfl)
  have hr := h
  simp [inR, IntKind.min, IntKind.max, IntKind.signed, IntKind.bits] at hr
  rw [ishr63 h]
  by_cases h0 : 0 ≤ n
  · rw [if_pos h0, wrp_u64 h0 (by omega), ishl1 h0, wrp_u64 (by omega) (by omega), xor0 (by omega) (by omega)]
    unfold zig; rw [if_pos h0]; omega
  · rw [if_neg h0, wrp_u64m n, ishl1 (by omega), show wrp .u64 (-1) = 18446744073709551615 by rw [wrp_u64m]; rfl, xor1 (by omega) (by omega)]
    unfold zig; rw [if_neg h0]; omega
theorem num_PutSigned_ev {n : Int} (b : Ow Int) (h : inR .i64 n) (hl : b.xs.length + 10 ≤ 4294967296) : Ev (fun q => num_PutSigned q b n) ⟨false, b.x, b.xs ++ putS n⟩ := by
  refine Ev.succ ?_ (fun q => rfl)
  have hg := grp_len10 (zig_lt h)
  have := num_groups_ev (u := (zig n : Nat)) (by omega) b (by simpa using (by omega : b.xs.length + (grp (zig n)).length ≤ 4294967296))
  rw [Int.toNat_natCast] at this
  exact Ev.bind (num_Zig_ev h) (Ev.bind this (Ev.ret _))
end Go.Dvm.I

set_option linter.all false
namespace Go.Dvm.I
open Go Go.Dvm

theorem inR64 {x : Int} (h : inR .i64 x) : -9223372036854775808 ≤ x ∧ x ≤ 9223372036854775807 := by
  simp [inR, IntKind.min, IntKind.max, IntKind.signed, IntKind.bits] at h; omega
def cutI (n : Int) : Int := if n < -1099511627776 then -1099511627776 else if 1099511627776 < n then 1099511627776 else n
theorem objs_cut_ev (n : Int) : Ev (fun q => objs_cut q n) (cutI n) := by
  refine Ev.succ (Ev.ret' ?_) (fun q => rfl)
  unfold cutI; split <;> split <;> split <;> (try split) <;> omega
def fitsOp (o : S_api_Op) : Bool := decide (0 ≤ o.Code) && (decide (o.Code ≤ 10) && (decide (o.A = cutI o.A) && decide (o.B = cutI o.B)))
theorem objs_Fits_ev (o : S_api_Op) : Ev (fun q => objs_Fits q o) (fitsOp o) := by
  refine Ev.succ ?_ (fun q => rfl)
  unfold fitsOp
  refine Ev.ite (fun h => Ev.ite (fun h1 => Ev.bind (objs_cut_ev _) (Ev.ite (fun h2 => Ev.bind (objs_cut_ev _) (Ev.ret' ?_)) fun h2 => Ev.ret' ?_)) fun h1 => Ev.ret' ?_) fun h => Ev.ret' ?_
  · rw [decide_eq_true h, decide_eq_true h1, decide_eq_true h2]; rfl
  · rw [decide_eq_true h, decide_eq_true h1, decide_eq_false h2]; rfl
  · rw [decide_eq_true h, decide_eq_false h1]; rfl
  · rw [decide_eq_false h]; rfl
theorem cutI_iff {n : Int} : n = cutI n ↔ -1099511627776 ≤ n ∧ n ≤ 1099511627776 := by
  unfold cutI
  by_cases h1 : n < -1099511627776
  · rw [if_pos h1]; omega
  · rw [if_neg h1]
    by_cases h2 : 1099511627776 < n
    · rw [if_pos h2]; omega
    · rw [if_neg h2]; omega
theorem fitsOp_iff {o : S_api_Op} : fitsOp o = true ↔ 0 ≤ o.Code ∧ o.Code ≤ 10 ∧ (-1099511627776 ≤ o.A ∧ o.A ≤ 1099511627776) ∧ (-1099511627776 ≤ o.B ∧ o.B ≤ 1099511627776) := by
  simp only [fitsOp, Bool.and_eq_true, decide_eq_true_eq, cutI_iff]

def FitsR (r : S_api_Record) : Prop := 0 ≤ r.Index ∧ r.Index < 4611686018427387904 ∧ 0 ≤ r.Proc ∧ r.Proc ≤ 64 ∧ 0 ≤ r.Seq ∧ r.Seq < 4611686018427387904 ∧ fitsOp r.Op = true ∧ -1125899906842624 ≤ r.Resp ∧ r.Resp ≤ 1125899906842624
instance (r : S_api_Record) : Decidable (FitsR r) := by unfold FitsR; infer_instance
theorem schema_Fits_ev (r : S_api_Record) : Ev (fun q => schema_Fits q r) (decide (FitsR r)) := by
  refine Ev.succ ?_ (fun q => rfl)
  refine Ev.ite (fun h1 => Ev.ite (fun h2 => Ev.ite (fun h3 => Ev.ite (fun h4 => Ev.ite (fun h5 => Ev.ite (fun h6 => Ev.bind (objs_Fits_ev _) (Ev.ite (fun h7 => Ev.ite (fun h8 => Ev.ret' ?_) fun h8 => Ev.ret' ?_) fun h7 => Ev.ret' ?_)) fun h6 => Ev.ret' ?_) fun h5 => Ev.ret' ?_) fun h4 => Ev.ret' ?_) fun h3 => Ev.ret' ?_) fun h2 => Ev.ret' ?_) fun h1 => Ev.ret' ?_ <;> simp only [FitsR, *] <;> simp
def opB (o : S_api_Op) : List Int := put o.Code ++ (putS o.A ++ putS o.B)
theorem putS_len {n : Int} (h : inR .i64 n) : (putS n).length ≤ 10 := grp_len10 (zig_lt h)
theorem inR_i64 {n : Int} (h1 : -9223372036854775808 ≤ n) (h2 : n ≤ 9223372036854775807) : inR .i64 n := by
  simp [inR, IntKind.min, IntKind.max, IntKind.signed, IntKind.bits]; omega
theorem opB_len {o : S_api_Op} (h : fitsOp o = true) : (opB o).length ≤ 30 := by
  obtain ⟨h1, h2, h3, h4⟩ := fitsOp_iff.1 h
  have := put_len o.Code
  have := putS_len (n := o.A) (inR_i64 (by omega) (by omega))
  have := putS_len (n := o.B) (inR_i64 (by omega) (by omega))
  simp only [opB, List.length_append]; omega
theorem codec_PutOp_ev {o : S_api_Op} (b : Ow Int) (h : fitsOp o = true) (hl : b.xs.length + 30 ≤ 4294967296) : Ev (fun q => codec_PutOp q b o) (⟨false, b.x, b.xs ++ opB o⟩, 0) := by
  obtain ⟨h1, h2, h3, h4⟩ := fitsOp_iff.1 h
  refine Ev.succ ?_ (fun q => rfl)
  have := put_len o.Code
  have hA : inR .i64 o.A := inR_i64 (by omega) (by omega)
  have hB : inR .i64 o.B := inR_i64 (by omega) (by omega)
  have := putS_len hA
  have := putS_len hB
  refine Ev.bind (objs_Fits_ev o) (Ev.pos h (Ev.bind (num_Put_ev b h1 (by omega) (by omega)) (Ev.bind (num_PutSigned_ev _ hA (by simp; omega)) (Ev.bind (num_PutSigned_ev _ hB (by simp; omega)) (Ev.ret' ?_)))))
  simp [opB]

/-- A field of a record, as bytes. -/
def valB (f : Int) (r : S_api_Record) : List Int := if f = 1 then put r.Index else if f = 2 then put r.Proc else if f = 3 then put r.Seq else if f = 4 then opB r.Op else putS r.Resp
theorem valB_len {f : Int} {r : S_api_Record} (h : FitsR r) : (valB f r).length ≤ 30 := by
  obtain ⟨h1, h2, h3, h4, h5, h6, h7, h8, h9⟩ := h
  unfold valB
  have := put_len r.Index; have := put_len r.Proc; have := put_len r.Seq; have := opB_len h7
  have := putS_len (n := r.Resp) (inR_i64 (by omega) (by omega))
  split; omega; split; omega; split; omega; split <;> omega
theorem schema_put_ev {f : Int} {r : S_api_Record} (b : Ow Int) (h : FitsR r) (h1 : 1 ≤ f) (h2 : f ≤ 5) (hl : b.xs.length + 40 ≤ 4294967296) : Ev (fun q => schema_put q b f r) ⟨false, b.x, b.xs ++ (put f ++ valB f r)⟩ := by
  obtain ⟨k1, k2, k3, k4, k5, k6, k7, k8, k9⟩ := h
  refine Ev.succ ?_ (fun q => rfl)
  have := put_len f
  refine Ev.bind (num_Put_ev b (by omega) (by omega) (by omega)) ?_
  unfold valB
  refine Ev.ite (fun e => ?_) fun e => Ev.ite (fun e1 => ?_) fun e1 => Ev.ite (fun e2 => ?_) fun e2 => Ev.ite (fun e3 => ?_) fun e3 => ?_
  · rw [if_pos e]
    exact Ev.bind (num_Put_ev _ k1 k2 (by simp; omega)) (Ev.ret' (by simp))
  · rw [if_neg e, if_pos e1]
    exact Ev.bind (num_Put_ev _ k3 (by omega) (by simp; omega)) (Ev.ret' (by simp))
  · rw [if_neg e, if_neg e1, if_pos e2]
    exact Ev.bind (num_Put_ev _ k5 k6 (by simp; omega)) (Ev.ret' (by simp))
  · rw [if_neg e, if_neg e1, if_neg e2, if_pos e3]
    exact Ev.bind (codec_PutOp_ev _ k7 (by simp; omega)) (Ev.ret' (by simp))
  · rw [if_neg e, if_neg e1, if_neg e2, if_neg e3]
    exact Ev.bind (num_PutSigned_ev _ (inR_i64 (by omega) (by omega)) (by simp; omega)) (Ev.ret' (by simp))

def fieldsB (r : S_api_Record) : List Int → List Int
  | [] => []
  | f :: l => (put f ++ valB f r) ++ fieldsB r l
theorem schema_Encode_l0_ev {r : S_api_Record} (h : FitsR r) (L : List Int) (z2 x2 : Bool) (hL : ∀ f ∈ L, 1 ≤ f ∧ f ≤ 5) (hn : L.length ≤ 5) : ∀ (k i : Nat) (l : List Int) (x : Bool), L.length = i + k → l.length + 40 * k ≤ 4294967296 →
    Ev (fun q => schema_Encode_l0 q (L.length : Int) (i : Int) r.Index r.Proc r.Seq r.Op.Code r.Op.A r.Op.B r.Resp false l x z2 L x2) (⟨false, x, l ++ fieldsB r (L.drop i)⟩, 0)
  | 0, i, l, x, hk, hl => by
    refine Ev.succ (Ev.neg (by omega) (Ev.ret' ?_)) (fun q => rfl)
    rw [List.drop_of_length_le (by omega)]; simp [fieldsB]
  | k + 1, i, l, x, hk, hl => by
    have hi : i < L.length := by omega
    have hg : L[(i : Int).toNat]? = some L[i] := by simpa using List.getElem?_eq_getElem hi
    obtain ⟨f1, f2⟩ := hL L[i] (List.getElem_mem hi)
    refine Ev.succ ?_ (fun q => rfl)
    refine Ev.pos (by omega) (Ev.pos (by omega) (Ev.pos (by simpa using hi) (Ev.opt hg ?_)))
    refine Ev.bind (schema_put_ev (r := r) ⟨false, x, l⟩ h f1 f2 (by simp; omega)) ?_
    have hlen : (put L[i] ++ valB L[i] r).length ≤ 40 := by
      have := put_len L[i]; have := valB_len (f := L[i]) h; simp; omega
    have := schema_Encode_l0_ev h L z2 x2 hL hn k (i + 1) (l ++ (put L[i] ++ valB L[i] r)) x (by omega) (by simp only [List.length_append] at hlen ⊢; omega)
    rw [wrp_i64 (by omega) (by omega)]
    rw [show ((i : Int) + 1) = ((i + 1 : Nat) : Int) by omega]
    refine this.cast ?_
    rw [List.drop_eq_getElem_cons hi]
    simp [fieldsB]

def fieldsOf (v : Int) : List Int := if v = 1 then [1, 2, 4] else if v = 2 then [1, 2, 3, 4] else [1, 2, 3, 4, 5]
theorem schema_fields_no {v : Int} (h : v < 1 ∨ 3 < v) : Ev (fun q => schema_fields q v) ⟨true, true, []⟩ := by
  refine Ev.succ (Ev.ite (fun h => Ev.ret _) fun h1 => Ev.pos (by omega) (Ev.ret _)) (fun q => rfl)
theorem schema_fields_ev {v : Int} (h1 : 1 ≤ v) (h2 : v ≤ 3) : Ev (fun q => schema_fields q v) ⟨false, true, fieldsOf v⟩ := by
  refine Ev.succ (Ev.neg (by omega) (Ev.neg (by omega) (Ev.pos (by omega) (Ev.pos (by omega) (Ev.neg (by omega) ?_))))) (fun q => rfl)
  unfold fieldsOf
  refine Ev.ite (fun h => ?_) fun h => Ev.ite (fun h1 => ?_) fun h1 => Ev.pos (by omega) ?_
  · rw [if_pos (by omega)]; exact Ev.ret _
  · rw [if_neg (by omega), if_pos (by omega)]; exact Ev.ret _
  · rw [if_neg (by omega), if_neg (by omega)]; exact Ev.ret _
theorem fieldsOf_mem {v : Int} : (∀ f ∈ fieldsOf v, 1 ≤ f ∧ f ≤ 5) ∧ (fieldsOf v).length ≤ 5 := by
  unfold fieldsOf; split
  · simp
  · split <;> simp

def recB (v : Int) (r : S_api_Record) : List Int := put v ++ fieldsB r (fieldsOf v)
theorem schema_Encode_ev (v : Int) (r : S_api_Record) : Ev (fun q => schema_Encode q v r) (if v < 1 ∨ 3 < v then (⟨true, true, []⟩, 6) else if FitsR r then (⟨false, true, recB v r⟩, 0) else (⟨true, true, []⟩, 1)) := by
  refine Ev.succ ?_ (fun q => rfl)
  by_cases hv : v < 1 ∨ 3 < v
  · rw [if_pos hv]; exact Ev.bind (schema_fields_no hv) (Ev.pos rfl (Ev.ret _))
  · rw [if_neg hv]
    refine Ev.bind (schema_fields_ev (by omega) (by omega)) (Ev.neg (by simp) (Ev.bind (schema_Fits_ev r) ?_))
    by_cases hf : FitsR r
    · rw [if_pos hf]
      refine Ev.pos (by simpa using hf) (Ev.bind (num_Put_ev _ (by omega) (by omega) (by simp)) ?_)
      have := schema_Encode_l0_ev hf (fieldsOf v) false true fieldsOf_mem.1 fieldsOf_mem.2 (fieldsOf v).length 0 (put v) true (by simp) (by
        have := put_len v; have := (fieldsOf_mem (v := v)).2; omega)
      simpa [recB] using this
    · rw [if_neg hf]; exact Ev.neg (by simpa using hf) (Ev.ret _)
end Go.Dvm.I

set_option linter.all false
set_option maxRecDepth 100000
namespace Go.Dvm.I
open Go Go.Dvm

abbrev B32 := BitVec 32
def u (a : B32) : Int := (a.toNat : Int)
theorem u_nn (a : B32) : 0 ≤ u a := Int.natCast_nonneg _
theorem u_lt (a : B32) : u a < 4294967296 := by unfold u; have := a.isLt; omega
theorem ofInt_u (a : B32) : BitVec.ofInt 32 (u a) = a := by
  apply BitVec.eq_of_toNat_eq; rw [BitVec.toNat_ofInt]; unfold u; have := a.isLt; omega
theorem wrp_u (a : B32) : IntKind.wrap .u32 ((a.toNat : Nat) : Int) = u a := by
  have := a.isLt
  rw [wrp_def, wrp_u32 (by omega) (by omega)]; rfl
theorem xor_u (a b : B32) : ibits .xor .u32 (u a) (u b) = u (a ^^^ b) := by
  have e : ibits .xor .u32 (u a) (u b) = IntKind.wrap .u32 (((BitVec.ofInt 32 (u a) ^^^ BitVec.ofInt 32 (u b) : B32).toNat : Nat) : Int) := by unfold ibits; rfl
  rw [e, ofInt_u, ofInt_u, wrp_u]
theorem and_u (a b : B32) : ibits .and .u32 (u a) (u b) = u (a &&& b) := by
  have e : ibits .and .u32 (u a) (u b) = IntKind.wrap .u32 (((BitVec.ofInt 32 (u a) &&& BitVec.ofInt 32 (u b) : B32).toNat : Nat) : Int) := by unfold ibits; rfl
  rw [e, ofInt_u, ofInt_u, wrp_u]
theorem u_lit (n : Nat) (h : n < 4294967296) : u (BitVec.ofNat 32 n) = (n : Int) := by
  unfold u; rw [BitVec.toNat_ofNat]; omega
theorem wrp_u32m (x : Int) : wrp .u32 x = x % 4294967296 := by
  unfold wrp; simp [IntKind.wrap, IntKind.signed, IntKind.bits]
theorem ishr_u (a : B32) (k : Nat) (hk : k ≤ 32) : ishr .u32 (u a) (k : Int) = u (a >>> k) := by
  unfold ishr u
  simp only [IntKind.bits, Int.toNat_natCast, Nat.min_eq_left hk]
  rw [Int.fdiv_eq_ediv_of_nonneg _ (by exact_mod_cast Nat.zero_le _), BitVec.toNat_ushiftRight, Nat.shiftRight_eq_div_pow]
  simp
theorem ishr_u1 (a : B32) : ishr .u32 (u a) 1 = u (a >>> 1) := ishr_u a 1 (by omega)
theorem ishr_u8 (a : B32) : ishr .u32 (u a) 8 = u (a >>> 8) := ishr_u a 8 (by omega)

def poly : B32 := 2197175160#32
def bstep (a : B32) : B32 := if a &&& 1#32 = 1#32 then (a >>> 1) ^^^ poly else a >>> 1
theorem and1 (a : B32) : a &&& 1#32 = 0#32 ∨ a &&& 1#32 = 1#32 := by
  have : (a &&& 1#32).toNat = a.toNat % 2 := by rw [BitVec.toNat_and]; exact Nat.and_one_is_mod _
  rcases Nat.mod_two_eq_zero_or_one a.toNat with h | h
  · left; exact BitVec.eq_of_toNat_eq (by rw [this, h]; rfl)
  · right; exact BitVec.eq_of_toNat_eq (by rw [this, h]; rfl)
/-- The program's step. -/
theorem step_prog (a : B32) : ibits .xor .u32 (ishr .u32 (u a) 1) (ibits .and .u32 2197175160 (wrp .u32 (0 - (ibits .and .u32 (u a) 1)))) = u (bstep a) := by
  have e1 : (1 : Int) = u 1#32 := rfl
  have e2 : (2197175160 : Int) = u poly := by unfold poly; rw [u_lit _ (by omega)]; rfl
  rw [ishr_u1]
  conv => lhs; arg 4; rw [e2]; arg 4; rw [e1, and_u]
  unfold bstep
  rcases and1 a with h | h
  · rw [h, if_neg (by decide)]
    have : wrp .u32 (0 - u 0#32) = u 0#32 := by rw [wrp_u32m]; rfl
    rw [this, and_u, BitVec.and_zero, xor_u, BitVec.xor_zero]
  · rw [h, if_pos rfl]
    have : wrp .u32 (0 - u 1#32) = u (BitVec.allOnes 32) := by rw [wrp_u32m]; rfl
    rw [this, and_u, BitVec.and_allOnes, xor_u]
def biter : Nat → B32 → B32
  | 0, a => a
  | n + 1, a => biter n (bstep a)
def bentry (a : B32) : B32 := biter 8 a

theorem crc_Table_l1_ev (v2 v5 : Int) (t0 t1 : List Int) (r : List Int) : ∀ (k : Nat) (a : B32) (v10 : Int), v10 = 8 - k → k ≤ 8 → 0 ≤ v2 → v2.toNat < 256 → v2.toNat + 1 ≤ t1.length →
    Ev (fun q => crc_Table_l0 q (wrp .i64 (v5 + 1)) t0 (List.set t1 v2.toNat (u (biter k a)))) r → Ev (fun q => crc_Table_l1 q v2 (u a) v5 v10 t0 t1) r
  | 0, a, v10, h1, h2, h3, h4, h5, h => Ev.succ (Ev.neg (by omega) (Ev.pos h3 (Ev.pos h4 (Ev.pos h5 h)))) (fun q => rfl)
  | k + 1, a, v10, h1, h2, h3, h4, h5, h => by
    refine Ev.succ (Ev.pos (by omega) ?_) (fun q => rfl)
    rw [step_prog, wrp_i64 (by omega) (by omega)]
    exact crc_Table_l1_ev v2 v5 t0 t1 r k (bstep a) (v10 + 1) (by omega) (by omega) h3 h4 h5 h
/-- The table. -/
def tabN (n : Nat) : List Int := (List.range n).map fun i => u (bentry (BitVec.ofNat 32 i))
theorem tabN_get {n i : Nat} (h : i < n) : (tabN n)[i]? = some (u (bentry (BitVec.ofNat 32 i))) := by
  unfold tabN; rw [List.getElem?_map, List.getElem?_range h]; rfl
theorem tabN_len (n : Nat) : (tabN n).length = n := by simp [tabN]
theorem crc_Table_l0_ev : ∀ (k i : Nat) (t1 : List Int), i + k = 256 → t1.length = 256 → (∀ j, j < i → t1[j]? = (tabN 256)[j]?) → Ev (fun q => crc_Table_l0 q (i : Int) (List.replicate 256 0) t1) (tabN 256)
  | 0, i, t1, hk, hl, ht => by
    refine Ev.succ (Ev.neg (by omega) (Ev.pos (by omega) (Ev.pos (by omega) (Ev.pos (by simp) (Ev.pos (by simp) (Ev.ret' ?_)))))) (fun q => rfl)
    have e : t1 = tabN 256 := by
      apply List.ext_getElem?
      intro j
      by_cases hj : j < 256
      · exact ht j (by omega)
      · rw [List.getElem?_eq_none (by omega), List.getElem?_eq_none (by rw [tabN_len]; omega)]
    have h2 := tabN_len 256
    rw [e, List.take_of_length_le (i := 256) (by omega : (tabN 256).length ≤ 256), List.drop_of_length_le (by simp), List.append_nil, List.take_of_length_le (by omega)]
  | k + 1, i, t1, hk, hl, ht => by
    refine Ev.succ (Ev.pos (by omega) ?_) (fun q => rfl)
    have e : wrp .u32 (i : Int) = u (BitVec.ofNat 32 i) := by rw [u_lit _ (by omega), wrp_u32] <;> omega
    rw [e]
    refine crc_Table_l1_ev _ _ _ _ _ 8 _ 0 (by omega) (by omega) (by omega) (by omega) (by omega) ?_
    rw [wrp_i64 (by omega) (by omega), show ((i : Int) + 1) = ((i + 1 : Nat) : Int) by omega, Int.toNat_natCast]
    refine crc_Table_l0_ev k (i + 1) _ (by omega) (by simpa using hl) fun j hj => ?_
    by_cases e : i = j
    · subst e; rw [List.getElem?_set_self (by omega), tabN_get (by omega)]; rfl
    · rw [List.getElem?_set_ne e]; exact ht j (by omega)
theorem crc_Table_ev : Ev (fun q => crc_Table q) (tabN 256) :=
  Ev.succ (crc_Table_l0_ev 256 0 (List.replicate 256 0) (by omega) (by simp) (fun j hj => by omega)) (fun q => rfl)

/-- What a byte makes of a sum. -/
def bbyte (x : B32) (c : Int) : B32 := bentry ((x ^^^ BitVec.ofInt 32 c) &&& 255#32) ^^^ (x >>> 8)
def bmore (x : B32) (l : List Int) : B32 := l.foldl bbyte x
def isB (l : List Int) : Prop := ∀ c ∈ l, 0 ≤ c ∧ c < 256
theorem xor8 {x : B32} {c : Int} (h1 : 0 ≤ c) (h2 : c < 256) : ibits .xor .u8 (wrp .u8 (u x)) c = u ((x ^^^ BitVec.ofInt 32 c) &&& 255#32) := by
  have e : ibits .xor .u8 (wrp .u8 (u x)) c = IntKind.wrap .u8 (((BitVec.ofInt 8 (wrp .u8 (u x)) ^^^ BitVec.ofInt 8 c : BitVec 8).toNat : Nat) : Int) := by unfold ibits; rfl
  rw [e, wrp_def, wrp_u8, wrp_u8]
  unfold u
  rw [BitVec.toNat_and, BitVec.toNat_xor, BitVec.toNat_xor, BitVec.toNat_ofInt, BitVec.toNat_ofInt, BitVec.toNat_ofInt]
  obtain ⟨n, rfl⟩ := Int.eq_ofNat_of_zero_le h1
  have hn : n < 256 := by omega
  have e1 : (((x.toNat : Int) % 256 % ((2 ^ 8 : Nat) : Int)).toNat) = x.toNat % 256 := by omega
  have e2 : (((n : Int) % ((2 ^ 8 : Nat) : Int)).toNat) = n := by omega
  have e3 : (((n : Int) % ((2 ^ 32 : Nat) : Int)).toNat) = n := by omega
  rw [e1, e2, e3, show (255#32).toNat = 2 ^ 8 - 1 from rfl, Nat.and_two_pow_sub_one_eq_mod]
  have h3 : (x.toNat ^^^ n) % 2 ^ 8 = (x.toNat % 2 ^ 8) ^^^ (n % 2 ^ 8) := Nat.xor_mod_two_pow
  rw [h3, Nat.mod_eq_of_lt (show n < 2 ^ 8 by omega)]
  have h4 : (x.toNat % 2 ^ 8) ^^^ n < 2 ^ 8 := Nat.xor_lt_two_pow (Nat.mod_lt _ (by omega)) (by omega)
  simp only [Nat.reducePow] at h4 ⊢
  omega
theorem and255 (x : B32) : u (x &&& 255#32) < 256 := by
  unfold u
  rw [BitVec.toNat_and, show (255#32).toNat = 2 ^ 8 - 1 from rfl, Nat.and_two_pow_sub_one_eq_mod]; omega
theorem u_toNat (a : B32) : (u a).toNat = a.toNat := by unfold u; omega
theorem ones : (4294967295 : Int) = u (BitVec.allOnes 32) := rfl
theorem crc_More_l0_ev (z : Bool) (l : List Int) (hb : isB l) (hl : l.length ≤ 1099511627776) : ∀ (k i : Nat) (x : B32), l.length = i + k → Ev (fun q => crc_More_l0 q (u x) z l (l.length : Int) (i : Int) (tabN 256)) (u (~~~ bmore x (l.drop i)))
  | 0, i, x, hk => by
    refine Ev.succ (Ev.neg (by omega) (Ev.ret' ?_)) (fun q => rfl)
    rw [List.drop_of_length_le (by omega), ones, xor_u]
    simp only [bmore, List.foldl_nil, BitVec.allOnes_xor]
  | k + 1, i, x, hk => by
    have hi : i < l.length := by omega
    have hg : l[(i : Int).toNat]? = some l[i] := by simpa using List.getElem?_eq_getElem hi
    obtain ⟨b1, b2⟩ := hb l[i] (List.getElem_mem hi)
    refine Ev.succ (Ev.pos (by omega) (Ev.pos (by omega) (Ev.opt hg ?_))) (fun q => rfl)
    rw [xor8 b1 b2]
    have h255 := and255 (x ^^^ BitVec.ofInt 32 l[i])
    have hnn := u_nn ((x ^^^ BitVec.ofInt 32 l[i]) &&& 255#32)
    refine Ev.pos hnn (Ev.pos (by omega) (Ev.opt (tabN_get (by omega)) ?_))
    rw [ishr_u8, xor_u, wrp_i64 (by omega) (by omega), show ((i : Int) + 1) = ((i + 1 : Nat) : Int) by omega, u_toNat]
    have := crc_More_l0_ev z l hb hl k (i + 1) (bentry ((x ^^^ BitVec.ofInt 32 l[i]) &&& 255#32) ^^^ (x >>> 8)) (by omega)
    rw [List.drop_eq_getElem_cons hi]
    simp only [bmore, List.foldl_cons, bbyte, BitVec.ofNat_toNat, BitVec.setWidth_eq] at this ⊢
    exact this
theorem crc_More_ev (x : B32) (s : Sl Int) (hb : isB s.l) (hl : s.l.length ≤ 1099511627776) : Ev (fun q => crc_More q (u x) s) (u (~~~ bmore (~~~ x) s.l)) := by
  refine Ev.succ (Ev.bind crc_Table_ev (Ev.pos (tabN_len 256) ?_)) (fun q => rfl)
  rw [ones, xor_u, BitVec.allOnes_xor]
  have := crc_More_l0_ev s.z s.l hb hl s.l.length 0 (~~~ x) (by omega)
  rw [List.drop_zero] at this
  exact this
/-- The sum of bytes. -/
def bsum (l : List Int) : B32 := ~~~ bmore (BitVec.allOnes 32) l
theorem crc_Sum_ev (s : Sl Int) (hb : isB s.l) (hl : s.l.length ≤ 1099511627776) : Ev (fun q => crc_Sum q s) (u (bsum s.l)) := by
  have := crc_More_ev 0#32 s hb hl
  exact Ev.succ (Ev.bind this (Ev.ret' (by simp [bsum]))) (fun q => rfl)
theorem bmore_app (x : B32) (a b : List Int) : bmore (bmore x a) b = bmore x (a ++ b) := by simp [bmore]
end Go.Dvm.I

set_option linter.all false
set_option maxRecDepth 100000
namespace Go.Dvm.I
open Go Go.Dvm

theorem ishr_u64k {x : Int} (h : 0 ≤ x) (k : Nat) (hk : k ≤ 64) : ishr .u64 x (k : Int) = x / ((2 ^ k : Nat) : Int) := by
  unfold ishr
  simp only [IntKind.bits, Int.toNat_natCast, Nat.min_eq_left hk]
  rw [Int.fdiv_eq_ediv_of_nonneg _ (by exact_mod_cast Nat.zero_le _)]
  simp
/-- A number in four bytes. -/
def fix4 (v : Nat) : List Int := [((v % 256 : Nat) : Int), ((v / 256 % 256 : Nat) : Int), ((v / 65536 % 256 : Nat) : Int), ((v / 16777216 % 256 : Nat) : Int)]
theorem fixed_byte (v k : Nat) (hk : k ≤ 8) : wrp .u8 (ishr .u64 (v : Int) (wrp .i64 (8 * (k : Int)))) = ((v / 2 ^ (8 * k) % 256 : Nat) : Int) := by
  rw [wrp_i64 (by omega) (by omega), show (8 * (k : Int)) = ((8 * k : Nat) : Int) by omega, ishr_u64k (by omega) _ (by omega), wrp_u8]
  exact_mod_cast rfl
def bytesFrom (v : Nat) : Nat → Nat → List Int
  | _, 0 => []
  | i, k + 1 => ((v / 2 ^ (8 * i) % 256 : Nat) : Int) :: bytesFrom v (i + 1) k
theorem num_fixed_l0_ev {v m : Nat} (hm : m ≤ 8) : ∀ (k i : Nat) (l : List Int), m = i + k → l.length + k ≤ 4294967296 → Ev (fun q => num_fixed_l0 q (v : Int) (m : Int) (i : Int) false l) ⟨false, true, l ++ bytesFrom v i k⟩
  | 0, i, l, hk, hl => Ev.succ (Ev.neg (by omega) (Ev.ret' (by simp [bytesFrom]))) (fun q => rfl)
  | k + 1, i, l, hk, hl => by
    have w : wrp .i64 (8 * (i : Int)) = 8 * (i : Int) := wrp_i64 (by omega) (by omega)
    refine Ev.succ (Ev.pos (by omega) (Ev.neg (by rw [w]; omega) (Ev.pos (by omega) ?_))) (fun q => rfl)
    rw [fixed_byte v i (by omega), wrp_i64 (x := (i : Int) + 1) (by omega) (by omega), show ((i : Int) + 1) = ((i + 1 : Nat) : Int) by omega]
    refine (num_fixed_l0_ev hm k (i + 1) _ (by omega) (by simp; omega)).cast ?_
    simp [bytesFrom]
theorem num_fixed_ev {v m : Nat} (h0 : 0 < m) (hm : m ≤ 8) : Ev (fun q => num_fixed q (v : Int) (m : Int)) ⟨false, true, bytesFrom v 0 m⟩ := by
  obtain ⟨k, rfl⟩ : ∃ k, m = k + 1 := ⟨m - 1, by omega⟩
  have w : wrp .i64 (8 * ((0 : Nat) : Int)) = 0 := wrp_i64 (by omega) (by omega)
  have key : ∀ i : Int, i = ((0 : Nat) : Int) → Ev (fun q => num_fixed_l0 q (v : Int) ((k + 1 : Nat) : Int) i true []) ⟨false, true, bytesFrom v 0 (k + 1)⟩ := by
    intro i hi
    refine Ev.succ (Ev.pos (by omega) (Ev.neg (by rw [hi, w]; omega) (Ev.pos (by simp) ?_))) (fun q => rfl)
    rw [hi, fixed_byte v 0 (by omega), wrp_i64 (x := ((0 : Nat) : Int) + 1) (by omega) (by omega), show (((0 : Nat) : Int) + 1) = ((0 + 1 : Nat) : Int) by omega]
    refine (num_fixed_l0_ev hm k 1 _ (by omega) (by simp; omega)).cast ?_
    simp [bytesFrom]
  exact Ev.succ (key 0 rfl) (fun q => rfl)
theorem bytes4 (v : Nat) : bytesFrom v 0 4 = fix4 v := by simp [bytesFrom, fix4]
theorem num_fixed4_ev {v : Nat} (h : v < 18446744073709551616) : Ev (fun q => num_fixed q (v : Int) 4) ⟨false, true, fix4 v⟩ := by
  have := num_fixed_ev (v := v) (m := 4) (by omega) (by omega)
  rw [bytes4] at this; exact this
theorem Fixed32_ev (a : B32) : Ev (fun q => num_Fixed32 q (u a)) ⟨false, true, fix4 a.toNat⟩ := by
  have h1 := u_nn a; have h2 := u_lt a
  have e : wrp .u64 (u a) = ((a.toNat : Nat) : Int) := by rw [wrp_u64 h1 (by omega)]; rfl
  exact Ev.succ (Ev.bind (by rw [e]; exact num_fixed4_ev (by have := a.isLt; omega)) (Ev.ret _)) (fun q => rfl)
theorem frame_sum_ev (a b : Sl Int) (ha : isB a.l) (hb : isB b.l) (la : a.l.length ≤ 1099511627776) (lb : b.l.length ≤ 1099511627776) : Ev (fun q => frame_sum q a b) ⟨false, true, fix4 (bsum (a.l ++ b.l)).toNat⟩ := by
  have h2 := crc_More_ev (bsum a.l) b hb lb
  have e : ~~~ bmore (~~~ bsum a.l) b.l = bsum (a.l ++ b.l) := by
    unfold bsum; rw [BitVec.not_not, bmore_app]
  rw [e] at h2
  exact Ev.succ (Ev.bind (crc_Sum_ev a ha la) (Ev.bind h2 (Ev.bind (Fixed32_ev _) (Ev.ret _)))) (fun q => rfl)

def flat (l : List (Sl Int)) : List Int := l.flatMap (·.l)
theorem flat_cons (a : Sl Int) (b : List (Sl Int)) : flat (a :: b) = a.l ++ flat b := by simp [flat]
theorem Concat_l1_ev (z0 : Bool) (L : List (Sl Int)) (z : Bool) (hL : L.length ≤ 1099511627776) : ∀ (k i : Nat) (m : Nat) (l : List Int), L.length = i + k → m + (flat (L.drop i)).length ≤ l.length →
    Ev (fun q => slices_Concat_byte_byte_l1 q m z0 L (L.length : Int) (i : Int) z l) ⟨z, true, l.take m ++ flat (L.drop i)⟩
  | 0, i, m, l, hk, hl => by
    refine Ev.succ (Ev.neg (by omega) (Ev.ret' ?_)) (fun q => rfl)
    rw [List.drop_of_length_le (by omega)]; simp [flat]
  | k + 1, i, m, l, hk, hl => by
    have hi : i < L.length := by omega
    have hg : L[(i : Int).toNat]? = some L[i] := by simpa using List.getElem?_eq_getElem hi
    rw [List.drop_eq_getElem_cons hi, flat_cons, List.length_append] at hl
    refine Ev.succ (Ev.pos (by omega) (Ev.pos (by omega) (Ev.opt hg (Ev.pos (by omega) ?_)))) (fun q => rfl)
    rw [wrp_i64 (by omega) (by omega), show ((i : Int) + 1) = ((i + 1 : Nat) : Int) by omega]
    refine (Concat_l1_ev z0 L z hL k (i + 1) (m + L[i].l.length) _ (by omega) ?_).cast ?_
    · simp only [List.length_append, List.length_take, List.length_drop]; omega
    · congr 1
      rw [List.drop_eq_getElem_cons hi, flat_cons, ← List.append_assoc]
      congr 1
      rw [List.take_append_of_le_length (by simp only [List.length_append, List.length_take]; omega), List.take_of_length_le (by simp only [List.length_append, List.length_take]; omega)]
theorem Concat_l3_ev (z0 : Bool) (L : List (Sl Int)) (hL : L.length ≤ 1099511627776) : ∀ (k i : Nat) (z : Bool) (l : List Int), L.length = i + k → l.length + (flat (L.drop i)).length ≤ 4294967296 →
    ∃ z', Ev (fun q => slices_Concat_byte_byte_l3 q z0 L (L.length : Int) (i : Int) z l) ⟨z', true, l ++ flat (L.drop i)⟩
  | 0, i, z, l, hk, hl => ⟨z, by
    refine Ev.succ (Ev.neg (by omega) (Ev.ret' ?_)) (fun q => rfl)
    rw [List.drop_of_length_le (by omega)]; simp [flat]⟩
  | k + 1, i, z, l, hk, hl => by
    have hi : i < L.length := by omega
    have hg : L[(i : Int).toNat]? = some L[i] := by simpa using List.getElem?_eq_getElem hi
    rw [List.drop_eq_getElem_cons hi, flat_cons, List.length_append] at hl
    obtain ⟨z', h⟩ := Concat_l3_ev z0 L hL k (i + 1) (z && (decide (L[i].l.length = 0))) (l ++ L[i].l) (by omega) (by simp only [List.length_append]; omega)
    refine ⟨z', Ev.succ (Ev.pos (by omega) (Ev.pos (by omega) (Ev.opt hg (Ev.pos (by omega) ?_)))) (fun q => rfl)⟩
    rw [wrp_i64 (by omega) (by omega), show ((i : Int) + 1) = ((i + 1 : Nat) : Int) by omega]
    refine h.cast ?_
    rw [List.drop_eq_getElem_cons hi, flat_cons]; simp
theorem Concat_l0_ev (z0 z9 : Bool) (L : List (Sl Int)) (hL : L.length ≤ 1099511627776) (hf : (flat L).length ≤ 4294967296) : ∀ (k i : Nat) (m : Nat), L.length = i + k → m + (flat (L.drop i)).length = (flat L).length →
    ∃ z', Ev (fun q => slices_Concat_byte_byte_l0 q z0 L (m : Int) z9 L (L.length : Int) (i : Int)) ⟨z', true, flat L⟩
  | 0, i, m, hk, hm => by
    rw [List.drop_of_length_le (by omega)] at hm
    have hm2 : m = (flat L).length := by simpa [flat] using hm
    have w : wrp .i64 ((m : Int) - wrp .i64 0) = (m : Int) := by rw [wrp_i64 (x := 0) (by omega) (by omega), wrp_i64 (by omega) (by omega)]; omega
    by_cases h0 : 0 < m
    · refine ⟨decide (wrp .i64 ((m : Int) - wrp .i64 0) = 0), Ev.succ (Ev.neg (by omega) (Ev.neg (by omega) (Ev.pos (by rw [w]; omega) (Ev.pos (by rw [w]; omega) (Ev.pos (by rw [w]; omega) (Ev.neg (by rw [w]; omega) ?_)))))) (fun q => rfl)⟩
      rw [w]
      have := Concat_l1_ev z0 L (decide ((m : Int) = 0)) hL L.length 0 0 (List.replicate (m : Int).toNat 0) (by omega) (by simp; omega)
      rw [List.drop_zero] at this
      exact this
    · have hnil : flat L = [] := List.eq_nil_of_length_eq_zero (by omega)
      match L, hk with
      | [], _ =>
        refine ⟨true, Ev.succ (Ev.neg (by simp) (Ev.neg (by omega) ?_)) (fun q => rfl)⟩
        rw [w]
        refine Ev.neg (by omega) ?_
        exact Ev.succ (g := fun _ => some ⟨true, true, []⟩) (Ev.ret' (by simp [flat])) (fun q => rfl)
      | a :: L', hk =>
        rw [flat_cons] at hnil
        obtain ⟨z', h⟩ := Concat_l3_ev z0 (a :: L') hL L'.length 1 (decide (a.l.length = 0)) a.l (by simp; omega) (by
          have : flat (List.drop 1 (a :: L')) = flat L' := rfl
          rw [this, ← List.length_append, hnil]; simp)
        refine ⟨z', Ev.succ (Ev.neg (by omega) (Ev.neg (by omega) ?_)) (fun q => rfl)⟩
        rw [w]
        refine Ev.neg (by omega) (Ev.succ (Ev.pos (by simp) (Ev.opt (s := a) rfl (Ev.pos ?_ ?_))) (fun q => rfl))
        · have : a.l.length ≤ (a.l ++ flat L').length := by simp
          rw [hnil] at this; simp at this; simp [this]
        · rw [wrp_i64 (by omega) (by omega)]
          refine h.cast ?_
          rw [flat_cons]; rfl
  | k + 1, i, m, hk, hm => by
    have hi : i < L.length := by omega
    have hg : L[(i : Int).toNat]? = some L[i] := by simpa using List.getElem?_eq_getElem hi
    rw [List.drop_eq_getElem_cons hi, flat_cons, List.length_append] at hm
    obtain ⟨z', h⟩ := Concat_l0_ev z0 z9 L hL hf k (i + 1) (m + L[i].l.length) (by omega) (by omega)
    refine ⟨z', Ev.succ (Ev.pos (by omega) (Ev.pos (by omega) (Ev.opt hg ?_))) (fun q => rfl)⟩
    have w : wrp .i64 ((m : Int) + (L[i].l.length : Int)) = ((m + L[i].l.length : Nat) : Int) := by rw [wrp_i64 (by omega) (by omega)]; omega
    rw [w, wrp_i64 (by omega) (by omega), show ((i : Int) + 1) = ((i + 1 : Nat) : Int) by omega]
    exact Ev.neg (by omega) h
theorem Concat_ev (s : Sl (Sl Int)) (hL : s.l.length ≤ 1099511627776) (hf : (flat s.l).length ≤ 4294967296) : ∃ z', Ev (fun q => slices_Concat_byte_byte q s) ⟨z', true, flat s.l⟩ := by
  obtain ⟨z', h⟩ := Concat_l0_ev s.z s.z s.l hL hf s.l.length 0 0 (by omega) (by simp)
  exact ⟨z', Ev.succ h (fun q => rfl)⟩

theorem grp_isB : ∀ n, isB (grp n) := by
  intro n
  induction n using Nat.strongRecOn with
  | ind n ih =>
    by_cases h : n < 128
    · rw [grp_lt h]; intro c hc; simp at hc; omega
    · rw [grp_ge h]; intro c hc
      rcases List.mem_cons.1 hc with rfl | hc
      · omega
      · exact ih (n / 128) (by omega) c hc
theorem put_isB (n : Int) : isB (put n) := by
  unfold put; split
  · intro c hc; simp at hc
  · split
    · intro c hc; simp at hc
    · exact grp_isB _
theorem isB_app {a b : List Int} : isB (a ++ b) ↔ isB a ∧ isB b := by
  constructor
  · intro h; exact ⟨fun c hc => h c (List.mem_append.2 (.inl hc)), fun c hc => h c (List.mem_append.2 (.inr hc))⟩
  · rintro ⟨h1, h2⟩ c hc
    rcases List.mem_append.1 hc with h | h
    · exact h1 c h
    · exact h2 c h
/-- A frame. -/
def encF (l : List Int) : List Int := put (l.length : Int) ++ (l ++ fix4 (bsum (put (l.length : Int) ++ l)).toNat)
theorem frame_Encode_ev (s : Sl Int) (hb : isB s.l) (hl : s.l.length ≤ 1048576) : ∃ z, Ev (fun q => frame_Encode q s) (⟨z, true, encF s.l⟩, 0) := by
  have hp := put_len (s.l.length : Int)
  obtain ⟨z, h⟩ := Concat_ev ⟨false, [⟨false, put (s.l.length : Int)⟩, s, ⟨false, fix4 (bsum (put (s.l.length : Int) ++ s.l)).toNat⟩]⟩ (by simp) (by simp [flat, fix4]; omega)
  refine ⟨z, Ev.succ (Ev.neg (by omega) ?_) (fun q => rfl)⟩
  refine Ev.bind (num_Put_ev ⟨true, true, []⟩ (by omega) (by omega) (by simp)) ?_
  refine Ev.bind (frame_sum_ev ⟨false, put (s.l.length : Int)⟩ s (put_isB (s.l.length : Int)) hb (by simp only; omega) (by omega)) ?_
  refine Ev.bind h ?_
  exact Ev.ret' (by simp [encF, flat])
end Go.Dvm.I

set_option linter.all false
set_option maxRecDepth 100000
namespace Go.Dvm.I
open Go Go.Dvm

theorem recB_isB {v : Int} {r : S_api_Record} : isB (recB v r) := by
  have hg : ∀ n, isB (grp n) := by
    intro n
    induction n using Nat.strongRecOn with
    | ind n ih =>
      by_cases h : n < 128
      · rw [grp_lt h]; intro c hc; simp at hc; omega
      · rw [grp_ge h]
        intro c hc
        rcases List.mem_cons.1 hc with h2 | h2
        · omega
        · exact ih (n / 128) (by omega) c h2
  have hp : ∀ n, isB (put n) := by
    intro n; unfold put
    split
    · intro c hc; simp at hc
    · split
      · intro c hc; simp at hc
      · exact hg _
  have hs : ∀ n, isB (putS n) := fun n => hg _
  have happ : ∀ {a b : List Int}, isB a → isB b → isB (a ++ b) := fun ha hb c hc => (List.mem_append.1 hc).elim (ha c) (hb c)
  have hv : ∀ f, isB (valB f r) := by
    intro f; unfold valB
    split
    · exact hp _
    · split
      · exact hp _
      · split
        · exact hp _
        · split
          · exact happ (hp _) (happ (hs _) (hs _))
          · exact hs _
  have hf : ∀ L, isB (fieldsB r L) := by
    intro L
    induction L with
    | nil => intro c hc; simp [fieldsB] at hc
    | cons f L ih => exact happ (happ (hp _) (hv _)) ih
  exact happ (hp _) (hf _)
theorem recB_len {v : Int} {r : S_api_Record} (h : FitsR r) : (recB v r).length ≤ 1000 := by
  have h2 : ∀ L : List Int, (fieldsB r L).length ≤ 40 * L.length := by
    intro L
    induction L with
    | nil => simp [fieldsB]
    | cons f L ih =>
      have := valB_len (f := f) h
      have := put_len f
      simp only [fieldsB, List.length_append, List.length_cons]; omega
  have h3 := h2 (fieldsOf v)
  have h4 := (fieldsOf_mem (v := v)).2
  have h5 := put_len v
  unfold recB; simp only [List.length_append]; omega

end Go.Dvm.I

set_option linter.all false
set_option maxRecDepth 100000
namespace Go.Dvm.I
open Go Go.Dvm

def chainB : List S_api_Record → Int → Bool
  | [], _ => true
  | r :: l, f => decide (FitsR r) && (decide (r.Index = f) && chainB l (f + 1))
theorem fitsR_index {r : S_api_Record} (h : FitsR r) : 0 ≤ r.Index ∧ r.Index < 4611686018427387904 := ⟨h.1, h.2.1⟩
theorem segment_fit_l0_ev (z z7 : Bool) (L : List S_api_Record) (first : Int) (hf : 0 ≤ first ∧ first < 4611686018427387904) (hL : L.length ≤ 1000000) : ∀ (k i : Nat), L.length = i + k →
    Ev (fun q => segment_fit_l0 q z L first z7 L (L.length : Int) (i : Int)) (chainB (L.drop i) (first + i) && decide ((L.length : Int) ≤ 4096))
  | 0, i, hk => by
    refine Ev.succ (Ev.neg (by omega) (Ev.ret' ?_)) (fun q => rfl)
    rw [List.drop_of_length_le (by omega)]; rfl
  | k + 1, i, hk => by
    have hi : i < L.length := by omega
    have he : L[((i : Int)).toNat]? = some L[i] := by simp [hi]
    refine Ev.succ (Ev.pos (by omega) (Ev.pos (by omega) (Ev.opt he (Ev.bind (schema_Fits_ev _) ?_)))) (fun q => rfl)
    rw [List.drop_eq_getElem_cons hi]
    simp only [chainB]
    refine Ev.ite (fun h => Ev.ite (fun h2 => ?_) fun h2 => Ev.ret' ?_) fun h => Ev.ret' ?_
    · rw [wrp_i64 (by omega) (by omega)] at h2
      have h' : FitsR L[i] := by simpa using h
      have := segment_fit_l0_ev z z7 L first hf hL k (i + 1) (by omega)
      rw [show wrp .i64 ((i : Int) + 1) = ((i + 1 : Nat) : Int) by rw [wrp_i64 (by omega) (by omega)]; omega]
      refine Ev.cast this ?_
      simp only [h', decide_true, Bool.true_and, h2]
      rw [show first + ((i + 1 : Nat) : Int) = first + (i : Int) + 1 by omega]
    · rw [wrp_i64 (by omega) (by omega)] at h2
      simp [h2]
    · have h' : ¬ FitsR L[i] := by simpa using h
      simp [h']
theorem segment_fit_ev (s : Sl S_api_Record) (first : Int) (hf : 0 ≤ first ∧ first < 4611686018427387904) (hL : s.l.length ≤ 1000000) : Ev (fun q => segment_fit q s first) (chainB s.l first && decide ((s.l.length : Int) ≤ 4096)) := by
  have := segment_fit_l0_ev s.z s.z s.l first hf hL s.l.length 0 (by simp)
  refine Ev.succ (Ev.cast this ?_) (fun q => rfl)
  simp
/-- The number of the last record of a process. -/
def lastS : List S_api_Record → Int → Int
  | [], _ => 0
  | r :: l, p => if p = r.Proc then r.Seq else lastS l p
/-- A map that has, of each process, the last one's number: by the records turned round. -/
def mapR : List S_api_Record → List (Int × Int)
  | [] => []
  | r :: l => mset (mapR l) r.Proc r.Seq
theorem mget_mset (m : List (Int × Int)) (n y p : Int) : mget (mset m n y) p = if p = n then y else mget m p := by
  induction m with
  | nil => simp [mset, mget]
  | cons e m ih =>
    obtain ⟨k, v⟩ := e
    simp only [mset]
    by_cases h : n = k
    · subst h
      rw [if_pos rfl]
      simp only [mget]
      by_cases hp : p = n
      · rw [if_pos hp, if_pos hp]
      · rw [if_neg hp, if_neg hp, if_neg hp]
    · rw [if_neg h]
      simp only [mget]
      by_cases hp : p = k
      · rw [if_pos hp, if_pos hp, if_neg (fun e => h (by rw [← e, hp]))]
      · rw [if_neg hp, if_neg hp, ih]
theorem mget_mapR (l : List S_api_Record) (p : Int) : mget (mapR l) p = lastS l p := by
  induction l with
  | nil => rfl
  | cons r l ih => simp only [mapR, mget_mset, lastS, ih]
end Go.Dvm.I

set_option linter.all false
set_option maxRecDepth 100000
namespace Go.Dvm.I
open Go Go.Dvm

/-- A block's records as bytes, behind others (these turned round). -/
def blkB : List S_api_Record → List S_api_Record → List Int
  | _, [] => []
  | pr, r :: l => (put r.Proc ++ (putS (r.Seq - lastS pr r.Proc) ++ (opB r.Op ++ putS r.Resp))) ++ blkB (r :: pr) l
theorem lastS_range {l : List S_api_Record} (h : ∀ r ∈ l, FitsR r) (p : Int) : 0 ≤ lastS l p ∧ lastS l p < 4611686018427387904 := by
  induction l with
  | nil => simp [lastS]
  | cons r l ih =>
    simp only [lastS]
    split
    · have := h r List.mem_cons_self
      exact ⟨this.2.2.2.2.1, this.2.2.2.2.2.1⟩
    · exact ih fun r hr => h r (List.mem_cons_of_mem _ hr)
theorem block_Encode_l0_ev (z : Bool) (L : List S_api_Record) (hf : ∀ r ∈ L, FitsR r) (hL : L.length ≤ 1000000) : ∀ (k i : Nat) (l : List Int), L.length = i + k → l.length + 60 * k ≤ 4294967296 →
    Ev (fun q => block_Encode_l0 q z L (L.length : Int) (i : Int) (mapR (L.take i).reverse) false l true) (⟨false, true, l ++ blkB (L.take i).reverse (L.drop i)⟩, 0)
  | 0, i, l, hk, hl => by
    refine Ev.succ (Ev.neg (by omega) (Ev.ret' ?_)) (fun q => rfl)
    rw [List.drop_of_length_le (by omega)]; simp [blkB]
  | k + 1, i, l, hk, hl => by
    have hi : i < L.length := by omega
    have he : L[((i : Int)).toNat]? = some L[i] := by simp [hi]
    have hfit := hf L[i] (List.getElem_mem hi)
    have hr := hfit
    obtain ⟨h1, h2, h3, h4, h5, h6, h7, h8, h9⟩ := hfit
    have hpr : ∀ r ∈ (L.take i).reverse, FitsR r := fun r hr => hf r (List.mem_of_mem_take (List.mem_reverse.1 hr))
    have hlast := lastS_range hpr L[i].Proc
    have hw : wrp .i64 (L[i].Seq - mget (mapR (L.take i).reverse) L[i].Proc) = L[i].Seq - lastS (L.take i).reverse L[i].Proc := by
      rw [mget_mapR, wrp_i64 (by omega) (by omega)]
    have p1 := put_len L[i].Proc
    have i1 : inR .i64 (L[i].Seq - lastS (L.take i).reverse L[i].Proc) := inR_i64 (by omega) (by omega)
    have i2 : inR .i64 L[i].Resp := inR_i64 (by omega) (by omega)
    have p2 := putS_len i1
    have p3 := opB_len h7
    have p4 := putS_len i2
    refine Ev.succ (Ev.pos (by omega) (Ev.pos (by omega) (Ev.opt he (Ev.bind (num_Put_ev ⟨false, true, l⟩ h3 (by omega) (by simp only; omega)) ?_)))) (fun q => rfl)
    simp only [hw]
    refine Ev.bind (num_PutSigned_ev _ i1 (by simp only [List.length_append]; omega)) (Ev.bind (codec_PutOp_ev _ h7 (by simp only [List.length_append]; omega)) (Ev.bind (num_PutSigned_ev _ i2 (by simp only [List.length_append]; omega)) ?_))
    rw [show wrp .i64 ((i : Int) + 1) = ((i + 1 : Nat) : Int) by rw [wrp_i64 (by omega) (by omega)]; omega]
    have ht : (L.take (i + 1)).reverse = L[i] :: (L.take i).reverse := by
      rw [List.take_succ, List.getElem?_eq_getElem hi]; simp
    have ih := block_Encode_l0_ev z L hf hL k (i + 1) (((l ++ put L[i].Proc) ++ putS (L[i].Seq - lastS (L.take i).reverse L[i].Proc)) ++ opB L[i].Op ++ putS L[i].Resp) (by omega) (by simp only [List.length_append]; omega)
    rw [ht] at ih
    simp only [mapR] at ih
    refine Ev.cast ih ?_
    rw [List.drop_eq_getElem_cons hi]
    simp [blkB]
theorem chainB_fits {l : List S_api_Record} {f : Int} (h : chainB l f = true) : ∀ r ∈ l, FitsR r := by
  induction l generalizing f with
  | nil => intro r hr; simp at hr
  | cons a l ih =>
    simp only [chainB, Bool.and_eq_true, decide_eq_true_eq] at h
    intro r hr
    rcases List.mem_cons.1 hr with e | e
    · rw [e]; exact h.1
    · exact ih h.2.2 r e
/-- May records stand in one block? -/
def blkOk (l : List S_api_Record) : Bool := match l with
  | [] => false
  | r :: _ => chainB l r.Index && decide ((l.length : Int) ≤ 256)
def blkE (l : List S_api_Record) : List Int := match l with
  | [] => []
  | r :: _ => put r.Index ++ (put (l.length : Int) ++ blkB [] l)
theorem block_Fits_l0_ev (z : Bool) (e : S_api_Record) (L' : List S_api_Record) (hL : (e :: L').length ≤ 1000000) : ∀ (k i : Nat), (e :: L').length = i + k → (0 < i → FitsR e) →
    Ev (fun q => block_Fits_l0 q z (e :: L') z (e :: L') ((e :: L').length : Int) (i : Int)) (chainB ((e :: L').drop i) (e.Index + i) && decide (((e :: L').length : Int) ≤ 256))
  | 0, i, hk, hE => by
    refine Ev.succ (Ev.neg (by omega) (Ev.pos (by simp) (Ev.ret' ?_))) (fun q => rfl)
    rw [List.drop_of_length_le (by omega)]; rfl
  | k + 1, i, hk, hE => by
    have hi : i < (e :: L').length := by omega
    have hE' : decide (FitsR (e :: L')[i]) = true → FitsR e := by
      intro h
      by_cases h0 : 0 < i
      · exact hE h0
      · have : i = 0 := by omega
        subst this; simpa using h
    have he : (e :: L')[((i : Int)).toNat]? = some (e :: L')[i] := by simp [hi]
    refine Ev.succ (Ev.pos (by omega) (Ev.pos (by omega) (Ev.opt he (Ev.bind (schema_Fits_ev _) ?_)))) (fun q => rfl)
    rw [List.drop_eq_getElem_cons hi]
    simp only [chainB]
    refine Ev.ite (fun h => Ev.opt (s := e) rfl (Ev.ite (fun h2 => ?_) fun h2 => Ev.ret' ?_)) fun h => Ev.ret' ?_
    · have hfe := fitsR_index (hE' h)
      rw [wrp_i64 (by omega) (by omega)] at h2
      have h' : FitsR (e :: L')[i] := by simpa using h
      have := block_Fits_l0_ev z e L' hL k (i + 1) (by omega) (fun _ => hE' h)
      rw [show wrp .i64 ((i : Int) + 1) = ((i + 1 : Nat) : Int) by rw [wrp_i64 (by omega) (by omega)]; omega]
      refine Ev.cast this ?_
      simp only [h', decide_true, Bool.true_and, h2]
      rw [show e.Index + ((i + 1 : Nat) : Int) = e.Index + (i : Int) + 1 by omega]
    · have hfe := fitsR_index (hE' h)
      rw [wrp_i64 (by omega) (by omega)] at h2
      simp [h2]
    · have h' : ¬ FitsR (e :: L')[i] := by simpa using h
      simp [h']
theorem block_Fits_ev (s : Sl S_api_Record) (hL : s.l.length ≤ 1000000) : Ev (fun q => block_Fits q s) (blkOk s.l) := by
  obtain ⟨z, l⟩ := s
  cases l with
  | nil =>
    refine Ev.succ (g := fun q => block_Fits_l0 q z [] z [] ((([] : List S_api_Record).length : Nat) : Int) 0) ?_ (fun q => rfl)
    refine ⟨1, fun q hq => ?_⟩
    obtain ⟨n, rfl⟩ : ∃ n, q = n + 1 := ⟨q - 1, by omega⟩
    simp [block_Fits_l0, blkOk]
  | cons e L' =>
    have := block_Fits_l0_ev z e L' hL (e :: L').length 0 (by simp) (by omega)
    refine Ev.succ (Ev.cast this ?_) (fun q => rfl)
    simp [blkOk]
theorem block_Encode_ev (s : Sl S_api_Record) (hL : s.l.length ≤ 1000000) : Ev (fun q => block_Encode q s) (if blkOk s.l = true then (⟨false, true, blkE s.l⟩, 0) else (⟨true, true, []⟩, 1)) := by
  refine Ev.succ (Ev.bind (block_Fits_ev s hL) (Ev.ite (fun h => ?_) fun h => ?_)) (fun q => rfl)
  · rw [if_pos h]
    obtain ⟨z, l⟩ := s
    cases l with
    | nil => simp [blkOk] at h
    | cons e L' =>
      have hf := chainB_fits (l := e :: L') (f := e.Index) (by simp only [blkOk, Bool.and_eq_true] at h; exact h.1)
      have hl256 : ((e :: L').length : Int) ≤ 256 := by simp only [blkOk, Bool.and_eq_true, decide_eq_true_eq] at h; exact h.2
      have hfe := fitsR_index (hf e List.mem_cons_self)
      have p1 := put_len e.Index
      have p2 := put_len ((e :: L').length : Int)
      refine Ev.opt (s := e) rfl (Ev.bind (num_Put_ev _ hfe.1 hfe.2 (by simp)) (Ev.bind (num_Put_ev _ (by omega) (by omega) (by simp only [List.nil_append]; omega)) ?_))
      have := block_Encode_l0_ev z (e :: L') hf hL (e :: L').length 0 (([] ++ put e.Index) ++ put ((e :: L').length : Int)) (by simp) (by simp only [List.length_append, List.length_nil]; omega)
      refine Ev.cast this ?_
      simp [blkE]
  · rw [if_neg h]; exact Ev.ret _
end Go.Dvm.I

set_option linter.all false
set_option maxRecDepth 100000
namespace Go.Dvm.I
open Go Go.Dvm

/-- Records of an elder version, one behind the other. -/
def recsB (v : Int) : List S_api_Record → List Int
  | [] => []
  | r :: l => (put ((recB v r).length : Int) ++ recB v r) ++ recsB v l
def dataB (v : Int) (l : List S_api_Record) : List Int := if v = 3 then blkE l else recsB v l
theorem segment_data_l0_ev {v : Int} (v1 : 1 ≤ v) (v3 : v ≤ 3) (z : Bool) (L : List S_api_Record) (hf : ∀ r ∈ L, FitsR r) (hL : L.length ≤ 1000000) : ∀ (k i : Nat) (h0z : Bool) (l : List Int), L.length = i + k → l.length + 1010 * k ≤ 4294967296 →
    Ev (fun q => segment_data_l0 q v z L (L.length : Int) (i : Int) h0z l true) ⟨h0z && decide (k = 0), true, l ++ recsB v (L.drop i)⟩
  | 0, i, h0z, l, hk, hl => by
    refine Ev.succ (Ev.neg (by omega) (Ev.ret' ?_)) (fun q => rfl)
    rw [List.drop_of_length_le (by omega)]; simp [recsB]
  | k + 1, i, h0z, l, hk, hl => by
    have hi : i < L.length := by omega
    have he : L[((i : Int)).toNat]? = some L[i] := by simp [hi]
    have hfit := hf L[i] (List.getElem_mem hi)
    have hlen := recB_len (v := v) hfit
    have p1 := put_len ((recB v L[i]).length : Int)
    have hE := schema_Encode_ev v L[i]
    rw [if_neg (by omega), if_pos hfit] at hE
    refine Ev.succ (Ev.pos (by omega) (Ev.pos (by omega) (Ev.opt he (Ev.bind hE (Ev.bind (num_Put_ev ⟨h0z, true, l⟩ (by simp only; omega) (by simp only; omega) (by simp only; omega)) (Ev.pos (by simp only [List.length_append]; omega) ?_)))))) (fun q => rfl)
    rw [show wrp .i64 ((i : Int) + 1) = ((i + 1 : Nat) : Int) by rw [wrp_i64 (by omega) (by omega)]; omega]
    have ih := segment_data_l0_ev v1 v3 z L hf hL k (i + 1) false ((l ++ put ((recB v L[i]).length : Int)) ++ recB v L[i]) (by omega) (by simp only [List.length_append]; omega)
    refine Ev.cast ih ?_
    rw [List.drop_eq_getElem_cons hi]
    simp [recsB]
theorem segment_data_ev {v : Int} (v1 : 1 ≤ v) (v3 : v ≤ 3) (s : Sl S_api_Record) (hf : ∀ r ∈ s.l, FitsR r) (h3 : v = 3 → blkOk s.l = true) (hL : s.l.length ≤ 1000000) : ∃ z, Ev (fun q => segment_data q v s) ⟨z, true, dataB v s.l⟩ := by
  by_cases e : v = 3
  · refine ⟨false, Ev.succ (Ev.pos e (Ev.bind (block_Encode_ev s hL) (Ev.ret' ?_))) (fun q => rfl)⟩
    rw [if_pos (h3 e)]; simp [dataB, e]
  · have := segment_data_l0_ev v1 v3 s.z s.l hf hL s.l.length 0 true [] (by simp) (by simp only [List.length_nil]; omega)
    refine ⟨true && decide (s.l.length = 0), Ev.succ (Ev.neg e (Ev.cast this ?_)) (fun q => rfl)⟩
    simp [dataB, e]
end Go.Dvm.I

set_option linter.all false
set_option maxRecDepth 100000
namespace Go.Dvm.I
open Go Go.Dvm

theorem chainB_take {l : List S_api_Record} {f : Int} (h : chainB l f = true) (n : Nat) : chainB (l.take n) f = true := by
  induction l generalizing f n with
  | nil => simp [chainB]
  | cons a l ih =>
    simp only [chainB, Bool.and_eq_true, decide_eq_true_eq] at h
    cases n with
    | zero => simp [chainB]
    | succ n => simp only [List.take_succ_cons, chainB, Bool.and_eq_true, decide_eq_true_eq]; exact ⟨h.1, h.2.1, ih h.2.2 n⟩
theorem chainB_drop {l : List S_api_Record} {f : Int} (h : chainB l f = true) (n : Nat) : chainB (l.drop n) (f + n) = true := by
  induction l generalizing f n with
  | nil => simp [chainB]
  | cons a l ih =>
    simp only [chainB, Bool.and_eq_true, decide_eq_true_eq] at h
    cases n with
    | zero => simpa [chainB] using h
    | succ n =>
      have := ih h.2.2 n
      rw [List.drop_succ_cons, show f + ((n + 1 : Nat) : Int) = f + 1 + (n : Int) by omega]
      exact this
theorem blkOk_of {l : List S_api_Record} {f : Int} (h : chainB l f = true) (h0 : l ≠ []) (hl : l.length ≤ 256) : blkOk l = true := by
  cases l with
  | nil => exact absurd rfl h0
  | cons a l =>
    have := h
    simp only [chainB, Bool.and_eq_true, decide_eq_true_eq] at h
    simp only [blkOk, Bool.and_eq_true, decide_eq_true_eq]
    rw [h.2.1]
    exact ⟨this, by omega⟩
theorem recsB_len {v : Int} {l : List S_api_Record} (hf : ∀ r ∈ l, FitsR r) : (recsB v l).length ≤ 1010 * l.length := by
  induction l with
  | nil => simp [recsB]
  | cons r l ih =>
    have h1 := recB_len (v := v) (hf r List.mem_cons_self)
    have h2 := put_len ((recB v r).length : Int)
    have h3 := ih fun r hr => hf r (List.mem_cons_of_mem _ hr)
    simp only [recsB, List.length_append, List.length_cons]; omega
theorem blkB_len : ∀ {l pr : List S_api_Record}, (∀ r ∈ l, FitsR r) → (∀ r ∈ pr, FitsR r) → (blkB pr l).length ≤ 60 * l.length
  | [], pr, _, _ => by simp [blkB]
  | r :: l, pr, hf, hp => by
    have hr := hf r List.mem_cons_self
    obtain ⟨h1, h2, h3, h4, h5, h6, h7, h8, h9⟩ := hr
    have hlast := lastS_range hp r.Proc
    have p1 := put_len r.Proc
    have p2 := putS_len (show inR .i64 (r.Seq - lastS pr r.Proc) from inR_i64 (by omega) (by omega))
    have p3 := opB_len h7
    have p4 := putS_len (show inR .i64 r.Resp from inR_i64 (by omega) (by omega))
    have ih := blkB_len (l := l) (pr := r :: pr) (fun r hr => hf r (List.mem_cons_of_mem _ hr)) (fun q hq => (List.mem_cons.1 hq).elim (fun e => e ▸ hf r List.mem_cons_self) (hp q))
    simp only [blkB, List.length_append, List.length_cons]; omega
theorem dataB_len {v : Int} {l : List S_api_Record} (hf : ∀ r ∈ l, FitsR r) : (dataB v l).length ≤ 1010 * l.length + 20 := by
  unfold dataB
  split
  · cases l with
    | nil => simp [blkE]
    | cons r l =>
      have := blkB_len (pr := []) hf (by simp)
      have p1 := put_len r.Index
      have p2 := put_len ((r :: l).length : Int)
      simp only [blkE, List.length_append]; omega
  · have := recsB_len (v := v) hf; omega
/-- The frames of records, sixteen by sixteen. -/
def blocksB (v : Int) : Nat → List S_api_Record → List (List Int)
  | 0, _ => []
  | k + 1, l => if l.length = 0 then [] else encF (dataB v (l.take 16)) :: blocksB v k (l.drop 16)
end Go.Dvm.I

set_option linter.all false
set_option maxRecDepth 100000
namespace Go.Dvm.I
open Go Go.Dvm

theorem opB_isB (o : S_api_Op) : isB (opB o) := isB_app.2 ⟨put_isB _, isB_app.2 ⟨grp_isB _, grp_isB _⟩⟩
theorem blkB_isB : ∀ (l pr : List S_api_Record), isB (blkB pr l)
  | [], pr => by intro c hc; simp [blkB] at hc
  | r :: l, pr => isB_app.2 ⟨isB_app.2 ⟨put_isB _, isB_app.2 ⟨grp_isB _, isB_app.2 ⟨opB_isB _, grp_isB _⟩⟩⟩, blkB_isB l _⟩
theorem recsB_isB (v : Int) : ∀ l : List S_api_Record, isB (recsB v l)
  | [] => by intro c hc; simp [recsB] at hc
  | r :: l => isB_app.2 ⟨isB_app.2 ⟨put_isB _, recB_isB⟩, recsB_isB v l⟩
theorem dataB_isB (v : Int) (l : List S_api_Record) : isB (dataB v l) := by
  unfold dataB
  split
  · cases l with
    | nil => intro c hc; simp [blkE] at hc
    | cons r l => exact isB_app.2 ⟨put_isB _, isB_app.2 ⟨put_isB _, blkB_isB _ _⟩⟩
  · exact recsB_isB v l
theorem segment_framed_ev (s : Sl Int) (hb : isB s.l) (hl : s.l.length ≤ 1048576) : ∃ z, Ev (fun q => segment_framed q s) ⟨z, true, encF s.l⟩ := by
  obtain ⟨z, h⟩ := frame_Encode_ev s hb hl
  exact ⟨z, Ev.succ (Ev.bind h (Ev.ret _)) (fun q => rfl)⟩
theorem segment_blocks_l0_ev {v : Int} (v1 : 1 ≤ v) (v3 : v ≤ 3) (z1 : Bool) : ∀ (k : Nat) (l : List S_api_Record) (f : Int) (h0z : Bool) (h0l : List (Sl Int)), chainB l f = true → l.length ≤ 16 * k → l.length ≤ 1000000 → h0l.length + k ≤ 4294967296 →
    ∃ z X, Ev (fun q => segment_blocks_l0 q v z1 l h0z h0l) ⟨z, true, h0l ++ X⟩ ∧ X.map (·.l) = blocksB v k l
  | 0, l, f, h0z, h0l, hc, hk, hl, hh => by
    refine ⟨h0z, [], Ev.succ (Ev.neg (by omega) (Ev.ret' (by simp))) (fun q => rfl), rfl⟩
  | k + 1, l, f, h0z, h0l, hc, hk, hl, hh => by
    by_cases h0 : l.length = 0
    · refine ⟨h0z, [], Ev.succ (Ev.neg (by omega) (Ev.ret' (by simp))) (fun q => rfl), ?_⟩
      simp [blocksB, h0]
    · obtain ⟨m, hm⟩ : ∃ m : Nat, m = min 16 l.length := ⟨_, rfl⟩
      have hmI : (if 16 < (l.length : Int) then (16 : Int) else (l.length : Int)) = (m : Int) := by split <;> omega
      have ht : l.take m = l.take 16 := by
        rcases Nat.le_total 16 l.length with h | h
        · rw [hm, Nat.min_eq_left h]
        · rw [hm, Nat.min_eq_right h, List.take_length, List.take_of_length_le h]
      have hd : l.drop m = l.drop 16 := by
        rcases Nat.le_total 16 l.length with h | h
        · rw [hm, Nat.min_eq_left h]
        · rw [hm, Nat.min_eq_right h, List.drop_length, List.drop_of_length_le h]
      have hf16 := chainB_fits (chainB_take hc 16)
      have hl16 : (l.take 16).length ≤ 16 := by simp; omega
      have hb16 : v = 3 → blkOk (l.take 16) = true := fun _ => blkOk_of (chainB_take hc 16) (fun e => by
        have := congrArg List.length e
        rw [List.length_take, List.length_nil] at this; omega) (by omega)
      obtain ⟨zd, hdat⟩ := segment_data_ev v1 v3 ⟨z1, l.take 16⟩ hf16 hb16 (by simp only; omega)
      have hdl := dataB_len (v := v) hf16
      obtain ⟨zf, hfr⟩ := segment_framed_ev ⟨zd, dataB v (l.take 16)⟩ (dataB_isB _ _) (by simp only; omega)
      obtain ⟨z, X, ih, hX⟩ := segment_blocks_l0_ev v1 v3 z1 k (l.drop 16) (f + 16) false (h0l ++ [⟨zf, encF (dataB v (l.take 16))⟩]) (by simpa using chainB_drop hc 16) (by simp; omega) (by simp; omega) (by simp; omega)
      have hT : (if 16 < (l.length : Int) then (16 : Int) else (l.length : Int)).toNat = m := by rw [hmI]; simp
      have hdat' : Ev (fun q => segment_data q v ⟨z1, List.take ((if 16 < (l.length : Int) then (16 : Int) else (l.length : Int)).toNat) l⟩) ⟨zd, true, dataB v (l.take 16)⟩ := by rw [hT, ht]; exact hdat
      have ih' : Ev (fun q => segment_blocks_l0 q v z1 (List.drop ((if 16 < (l.length : Int) then (16 : Int) else (l.length : Int)).toNat) l) false (h0l ++ [⟨zf, encF (dataB v (l.take 16))⟩])) ⟨z, true, (h0l ++ [⟨zf, encF (dataB v (l.take 16))⟩]) ++ X⟩ := by rw [hT, hd]; exact ih
      refine ⟨z, ⟨zf, encF (dataB v (l.take 16))⟩ :: X, Ev.succ (Ev.pos (by omega) (Ev.pos (by rw [hmI]; omega) (Ev.pos (by omega) (Ev.pos (by rw [hT]; omega) (Ev.bind hdat' (Ev.bind hfr (Ev.pos (by omega) (Ev.pos (by rw [hmI]; omega) (Ev.cast ih' (by simp)))))))))) (fun q => rfl), ?_⟩
      simp only [blocksB, h0, if_false, List.map_cons, hX]
end Go.Dvm.I

set_option linter.all false
set_option maxRecDepth 100000
namespace Go.Dvm.I
open Go Go.Dvm

def headD (v kind first : Int) : List Int := (([108] ++ put v) ++ put kind) ++ put first
def headBad (kind first : Int) : Prop := kind < 0 ∨ 6 ≤ kind ∨ first < 0 ∨ 4611686018427387904 ≤ first
instance (k f : Int) : Decidable (headBad k f) := by unfold headBad; infer_instance
theorem headD_ok (v kind first : Int) : isB (headD v kind first) ∧ (headD v kind first).length ≤ 31 := by
  have p1 := put_len v
  have p2 := put_len kind
  have p3 := put_len first
  refine ⟨isB_app.2 ⟨isB_app.2 ⟨isB_app.2 ⟨by intro c hc; simp at hc; omega, put_isB _⟩, put_isB _⟩, put_isB _⟩, ?_⟩
  simp only [headD, List.length_append, List.length_cons, List.length_nil]; omega
theorem segment_known_ev (v : Int) : Ev (fun q => segment_known q v) (decide (1 ≤ v ∧ v ≤ 3)) :=
  Ev.succ (Ev.ite (fun h => Ev.ret' (by simp [h])) fun h => Ev.ret' (by simp [h])) (fun q => rfl)
theorem segment_Head_ev (v kind first : Int) : ∃ z, Ev (fun q => segment_Head q v kind first) (if v < 1 ∨ 3 < v then (⟨true, true, []⟩, 6) else if headBad kind first then (⟨true, true, []⟩, 1) else (⟨z, true, encF (headD v kind first)⟩, 0)) := by
  obtain ⟨hb, hl⟩ := headD_ok v kind first
  obtain ⟨z, hfr⟩ := segment_framed_ev ⟨false, headD v kind first⟩ hb (by simp only; omega)
  refine ⟨z, Ev.succ (Ev.bind (segment_known_ev v) (Ev.ite (fun h => ?_) fun h => ?_)) (fun q => rfl)⟩
  · simp only [decide_eq_true_eq] at h
    rw [if_neg (by omega)]
    have p1 := put_len v
    have p2 := put_len kind
    refine Ev.ite (fun h1 => ?_) fun h1 => Ev.ite (fun h2 => ?_) fun h2 => Ev.ite (fun h3 => ?_) fun h3 => Ev.ite (fun h4 => ?_) fun h4 => ?_
    · rw [if_pos (.inl h1)]; exact Ev.ret _
    · rw [if_pos (.inr (.inl h2))]; exact Ev.ret _
    · rw [if_pos (.inr (.inr (.inl h3)))]; exact Ev.ret _
    · rw [if_pos (.inr (.inr (.inr h4)))]; exact Ev.ret _
    · rw [if_neg (by unfold headBad; omega)]
      exact Ev.bind (num_Put_ev _ (by omega) (by omega) (by simp)) (Ev.bind (num_Put_ev _ (by omega) (by omega) (by simp only [List.length_append, List.length_cons, List.length_nil]; omega)) (Ev.bind (num_Put_ev _ (by omega) (by omega) (by simp only [List.length_append, List.length_cons, List.length_nil]; omega)) (Ev.bind hfr (Ev.ret _))))
  · simp only [decide_eq_true_eq] at h
    rw [if_pos (by omega)]; exact Ev.ret _
end Go.Dvm.I

set_option linter.all false
set_option maxRecDepth 100000
namespace Go.Dvm.I
open Go Go.Dvm

theorem segment_blocks_ev {v : Int} (v1 : 1 ≤ v) (v3 : v ≤ 3) (s : Sl S_api_Record) {f : Int} (hc : chainB s.l f = true) (hL : s.l.length ≤ 1000000) : ∃ z X, Ev (fun q => segment_blocks q v s) ⟨z, true, X⟩ ∧ X.map (·.l) = blocksB v s.l.length s.l := by
  obtain ⟨z, X, h1, h2⟩ := segment_blocks_l0_ev v1 v3 s.z s.l.length s.l f true [] hc (by omega) hL (by simp only [List.length_nil]; omega)
  exact ⟨z, X, Ev.succ (Ev.cast h1 (by simp)) (fun q => rfl), h2⟩
end Go.Dvm.I

set_option linter.all false
set_option maxRecDepth 100000
namespace Go.Dvm.I
open Go Go.Dvm

theorem segment_fit_l0_any (z z7 : Bool) (L : List S_api_Record) (first : Int) (hr : inR .i64 first) (hL : L.length ≤ 1000000) : ∀ (k i : Nat), L.length = i + k → (0 < i → 0 ≤ first ∧ first < 4611686018427387904) →
    Ev (fun q => segment_fit_l0 q z L first z7 L (L.length : Int) (i : Int)) (chainB (L.drop i) (first + i) && decide ((L.length : Int) ≤ 4096))
  | 0, i, hk, h0 => by
    refine Ev.succ (Ev.neg (by omega) (Ev.ret' ?_)) (fun q => rfl)
    rw [List.drop_of_length_le (by omega)]; rfl
  | k + 1, i, hk, h0 => by
    have hi : i < L.length := by omega
    have he : L[((i : Int)).toNat]? = some L[i] := by simp [hi]
    have hR := inR64 hr
    have hw : wrp .i64 (first + (i : Int)) = first + (i : Int) := by
      by_cases h : 0 < i
      · have := h0 h; rw [wrp_i64 (by omega) (by omega)]
      · rw [wrp_i64 (by omega) (by omega)]
    refine Ev.succ (Ev.pos (by omega) (Ev.pos (by omega) (Ev.opt he (Ev.bind (schema_Fits_ev _) ?_)))) (fun q => rfl)
    rw [List.drop_eq_getElem_cons hi]
    simp only [chainB]
    refine Ev.ite (fun h => Ev.ite (fun h2 => ?_) fun h2 => Ev.ret' ?_) fun h => Ev.ret' ?_
    · rw [hw] at h2
      have h' : FitsR L[i] := by simpa using h
      have hfi := fitsR_index h'
      have := segment_fit_l0_any z z7 L first hr hL k (i + 1) (by omega) (fun _ => by
        by_cases h : 0 < i
        · exact h0 h
        · omega)
      rw [show wrp .i64 ((i : Int) + 1) = ((i + 1 : Nat) : Int) by rw [wrp_i64 (by omega) (by omega)]; omega]
      refine Ev.cast this ?_
      simp only [h', decide_true, Bool.true_and, h2]
      rw [show first + ((i + 1 : Nat) : Int) = first + (i : Int) + 1 by omega]
    · rw [hw] at h2
      simp [h2]
    · have h' : ¬ FitsR L[i] := by simpa using h
      simp [h']
theorem segment_fit_any (s : Sl S_api_Record) (first : Int) (hr : inR .i64 first) (hL : s.l.length ≤ 1000000) : Ev (fun q => segment_fit q s first) (chainB s.l first && decide ((s.l.length : Int) ≤ 4096)) := by
  have := segment_fit_l0_any s.z s.z s.l first hr hL s.l.length 0 (by simp) (by omega)
  refine Ev.succ (Ev.cast this ?_) (fun q => rfl)
  simp
/-- May records be a segment's body? -/
def bodOk (l : List S_api_Record) : Bool := match l with
  | [] => true
  | r :: _ => chainB l r.Index && decide ((l.length : Int) ≤ 4096)
/-- All bytes, one behind the other. -/
theorem flat_map (l : List (Sl Int)) : flat l = (l.map (·.l)).flatten := by simp [flat, List.flatMap]
theorem encF_lens (l : List Int) : (encF l).length ≤ l.length + 14 ∧ 4 ≤ (encF l).length := by
  have := put_len (l.length : Int)
  unfold encF fix4
  simp only [List.length_append, List.length_cons, List.length_nil]; omega
theorem blocksB_len {v : Int} : ∀ {k : Nat} {l : List S_api_Record}, (∀ r ∈ l, FitsR r) → (blocksB v k l).flatten.length ≤ 20000 * l.length ∧ (blocksB v k l).length ≤ l.length
  | 0, l, hf => by simp [blocksB]
  | k + 1, l, hf => by
    simp only [blocksB]
    split
    · simp
    · have h1 := dataB_len (v := v) (l := l.take 16) (fun r hr => hf r (List.mem_of_mem_take hr))
      have h2 := (encF_lens (dataB v (l.take 16))).1
      obtain ⟨h3, h5⟩ := blocksB_len (v := v) (k := k) (l := l.drop 16) (fun r hr => hf r (List.mem_of_mem_drop hr))
      have h4 : (l.take 16).length ≤ 16 := by simp; omega
      simp only [List.length_drop] at h3 h5
      simp only [List.flatten_cons, List.length_append, List.length_cons]
      omega
theorem blocksB_each {v : Int} : ∀ {k : Nat} {l : List S_api_Record}, (∀ r ∈ l, FitsR r) → ∀ f ∈ blocksB v k l, f.length ≤ 20000
  | 0, l, hf, f, h => by simp [blocksB] at h
  | k + 1, l, hf, f, h => by
    simp only [blocksB] at h
    split at h
    · simp at h
    · have h1 := dataB_len (v := v) (l := l.take 16) (fun r hr => hf r (List.mem_of_mem_take hr))
      have h2 := (encF_lens (dataB v (l.take 16))).1
      have h4 : (l.take 16).length ≤ 16 := by simp; omega
      rcases List.mem_cons.1 h with e | e
      · rw [e]; omega
      · exact blocksB_each (fun r hr => hf r (List.mem_of_mem_drop hr)) f e
def bodyB (v : Int) (l : List S_api_Record) : List Int := (blocksB v l.length l).flatten
theorem bodOk_chain {l : List S_api_Record} (h : bodOk l = true) : ∃ f, chainB l f = true := by
  cases l with
  | nil => exact ⟨0, rfl⟩
  | cons r l => simp only [bodOk, Bool.and_eq_true] at h; exact ⟨_, h.1⟩
theorem segment_Body_ev (v : Int) (s : Sl S_api_Record) (ho : ∀ r ∈ s.l, S_api_Record.ok r) (hL : s.l.length ≤ 100000) : ∃ z, Ev (fun q => segment_Body q v s) (if v < 1 ∨ 3 < v then (⟨true, true, []⟩, 6) else if bodOk s.l = true then (⟨z, true, bodyB v s.l⟩, 0) else (⟨true, true, []⟩, 1)) := by
  by_cases hv : v < 1 ∨ 3 < v
  · refine ⟨true, Ev.succ (Ev.bind (segment_known_ev v) (Ev.neg (by simp only [decide_eq_true_eq]; omega) (Ev.ret' ?_))) (fun q => rfl)⟩
    rw [if_pos hv]
  · simp only [if_neg hv]
    have main : bodOk s.l = true → ∃ z, Ev (fun q => (segment_blocks q v s).bind fun r4 => (slices_Concat_byte_byte q ⟨r4.n, r4.xs⟩).bind fun r5 => some (r5, (0 : Int))) (⟨z, true, bodyB v s.l⟩, 0) := fun hb => by
      obtain ⟨f, hc⟩ := bodOk_chain hb
      have hf := chainB_fits hc
      obtain ⟨z, X, h1, h2⟩ := segment_blocks_ev (v := v) (by omega) (by omega) s hc (by omega)
      obtain ⟨h3, h4⟩ := blocksB_len (v := v) (k := s.l.length) hf
      have h5 : X.length ≤ s.l.length := by rw [← h2, List.length_map] at h4; exact h4
      obtain ⟨z', hC⟩ := Concat_ev ⟨z, X⟩ (by simp only; omega) (by simp only [flat_map, h2]; omega)
      simp only [flat_map, h2] at hC
      exact ⟨z', Ev.bind h1 (Ev.bind hC (Ev.ret _))⟩
    by_cases hb : bodOk s.l = true
    · simp only [if_pos hb]
      obtain ⟨z, hm⟩ := main hb
      refine ⟨z, Ev.succ (Ev.bind (segment_known_ev v) (Ev.pos (by simp only [decide_eq_true_eq]; omega) ?_)) (fun q => rfl)⟩
      obtain ⟨sz, sl⟩ := s
      cases sl with
      | nil => exact Ev.neg (by simp) hm
      | cons r l =>
        refine Ev.pos (by simp only [List.length_cons]; omega) (Ev.opt (s := r) rfl (Ev.bind (segment_fit_any _ _ (ho r List.mem_cons_self).1 (by omega)) (Ev.pos ?_ hm)))
        simpa only [bodOk] using hb
    · simp only [if_neg hb]
      refine ⟨true, Ev.succ (Ev.bind (segment_known_ev v) (Ev.pos (by simp only [decide_eq_true_eq]; omega) ?_)) (fun q => rfl)⟩
      obtain ⟨sz, sl⟩ := s
      cases sl with
      | nil => exact absurd rfl hb
      | cons r l =>
        refine Ev.pos (by simp only [List.length_cons]; omega) (Ev.opt (s := r) rfl (Ev.bind (segment_fit_any _ _ (ho r List.mem_cons_self).1 (by omega)) (Ev.neg ?_ (Ev.ret _))))
        simpa only [bodOk] using hb
end Go.Dvm.I

set_option linter.all false
set_option maxRecDepth 100000
namespace Go.Dvm.I
open Go Go.Dvm

def lensB (F : List (List Int)) : List Int := F.flatMap fun f => put (f.length : Int)
theorem lensB_cons (f : List Int) (F : List (List Int)) : lensB (f :: F) = put (f.length : Int) ++ lensB F := by simp [lensB]
theorem lensB_len (F : List (List Int)) : (lensB F).length ≤ 10 * F.length := by
  induction F with
  | nil => simp [lensB]
  | cons f F ih =>
    have := put_len (f.length : Int)
    rw [lensB_cons, List.length_append, List.length_cons]; omega
/-- The data of a footer, by the frames ahead of it. -/
def footD (F : List (List Int)) : List Int := put ((F.length : Int) - 1) ++ lensB F.dropLast
theorem footD_len (F : List (List Int)) : (footD F).length ≤ 10 * F.length + 10 := by
  have h1 := put_len ((F.length : Int) - 1)
  have h2 := lensB_len F.dropLast
  rw [List.length_dropLast] at h2
  unfold footD; rw [List.length_append]; omega
theorem segment_footer_l0_ev (z : Bool) (L : List (Sl Int)) (hL : L.length ≤ 100000) (he : ∀ e ∈ L, e.l.length ≤ 4294967296) : ∀ (k i : Nat) (n : Bool) (l : List Int), L.length = i + k → l.length ≤ 10 * i + 10 → isB l →
    ∃ z', Ev (fun q => segment_footer_l0 q z L (L.length : Int) (i : Int) n l true) ⟨z', true, encF (l ++ lensB ((L.drop i).map (·.l)))⟩
  | 0, i, n, l, hk, hl, hb => by
    rw [List.drop_of_length_le (by omega)]
    obtain ⟨z', h⟩ := segment_framed_ev ⟨n, l⟩ hb (by simp only; omega)
    refine ⟨z', Ev.succ (Ev.neg (by omega) (Ev.bind h (Ev.ret' ?_))) (fun q => rfl)⟩
    simp [lensB]
  | k + 1, i, n, l, hk, hl, hb => by
    have hi : i < L.length := by omega
    have hg : L[((i : Int)).toNat]? = some L[i] := by simp [hi]
    have hm := he L[i] (List.getElem_mem hi)
    have hp := put_len (L[i].l.length : Int)
    obtain ⟨z', ih⟩ := segment_footer_l0_ev z L hL he k (i + 1) false (l ++ put (L[i].l.length : Int)) (by omega) (by rw [List.length_append]; omega) (isB_app.2 ⟨hb, put_isB _⟩)
    rw [show ((i + 1 : Nat) : Int) = wrp .i64 ((i : Int) + 1) by rw [wrp_i64 (by omega) (by omega)]; omega] at ih
    refine ⟨z', Ev.succ (Ev.pos (by omega) (Ev.pos (by omega) (Ev.opt hg (Ev.bind (num_Put_ev ⟨n, true, l⟩ (by omega) (by omega) (by simp only; omega)) (Ev.cast ih ?_))))) (fun q => rfl)⟩
    rw [List.drop_eq_getElem_cons hi, List.map_cons, lensB_cons, List.append_assoc]
theorem segment_footer_ev (s : Sl (Sl Int)) (h1 : 1 ≤ s.l.length) (h2 : s.l.length ≤ 100000) (h3 : ∀ e ∈ s.l, e.l.length ≤ 4294967296) : ∃ z, Ev (fun q => segment_footer q s) ⟨z, true, encF (footD (s.l.map (·.l)))⟩ := by
  have hw : wrp .i64 ((s.l.length : Int) - 1) = ((s.l.length - 1 : Nat) : Int) := by rw [wrp_i64 (by omega) (by omega)]; omega
  have hp := put_len ((s.l.length - 1 : Nat) : Int)
  have ht : (s.l.take (s.l.length - 1)).length = s.l.length - 1 := by rw [List.length_take]; omega
  obtain ⟨z, h⟩ := segment_footer_l0_ev s.z (s.l.take (s.l.length - 1)) (by omega) (fun e he => h3 e (List.mem_of_mem_take he)) (s.l.length - 1) 0 false ([] ++ put ((s.l.length - 1 : Nat) : Int)) (by omega) (by simpa using hp) (by simpa using put_isB _)
  rw [ht] at h
  refine ⟨z, Ev.succ (g := fun q => (num_Put q ⟨true, true, []⟩ (wrp .i64 ((s.l.length : Int) - 1))).bind fun r1 => (if 0 ≤ (wrp .i64 ((s.l.length : Int) - 1)) then (if (wrp .i64 ((s.l.length : Int) - 1)).toNat ≤ s.l.length then (segment_footer_l0 q s.z (List.take ((wrp .i64 ((s.l.length : Int) - 1)).toNat) s.l) (((min ((wrp .i64 ((s.l.length : Int) - 1)).toNat) s.l.length) : Nat) : Int) 0 r1.n r1.xs r1.x) else none) else none)) ?_ (fun q => rfl)⟩
  rw [hw]
  simp only [Int.toNat_natCast]
  refine Ev.bind (num_Put_ev ⟨true, true, []⟩ (by omega) (by omega) (by simp)) (Ev.pos (by omega) (Ev.pos (by omega) ?_))
  rw [Nat.min_eq_left (by omega)]
  refine Ev.cast h ?_
  simp only [footD, List.nil_append, List.drop_zero, List.length_map, ← List.map_dropLast, List.dropLast_eq_take, ← List.map_take]
  rw [show (s.l.length : Int) - 1 = ((s.l.length - 1 : Nat) : Int) by omega]
/-- A segment's frames but the footer, and its bytes. -/
def segF (v k f : Int) (l : List S_api_Record) : List (List Int) := encF (headD v k f) :: blocksB v l.length l
def segE (v k f : Int) (l : List S_api_Record) : List Int := (segF v k f l).flatten ++ encF (footD (segF v k f l))
def segOk (k f : Int) (l : List S_api_Record) : Prop := ¬ headBad k f ∧ (chainB l f && decide ((l.length : Int) ≤ 4096)) = true
instance (k f : Int) (l : List S_api_Record) : Decidable (segOk k f l) := by unfold segOk; infer_instance
theorem encF_headD_len (v k f : Int) : (encF (headD v k f)).length ≤ 45 := by
  have h1 := (headD_ok v k f).2
  have h2 := (encF_lens (headD v k f)).1
  omega
theorem notBad {k f : Int} (h : ¬ headBad k f) : 0 ≤ k ∧ k < 6 ∧ 0 ≤ f ∧ f < 4611686018427387904 := by unfold headBad at h; omega
theorem segment_Encode_ev (v : Int) (s : S_api_Segment) (hL : s.Records.l.length ≤ 80000) : Ev (fun q => segment_Encode q v s) (if v < 1 ∨ 3 < v then (⟨true, true, []⟩, 6) else if segOk s.Kind s.First s.Records.l then (⟨false, true, segE v s.Kind s.First s.Records.l⟩, 0) else (⟨true, true, []⟩, 1)) := by
  obtain ⟨z, hh⟩ := segment_Head_ev v s.Kind s.First
  by_cases hv : v < 1 ∨ 3 < v
  · rw [if_pos hv] at hh ⊢
    exact Ev.succ (Ev.bind hh (Ev.neg (by simp only; omega) (Ev.ret _))) (fun q => rfl)
  · rw [if_neg hv] at hh ⊢
    by_cases hb : headBad s.Kind s.First
    · rw [if_pos hb] at hh
      rw [if_neg (fun h => h.1 hb)]
      exact Ev.succ (Ev.bind hh (Ev.neg (by simp only; omega) (Ev.ret _))) (fun q => rfl)
    · rw [if_neg hb] at hh
      have hk := notBad hb
      refine Ev.succ (Ev.bind hh (Ev.pos rfl (Ev.bind (segment_fit_ev s.Records s.First ⟨hk.2.2.1, hk.2.2.2⟩ (by omega)) (Ev.ite (fun h => ?_) fun h => ?_)))) (fun q => rfl)
      · rw [if_pos ⟨hb, h⟩]
        have hc : chainB s.Records.l s.First = true := by simp only [Bool.and_eq_true] at h; exact h.1
        have hf := chainB_fits hc
        obtain ⟨z1, X, h1, h2⟩ := segment_blocks_ev (v := v) (by omega) (by omega) s.Records hc (by omega)
        obtain ⟨h3, h4⟩ := blocksB_len (v := v) (k := s.Records.l.length) hf
        have h5 : X.length ≤ s.Records.l.length := by rw [← h2, List.length_map] at h4; exact h4
        have hhl := encF_headD_len v s.Kind s.First
        have hF : ([⟨z, encF (headD v s.Kind s.First)⟩] ++ X : List (Sl Int)).map (·.l) = segF v s.Kind s.First s.Records.l := by simp [segF, h2]
        have hFl : (flat ([⟨z, encF (headD v s.Kind s.First)⟩] ++ X)).length ≤ 4000000000 := by
          rw [flat_map, hF]; simp only [segF, List.flatten_cons, List.length_append]; omega
        obtain ⟨z2, hC⟩ := Concat_ev ⟨false, [⟨z, encF (headD v s.Kind s.First)⟩] ++ X⟩ (by simp; omega) (by simp only; omega)
        obtain ⟨z3, hF2⟩ := segment_footer_ev ⟨false, [⟨z, encF (headD v s.Kind s.First)⟩] ++ X⟩ (by simp) (by simp; omega) (fun e he => by
          have : e.l ∈ (([⟨z, encF (headD v s.Kind s.First)⟩] ++ X : List (Sl Int)).map (·.l)) := List.mem_map_of_mem (f := fun x : Sl Int => x.l) he
          rw [hF] at this
          rcases List.mem_cons.1 this with e1 | e1
          · rw [e1]; omega
          · have := blocksB_each hf _ e1; omega)
        have hfl := footD_len (segF v s.Kind s.First s.Records.l)
        have hfs : (segF v s.Kind s.First s.Records.l).length ≤ 80001 := by rw [← hF]; simp; omega
        have hfe := encF_lens (footD (segF v s.Kind s.First s.Records.l))
        simp only [hF] at hF2
        refine Ev.bind h1 (Ev.pos (by simp only; omega) (Ev.bind hC (Ev.bind hF2 (Ev.pos (by simp only; omega) (Ev.ret' ?_)))))
        simp only [flat_map, hF, segE]
        rw [show decide ((encF (footD (segF v s.Kind s.First s.Records.l))).length = 0) = false by simp only [decide_eq_false_iff_not]; omega, Bool.and_false]
      · rw [if_neg (fun h' => h h'.2)]; exact Ev.ret _
theorem put_lt {n : Int} (h1 : 0 ≤ n) (h2 : n < 128) : put n = [n] := by
  rw [put_ok h1 (by omega), grp_lt (by omega)]; simp; omega
theorem segE_nil : segE 3 0 0 [] = [4, 108, 3, 0, 0] ++ (fix4 (bsum [4, 108, 3, 0, 0]).toNat ++ ([1, 0] ++ fix4 (bsum [1, 0]).toNat)) := by
  have h1 : encF (headD 3 0 0) = [4, 108, 3, 0, 0] ++ fix4 (bsum [4, 108, 3, 0, 0]).toNat := by
    simp [encF, headD, put_lt]
  have h2 : encF [0] = [1, 0] ++ fix4 (bsum [1, 0]).toNat := by simp [encF, put_lt]
  simp only [segE, segF, blocksB, List.length_nil, List.flatten_cons, List.flatten_nil, footD, List.length_cons]
  simp only [List.dropLast_singleton, lensB, List.flatMap_nil, List.append_nil]
  rw [show put (((0 + 1 : Nat) : Int) - 1) = [0] from by simp [put_lt], h1, h2]
  simp only [List.append_assoc]
theorem awake08_ev : Ev (fun q => ferrymanlaw08_awake q) true := by
  have h := segment_Encode_ev 3 (⟨0, 0, ⟨true, []⟩⟩ : S_api_Segment) (by simp)
  rw [if_neg (by omega), if_pos (by simp [segOk, headBad, chainB])] at h
  simp only [segE_nil] at h
  refine Ev.succ (Ev.bind h (Ev.pos rfl (Ev.pos (by simp [fix4]) (Ev.pos (by simp [fix4]) (Ev.neg (by simp) (Ev.pos (by simp [fix4]) (Ev.pos (by simp [fix4]) (Ev.ret' (by simp [fix4]))))))))) (fun q => rfl)
end Go.Dvm.I

set_option linter.all false
set_option maxRecDepth 100000
namespace Go.Dvm.I
open Go Go.Dvm

theorem blocksB_fuel {v : Int} : ∀ {k k' : Nat} {l : List S_api_Record}, l.length ≤ 16 * k → l.length ≤ 16 * k' → blocksB v k l = blocksB v k' l
  | 0, 0, l, _, _ => rfl
  | 0, k' + 1, l, h, _ => by simp only [blocksB]; rw [if_pos (by omega)]
  | k + 1, 0, l, _, h => by simp only [blocksB]; rw [if_pos (by omega)]
  | k + 1, k' + 1, l, h, h' => by
    simp only [blocksB]
    split
    · rfl
    · rw [blocksB_fuel (k := k) (k' := k') (l := l.drop 16) (by rw [List.length_drop]; omega) (by rw [List.length_drop]; omega)]
theorem blocksB_app {v : Int} : ∀ {b k : Nat} {l m : List S_api_Record}, l.length = 16 * b → blocksB v (b + k) (l ++ m) = blocksB v b l ++ blocksB v k m
  | 0, k, l, m, h => by
    have : l = [] := List.eq_nil_of_length_eq_zero (by omega)
    subst this; simp [blocksB]
  | b + 1, k, l, m, h => by
    rw [show b + 1 + k = (b + k) + 1 by omega]
    simp only [blocksB]
    rw [if_neg (by rw [List.length_append]; omega), if_neg (by omega)]
    rw [List.take_append_of_le_length (by omega), List.drop_append_of_le_length (by omega), blocksB_app (b := b) (k := k) (by rw [List.length_drop]; omega)]
    rfl
theorem bodyB_app {v : Int} {b : Nat} {l m : List S_api_Record} (h : l.length = 16 * b) : bodyB v (l ++ m) = bodyB v l ++ bodyB v m := by
  unfold bodyB
  rw [blocksB_fuel (k := (l ++ m).length) (k' := b + m.length) (by omega) (by rw [List.length_append]; omega), blocksB_app h, List.flatten_append, blocksB_fuel (k := b) (k' := l.length) (by omega) (by omega)]
theorem bodOk_of {l : List S_api_Record} {f : Int} (h : chainB l f = true) (hl : l.length ≤ 4096) : bodOk l = true := by
  cases l with
  | nil => rfl
  | cons r l =>
    have h2 := h
    simp only [chainB, Bool.and_eq_true, decide_eq_true_eq] at h2
    simp only [bodOk, Bool.and_eq_true, decide_eq_true_eq]
    rw [h2.2.1]; exact ⟨h, by omega⟩
theorem ferrymanlaw08_SegmentParts_true : ∀ (a0 : Int) (a1 : S_api_Segment) (a2 : Int), inR .i64 a0 → S_api_Segment.ok a1 → inR .i64 a2 → ∃ q, ferrymanlaw08_SegmentParts q a0 a1 a2 = some true := by
  intro v s n hv hs hn
  refine Ev.get (Ev.succ (Ev.bind awake08_ev (Ev.pos rfl (Ev.ite (fun h => Ev.ret _) fun h => Ev.ite (fun h1 => Ev.ret _) fun h1 => Ev.ite (fun h2 => Ev.ret _) fun h2 => Ev.ite (fun h3 => Ev.ret _) fun h3 => ?_))) (fun q => rfl))
  obtain ⟨b, rfl⟩ : ∃ b : Nat, n = (b : Int) := ⟨n.toNat, by omega⟩
  have hw : wrp .i64 ((b : Int) * 16) = ((16 * b : Nat) : Int) := by rw [wrp_i64 (by omega) (by omega)]; omega
  rw [hw] at h3
  rw [hw]
  simp only [Int.toNat_natCast]
  have hb : 16 * b ≤ s.Records.l.length := by omega
  have ht : (s.Records.l.take (16 * b)).length = 16 * b := by rw [List.length_take]; omega
  have ho := hs.2.2.2.2
  obtain ⟨z1, e1⟩ := segment_Body_ev v ⟨s.Records.z, s.Records.l.take (16 * b)⟩ (fun r hr => ho r (List.mem_of_mem_take hr)) (by simp only; omega)
  obtain ⟨z2, e2⟩ := segment_Body_ev v ⟨s.Records.z, s.Records.l.drop (16 * b)⟩ (fun r hr => ho r (List.mem_of_mem_drop hr)) (by simp only [List.length_drop]; omega)
  obtain ⟨z3, e3⟩ := segment_Body_ev v s.Records ho (by omega)
  refine Ev.pos (by omega) (Ev.pos (by omega) (Ev.bind e1 (Ev.pos (by omega) (Ev.bind e2 (Ev.bind e3 ?_)))))
  by_cases hver : v < 1 ∨ 3 < v
  · simp only [if_pos hver]
    exact Ev.neg (by decide) (Ev.ret _)
  · simp only [if_neg hver]
    by_cases hb1 : bodOk s.Records.l = true
    · obtain ⟨f, hc⟩ := bodOk_chain hb1
      have c1 := chainB_take hc (16 * b)
      have c2 := chainB_drop hc (16 * b)
      have f1 := blocksB_len (v := v) (k := (s.Records.l.take (16 * b)).length) (chainB_fits c1)
      have f2 := blocksB_len (v := v) (k := (s.Records.l.drop (16 * b)).length) (chainB_fits c2)
      simp only [if_pos hb1, if_pos (bodOk_of c1 (by omega)), if_pos (bodOk_of c2 (by rw [List.length_drop]; omega))]
      rw [List.length_drop] at f2
      refine Ev.pos trivial (Ev.pos trivial (Ev.pos trivial (Ev.pos (by unfold bodyB; rw [List.length_drop]; omega) (Ev.ret' ?_))))
      rw [← bodyB_app ht, List.take_append_drop]
      simp
    · simp only [if_neg hb1]
      exact Ev.neg (by decide) (Ev.ret _)
end Go.Dvm.I
