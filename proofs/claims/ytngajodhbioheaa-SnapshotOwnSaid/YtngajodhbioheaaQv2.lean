/- A small machine over plain values, and its soundness over the model: part 3. -/
import Derived.Control
import Derived.Calls
import Derived.Laws.World
import Derived.Laws.Sem
import Derived.Laws.Cells
import Derived.Laws.CopyRow
import Derived.Tactics
import Derived.RowKit
import Derived.Laws.Strings
import Derived.Laws.StructEq
import Derived.Laws.BytesArg
import Derived.Laws.Tables
import Derived.Laws.AppendOwn
import Derived.Laws.Entries
import Derived.Laws.Small
import Derived.Laws.MakeOwn
import Derived.Great.BuildSlice
import GoSem.Builtin.Clear
import Derived.MapKept
import Derived.Orders
import Derived.ChangeArms
import Derived.Below
import Derived.Carry
import Derived.OpenShut
import Derived.WideShapes
import Derived.Test.YtngajodhbioheaaQv1
set_option linter.all false
set_option maxRecDepth 100000
namespace Go.Dvm
def lenV (H : Hp) (str : Bool) (v : V) : Option (V × Hp) := match str, v with
  | false, .sl _ xs => some (.int .i64 xs.length, H)
  | false, .psl xs => some (.int .i64 xs.length, H)
  | false, .vw id ver _ len _ => (row? H id ver).bind fun _ => some (.int .i64 len, H)
  | true, .str l => some (.int .i64 l.length, H)
  | _, _ => none
def capV (H : Hp) (v : V) : Option (V × Hp) := match v with
  | .sl true [] => some (.int .i64 0, H)
  | .vw id ver _ _ _ => (row? H id ver).bind fun r => if r.1 = true then some (.int .i64 0, H) else none
  | _ => none
def mmV (H : Hp) (mx : Bool) (l : List V) : Option (V × Hp) := match l with
  | [.int k a, .int k' b] => if k = k' then some (.int k (if mx = true then (if a < b then b else a) else (if b < a then b else a)), H) else none
  | _ => none
def appzV (H : Hp) (x n : V) (sz : Nat) (zero : V) : Option (V × Hp) := match n with
  | .int _ n => (match x with
   | .sl true [] => if 0 ≤ n then (if n.toNat ≤ most then some (.vw H.length 0 0 n.toNat 1, H ++ [.row 0 (decide (n = 0)) sz (List.replicate n.toNat zero) true]) else none) else none
   | _ => none)
  | _ => none
def clrV (H : Hp) (x : V) (zero : V) : Option (V × Hp) := match x with
  | .vw id ver off len _ => (row? H id ver).bind fun r => if r.2.2.2 = true ∧ (leaves zero).length = r.2.1 then some (.tup [], H.set id (.row ver r.1 r.2.1 (r.2.2.1.take off ++ List.replicate len zero ++ r.2.2.1.drop (off + len)) true)) else none
  | _ => none
def mlookV (H : Hp) (x k : V) : Option (V × Hp) := (mapOf H x).bind fun m => (intOf k).bind fun n => some (.int .i64 (mget m n), H)
def mputV (H : Hp) (x k v : V) : Option (V × Hp) := (mapOf H x).bind fun m => (intOf k).bind fun n => (intOf v).bind fun y => (mpId x).bind fun id => some (.tup [], H.set id (.map (mset m n y)))
noncomputable def onC (T : Nat → Option MFun) (O : Orc) (d : Option Nat) (op : MOp) (want : Bool) (l : List MO) (fr : Fr) (H : Hp) : V → Option (Ex × Fr × Hp)
 | .bool b => if b = want then goC T O l fr H d (ev T O fr H op) else runC T O l (upd d (V.tup []) fr) H
 | .tup [] => runC T O l (upd d (V.tup []) fr) H
 | _ => none
def canonO (h0 : Nat) (H : Hp) (vs : Fr) (ord : List Nat) : Fr × Hp := (vs.map fun p => (p.1, ren h0 ord H p.2), (H.take h0).map (renB h0 ord H false) ++ ord.map fun i => renB h0 ord H true (H.getD i .dead))
def canonK (h0 : Nat) (H : Hp) (vs : Fr) : Fr × Hp := canonO h0 H vs (reach h0 H H.length (addNew [] (vs.flatMap (fun p => idsV h0 p.2) ++ (H.take h0).flatMap (idsB h0))))
def reachK (h0 : Nat) (H : Hp) (n : Nat) (seen more : List Nat) : List Nat := if more.length = seen.length then seen else reach h0 H n more
section
variable {T : Nat → Option MFun} {O : Orc} {m h0 : Nat} {fr : Fr} {H : Hp}
theorem runC_g (l : List MO) (d : Option Nat) (op : MOp) (g : Nat) (want : Bool) : runC T O (⟨d, op, some (g, want)⟩ :: l) fr H = onC T O d op want l fr H (get g fr) := by
 unfold onC
 split
 ·rename_i b hb
  by_cases h : b = want
  ·subst h; rw [if_pos rfl]; exact zjc hb
  ·rw [if_neg h]; refine zjd (want := want) ?_; rw [hb]; cases b <;> cases want <;> first | rfl | exact absurd rfl h
 ·rename_i hb; exact zje hb
 ·rename_i h1 h2
  refine zja fun f hf => ?_
  unfold step at hf
  split at hf
  ·rename_i h; cases h
  ·rename_i g' w' hg
   simp only [y1, y7] at hg
   obtain ⟨rfl, rfl⟩ := hg
   split at hf
   ·rename_i b hb; exact absurd hb (h1 b)
   ·rename_i hb; exact absurd hb h2
   ·cases hf
theorem kk0 : (∀ {fr : Fr} (n : Nat), MArg.val fr (.t n) = get n fr) ∧
 (∀ {fr : Fr} (v : V), MArg.val fr (.c v) = v) ∧
 (∀ {fr : Fr} (t d : Nat) (v : V), get t ((d, v) :: fr) = if t = d then v else get t fr) ∧
 (∀  (t : Nat), get t [] = .junk) ∧
 (∀ {fr : Fr} , MArgs.vals fr [] = []) ∧
 (∀ {fr : Fr} (x : MArg) (xs : List MArg), MArgs.vals fr (x :: xs) = x.val fr :: MArgs.vals fr xs) ∧
 (∀  (n : Nat), params n [] = []) ∧
 (∀  (n : Nat) (v : V) (l : List V), params n (v :: l) = (n, v) :: params (n + 1) l) ∧
 (∀ {fr : Fr} , optInt fr none = some none) ∧
 (∀ {fr : Fr} (x : MArg), optInt fr (some x) = match x.val fr with | .int _ n => some (some n) | _ => none) ∧
 (∀ {T : Nat → Option MFun} {O : Orc} {fr : Fr} {H : Hp} (x : MArg), ev T O fr H (.mv x) = some (x.val fr, H)) ∧
 (∀ {T : Nat → Option MFun} {O : Orc} {fr : Fr} {H : Hp} (sz : Nat), ev T O fr H (.nil sz) = some (.vw H.length 0 0 0 1, H ++ [.row 0 true sz [] true])) ∧
 (∀ {T : Nat → Option MFun} {O : Orc} {fr : Fr} {H : Hp} (c a b : MArg), ev T O fr H (.pick c a b) = match c.val fr with | .bool c => some (if c = true then a.val fr else b.val fr, H) | _ => none) ∧
 (∀ {T : Nat → Option MFun} {O : Orc} {fr : Fr} {H : Hp} (op : BinOp) (x y : MArg), ev T O fr H (.bin op x y) = (vbin op (x.val fr) (y.val fr)).bind fun v => some (v, H)) ∧
 (∀ {T : Nat → Option MFun} {O : Orc} {fr : Fr} {H : Hp} (neg : Bool) (ks : List Nat) (x y : MArg), ev T O fr H (.eqn neg ks x y) = (veq ks (x.val fr) (y.val fr)).bind fun b => some (.bool (if neg = true then !b else b), H)) ∧
 (∀ {T : Nat → Option MFun} {O : Orc} {fr : Fr} {H : Hp} (neg : Bool) (k : Nat) (x : MArg), ev T O fr H (.isnil neg k x) = (visnil H k (x.val fr)).bind fun b => some (.bool (if neg = true then !b else b), H)) ∧
 (∀ {T : Nat → Option MFun} {O : Orc} {fr : Fr} {H : Hp} (op : UnOp) (x : MArg), ev T O fr H (.un op x) = (vun op (x.val fr)).bind fun v => some (v, H)) ∧
 (∀ {T : Nat → Option MFun} {O : Orc} {fr : Fr} {H : Hp} (k : IntKind) (x : MArg), ev T O fr H (.conv k x) = match x.val fr with | .int _ n => some (.int k (wrp k n), H) | _ => none) ∧
 (∀ {T : Nat → Option MFun} {O : Orc} {fr : Fr} {H : Hp} (x : MArg), ev T O fr H (.b2s x) = (elems H (x.val fr)).bind fun p => if u8s p = true then some (.str (p.map num), H) else none) ∧
 (∀ {T : Nat → Option MFun} {O : Orc} {fr : Fr} {H : Hp} (x : MArg) (i : Nat), ev T O fr H (.ext x i) = match x.val fr with | .tup vs => (vs[i]?).bind fun v => some (v, H) | _ => none) ∧
 (∀ {T : Nat → Option MFun} {O : Orc} {fr : Fr} {H : Hp} (x : MArg) (off n : Nat) (agg : Bool), ev T O fr H (.fld x off n agg) = match x.val fr with | .agg cs => (part cs off n agg).bind fun v => some (v, H) | _ => none) ∧
 (∀ {T : Nat → Option MFun} {O : Orc} {fr : Fr} {H : Hp} (zero : List V) (parts : List (Nat × Nat × MArg)), ev T O fr H (.bld zero parts) = (fillB fr zero parts).bind fun cs => some (.agg cs, H)) ∧
 (∀ {T : Nat → Option MFun} {O : Orc} {fr : Fr} {H : Hp} (zero : List V), ev T O fr H (.alloc zero) = some (.ptr H.length 0, H ++ [.box zero])) ∧
 (∀ {T : Nat → Option MFun} {O : Orc} {fr : Fr} {H : Hp} (x : MArg), ev T O fr H (.box x) = if goods (leaves (x.val fr)) = true then some (.ptr H.length 0, H ++ [.box (leaves (x.val fr))]) else none) := by
 refine ⟨?_, ?_, ?_, ?_, ?_, ?_, ?_, ?_, ?_, ?_, ?_, ?_, ?_, ?_, ?_, ?_, ?_, ?_, ?_, ?_, ?_, ?_, ?_, ?_⟩
 ·intro fr n; rfl
 ·intro fr v; rfl
 ·intro fr t d v; rfl
 ·intro t; rfl
 ·intro fr; rfl
 ·intro fr x xs; rfl
 ·intro n; rfl
 ·intro n v l; rfl
 ·intro fr; rfl
 ·intro fr x; rfl
 ·intro T O fr H x; rfl
 ·intro T O fr H sz; rfl
 ·intro T O fr H c a b; rfl
 ·intro T O fr H op x y; rfl
 ·intro T O fr H neg ks x y; rfl
 ·intro T O fr H neg k x; rfl
 ·intro T O fr H op x; rfl
 ·intro T O fr H k x; rfl
 ·intro T O fr H x; rfl
 ·intro T O fr H x i; rfl
 ·intro T O fr H x off n agg; rfl
 ·intro T O fr H zero parts; rfl
 ·intro T O fr H zero; rfl
 ·intro T O fr H x; rfl
theorem kk1 : (∀ {T : Nat → Option MFun} {O : Orc} {fr : Fr} {H : Hp} (x : MArg) (n : Nat) (agg : Bool), ev T O fr H (.load x n agg) = (vload H n agg (x.val fr)).bind fun v => some (v, H)) ∧
 (∀ {T : Nat → Option MFun} {O : Orc} {fr : Fr} {H : Hp} (x y : MArg) (n : Nat), ev T O fr H (.store x y n) = (vstore H n (x.val fr) (y.val fr)).bind fun H' => some (.tup [], H')) ∧
 (∀ {T : Nat → Option MFun} {O : Orc} {fr : Fr} {H : Hp} (x : MArg) (off : Nat), ev T O fr H (.faddr x off) = (vfaddr off (x.val fr)).bind fun v => some (v, H)) ∧
 (∀ {T : Nat → Option MFun} {O : Orc} {fr : Fr} {H : Hp} (x i : MArg) (sz : Nat), ev T O fr H (.iaddr x i sz) = match i.val fr with | .int _ n => (viaddr H sz (x.val fr) n).bind fun v => some (v, H) | _ => none) ∧
 (∀ {T : Nat → Option MFun} {O : Orc} {fr : Fr} {H : Hp} (x i : MArg) (len sz : Nat), ev T O fr H (.aaddr x i len sz) = match i.val fr, x.val fr with | .int _ n, .ptr id off => if 0 ≤ n then (if n.toNat < len then some (.ptr id (off + n.toNat * sz), H) else none) else none | _, _ => none) ∧
 (∀ {T : Nat → Option MFun} {O : Orc} {fr : Fr} {H : Hp} (x i : MArg) (len sz : Nat) (agg : Bool), ev T O fr H (.idx x i len sz agg) = match i.val fr, x.val fr with | .int _ n, .agg cs => if 0 ≤ n then (if n.toNat < len then (part cs (n.toNat * sz) sz agg).bind fun v => some (v, H) else none) else none | _, _ => none) ∧
 (∀ {T : Nat → Option MFun} {O : Orc} {fr : Fr} {H : Hp} (x : MArg), ev T O fr H (.nilck x) = match x.val fr with | .ptr id off => some (.ptr id off, H) | .ep id ver i j => some (.ep id ver i j, H) | .rp cs => some (.rp cs, H) | .fn f cs => some (.fn f cs, H) | _ => none) ∧
 (∀ {T : Nat → Option MFun} {O : Orc} {fr : Fr} {H : Hp} (f : Nat) (caps : List MArg), ev T O fr H (.mkfn f caps) = if goods (MArgs.vals fr caps) = true then some (.fn f (MArgs.vals fr caps), H) else none) ∧
 (∀ {T : Nat → Option MFun} {O : Orc} {fr : Fr} {H : Hp} (t : Nat) (x : MArg), ev T O fr H (.mkif t x) = if good (x.val fr) = true then some (.ifc t (x.val fr), H) else none) ∧
 (∀ {T : Nat → Option MFun} {O : Orc} {fr : Fr} {H : Hp} (x : MArg) (lo hi mx : Option MArg) (sz : Nat), ev T O fr H (.slc x lo hi mx sz) = (optInt fr lo).bind fun l => (optInt fr hi).bind fun h => (optInt fr mx).bind fun u => vslc H sz (x.val fr) l h u) ∧
 (∀ {T : Nat → Option MFun} {O : Orc} {fr : Fr} {H : Hp} (sz : Nat) (parts : List MArg), ev T O fr H (.bsl sz parts 0) = (shareE H (MArgs.vals fr parts)).bind fun p => if sizes sz p.1 = true then some (.sl false p.1, p.2) else none) ∧
 (∀ {T : Nat → Option MFun} {O : Orc} {fr : Fr} {H : Hp} (sz : Nat) (parts : List MArg), ev T O fr H (.bsl sz parts 1) = (shareE H (MArgs.vals fr parts)).bind fun p => if sizes sz p.1 = true then some (.vw p.2.length 0 0 p.1.length 1, p.2 ++ [.row 0 false sz p.1 true]) else none) ∧
 (∀ {T : Nat → Option MFun} {O : Orc} {fr : Fr} {H : Hp} (sz : Nat) (parts : List MArg), ev T O fr H (.bsl sz parts 2) = if goods (MArgs.vals fr parts) = true then some (.psl (MArgs.vals fr parts), H) else none) ∧
 (∀ {T : Nat → Option MFun} {O : Orc} {fr : Fr} {H : Hp} (sz : Nat) (zero : V) (len : MArg), ev T O fr H (.msl sz zero len) = match len.val fr with | .int _ n => if 0 ≤ n then (if n.toNat ≤ most then some (.vw H.length 0 0 n.toNat 1, H ++ [.row 0 false sz (List.replicate n.toNat zero) true]) else none) else none | _ => none) ∧
 (∀ {T : Nat → Option MFun} {O : Orc} {fr : Fr} {H : Hp} (str : Bool) (x : MArg), ev T O fr H (.len str x) = lenV H str (x.val fr)) ∧
 (∀ {H : Hp} (z : Bool) (xs : List V), lenV H false (.sl z xs) = some (.int .i64 xs.length, H)) ∧
 (∀ {H : Hp} (xs : List V), lenV H false (.psl xs) = some (.int .i64 xs.length, H)) ∧
 (∀ {H : Hp} (id ver off len md : Nat), lenV H false (.vw id ver off len md) = (row? H id ver).bind fun _ => some (.int .i64 len, H)) ∧
 (∀ {H : Hp} (l : List Int), lenV H true (.str l) = some (.int .i64 l.length, H)) ∧
 (∀ {T : Nat → Option MFun} {O : Orc} {fr : Fr} {H : Hp} (x : MArg), ev T O fr H (.cap x) = capV H (x.val fr)) ∧
 (∀ {H : Hp} , capV H (.sl true []) = some (.int .i64 0, H)) ∧
 (∀ {H : Hp} (id ver off len md : Nat), capV H (.vw id ver off len md) = (row? H id ver).bind fun r => if r.1 = true then some (.int .i64 0, H) else none) ∧
 (∀ {T : Nat → Option MFun} {O : Orc} {fr : Fr} {H : Hp} (mx : Bool) (xs : List MArg), ev T O fr H (.mm mx xs) = mmV H mx (MArgs.vals fr xs)) ∧
 (∀ {H : Hp} (k : IntKind) (a b : Int), mmV H true [.int k a, .int k b] = some (.int k (if a < b then b else a), H)) := by
 refine ⟨?_, ?_, ?_, ?_, ?_, ?_, ?_, ?_, ?_, ?_, ?_, ?_, ?_, ?_, ?_, ?_, ?_, ?_, ?_, ?_, ?_, ?_, ?_, ?_⟩
 ·intro T O fr H x n agg; rfl
 ·intro T O fr H x y n; rfl
 ·intro T O fr H x off; rfl
 ·intro T O fr H x i sz; rfl
 ·intro T O fr H x i len sz; rfl
 ·intro T O fr H x i len sz agg; rfl
 ·intro T O fr H x; rfl
 ·intro T O fr H f caps; rfl
 ·intro T O fr H t x; rfl
 ·intro T O fr H x lo hi mx sz; rfl
 ·intro T O fr H sz parts; rfl
 ·intro T O fr H sz parts; rfl
 ·intro T O fr H sz parts; rfl
 ·intro T O fr H sz zero len; rfl
 ·intro T O fr H str x; rfl
 ·intro H z xs; rfl
 ·intro H xs; rfl
 ·intro H id ver off len md; rfl
 ·intro H l; rfl
 ·intro T O fr H x; rfl
 ·intro H; rfl
 ·intro H id ver off len md; rfl
 ·intro T O fr H mx xs; rfl
 ·intro H k a b; simp [mmV]
theorem kk2 : (∀ {H : Hp} (k : IntKind) (a b : Int), mmV H false [.int k a, .int k b] = some (.int k (if b < a then b else a), H)) ∧
 (∀ {T : Nat → Option MFun} {O : Orc} {fr : Fr} {H : Hp} (x y : MArg) (sz : Nat), ev T O fr H (.app x y sz) = (elems H (y.val fr)).bind fun ys => if sizes sz ys = true then appv H sz (x.val fr) ys else none) ∧
 (∀ {T : Nat → Option MFun} {O : Orc} {fr : Fr} {H : Hp} (x n : MArg) (sz : Nat) (zero : V), ev T O fr H (.appz x n sz zero) = appzV H (x.val fr) (n.val fr) sz zero) ∧
 (∀ {H : Hp} (k : IntKind) (n : Int) (sz : Nat) (zero : V), appzV H (.sl true []) (.int k n) sz zero = if 0 ≤ n then (if n.toNat ≤ most then some (.vw H.length 0 0 n.toNat 1, H ++ [.row 0 (decide (n = 0)) sz (List.replicate n.toNat zero) true]) else none) else none) ∧
 (∀ {T : Nat → Option MFun} {O : Orc} {fr : Fr} {H : Hp} (f : Nat) (as : List MArg), ev T O fr H (.call f as) = vcall T O f (MArgs.vals fr as) H) ∧
 (∀ {T : Nat → Option MFun} {O : Orc} {fr : Fr} {H : Hp} (x : MArg) (as : List MArg), ev T O fr H (.callv x as) = match x.val fr with | .fn f cs => vcall T O f (MArgs.vals fr as ++ cs) H | _ => none) ∧
 (most = 4294967296) ∧
 (∀  (k : IntKind) (a b : Int), vbin .add (.int k a) (.int k b) = some (.int k (wrp k (a + b)))) ∧
 (∀  (k : IntKind) (a b : Int), vbin .sub (.int k a) (.int k b) = some (.int k (wrp k (a - b)))) ∧
 (∀  (k : IntKind) (a b : Int), vbin .mul (.int k a) (.int k b) = some (.int k (wrp k (a * b)))) ∧
 (∀  (k : IntKind) (a b : Int), vbin .quo (.int k a) (.int k b) = if b = 0 then none else some (.int k (wrp k (a.tdiv b)))) ∧
 (∀  (k : IntKind) (a b : Int), vbin .rem (.int k a) (.int k b) = if b = 0 then none else some (.int k (a.tmod b))) ∧
 (∀  (k : IntKind) (a b : Int), vbin .and (.int k a) (.int k b) = some (.int k (ibits .and k a b))) ∧
 (∀  (k : IntKind) (a b : Int), vbin .or (.int k a) (.int k b) = some (.int k (ibits .or k a b))) ∧
 (∀  (k : IntKind) (a b : Int), vbin .xor (.int k a) (.int k b) = some (.int k (ibits .xor k a b))) ∧
 (∀  (k : IntKind) (a b : Int), vbin .andNot (.int k a) (.int k b) = some (.int k (ibits .andNot k a b))) ∧
 (∀  (k k' : IntKind) (a b : Int), vbin .shl (.int k a) (.int k' b) = if b < 0 then none else some (.int k (ishl k a b))) ∧
 (∀  (k k' : IntKind) (a b : Int), vbin .shr (.int k a) (.int k' b) = if b < 0 then none else some (.int k (ishr k a b))) ∧
 (∀  (k : IntKind) (a b : Int), vbin .eql (.int k a) (.int k b) = some (.bool (decide (a = b)))) ∧
 (∀  (k : IntKind) (a b : Int), vbin .neq (.int k a) (.int k b) = some (.bool (!decide (a = b)))) ∧
 (∀  (k : IntKind) (a b : Int), vbin .lss (.int k a) (.int k b) = some (.bool (decide (a < b)))) ∧
 (∀  (k : IntKind) (a b : Int), vbin .leq (.int k a) (.int k b) = some (.bool (decide (a ≤ b)))) ∧
 (∀  (k : IntKind) (a b : Int), vbin .gtr (.int k a) (.int k b) = some (.bool (decide (b < a)))) ∧
 (∀  (k : IntKind) (a b : Int), vbin .geq (.int k a) (.int k b) = some (.bool (decide (b ≤ a)))) := by
 refine ⟨?_, ?_, ?_, ?_, ?_, ?_, ?_, ?_, ?_, ?_, ?_, ?_, ?_, ?_, ?_, ?_, ?_, ?_, ?_, ?_, ?_, ?_, ?_, ?_⟩
 ·intro H k a b; simp [mmV]
 ·intro T O fr H x y sz; rfl
 ·intro T O fr H x n sz zero; rfl
 ·intro H k n sz zero; rfl
 ·intro T O fr H f as; rfl
 ·intro T O fr H x as; rfl
 ·rfl
 ·intro k a b; simp [vbin]
 ·intro k a b; simp [vbin]
 ·intro k a b; simp [vbin]
 ·intro k a b; simp [vbin]
 ·intro k a b; simp [vbin]
 ·intro k a b; simp [vbin]
 ·intro k a b; simp [vbin]
 ·intro k a b; simp [vbin]
 ·intro k a b; simp [vbin]
 ·intro k k' a b; rfl
 ·intro k k' a b; rfl
 ·intro k a b; simp [vbin]
 ·intro k a b; simp [vbin]
 ·intro k a b; simp [vbin]
 ·intro k a b; simp [vbin]
 ·intro k a b; simp [vbin]
 ·intro k a b; simp [vbin]
theorem kk3 : (∀  (a b : List Int), vbin .eql (.str a) (.str b) = some (.bool (decide (a = b)))) ∧
 (∀  (a b : List Int), vbin .neq (.str a) (.str b) = some (.bool (!decide (a = b)))) ∧
 (∀  (a b : List Int), vbin .add (.str a) (.str b) = if a.length + b.length ≤ 1099511627776 then some (.str (a ++ b)) else none) ∧
 (∀  (k : IntKind) (n : Int), vun .neg (.int k n) = some (.int k (wrp k (0 - n)))) ∧
 (∀  (b : Bool), vun .not (.bool b) = some (.bool !b)) ∧
 (∀  (n : Int), vun .xor (.int .u8 n) = some (.int .u8 (ibits .xor .u8 255 n))) ∧
 (∀  (n : Int), vun .xor (.int .u16 n) = some (.int .u16 (ibits .xor .u16 65535 n))) ∧
 (∀  (n : Int), vun .xor (.int .u32 n) = some (.int .u32 (ibits .xor .u32 4294967295 n))) ∧
 (∀  (n : Int), vun .xor (.int .u64 n) = some (.int .u64 (ibits .xor .u64 18446744073709551615 n))) ∧
 (∀  (n : Int), vun .xor (.int .i8 n) = some (.int .i8 (ibits .xor .i8 (-1) n))) ∧
 (∀  (n : Int), vun .xor (.int .i16 n) = some (.int .i16 (ibits .xor .i16 (-1) n))) ∧
 (∀  (n : Int), vun .xor (.int .i32 n) = some (.int .i32 (ibits .xor .i32 (-1) n))) ∧
 (∀  (n : Int), vun .xor (.int .i64 n) = some (.int .i64 (ibits .xor .i64 (-1) n))) ∧
 (∀  (a b : Bool), veq [] (.bool a) (.bool b) = some (a == b)) ∧
 (∀  (k : Nat) (ks : List Nat) (a b : List V), veq (k :: ks) (.agg a) (.agg b) = veqL (k :: ks) a b) ∧
 (veqL [] [] [] = some true) ∧
 (∀  (k : Nat) (ks : List Nat) (a b : V) (l m : List V), veqL (k :: ks) (a :: l) (b :: m) = (veq1 k a b).bind fun x => (veqL ks l m).bind fun y => some (x && y)) ∧
 (∀  (k : IntKind) (a b : Int), veq1 1 (.int k a) (.int k b) = some (decide (a = b))) ∧
 (∀  (a b : Bool), veq1 0 (.bool a) (.bool b) = some (a == b)) ∧
 (∀  (a b : List Int), veq1 2 (.str a) (.str b) = some (decide (a = b))) ∧
 (∀ {H : Hp} (z : Bool) (xs : List V), visnil H 0 (.sl z xs) = some z) ∧
 (∀ {H : Hp} (id ver off len md : Nat), visnil H 0 (.vw id ver off len md) = (row? H id ver).map (·.1)) ∧
 (∀ {H : Hp} (xs : List V), visnil H 0 (.psl xs) = some false) ∧
 (∀ {H : Hp} , visnil H 1 .nilp = some true) := by
 refine ⟨?_, ?_, ?_, ?_, ?_, ?_, ?_, ?_, ?_, ?_, ?_, ?_, ?_, ?_, ?_, ?_, ?_, ?_, ?_, ?_, ?_, ?_, ?_, ?_⟩
 ·intro a b; rfl
 ·intro a b; rfl
 ·intro a b; rfl
 ·intro k n; rfl
 ·intro b; rfl
 ·intro n; rfl
 ·intro n; rfl
 ·intro n; rfl
 ·intro n; rfl
 ·intro n; rfl
 ·intro n; rfl
 ·intro n; rfl
 ·intro n; rfl
 ·intro a b; rfl
 ·intro k ks a b; rfl
 ·rfl
 ·intro k ks a b l m; rfl
 ·intro k a b; simp [veq1]
 ·intro a b; rfl
 ·intro a b; rfl
 ·intro H z xs; rfl
 ·intro H id ver off len md; rfl
 ·intro H xs; rfl
 ·intro H; rfl
theorem kk4 : (∀ {H : Hp} (i j : Nat), visnil H 1 (.ptr i j) = some false) ∧
 (∀ {H : Hp} (i v j l : Nat), visnil H 1 (.ep i v j l) = some false) ∧
 (∀ {H : Hp} (cs : List V), visnil H 1 (.rp cs) = some false) ∧
 (∀ {H : Hp} , visnil H 2 .nilf = some true) ∧
 (∀ {H : Hp} (f : Nat) (cs : List V), visnil H 2 (.fn f cs) = some false) ∧
 (∀  (k : IntKind) (n : Int), leaves (.int k n) = [.int k n]) ∧
 (∀  (k : IntKind) (n : Int), good (.int k n) = true) ∧
 (∀  (b : Bool), leaves (.bool b) = [.bool b]) ∧
 (∀  (b : Bool), good (.bool b) = true) ∧
 (∀  (s : List Int), leaves (.str s) = [.str s]) ∧
 (∀  (s : List Int), good (.str s) = true) ∧
 (∀  (z : Bool) (xs : List V), leaves (.sl z xs) = [.sl z xs]) ∧
 (∀  (z : Bool) (xs : List V), good (.sl z xs) = true) ∧
 (∀  (i v o l m : Nat), leaves (.vw i v o l m) = [.vw i v o l m]) ∧
 (∀  (i v o l m : Nat), good (.vw i v o l m) = true) ∧
 (∀  (i j : Nat), leaves (.ptr i j) = [.ptr i j]) ∧
 (∀  (i j : Nat), good (.ptr i j) = true) ∧
 (∀  (i v j l : Nat), leaves (.ep i v j l) = [.ep i v j l]) ∧
 (∀  (i v j l : Nat), good (.ep i v j l) = true) ∧
 (∀  (f : Nat) (cs : List V), leaves (.fn f cs) = [.fn f cs]) ∧
 (∀  (f : Nat) (cs : List V), good (.fn f cs) = true) ∧
 (∀  (cs : List V), leaves (.psl cs) = [.psl cs]) ∧
 (∀  (cs : List V), good (.psl cs) = true) ∧
 (∀  (cs : List V), leaves (.rp cs) = [.rp cs]) := by
 refine ⟨?_, ?_, ?_, ?_, ?_, ?_, ?_, ?_, ?_, ?_, ?_, ?_, ?_, ?_, ?_, ?_, ?_, ?_, ?_, ?_, ?_, ?_, ?_, ?_⟩
 ·intro H i j; rfl
 ·intro H i v j l; rfl
 ·intro H cs; rfl
 ·intro H; rfl
 ·intro H f cs; rfl
 ·intro k n; rfl
 ·intro k n; rfl
 ·intro b; rfl
 ·intro b; rfl
 ·intro s; rfl
 ·intro s; rfl
 ·intro z xs; rfl
 ·intro z xs; rfl
 ·intro i v o l m; rfl
 ·intro i v o l m; rfl
 ·intro i j; rfl
 ·intro i j; rfl
 ·intro i v j l; rfl
 ·intro i v j l; rfl
 ·intro f cs; rfl
 ·intro f cs; rfl
 ·intro cs; rfl
 ·intro cs; rfl
 ·intro cs; rfl
theorem kk5 : (∀  (cs : List V), good (.rp cs) = true) ∧
 (∀  (t : Nat) (x : V), leaves (.ifc t x) = [.ifc t x]) ∧
 (∀  (t : Nat) (x : V), good (.ifc t x) = true) ∧
 (leaves (.nilp) = [.nilp]) ∧
 (good (.nilp) = true) ∧
 (leaves (.nilf) = [.nilf]) ∧
 (good (.nilf) = true) ∧
 (leaves (.nili) = [.nili]) ∧
 (good (.nili) = true) ∧
 (∀  (cs : List V), leaves (.agg cs) = cs) ∧
 (goods [] = true) ∧
 (∀  (v : V) (l : List V), goods (v :: l) = (good v && goods l)) ∧
 (∀ {fr : Fr} (cs : List V), fillB fr cs [] = some cs) ∧
 (∀ {fr : Fr} (cs : List V) (off n : Nat) (x : MArg) (ps : List (Nat × Nat × MArg)), fillB fr cs ((off, n, x) :: ps) = if (leaves (x.val fr)).length = n then (if off + n ≤ cs.length then (if goods (leaves (x.val fr)) = true then fillB fr (setAt cs off (leaves (x.val fr))) ps else none) else none) else none) ∧
 (∀  (cs : List V) (off : Nat), setAt cs off [] = cs) ∧
 (∀  (cs : List V) (off : Nat) (v : V) (l : List V), setAt cs off (v :: l) = setAt (cs.set off v) (off + 1) l) ∧
 (∀  (cs : List V) (off n : Nat), part cs off n true = if off + n ≤ cs.length then some (.agg ((cs.drop off).take n)) else none) ∧
 (∀  (cs : List V) (off n : Nat), part cs off n false = cs[off]?) ∧
 (∀ {H : Hp} (n id off : Nat) (agg : Bool), vload H n agg (.ptr id off) = match H[id]? with | some (.box cs) => part cs off n agg | _ => none) ∧
 (∀ {H : Hp} (n : Nat) (agg : Bool) (cs : List V), vload H n agg (.rp cs) = part cs 0 n agg) ∧
 (∀ {H : Hp} (n : Nat) (agg : Bool) (id ver i j : Nat), vload H n agg (.ep id ver i j) = (row? H id ver).bind fun r => match r.2.2.1[i]? with | some e => part (leaves e) j n agg | none => none) ∧
 (∀  (cs ls : List V), mkEl (.agg cs) ls = .agg ls) ∧
 (∀  (k : IntKind) (n : Int) (x : V), mkEl (.int k n) [x] = x) ∧
 (∀  (b : Bool) (x : V), mkEl (.bool b) [x] = x) := by
 refine ⟨?_, ?_, ?_, ?_, ?_, ?_, ?_, ?_, ?_, ?_, ?_, ?_, ?_, ?_, ?_, ?_, ?_, ?_, ?_, ?_, ?_, ?_, ?_, ?_⟩
 ·intro cs; rfl
 ·intro t x; rfl
 ·intro t x; rfl
 ·rfl
 ·rfl
 ·rfl
 ·rfl
 ·rfl
 ·rfl
 ·intro cs; rfl
 ·rfl
 ·intro v l; rfl
 ·intro fr cs; rfl
 ·intro fr cs off n x ps; rfl
 ·intro cs off; rfl
 ·intro cs off v l; rfl
 ·intro cs off n; rfl
 ·intro cs off n; rfl
 ·intro H n id off agg; rfl
 ·intro H n agg cs; rfl
 ·intro H n agg id ver i j; rfl
 ·intro cs ls; rfl
 ·intro k n x; rfl
 ·intro b x; rfl
theorem kk6 : (∀  (z : Bool) (xs : List V) (x : V), mkEl (.sl z xs) [x] = x) ∧
 (∀  (s : List Int) (x : V), mkEl (.str s) [x] = x) ∧
 (∀ {H : Hp} (n id off : Nat) (y : V), vstore H n (.ptr id off) y = match H[id]? with | some (.box cs) => if (leaves y).length = n then (if off + n ≤ cs.length then (if goods (leaves y) = true then some (H.set id (.box (setAt cs off (leaves y)))) else none) else none) else none | _ => none) ∧
 (∀ {H : Hp} (n id ver i j : Nat) (y : V), vstore H n (.ep id ver i j) y = (share H y).bind fun p => (row? p.2 id ver).bind fun r => match r.2.2.1[i]? with | some e => if r.2.2.2 = true then (if (leaves p.1).length = n then (if j + n ≤ (leaves e).length then some (p.2.set id (.row ver r.1 r.2.1 (r.2.2.1.set i (mkEl e (setAt (leaves e) j (leaves p.1)))) true)) else none) else none) else none | none => none) ∧
 (∀  (off id o : Nat), vfaddr off (.ptr id o) = some (.ptr id (o + off))) ∧
 (∀  (off : Nat) (cs : List V), vfaddr off (.rp cs) = some (.rp (cs.drop off))) ∧
 (∀  (off id ver i j : Nat), vfaddr off (.ep id ver i j) = some (.ep id ver i (j + off))) ∧
 (∀ {H : Hp} (sz : Nat) (z : Bool) (xs : List V) (i : Int), viaddr H sz (.sl z xs) i = if 0 ≤ i then (match xs[i.toNat]? with | some e => if (leaves e).length = sz then some (.rp (leaves e)) else none | none => none) else none) ∧
 (∀ {H : Hp} (sz : Nat) (xs : List V) (i : Int), viaddr H sz (.psl xs) i = if 0 ≤ i then (match xs[i.toNat]? with | some e => if sz = 1 then some (.rp [e]) else none | none => none) else none) ∧
 (∀ {H : Hp} (sz id ver off len md : Nat) (i : Int), viaddr H sz (.vw id ver off len md) i = if 0 ≤ i then ((row? H id ver).bind fun r => if i.toNat < len then (if sz = r.2.1 then some (.ep id ver (off + i.toNat) 0) else none) else none) else none) ∧
 (∀  (n : Nat) (hi : Option Int), mxOk n hi none = true) ∧
 (∀  (n : Nat) (h m : Int), mxOk n (some h) (some m) = (decide (0 ≤ m) && decide (h ≤ m) && decide (m.toNat ≤ n))) ∧
 (∀ {H : Hp} (sz : Nat) (z : Bool) (xs : List V) (lo hi mx : Option Int), vslc H sz (.sl z xs) lo hi mx = if mxOk xs.length hi mx = true then (if 0 ≤ lo.getD 0 then (if lo.getD 0 ≤ hi.getD xs.length then (if (hi.getD xs.length).toNat ≤ xs.length then (if (lo.isNone || sizes sz xs) = true then some (.sl z (between xs lo hi), H) else none) else none) else none) else none) else none) ∧
 (∀ {H : Hp} (sz id ver off len md : Nat) (l : Int), vslc H sz (.vw id ver off len md) (some l) none none = (row? H id ver).bind fun r => if sz = r.2.1 then (if 0 ≤ l then (if l.toNat ≤ len then some (.vw id ver (off + l.toNat) (len - l.toNat) md, H) else none) else none) else none) ∧
 (∀ {H : Hp} (sz id ver off len md : Nat), vslc H sz (.vw id ver off len md) none none none = (row? H id ver).bind fun r => if sz = r.2.1 then some (.vw id ver off len md, H) else none) ∧
 (∀ {H : Hp} (sz id ver off len md : Nat) (lo : Option Int) (h : Int), vslc H sz (.vw id ver off len md) lo (some h) none = (row? H id ver).bind fun r => if sz = r.2.1 then (if 0 ≤ lo.getD 0 then (if lo.getD 0 ≤ h then (if off + h.toNat ≤ (if md = 2 then off + len else r.2.2.1.length) then some (.vw id ver (off + (lo.getD 0).toNat) (h.toNat - (lo.getD 0).toNat) (if md = 2 then 2 else if r.1 = true then md else 0), H) else none) else none) else none) else none) ∧
 (∀ {H : Hp} (sz id ver off len md : Nat) (lo : Option Int) (h m : Int), vslc H sz (.vw id ver off len md) lo (some h) (some m) = (row? H id ver).bind fun r => if sz = r.2.1 then (if 0 ≤ lo.getD 0 then (if lo.getD 0 ≤ h then (if h ≤ m then (if off + m.toNat ≤ (if md = 2 then off + len else r.2.2.1.length) then some (.vw id ver (off + (lo.getD 0).toNat) (h.toNat - (lo.getD 0).toNat) 2, H) else none) else none) else none) else none) else none) ∧
 (∀ {H : Hp} (z : Bool) (xs : List V), elems H (.sl z xs) = some xs) ∧
 (∀ {H : Hp} (id ver off len md : Nat), elems H (.vw id ver off len md) = (row? H id ver).bind fun r => some (cut r.2.2.1 off len md)) ∧
 (∀ {H : Hp} , shareE H [] = some ([], H)) ∧
 (∀ {H : Hp} (v : V) (l : List V), shareE H (v :: l) = (share H v).bind fun p => (shareE p.2 l).bind fun q => some (p.1 :: q.1, q.2)) ∧
 (∀  (sz : Nat), sizes sz [] = true) ∧
 (∀  (sz : Nat) (v : V) (l : List V), sizes sz (v :: l) = (decide ((leaves v).length = sz) && sizes sz l)) ∧
 (∀ {H : Hp} (sz : Nat) (ys : List V), appv H sz (.sl true []) ys = if ys.length ≤ most then some (.vw H.length 0 0 ys.length 1, H ++ [.row 0 ys.isEmpty sz ys true]) else none) := by
 refine ⟨?_, ?_, ?_, ?_, ?_, ?_, ?_, ?_, ?_, ?_, ?_, ?_, ?_, ?_, ?_, ?_, ?_, ?_, ?_, ?_, ?_, ?_, ?_, ?_⟩
 ·intro z xs x; rfl
 ·intro s x; rfl
 ·intro H n id off y; rfl
 ·intro H n id ver i j y; rfl
 ·intro off id o; rfl
 ·intro off cs; rfl
 ·intro off id ver i j; rfl
 ·intro H sz z xs i; rfl
 ·intro H sz xs i; rfl
 ·intro H sz id ver off len md i; rfl
 ·intro n hi; rfl
 ·intro n h m; simp [mxOk]
 ·intro H sz z xs lo hi mx; rfl
 ·intro H sz id ver off len md l; rfl
 ·intro H sz id ver off len md; cases hr : row? H id ver <;> simp [vslc, hr]
 ·intro H sz id ver off len md lo h; cases lo <;> rfl
 ·intro H sz id ver off len md lo h m; cases lo <;> rfl
 ·intro H z xs; rfl
 ·intro H id ver off len md; rfl
 ·intro H; rfl
 ·intro H v l; rfl
 ·intro sz; rfl
 ·intro sz v l; rfl
 ·intro H sz ys; rfl
theorem kk7 : (∀ {H : Hp} (sz id ver off len : Nat) (ys : List V), appv H sz (.vw id ver off len 1) ys = (row? H id ver).bind fun r => if sz = r.2.1 then (if off = 0 then (if r.2.2.1.length + ys.length ≤ most then some (.vw id (ver + 1) 0 (r.2.2.1.length + ys.length) 1, H.set id (.row (ver + 1) (r.1 && ys.isEmpty) sz (r.2.2.1 ++ ys) r.2.2.2)) else none) else none) else none) ∧
 (∀ {H : Hp} (sz id ver off len : Nat) (ys : List V), appv H sz (.vw id ver off len 0) ys = (row? H id ver).bind fun r => if sz = r.2.1 then (if off + len + ys.length ≤ r.2.2.1.length then (if r.2.2.2 = true then some (.vw id ver off (len + ys.length) 0, H.set id (.row ver r.1 sz (r.2.2.1.take (off + len) ++ ys ++ r.2.2.1.drop (off + len + ys.length)) true)) else none) else none) else none) ∧
 (∀ {H : Hp} (v sz ver : Nat) (z x : Bool) (xs : List V), row? (.row v z sz xs x :: H) 0 ver = if ver = v then some (z, sz, xs, x) else none) ∧
 (∀ {H : Hp} (b : Blk) (n ver : Nat), row? (b :: H) (n + 1) ver = row? H n ver) ∧
 (∀ {H : Hp} (k : IntKind) (n : Int), share1 H (.int k n) = some (.int k n, H)) ∧
 (∀ {H : Hp} (k : IntKind) (n : Int), share H (.int k n) = some (.int k n, H)) ∧
 (∀ {H : Hp} (b : Bool), share1 H (.bool b) = some (.bool b, H)) ∧
 (∀ {H : Hp} (b : Bool), share H (.bool b) = some (.bool b, H)) ∧
 (∀ {H : Hp} (l : List Int), share1 H (.str l) = some (.str l, H)) ∧
 (∀ {H : Hp} (l : List Int), share H (.str l) = some (.str l, H)) ∧
 (∀ {H : Hp} (z : Bool) (xs : List V), share1 H (.sl z xs) = some (.sl z xs, H)) ∧
 (∀ {H : Hp} (z : Bool) (xs : List V), share H (.sl z xs) = some (.sl z xs, H)) ∧
 (∀ {H : Hp} , share1 H (.nili) = some (.nili, H)) ∧
 (∀ {H : Hp} , share H (.nili) = some (.nili, H)) ∧
 (∀ {H : Hp} (id ver off len md : Nat), share1 H (.vw id ver off len md) = (row? H id ver).bind fun r => some (.sl r.1 (cut r.2.2.1 off len md), H.set id (.row ver r.1 r.2.1 r.2.2.1 false))) ∧
 (∀ {H : Hp} (id ver off len md : Nat), share H (.vw id ver off len md) = (row? H id ver).bind fun r => some (.sl r.1 (cut r.2.2.1 off len md), H.set id (.row ver r.1 r.2.1 r.2.2.1 false))) ∧
 (∀ {H : Hp} (cs : List V), share H (.agg cs) = (shareL H cs).bind fun p => some (.agg p.1, p.2)) ∧
 (∀ {H : Hp} , shareL H [] = some ([], H)) ∧
 (∀ {H : Hp} (v : V) (l : List V), shareL H (v :: l) = (share1 H v).bind fun p => (shareL p.2 l).bind fun q => some (p.1 :: q.1, q.2)) ∧
 (∀ {H : Hp} (sz : Nat), take H sz (.sl true []) = some (.own true sz true [], H)) ∧
 (∀ {H : Hp} (sz id ver len : Nat), take H sz (.vw id ver 0 len 1) = (row? H id ver).bind fun r => if sz = r.2.1 then some (.own r.1 sz r.2.2.2 r.2.2.1, H.set id .dead) else none) ∧
 (∀ {H : Hp} (sz id ver len : Nat), take H sz (.vw id ver 0 len 0) = (row? H id ver).bind fun r => if r.2.2.2 = true then (if sz = r.2.1 then some (.own r.1 sz r.2.2.2 (r.2.2.1.take len), H.set id .dead) else none) else none) ∧
 (∀ {H : Hp} (z x : Bool) (sz : Nat) (xs : List V), put1 H (.own z sz x xs) = (.vw H.length 0 0 xs.length 1, H ++ [.row 0 z sz xs x])) ∧
 (∀ {H : Hp} (k : IntKind) (n : Int), put1 H (.int k n) = (.int k n, H)) := by
 refine ⟨?_, ?_, ?_, ?_, ?_, ?_, ?_, ?_, ?_, ?_, ?_, ?_, ?_, ?_, ?_, ?_, ?_, ?_, ?_, ?_, ?_, ?_, ?_, ?_⟩
 ·intro H sz id ver off len ys; rfl
 ·intro H sz id ver off len ys; rfl
 ·intro H v sz ver z x xs; rfl
 ·intro H b n ver; simp [row?]
 ·intro H k n; rfl
 ·intro H k n; rfl
 ·intro H b; rfl
 ·intro H b; rfl
 ·intro H l; rfl
 ·intro H l; rfl
 ·intro H z xs; rfl
 ·intro H z xs; rfl
 ·intro H; rfl
 ·intro H; rfl
 ·intro H id ver off len md; rfl
 ·intro H id ver off len md; rfl
 ·intro H cs; rfl
 ·intro H; rfl
 ·intro H v l; rfl
 ·intro H sz; rfl
 ·intro H sz id ver len; simp [take, cut]
 ·intro H sz id ver len; simp [take, cut]
 ·intro H z x sz xs; rfl
 ·intro H k n; rfl
theorem kk8 : (∀ {H : Hp} (b : Bool), put1 H (.bool b) = (.bool b, H)) ∧
 (∀ {H : Hp} (l : List Int), put1 H (.str l) = (.str l, H)) ∧
 (∀ {H : Hp} (z : Bool) (xs : List V), put1 H (.sl z xs) = (.sl z xs, H)) ∧
 (∀ {H : Hp} , put1 H (.nili) = (.nili, H)) ∧
 (∀ {H : Hp} (z x : Bool) (sz : Nat) (xs : List V), put H (.own z sz x xs) = (.vw H.length 0 0 xs.length 1, H ++ [.row 0 z sz xs x])) ∧
 (∀ {H : Hp} (k : IntKind) (n : Int), put H (.int k n) = (.int k n, H)) ∧
 (∀ {H : Hp} (b : Bool), put H (.bool b) = (.bool b, H)) ∧
 (∀ {H : Hp} (l : List Int), put H (.str l) = (.str l, H)) ∧
 (∀ {H : Hp} (z : Bool) (xs : List V), put H (.sl z xs) = (.sl z xs, H)) ∧
 (∀ {H : Hp} , put H (.nili) = (.nili, H)) ∧
 (∀ {H : Hp} (cs : List V), put H (.agg cs) = (.agg (putL H cs).1, (putL H cs).2)) ∧
 (∀ {H : Hp} , putL H [] = ([], H)) ∧
 (∀ {H : Hp} (v : V) (l : List V), putL H (v :: l) = ((put1 H v).1 :: (putL (put1 H v).2 l).1, (putL (put1 H v).2 l).2)) ∧
 (∀ {H : Hp} , putT H [] = ([], H)) ∧
 (∀ {H : Hp} (v : V) (l : List V), putT H (v :: l) = ((put H v).1 :: (putT (put H v).2 l).1, (putT (put H v).2 l).2)) ∧
 (∀ {H : Hp} (v : V), out1 0 H v = share1 H v) ∧
 (∀ {H : Hp} (n : Nat) (v : V), out1 (n + 1) H v = take H n v) ∧
 (∀ {H : Hp} (ms : List Nat), outL ms H [] = some ([], H)) ∧
 (∀ {H : Hp} (m : Nat) (ms : List Nat) (v : V) (l : List V), outL (m :: ms) H (v :: l) = (out1 m H v).bind fun p => (outL ms p.2 l).bind fun q => some (p.1 :: q.1, q.2)) ∧
 (∀ {H : Hp} (v : V) (l : List V), outL [] H (v :: l) = (share1 H v).bind fun p => (outL [] p.2 l).bind fun q => some (p.1 :: q.1, q.2)) ∧
 (∀ {H : Hp} (ms : List Nat) (cs : List V), out ms H (.agg cs) = (outL ms H cs).bind fun p => some (.agg p.1, p.2)) ∧
 (∀ {H : Hp} (k : IntKind) (n : Int), out [] H (.int k n) = share1 H (.int k n)) ∧
 (∀ {H : Hp} (nn : Nat) (k : IntKind) (n : Int), out [nn] H (.int k n) = out1 nn H (.int k n)) ∧
 (∀ {H : Hp} (b : Bool), out [] H (.bool b) = share1 H (.bool b)) := by
 refine ⟨?_, ?_, ?_, ?_, ?_, ?_, ?_, ?_, ?_, ?_, ?_, ?_, ?_, ?_, ?_, ?_, ?_, ?_, ?_, ?_, ?_, ?_, ?_, ?_⟩
 ·intro H b; rfl
 ·intro H l; rfl
 ·intro H z xs; rfl
 ·intro H; rfl
 ·intro H z x sz xs; rfl
 ·intro H k n; rfl
 ·intro H b; rfl
 ·intro H l; rfl
 ·intro H z xs; rfl
 ·intro H; rfl
 ·intro H cs; rfl
 ·intro H; rfl
 ·intro H v l; rfl
 ·intro H; rfl
 ·intro H v l; rfl
 ·intro H v; rfl
 ·intro H n v; rfl
 ·intro H ms; cases ms <;> rfl
 ·intro H m ms v l; rfl
 ·intro H v l; rfl
 ·intro H ms cs; rfl
 ·intro H k n; rfl
 ·intro H nn k n; rfl
 ·intro H b; rfl
theorem kk9 : (∀ {H : Hp} (nn : Nat) (b : Bool), out [nn] H (.bool b) = out1 nn H (.bool b)) ∧
 (∀ {H : Hp} (l : List Int), out [] H (.str l) = share1 H (.str l)) ∧
 (∀ {H : Hp} (nn : Nat) (l : List Int), out [nn] H (.str l) = out1 nn H (.str l)) ∧
 (∀ {H : Hp} (z : Bool) (xs : List V), out [] H (.sl z xs) = share1 H (.sl z xs)) ∧
 (∀ {H : Hp} (nn : Nat) (z : Bool) (xs : List V), out [nn] H (.sl z xs) = out1 nn H (.sl z xs)) ∧
 (∀ {H : Hp} , out [] H (.nili) = share1 H (.nili)) ∧
 (∀ {H : Hp} (nn : Nat) , out [nn] H (.nili) = out1 nn H (.nili)) ∧
 (∀ {H : Hp} (i v o l m : Nat), out [] H (.vw i v o l m) = share1 H (.vw i v o l m)) ∧
 (∀ {H : Hp} (nn : Nat) (i v o l m : Nat), out [nn] H (.vw i v o l m) = out1 nn H (.vw i v o l m)) ∧
 (∀ {H : Hp} (ms : List (List Nat)), outT ms H [] = some ([], H)) ∧
 (∀ {H : Hp} (m : List Nat) (ms : List (List Nat)) (v : V) (l : List V), outT (m :: ms) H (v :: l) = (out m H v).bind fun p => (outT ms p.2 l).bind fun q => some (p.1 :: q.1, q.2)) ∧
 (∀ {H : Hp} (v : V) (l : List V), outT [] H (v :: l) = (out [] H v).bind fun p => (outT [] p.2 l).bind fun q => some (p.1 :: q.1, q.2)) ∧
 (∀ {H : Hp} (ms : List Nat), args H ms [] = some ([], H)) ∧
 (∀ {H : Hp} (ms : List Nat) (v : V) (l : List V), args H (0 :: ms) (v :: l) = (share H v).bind fun p => (args p.2 ms l).bind fun q => some (p.1 :: q.1, q.2)) ∧
 (∀ {H : Hp} (sz : Nat) (ms : List Nat) (v : V) (l : List V), args H ((sz + 1) :: ms) (v :: l) = (take H sz v).bind fun p => (args p.2 ms l).bind fun q => some (p.1 :: q.1, q.2)) ∧
 (∀ {H : Hp} (ms : List Nat), takes H ms [] = H) ∧
 (∀ {H : Hp} (vs : List V), takes H [] vs = H) ∧
 (∀ {H : Hp} (ms : List Nat) (v : V) (l : List V), takes H (0 :: ms) (v :: l) = takes H ms l) ∧
 (∀ {H : Hp} (sz : Nat) (ms : List Nat) (v : V) (l : List V), takes H ((sz + 1) :: ms) (v :: l) = match take H sz v with | some p => takes p.2 ms l | none => H) ∧
 (∀  (k : IntKind) (n : Int), scalar (.int k n) = true) ∧
 (∀  (b : Bool), scalar (.bool b) = true) ∧
 (∀  (l : List Int), scalar (.str l) = true) ∧
 (∀  (z : Bool) (xs : List V), scalar (.sl z xs) = false) ∧
 (∀  (z x : Bool) (sz : Nat) (xs : List V), scalar (.own z sz x xs) = false) := by
 refine ⟨?_, ?_, ?_, ?_, ?_, ?_, ?_, ?_, ?_, ?_, ?_, ?_, ?_, ?_, ?_, ?_, ?_, ?_, ?_, ?_, ?_, ?_, ?_, ?_⟩
 ·intro H nn b; rfl
 ·intro H l; rfl
 ·intro H nn l; rfl
 ·intro H z xs; rfl
 ·intro H nn z xs; rfl
 ·intro H; rfl
 ·intro H nn; rfl
 ·intro H i v o l m; rfl
 ·intro H nn i v o l m; rfl
 ·intro H ms; cases ms <;> rfl
 ·intro H m ms v l; rfl
 ·intro H v l; rfl
 ·intro H ms; cases ms <;> rfl
 ·intro H ms v l; rfl
 ·intro H sz ms v l; rfl
 ·intro H ms; cases ms <;> rfl
 ·intro H vs; cases vs <;> rfl
 ·intro H ms v l; rfl
 ·intro H sz ms v l; rfl
 ·intro k n; rfl
 ·intro b; rfl
 ·intro l; rfl
 ·intro z xs; rfl
 ·intro z x sz xs; rfl
theorem kk10 : (scalar (.nili) = false) ∧
 (∀  (z x : Bool) (sz : Nat) (xs : List V), leaves (.own z sz x xs) = [.own z sz x xs]) ∧
 (scalars [] = true) ∧
 (∀  (v : V) (l : List V), scalars (v :: l) = ((leaves v).all scalar && scalars l)) ∧
 (∀  (v : V), pack [v] = v) ∧
 (pack [] = .tup []) ∧
 (∀  (v v' : V) (l : List V), pack (v :: v' :: l) = .tup (v :: v' :: l)) ∧
 (∀ {fr : Fr} {H : Hp} , resL fr H [] = some []) ∧
 (∀ {fr : Fr} {H : Hp} (r : MRes) (l : List MRes), resL fr H (r :: l) = (resV fr H r).bind fun v => (resL fr H l).bind fun vs => some (v :: vs)) ∧
 (∀ {fr : Fr} {H : Hp} (t : Nat), resV fr H (.tmp t) = some (get t fr)) ∧
 (∀ {fr : Fr} {H : Hp} (t n : Nat) (agg : Bool), resV fr H (.cell t n agg) = vload H n agg (get t fr)) ∧
 (∀ {fr : Fr} (d : Nat) (v : V), upd (some d) v fr = (d, v) :: fr) ∧
 (∀ {fr : Fr} (v : V), upd none v fr = fr) ∧
 (∀  {α : Type} (a : α) (b : Option α), alt (some a) b = some a) ∧
 (∀ {T : Nat → Option MFun} {O : Orc} (tr : List (Fr × Hp)) (l : List MO), allSame T O tr l [] = True) ∧
 (∀ {H : Hp} (H1 : Hp) (ms : List Nat) (vs r : List V), vk H H1 ms vs (some r) = if scalars r = true then some (pack r, takes H ms vs) else some (pack (putT H1 r).1, (putT H1 r).2)) ∧
 (∀ {H : Hp} (r : List V), ik (some (r, H)) = some (pack r, H)) ∧
 (∀ {T : Nat → Option MFun} {O : Orc} {m : Nat} {h0 : Nat} {fr : Fr} {H : Hp} (x : MArg) (a b : MC), exec T O m h0 (.cond x a b) fr H = condE T O m h0 a b fr H (x.val fr)) ∧
 (∀ {T : Nat → Option MFun} {O : Orc} {m : Nat} {h0 : Nat} {fr : Fr} {H : Hp} (a b : MC) (c : Bool), condE T O m h0 a b fr H (.bool c) = if c = true then exec T O m h0 a fr H else exec T O m h0 b fr H) ∧
 (∀ {T : Nat → Option MFun} {O : Orc} {m : Nat} {h0 : Nat} {fr : Fr} {H : Hp} (K : List KI) (a b : MC), unw T O m h0 K (exec T O m h0 (.seq a b) fr H) = unw T O m h0 (.code b :: K) (exec T O m h0 a fr H)) ∧
 (∀ {T : Nat → Option MFun} {O : Orc} {m : Nat} {h0 : Nat} {fr : Fr} {H : Hp} (K : List KI) (id : Nat) (a : MC), unw T O m h0 K (exec T O m h0 (.blk id a) fr H) = unw T O m h0 (.blk id :: K) (exec T O m h0 a fr H)) ∧
 (∀ {T : Nat → Option MFun} {O : Orc} {m : Nat} {h0 : Nat} {fr : Fr} {H : Hp} (K : List KI) (c : MC), unw T O m h0 (.code c :: K) (some (.norm, fr, H)) = unw T O m h0 K (exec T O m h0 c fr H)) ∧
 (∀ {T : Nat → Option MFun} {O : Orc} {m : Nat} {h0 : Nat} {fr : Fr} {H : Hp} (K : List KI) (c : MC) (id : Nat), unw T O m h0 (.code c :: K) (some (.exit id, fr, H)) = unw T O m h0 K (some (.exit id, fr, H))) ∧
 (∀ {T : Nat → Option MFun} {O : Orc} {m : Nat} {h0 : Nat} {fr : Fr} {H : Hp} (K : List KI) (c : MC), unw T O m h0 (.code c :: K) (some (.ret, fr, H)) = unw T O m h0 K (some (.ret, fr, H))) := by
 refine ⟨?_, ?_, ?_, ?_, ?_, ?_, ?_, ?_, ?_, ?_, ?_, ?_, ?_, ?_, ?_, ?_, ?_, ?_, ?_, ?_, ?_, ?_, ?_, ?_⟩
 ·rfl
 ·intro z x sz xs; rfl
 ·rfl
 ·intro v l; rfl
 ·intro v; rfl
 ·rfl
 ·intro v v' l; rfl
 ·intro fr H; rfl
 ·intro fr H r l; rfl
 ·intro fr H t; rfl
 ·intro fr H t n agg; rfl
 ·intro fr d v; rfl
 ·intro fr v; rfl
 ·intro α a b; rfl
 ·intro T O tr l; rfl
 ·intro H H1 ms vs r; rfl
 ·intro H r; rfl
 ·intro T O m h0 fr H x a b; exact zhy x a b
 ·intro T O m h0 fr H a b c; rfl
 ·intro T O m h0 fr H K a b; exact zhh a b
 ·intro T O m h0 fr H K id a; exact zhi id a
 ·intro T O m h0 fr H K c; rfl
 ·intro T O m h0 fr H K c id; rfl
 ·intro T O m h0 fr H K c; rfl
theorem kk11 : (∀ {T : Nat → Option MFun} {O : Orc} {m : Nat} {h0 : Nat} {fr : Fr} {H : Hp} (K : List KI) (id : Nat), unw T O m h0 (.blk id :: K) (some (.norm, fr, H)) = unw T O m h0 K (some (.norm, fr, H))) ∧
 (∀ {T : Nat → Option MFun} {O : Orc} {m : Nat} {h0 : Nat} {fr : Fr} {H : Hp} (K : List KI) (id : Nat), unw T O m h0 (.blk id :: K) (some (.ret, fr, H)) = unw T O m h0 K (some (.ret, fr, H))) ∧
 (∀ {T : Nat → Option MFun} {O : Orc} {m : Nat} {h0 : Nat} {fr : Fr} {H : Hp} (K : List KI) (id j : Nat), unw T O m h0 (.blk id :: K) (some (.exit j, fr, H)) = if j = id then unw T O m h0 K (some (.norm, fr, H)) else unw T O m h0 K (some (.exit j, fr, H))) ∧
 (∀ {T : Nat → Option MFun} {O : Orc} {m : Nat} {h0 : Nat} {fr : Fr} {H : Hp} (K : List KI) (live : List Nat) (a : MC) (n : Nat), unw T O m h0 (.rounds live a n :: K) (some (.norm, fr, H)) = unw T O m h0 K (iter h0 live (exec T O m h0 a) n fr H)) ∧
 (∀ {T : Nat → Option MFun} {O : Orc} {m : Nat} {h0 : Nat} {fr : Fr} {H : Hp} (K : List KI) (live : List Nat) (a : MC) (n : Nat), unw T O m h0 (.rounds live a n :: K) (some (.ret, fr, H)) = unw T O m h0 K (some (.ret, fr, H))) ∧
 (∀ {T : Nat → Option MFun} {O : Orc} {m : Nat} {h0 : Nat} {fr : Fr} {H : Hp} (K : List KI) (live : List Nat) (a : MC) (n j : Nat), unw T O m h0 (.rounds live a n :: K) (some (.exit j, fr, H)) = unw T O m h0 K (some (.exit j, fr, H))) ∧
 (∀ {T : Nat → Option MFun} {O : Orc} {m : Nat} {h0 : Nat} (p : Ex × Fr × Hp), unw T O m h0 [] (some p) = some p) ∧
 (∀ {T : Nat → Option MFun} {O : Orc} {m : Nat} {h0 : Nat} {fr : Fr} {H : Hp} (live : List Nat) (a : MC), exec T O m h0 (.loop live a) fr H = iter h0 live (exec T O m h0 a) m fr H) ∧
 (∀ {T : Nat → Option MFun} {O : Orc} {m : Nat} {h0 : Nat} {fr : Fr} {H : Hp} , exec T O m h0 .ret fr H = some (.ret, fr, H)) ∧
 (∀ {T : Nat → Option MFun} {O : Orc} {m : Nat} {h0 : Nat} {fr : Fr} {H : Hp} , exec T O m h0 .skip fr H = some (.norm, fr, H)) ∧
 (∀ {T : Nat → Option MFun} {O : Orc} {m : Nat} {h0 : Nat} {fr : Fr} {H : Hp} (id : Nat), exec T O m h0 (.exit id) fr H = some (.exit id, fr, H)) ∧
 (∀ {T : Nat → Option MFun} {O : Orc} {m : Nat} {h0 : Nat} {fr : Fr} {H : Hp} (l : List MO), exec T O m h0 (.reg l) fr H = runO T O l fr H) ∧
 (∀ {T : Nat → Option MFun} {O : Orc} {m : Nat} {h0 : Nat} {fr : Fr} {H : Hp} (l : List MO), exec T O m h0 (.dreg l []) fr H = runO T O l fr H) ∧
 (∀ {T : Nat → Option MFun} {O : Orc} {fr : Fr} {H : Hp} , runO T O [] fr H = some (.norm, fr, H)) ∧
 (∀ {T : Nat → Option MFun} {O : Orc} {fr : Fr} {H : Hp} (l : List MO) (d : Option Nat) (op : MOp), runO T O (⟨d, op, none⟩ :: l) fr H = goP T O l fr d (ev T O fr H op)) ∧
 (∀ {T : Nat → Option MFun} {O : Orc} {fr : Fr} {H : Hp} (l : List MO) (d : Option Nat) (op : MOp) (g : Nat) (want : Bool), runO T O (⟨d, op, some (g, want)⟩ :: l) fr H = onG T O d op want l fr H (get g fr)) ∧
 (∀ {T : Nat → Option MFun} {O : Orc} {fr : Fr} {H : Hp} (d : Nat) (op : MOp) (b want : Bool) (l : List MO), onG T O (some d) op want l fr H (.bool b) = if b = want then goP T O l fr (some d) (ev T O fr H op) else runO T O l ((d, V.tup []) :: fr) H) ∧
 (∀ {T : Nat → Option MFun} {O : Orc} {fr : Fr} {H : Hp} (op : MOp) (b want : Bool) (l : List MO), onG T O none op want l fr H (.bool b) = if b = want then goP T O l fr none (ev T O fr H op) else runO T O l fr H) ∧
 (∀ {T : Nat → Option MFun} {O : Orc} {fr : Fr} {H : Hp} (d : Nat) (op : MOp) (want : Bool) (l : List MO), onG T O (some d) op want l fr H (.tup []) = runO T O l ((d, V.tup []) :: fr) H) ∧
 (∀ {T : Nat → Option MFun} {O : Orc} {fr : Fr} {H : Hp} (op : MOp) (want : Bool) (l : List MO), onG T O none op want l fr H (.tup []) = runO T O l fr H) ∧
 (∀ {T : Nat → Option MFun} {O : Orc} {fr : Fr} {H : Hp} (l : List MO) (d : Nat) (v : V), goP T O l fr (some d) (some (v, H)) = runO T O l ((d, v) :: fr) H) ∧
 (∀ {T : Nat → Option MFun} {O : Orc} {fr : Fr} {H : Hp} (l : List MO) (v : V), goP T O l fr none (some (v, H)) = runO T O l fr H) ∧
 (∀ {fr : Fr} {H : Hp} (mf : MFun), fin mf (some (.ret, fr, H)) = (resL fr H mf.res).bind fun l => (outT mf.rets H l).bind fun q => some q.1) ∧
 (∀ {fr : Fr} {H : Hp} (mf : MFun), fin mf (some (.norm, fr, H)) = (resL fr H mf.res).bind fun l => (outT mf.rets H l).bind fun q => some q.1) := by
 refine ⟨?_, ?_, ?_, ?_, ?_, ?_, ?_, ?_, ?_, ?_, ?_, ?_, ?_, ?_, ?_, ?_, ?_, ?_, ?_, ?_, ?_, ?_, ?_, ?_⟩
 ·intro T O m h0 fr H K id; rfl
 ·intro T O m h0 fr H K id; rfl
 ·intro T O m h0 fr H K id j; exact zhj id j
 ·intro T O m h0 fr H K live a n; rfl
 ·intro T O m h0 fr H K live a n; rfl
 ·intro T O m h0 fr H K live a n j; rfl
 ·intro T O m h0 p; rfl
 ·intro T O m h0 fr H live a; rfl
 ·intro T O m h0 fr H; rfl
 ·intro T O m h0 fr H; rfl
 ·intro T O m h0 fr H id; rfl
 ·intro T O m h0 fr H l; rfl
 ·intro T O m h0 fr H l; exact zhl l
 ·intro T O fr H; rfl
 ·intro T O fr H l d op; exact zhn l d op
 ·intro T O fr H l d op g want; exact runO_g l d op g want
 ·intro T O fr H d op b want l; rfl
 ·intro T O fr H op b want l; rfl
 ·intro T O fr H d op want l; rfl
 ·intro T O fr H op want l; rfl
 ·intro T O fr H l d v; rfl
 ·intro T O fr H l v; rfl
 ·intro fr H mf; rfl
 ·intro fr H mf; rfl
theorem kk12 : (∀ {h0 : Nat} {fr : Fr} {H : Hp} (wk : Bool) (res : List MRes), finI h0 wk res (some (.ret, fr, H)) = (resL fr H res).bind fun l => some (trimK h0 H (wkL wk l))) ∧
 (∀ {h0 : Nat} {fr : Fr} {H : Hp} (wk : Bool) (res : List MRes), finI h0 wk res (some (.norm, fr, H)) = (resL fr H res).bind fun l => some (trimK h0 H (wkL wk l))) ∧
 (∀  (xs : List V), between xs none none = xs) ∧
 (∀  (xs : List V) (l : Int), between xs (some l) none = xs.drop l.toNat) ∧
 (∀  (xs : List V) (h : Int), between xs none (some h) = xs.take h.toNat) ∧
 (∀  (xs : List V) (l h : Int), between xs (some l) (some h) = (xs.take h.toNat).drop l.toNat) ∧
 (∀  (xs : List V) (off len : Nat), cut xs off len 1 = xs.drop off) ∧
 (∀  (xs : List V) (off len : Nat), cut xs off len 0 = (xs.drop off).take len) ∧
 (∀  (xs : List V) (off len : Nat), cut xs off len 2 = (xs.drop off).take len) ∧
 (∀ {T : Nat → Option MFun} {O : Orc} {fr : Fr} {H : Hp} , trace T O fr H [] = [(fr, H)]) ∧
 (∀ {T : Nat → Option MFun} {O : Orc} {fr : Fr} {H : Hp} (o : MO) (l : List MO), trace T O fr H (o :: l) = (fr, H) :: traceK T O l (step T O fr H o)) ∧
 (∀ {T : Nat → Option MFun} {O : Orc} {fr : Fr} {H : Hp} (l : List MO), traceK T O l (some (fr, H)) = trace T O fr H l) ∧
 (∀ {T : Nat → Option MFun} {O : Orc} {fr : Fr} {H : Hp} (d : Option Nat) (op : MOp), step T O fr H ⟨d, op, none⟩ = stepK fr d (ev T O fr H op)) ∧
 (∀ {T : Nat → Option MFun} {O : Orc} {fr : Fr} {H : Hp} (d : Option Nat) (op : MOp) (g : Nat) (want : Bool), step T O fr H ⟨d, op, some (g, want)⟩ = stepG T O d op want fr H (get g fr)) ∧
 (∀ {fr : Fr} {H : Hp} (d : Nat) (v : V), stepK fr (some d) (some (v, H)) = some ((d, v) :: fr, H)) ∧
 (∀ {fr : Fr} {H : Hp} (v : V), stepK fr none (some (v, H)) = some (fr, H)) ∧
 (∀ {T : Nat → Option MFun} {O : Orc} {fr : Fr} {H : Hp} (d : Nat) (op : MOp) (b want : Bool), stepG T O (some d) op want fr H (.bool b) = if b = want then stepK fr (some d) (ev T O fr H op) else some ((d, V.tup []) :: fr, H)) ∧
 (∀ {T : Nat → Option MFun} {O : Orc} {fr : Fr} {H : Hp} (op : MOp) (b want : Bool), stepG T O none op want fr H (.bool b) = if b = want then stepK fr none (ev T O fr H op) else some (fr, H)) ∧
 (∀ {T : Nat → Option MFun} {O : Orc} {fr : Fr} {H : Hp} (d : Nat) (op : MOp) (want : Bool), stepG T O (some d) op want fr H (.tup []) = some ((d, V.tup []) :: fr, H)) ∧
 (∀ {T : Nat → Option MFun} {O : Orc} {fr : Fr} {H : Hp} (op : MOp) (want : Bool), stepG T O none op want fr H (.tup []) = some (fr, H)) ∧
 (∀ {T : Nat → Option MFun} {O : Orc} {fr : Fr} {H : Hp} (d : Option Nat) (op : MOp), stepV T O fr H ⟨d, op, none⟩ = ev T O fr H op) ∧
 (∀ {T : Nat → Option MFun} {O : Orc} {fr : Fr} {H : Hp} (d : Option Nat) (op : MOp) (g : Nat) (want : Bool), stepV T O fr H ⟨d, op, some (g, want)⟩ = vG T O op want fr H (get g fr)) ∧
 (∀ {T : Nat → Option MFun} {O : Orc} {fr : Fr} {H : Hp} (op : MOp) (b want : Bool), vG T O op want fr H (.bool b) = if b = want then ev T O fr H op else some (.tup [], H)) ∧
 (∀ {T : Nat → Option MFun} {O : Orc} {fr : Fr} {H : Hp} (op : MOp) (want : Bool), vG T O op want fr H (.tup []) = some (.tup [], H)) := by
 refine ⟨?_, ?_, ?_, ?_, ?_, ?_, ?_, ?_, ?_, ?_, ?_, ?_, ?_, ?_, ?_, ?_, ?_, ?_, ?_, ?_, ?_, ?_, ?_, ?_⟩
 ·intro h0 fr H wk res; rfl
 ·intro h0 fr H wk res; rfl
 ·intro xs; rfl
 ·intro xs l; rfl
 ·intro xs h; rfl
 ·intro xs l h; rfl
 ·intro xs off len; exact cut1 xs off len
 ·intro xs off len; exact cut0 xs off len
 ·intro xs off len; exact cut2 xs off len
 ·intro T O fr H; rfl
 ·intro T O fr H o l; exact zhz o l
 ·intro T O fr H l; rfl
 ·intro T O fr H d op; exact step_n d op
 ·intro T O fr H d op g want; exact step_g d op g want
 ·intro fr H d v; rfl
 ·intro fr H v; rfl
 ·intro T O fr H d op b want; rfl
 ·intro T O fr H op b want; rfl
 ·intro T O fr H d op want; rfl
 ·intro T O fr H op want; rfl
 ·intro T O fr H d op; rfl
 ·intro T O fr H d op g want; exact zh0 d op g want
 ·intro T O fr H op b want; rfl
 ·intro T O fr H op want; rfl
theorem kk13 : (∀ {T : Nat → Option MFun} {O : Orc} (tr : List (Fr × Hp)) (l : List MO) (r e : Nat) (c : List (Nat × Nat)), allSame T O tr l ((r, e) :: c) = (sameAt T O tr l r e ∧ sameAt T O tr l r (e + 1) ∧ allSame T O tr l c)) ∧
 (∀ {T : Nat → Option MFun} {O : Orc} (tr : List (Fr × Hp)) (l : List MO) (r e : Nat), sameAt T O tr l r e = sameK T O tr[r]? tr[e]? l[r]?) ∧
 (∀ {T : Nat → Option MFun} {O : Orc} (f f2 : Fr) (h h2 : Hp) (o : MO), sameK T O (some (f, h)) (some (f2, h2)) (some o) = sameV h (stepV T O f h o) h2 (stepV T O f h2 o)) ∧
 (∀  (v v2 : V) (h h1 h2 h3 : Hp), sameV h (some (v, h1)) h2 (some (v2, h3)) = (h1 = h ∧ h3 = h2 ∧ v2 = v)) ∧
 (∀ {T : Nat → Option MFun} {O : Orc} {fr : Fr} {H : Hp} , runC T O [] fr H = some (.norm, fr, H)) ∧
 (∀ {T : Nat → Option MFun} {O : Orc} {fr : Fr} {H : Hp} (l : List MO) (d : Option Nat) (op : MOp), runC T O (⟨d, op, none⟩ :: l) fr H = goC T O l fr H d (ev T O fr H op)) ∧
 (∀ {T : Nat → Option MFun} {O : Orc} {fr : Fr} {H : Hp} (l : List MO) (d : Option Nat) (op : MOp) (g : Nat) (want : Bool), runC T O (⟨d, op, some (g, want)⟩ :: l) fr H = onC T O d op want l fr H (get g fr)) ∧
 (∀ {T : Nat → Option MFun} {O : Orc} {fr : Fr} {H : Hp} (d : Nat) (op : MOp) (b want : Bool) (l : List MO), onC T O (some d) op want l fr H (.bool b) = if b = want then goC T O l fr H (some d) (ev T O fr H op) else runC T O l ((d, V.tup []) :: fr) H) ∧
 (∀ {T : Nat → Option MFun} {O : Orc} {fr : Fr} {H : Hp} (op : MOp) (b want : Bool) (l : List MO), onC T O none op want l fr H (.bool b) = if b = want then goC T O l fr H none (ev T O fr H op) else runC T O l fr H) ∧
 (∀ {T : Nat → Option MFun} {O : Orc} {fr : Fr} {H : Hp} (d : Nat) (op : MOp) (want : Bool) (l : List MO), onC T O (some d) op want l fr H (.tup []) = runC T O l ((d, V.tup []) :: fr) H) ∧
 (∀ {T : Nat → Option MFun} {O : Orc} {fr : Fr} {H : Hp} (op : MOp) (want : Bool) (l : List MO), onC T O none op want l fr H (.tup []) = runC T O l fr H) ∧
 (∀ {T : Nat → Option MFun} {O : Orc} {fr : Fr} {H : Hp} (l : List MO) (d : Nat) (v : V), goC T O l fr H (some d) (some (v, H)) = runC T O l ((d, v) :: fr) H) ∧
 (∀ {T : Nat → Option MFun} {O : Orc} {fr : Fr} {H : Hp} (l : List MO) (v : V), goC T O l fr H none (some (v, H)) = runC T O l fr H) ∧
 (∀ {h0 : Nat} {fr : Fr} {H : Hp} (live : List Nat), canon h0 live fr H = canonK h0 H (live.map fun t => (t, get t fr))) ∧
 (∀ {h0 : Nat} {H : Hp} (vs : Fr), canonK h0 H vs = canonO h0 H vs (reach h0 H H.length (addNew [] (vs.flatMap (fun p => idsV h0 p.2) ++ (H.take h0).flatMap (idsB h0))))) ∧
 (∀ {h0 : Nat} {H : Hp} (vs : Fr) (ord : List Nat), canonO h0 H vs ord = (vs.map fun p => (p.1, ren h0 ord H p.2), (H.take h0).map (renB h0 ord H false) ++ ord.map fun i => renB h0 ord H true (H.getD i .dead))) ∧
 (∀ {h0 : Nat} (v : V), idsV h0 v = (leaves v).flatMap (ids1 h0)) ∧
 (∀ {h0 : Nat} (k : IntKind) (n : Int), ids1 h0 (.int k n) = []) ∧
 (∀ {h0 : Nat} (b : Bool), ids1 h0 (.bool b) = []) ∧
 (∀ {h0 : Nat} (l : List Int), ids1 h0 (.str l) = []) ∧
 (∀ {h0 : Nat} (z : Bool) (xs : List V), ids1 h0 (.sl z xs) = []) ∧
 (∀ {h0 : Nat} , ids1 h0 (.nilp) = []) ∧
 (∀ {h0 : Nat} , ids1 h0 (.nilf) = []) ∧
 (∀ {h0 : Nat} , ids1 h0 (.nili) = []) := by
 refine ⟨?_, ?_, ?_, ?_, ?_, ?_, ?_, ?_, ?_, ?_, ?_, ?_, ?_, ?_, ?_, ?_, ?_, ?_, ?_, ?_, ?_, ?_, ?_, ?_⟩
 ·intro T O tr l r e c; rfl
 ·intro T O tr l r e; exact zh2 tr l r e
 ·intro T O f f2 h h2 o; rfl
 ·intro v v2 h h1 h2 h3; rfl
 ·intro T O fr H; exact zi8
 ·intro T O fr H l d op; exact zjb l d op
 ·intro T O fr H l d op g want; exact runC_g l d op g want
 ·intro T O fr H d op b want l; rfl
 ·intro T O fr H op b want l; rfl
 ·intro T O fr H d op want l; rfl
 ·intro T O fr H op want l; rfl
 ·intro T O fr H l d v; exact zjf l (some d) v
 ·intro T O fr H l v; exact zjf l none v
 ·intro h0 fr H live; rfl
 ·intro h0 H vs; rfl
 ·intro h0 H vs ord; rfl
 ·intro h0 v; rfl
 ·intro h0 k n; rfl
 ·intro h0 b; rfl
 ·intro h0 l; rfl
 ·intro h0 z xs; rfl
 ·intro h0; rfl
 ·intro h0; rfl
 ·intro h0; rfl
theorem kk14 : (∀ {h0 : Nat} , ids1 h0 (.junk) = []) ∧
 (∀ {h0 : Nat} (vs : List V), ids1 h0 (.tup vs) = []) ∧
 (∀ {h0 : Nat} (vs : List V), ids1 h0 (.rp vs) = []) ∧
 (∀ {h0 : Nat} (t : Nat) (v : V), ids1 h0 (.ifc t v) = []) ∧
 (∀ {h0 : Nat} (id v o l mm : Nat), ids1 h0 (.vw id v o l mm) = if h0 ≤ id then [id] else []) ∧
 (∀ {h0 : Nat} (id o : Nat), ids1 h0 (.ptr id o) = if h0 ≤ id then [id] else []) ∧
 (∀ {h0 : Nat} (id v o l : Nat), ids1 h0 (.ep id v o l) = if h0 ≤ id then [id] else []) ∧
 (∀ {h0 : Nat} (f : Nat) (cs : List V), ids1 h0 (.fn f cs) = cs.flatMap fun | .ptr id _ => (if h0 ≤ id then [id] else []) | _ => []) ∧
 (∀ {h0 : Nat} (cs : List V), ids1 h0 (.psl cs) = cs.flatMap fun | .ptr id _ => (if h0 ≤ id then [id] else []) | _ => []) ∧
 (leaves .junk = [.junk]) ∧
 (∀  (vs : List V), leaves (.tup vs) = [.tup vs]) ∧
 (∀ {h0 : Nat} (cs : List V), idsB h0 (.box cs) = cs.flatMap (ids1 h0)) ∧
 (∀ {h0 : Nat} (v sz : Nat) (z x : Bool) (xs : List V), idsB h0 (.row v z sz xs x) = []) ∧
 (∀ {h0 : Nat} , idsB h0 .dead = []) ∧
 (∀  (seen : List Nat), addNew seen [] = seen) ∧
 (∀  (seen l : List Nat) (i : Nat), addNew seen (i :: l) = if i ∈ seen then addNew seen l else addNew (seen ++ [i]) l) ∧
 (∀ {h0 : Nat} {H : Hp} (seen : List Nat), reach h0 H 0 seen = seen) ∧
 (∀ {h0 : Nat} {H : Hp} (n : Nat) (seen : List Nat), reach h0 H (n + 1) seen = reachK h0 H n seen (addNew seen (seen.flatMap fun i => match H[i]? with | some b => idsB h0 b | none => []))) ∧
 (∀ {h0 : Nat} {H : Hp} (n : Nat) (seen more : List Nat), reachK h0 H n seen more = if more.length = seen.length then seen else reach h0 H n more) ∧
 (∀  (i : Nat), pos i [] = none) ∧
 (∀  (i j : Nat) (l : List Nat), pos i (j :: l) = if i = j then some 0 else (pos i l).map (· + 1)) ∧
 (∀ {h0 : Nat} (ord : List Nat) (i : Nat), place h0 ord i = if i < h0 then some i else (pos i ord).map (h0 + ·)) ∧
 (∀ {h0 : Nat} (ord : List Nat) (id off : Nat), renC h0 ord (.ptr id off) = match place h0 ord id with | some j => .ptr j off | none => .junk) ∧
 (∀ {h0 : Nat} (ord : List Nat) (k : IntKind) (n : Int), renC h0 ord (.int k n) = .int k n) := by
 refine ⟨?_, ?_, ?_, ?_, ?_, ?_, ?_, ?_, ?_, ?_, ?_, ?_, ?_, ?_, ?_, ?_, ?_, ?_, ?_, ?_, ?_, ?_, ?_, ?_⟩
 ·intro h0; rfl
 ·intro h0 vs; rfl
 ·intro h0 vs; rfl
 ·intro h0 t v; rfl
 ·intro h0 id v o l mm; rfl
 ·intro h0 id o; rfl
 ·intro h0 id v o l; rfl
 ·intro h0 f cs; rfl
 ·intro h0 cs; rfl
 ·rfl
 ·intro vs; rfl
 ·intro h0 cs; rfl
 ·intro h0 v sz z x xs; rfl
 ·intro h0; rfl
 ·intro seen; rfl
 ·intro seen l i; rfl
 ·intro h0 H seen; rfl
 ·intro h0 H n seen; rfl
 ·intro h0 H n seen more; rfl
 ·intro i; rfl
 ·intro i j l; rfl
 ·intro h0 ord i; rfl
 ·intro h0 ord id off; rfl
 ·intro h0 ord k n; rfl
theorem kk15 : (∀ {h0 : Nat} {H : Hp} (ord : List Nat) (k : IntKind) (n : Int), ren1 h0 ord H (.int k n) = .int k n) ∧
 (∀ {h0 : Nat} {H : Hp} (ord : List Nat) (k : IntKind) (n : Int), ren h0 ord H (.int k n) = .int k n) ∧
 (∀ {h0 : Nat} (ord : List Nat) (b : Bool), renC h0 ord (.bool b) = .bool b) ∧
 (∀ {h0 : Nat} {H : Hp} (ord : List Nat) (b : Bool), ren1 h0 ord H (.bool b) = .bool b) ∧
 (∀ {h0 : Nat} {H : Hp} (ord : List Nat) (b : Bool), ren h0 ord H (.bool b) = .bool b) ∧
 (∀ {h0 : Nat} (ord : List Nat) (l : List Int), renC h0 ord (.str l) = .str l) ∧
 (∀ {h0 : Nat} {H : Hp} (ord : List Nat) (l : List Int), ren1 h0 ord H (.str l) = .str l) ∧
 (∀ {h0 : Nat} {H : Hp} (ord : List Nat) (l : List Int), ren h0 ord H (.str l) = .str l) ∧
 (∀ {h0 : Nat} (ord : List Nat) (z : Bool) (xs : List V), renC h0 ord (.sl z xs) = .sl z xs) ∧
 (∀ {h0 : Nat} {H : Hp} (ord : List Nat) (z : Bool) (xs : List V), ren1 h0 ord H (.sl z xs) = .sl z xs) ∧
 (∀ {h0 : Nat} {H : Hp} (ord : List Nat) (z : Bool) (xs : List V), ren h0 ord H (.sl z xs) = .sl z xs) ∧
 (∀ {h0 : Nat} (ord : List Nat) , renC h0 ord (.nilp) = .nilp) ∧
 (∀ {h0 : Nat} {H : Hp} (ord : List Nat) , ren1 h0 ord H (.nilp) = .nilp) ∧
 (∀ {h0 : Nat} {H : Hp} (ord : List Nat) , ren h0 ord H (.nilp) = .nilp) ∧
 (∀ {h0 : Nat} (ord : List Nat) , renC h0 ord (.nilf) = .nilf) ∧
 (∀ {h0 : Nat} {H : Hp} (ord : List Nat) , ren1 h0 ord H (.nilf) = .nilf) ∧
 (∀ {h0 : Nat} {H : Hp} (ord : List Nat) , ren h0 ord H (.nilf) = .nilf) ∧
 (∀ {h0 : Nat} (ord : List Nat) , renC h0 ord (.nili) = .nili) ∧
 (∀ {h0 : Nat} {H : Hp} (ord : List Nat) , ren1 h0 ord H (.nili) = .nili) ∧
 (∀ {h0 : Nat} {H : Hp} (ord : List Nat) , ren h0 ord H (.nili) = .nili) ∧
 (∀ {h0 : Nat} {H : Hp} (ord : List Nat) (id off : Nat), ren1 h0 ord H (.ptr id off) = renC h0 ord (.ptr id off)) ∧
 (∀ {h0 : Nat} {H : Hp} (ord : List Nat) , ren1 h0 ord H (.junk) = .junk) ∧
 (∀ {h0 : Nat} {H : Hp} (ord : List Nat) (vs : List V), ren1 h0 ord H (.tup vs) = .junk) ∧
 (∀ {h0 : Nat} {H : Hp} (ord : List Nat) (vs : List V), ren1 h0 ord H (.rp vs) = .junk) := by
 refine ⟨?_, ?_, ?_, ?_, ?_, ?_, ?_, ?_, ?_, ?_, ?_, ?_, ?_, ?_, ?_, ?_, ?_, ?_, ?_, ?_, ?_, ?_, ?_, ?_⟩
 ·intro h0 H ord k n; rfl
 ·intro h0 H ord k n; rfl
 ·intro h0 ord b; rfl
 ·intro h0 H ord b; rfl
 ·intro h0 H ord b; rfl
 ·intro h0 ord l; rfl
 ·intro h0 H ord l; rfl
 ·intro h0 H ord l; rfl
 ·intro h0 ord z xs; rfl
 ·intro h0 H ord z xs; rfl
 ·intro h0 H ord z xs; rfl
 ·intro h0 ord; rfl
 ·intro h0 H ord; rfl
 ·intro h0 H ord; rfl
 ·intro h0 ord; rfl
 ·intro h0 H ord; rfl
 ·intro h0 H ord; rfl
 ·intro h0 ord; rfl
 ·intro h0 H ord; rfl
 ·intro h0 H ord; rfl
 ·intro h0 H ord id off; rfl
 ·intro h0 H ord; rfl
 ·intro h0 H ord vs; rfl
 ·intro h0 H ord vs; rfl
theorem kk16 : (∀ {h0 : Nat} {H : Hp} (ord : List Nat) (t : Nat) (v : V), ren1 h0 ord H (.ifc t v) = .junk) ∧
 (∀ {h0 : Nat} {H : Hp} (ord : List Nat) (id ver off len md : Nat), ren1 h0 ord H (.vw id ver off len md) = if id < h0 then .vw id ver off len md else match row? H id ver, place h0 ord id with | some _, some j => .vw j 0 off len md | _, _ => .junk) ∧
 (∀ {h0 : Nat} {H : Hp} (ord : List Nat) (id ver i k : Nat), ren1 h0 ord H (.ep id ver i k) = if id < h0 then .ep id ver i k else match row? H id ver, place h0 ord id with | some _, some j => .ep j 0 i k | _, _ => .junk) ∧
 (∀ {h0 : Nat} {H : Hp} (ord : List Nat) (f : Nat) (cs : List V), ren1 h0 ord H (.fn f cs) = if goods (cs.map (renC h0 ord)) = true then .fn f (cs.map (renC h0 ord)) else .junk) ∧
 (∀ {h0 : Nat} {H : Hp} (ord : List Nat) (cs : List V), ren1 h0 ord H (.psl cs) = if goods (cs.map (renC h0 ord)) = true then .psl (cs.map (renC h0 ord)) else .junk) ∧
 (∀ {h0 : Nat} {H : Hp} (ord : List Nat) (id off : Nat), ren h0 ord H (.ptr id off) = renC h0 ord (.ptr id off)) ∧
 (∀ {h0 : Nat} {H : Hp} (ord : List Nat) , ren h0 ord H (.junk) = .junk) ∧
 (∀ {h0 : Nat} {H : Hp} (ord : List Nat) (vs : List V), ren h0 ord H (.tup vs) = .junk) ∧
 (∀ {h0 : Nat} {H : Hp} (ord : List Nat) (vs : List V), ren h0 ord H (.rp vs) = .junk) ∧
 (∀ {h0 : Nat} {H : Hp} (ord : List Nat) (t : Nat) (v : V), ren h0 ord H (.ifc t v) = .junk) ∧
 (∀ {h0 : Nat} {H : Hp} (ord : List Nat) (id ver off len md : Nat), ren h0 ord H (.vw id ver off len md) = if id < h0 then .vw id ver off len md else match row? H id ver, place h0 ord id with | some _, some j => .vw j 0 off len md | _, _ => .junk) ∧
 (∀ {h0 : Nat} {H : Hp} (ord : List Nat) (id ver i k : Nat), ren h0 ord H (.ep id ver i k) = if id < h0 then .ep id ver i k else match row? H id ver, place h0 ord id with | some _, some j => .ep j 0 i k | _, _ => .junk) ∧
 (∀ {h0 : Nat} {H : Hp} (ord : List Nat) (f : Nat) (cs : List V), ren h0 ord H (.fn f cs) = if goods (cs.map (renC h0 ord)) = true then .fn f (cs.map (renC h0 ord)) else .junk) ∧
 (∀ {h0 : Nat} {H : Hp} (ord : List Nat) (cs : List V), ren h0 ord H (.psl cs) = if goods (cs.map (renC h0 ord)) = true then .psl (cs.map (renC h0 ord)) else .junk) ∧
 (∀ {h0 : Nat} {H : Hp} (ord : List Nat) (cs : List V), ren h0 ord H (.agg cs) = if goods (cs.map (ren1 h0 ord H)) = true then .agg (cs.map (ren1 h0 ord H)) else .junk) ∧
 (∀ {h0 : Nat} {H : Hp} (ord : List Nat) (rs : Bool) (cs : List V), renB h0 ord H rs (.box cs) = if goods (cs.map (ren1 h0 ord H)) = true then .box (cs.map (ren1 h0 ord H)) else .dead) ∧
 (∀ {h0 : Nat} {H : Hp} (ord : List Nat) (rs z x : Bool) (ver sz : Nat) (xs : List V), renB h0 ord H rs (.row ver z sz xs x) = .row (if rs = true then 0 else ver) z sz xs x) ∧
 (∀ {h0 : Nat} {H : Hp} (ord : List Nat) (rs : Bool), renB h0 ord H rs .dead = .dead) ∧
 (∀  {α : Type} (a : List α), a.isEmpty = decide (a.length = 0)) ∧
 (u8s [] = true) ∧
 (∀  (n : Int) (l : List V), u8s (.int .u8 n :: l) = u8s l) ∧
 (∀ {T : Nat → Option MFun} {O : Orc} {fr : Fr} {H : Hp} (x : MArg) (zero : V), ev T O fr H (.clr x zero) = clrV H (x.val fr) zero) ∧
 (∀ {H : Hp} (zero : V) (id ver off len md : Nat), clrV H (.vw id ver off len md) zero = (row? H id ver).bind fun r => if r.2.2.2 = true then (if (leaves zero).length = r.2.1 then some (.tup [], H.set id (.row ver r.1 r.2.1 (r.2.2.1.take off ++ List.replicate len zero ++ r.2.2.1.drop (off + len)) true)) else none) else none) ∧
 (∀ {T : Nat → Option MFun} {O : Orc} {fr : Fr} {H : Hp} , ev T O fr H (.mkmap) = some (.mp H.length, H ++ [.map []])) := by
 refine ⟨?_, ?_, ?_, ?_, ?_, ?_, ?_, ?_, ?_, ?_, ?_, ?_, ?_, ?_, ?_, ?_, ?_, ?_, ?_, ?_, ?_, ?_, ?_, ?_⟩
 ·intro h0 H ord t v; rfl
 ·intro h0 H ord id ver off len md; rfl
 ·intro h0 H ord id ver i k; rfl
 ·intro h0 H ord f cs; rfl
 ·intro h0 H ord cs; rfl
 ·intro h0 H ord id off; rfl
 ·intro h0 H ord; rfl
 ·intro h0 H ord vs; rfl
 ·intro h0 H ord vs; rfl
 ·intro h0 H ord t v; rfl
 ·intro h0 H ord id ver off len md; rfl
 ·intro h0 H ord id ver i k; rfl
 ·intro h0 H ord f cs; rfl
 ·intro h0 H ord cs; rfl
 ·intro h0 H ord cs; rfl
 ·intro h0 H ord rs cs; rfl
 ·intro h0 H ord rs z x ver sz xs; rfl
 ·intro h0 H ord rs; rfl
 ·intro α a; cases a <;> simp
 ·rfl
 ·intro n l; rfl
 ·intro T O fr H x zero; rfl
 ·intro H zero id ver off len md; cases hr : row? H id ver with | none => simp [clrV, hr] | some r => simp only [clrV, hr, y4]; by_cases h1 : r.2.2.2 = true <;> by_cases h2 : (leaves zero).length = r.2.1 <;> simp [h1, h2]
 ·intro T O fr H; rfl
theorem kk17 : (∀ {T : Nat → Option MFun} {O : Orc} {fr : Fr} {H : Hp} (x k : MArg), ev T O fr H (.mlook x k) = mlookV H (x.val fr) (k.val fr)) ∧
 (∀ {T : Nat → Option MFun} {O : Orc} {fr : Fr} {H : Hp} (x k v : MArg), ev T O fr H (.mput x k v) = mputV H (x.val fr) (k.val fr) (v.val fr)) ∧
 (∀ {H : Hp} (id : Nat) (n : Int), mlookV H (.mp id) (.int .i64 n) = match H[id]? with | some (.map e) => some (.int .i64 (mget e n), H) | _ => none) ∧
 (∀ {H : Hp} (id : Nat) (n y : Int), mputV H (.mp id) (.int .i64 n) (.int .i64 y) = match H[id]? with | some (.map e) => some (.tup [], H.set id (.map (mset e n y))) | _ => none) ∧
 (∀  (id : Nat), leaves (.mp id) = [.mp id]) ∧
 (∀  (id : Nat), good (.mp id) = true) ∧
 (∀ {h0 : Nat} (id : Nat), ids1 h0 (.mp id) = if h0 ≤ id then [id] else []) ∧
 (∀ {h0 : Nat} (m : List (Int × Int)), idsB h0 (.map m) = []) ∧
 (∀ {h0 : Nat} (ord : List Nat) (id : Nat), renC h0 ord (.mp id) = match place h0 ord id with | some j => .mp j | none => .junk) ∧
 (∀ {h0 : Nat} {H : Hp} (ord : List Nat) (id : Nat), ren1 h0 ord H (.mp id) = renC h0 ord (.mp id)) ∧
 (∀ {h0 : Nat} {H : Hp} (ord : List Nat) (id : Nat), ren h0 ord H (.mp id) = renC h0 ord (.mp id)) ∧
 (∀ {h0 : Nat} {H : Hp} (ord : List Nat) (rs : Bool) (m : List (Int × Int)), renB h0 ord H rs (.map m) = .map m) ∧
 (∀ {h0 : Nat} {H : Hp} (l : List V), trimK h0 H l = trimO h0 H l (reach h0 H H.length (addNew [] (l.flatMap (idsV h0) ++ (H.take h0).flatMap (idsB h0))))) ∧
 (∀ {h0 : Nat} {H : Hp} (l : List V) (ord : List Nat), trimO h0 H l ord = (l.map (ren h0 ord H), (H.take h0).map (renB h0 ord H false) ++ ord.map fun i => renB h0 ord H true (H.getD i .dead))) ∧
 (∀  (l : List V), wkL false l = l) ∧
 (wkL true [] = []) ∧
 (∀  (v : V) (l : List V), wkL true (v :: l) = weaken v :: wkL true l) ∧
 (∀  (k : IntKind) (n : Int), weaken (.int k n) = .int k n) ∧
 (∀  (b : Bool), weaken (.bool b) = .bool b) ∧
 (∀  (l : List Int), weaken (.str l) = .str l) ∧
 (∀  (l : List V), weaken (.agg l) = .agg l) ∧
 (∀  (z : Bool) (xs : List V), weaken (.sl z xs) = .sl z xs) ∧
 (∀  (i o : Nat), weaken (.ptr i o) = .ptr i o) ∧
 (∀  (i v o n : Nat), weaken (.vw i v o n 0) = .vw i v o n 0) := by
 refine ⟨?_, ?_, ?_, ?_, ?_, ?_, ?_, ?_, ?_, ?_, ?_, ?_, ?_, ?_, ?_, ?_, ?_, ?_, ?_, ?_, ?_, ?_, ?_, ?_⟩
 ·intro T O fr H x k; rfl
 ·intro T O fr H x k v; rfl
 ·intro H id n; unfold mlookV mapOf; simp only [mpId, intOf, y4]; cases H[id]? with | none => rfl | some b => cases b <;> rfl
 ·intro H id n y; unfold mputV mapOf; simp only [mpId, intOf, y4]; cases H[id]? with | none => rfl | some b => cases b <;> rfl
 ·intro id; rfl
 ·intro id; rfl
 ·intro h0 id; rfl
 ·intro h0 m; rfl
 ·intro h0 ord id; rfl
 ·intro h0 H ord id; rfl
 ·intro h0 H ord id; rfl
 ·intro h0 H ord rs m; rfl
 ·intro h0 H l; rfl
 ·intro h0 H l ord; rfl
 ·intro l; rfl
 ·rfl
 ·intro v l; rfl
 ·intro k n; rfl
 ·intro b; rfl
 ·intro l; rfl
 ·intro l; rfl
 ·intro z xs; rfl
 ·intro i o; rfl
 ·intro i v o n; rfl
theorem kk18 : (∀  (i v o n : Nat), weaken (.vw i v o n 2) = .vw i v o n 2) ∧
 (∀  (i v o n : Nat), weaken (.vw i v o n 1) = .vw i v o n 0) := by
 refine ⟨?_, ?_⟩
 ·intro i v o n; rfl
 ·intro i v o n; rfl
end
theorem kn0 : (∀ {α β : Type} {f : α → β} {l : List α} {i : Nat}, List.map f (List.drop i l) = List.drop i (List.map f l)) ∧
 (∀ {α β : Type} {f : α → β} {l : List α} {i : Nat}, List.map f (List.take i l) = List.take i (List.map f l)) ∧
 (∀ {α β : Type} {f : α → β} {l₁ l₂ : List α}, List.map f (l₁ ++ l₂) = List.map f l₁ ++ List.map f l₂) ∧
 (∀ {α β : Type} {f : α → β} {a : α} {l : List α}, List.map f (a :: l) = f a :: List.map f l) ∧
 (∀ {α β : Type} {f : α → β}, List.map f [] = []) ∧
 (∀ {α β : Type} {f : α → β} {l : List α} {i : Nat} {a : α}, List.map f (List.set l i a) = List.set (List.map f l) i (f a)) ∧
 (∀ {n : Nat} {α : Type} {a : α} {α_1 : Type} {f : α → α_1}, List.map f (List.replicate n a) = List.replicate n (f a)) ∧
 (∀ {α β : Type} {as : List α} (f : α → β), List.length (List.map f as) = List.length as) ∧
 (∀ {α : Type} {i : Nat} {l : List α}, List.length (List.drop i l) = List.length l - i) ∧
 (∀ {α : Type} {i : Nat} {l : List α}, List.length (List.take i l) = min i (List.length l)) ∧
 (∀ {α : Type} {as bs : List α}, List.length (as ++ bs) = List.length as + List.length bs) ∧
 (∀ {α : Type} {a : α} {as : List α}, List.length (a :: as) = List.length as + (1 : Nat)) ∧
 (∀ {α : Type}, List.length ([] : List α) = (0 : Nat)) ∧
 (∀ {α : Type} {as : List α} {i : Nat} {a : α}, List.length (List.set as i a) = List.length as) ∧
 (∀ {α : Type} {n : Nat} {a : α}, List.length (List.replicate n a) = n) ∧
 (∀ {α : Type} {l : List α}, List.drop (0 : Nat) l = l) ∧
 (∀ {α : Type} {a : α} {l : List α} {i : Nat}, List.drop (i + (1 : Nat)) (a :: l) = List.drop i l) ∧
 (∀ {α : Type} {i : Nat}, List.drop i ([] : List α) = []) ∧
 (∀ {α : Type} {i : Nat}, List.take i ([] : List α) = []) ∧
 (∀ {α : Type} {a : α} {as : List α} {i : Nat}, List.take (i + (1 : Nat)) (a :: as) = a :: List.take i as) :=
 ⟨@List.map_drop.{0,0}, @List.map_take.{0,0}, @List.map_append.{0,0}, @List.map_cons.{0,0}, @List.map_nil.{0,0}, @List.map_set.{0,0}, @List.map_replicate.{0,0}, @List.length_map.{0,0}, @List.length_drop.{0}, @List.length_take.{0}, @List.length_append.{0}, @List.length_cons.{0}, @List.length_nil.{0}, @List.length_set.{0}, @List.length_replicate.{0}, @List.drop_zero.{0}, @List.drop_succ_cons.{0}, @List.drop_nil.{0}, @List.take_nil.{0}, @List.take_succ_cons.{0}⟩
theorem kn1 : (∀ {α : Type} {l : List α}, List.take (0 : Nat) l = []) ∧
 (∀ {α : Type} (as : List α), as ++ [] = as) ∧
 (∀ {α : Type} (as : List α), [] ++ as = as) ∧
 (∀ {α : Type} {a : α} {as bs : List α}, a :: as ++ bs = a :: (as ++ bs)) ∧
 (∀ {α β : Type} {f : α → β} {l : List α} {i : Nat}, (List.map f l)[i]? = Option.map f l[i]?) ∧
 (∀ {α : Type} {xs : List α} {i j : Nat}, (List.drop i xs)[j]? = xs[i + j]?) ∧
 (∀ {α : Type} {a : α} {l : List α}, (a :: l)[(0 : Nat)]? = some a) ∧
 (∀ {α : Type} {a : α} {i : Nat} {l : List α}, (a :: l)[i + (1 : Nat)]? = l[i]?) ∧
 (∀ {α : Type} {i : Nat}, ([] : List α)[i]? = none) ∧
 (∀ {α : Type} {x : α} {xs : List α} {a : α}, List.set (x :: xs) (0 : Nat) a = a :: xs) ∧
 (∀ {α : Type} {x : α} {xs : List α} {i : Nat} {a : α}, List.set (x :: xs) (i + (1 : Nat)) a = x :: List.set xs i a) ∧
 (∀ {α : Type} {a : α} {l : List α} {f : α → Bool}, List.all (a :: l) f = (f a && List.all l f)) ∧
 (∀ {α : Type} {f : α → Bool}, List.all [] f = true) ∧
 (∀ {α β : Type} {x : α} {xs : List α} {f : α → List β}, List.flatMap f (x :: xs) = f x ++ List.flatMap f xs) ∧
 (∀ {α β : Type} {f : α → List β}, List.flatMap f [] = []) ∧
 (∀ {α : Type} {b : α} {l : List α} {a : α}, a ∈ b :: l ↔ a = b ∨ a ∈ l) ∧
 (∀ {α : Type} {a : α}, ¬a ∈ []) ∧
 (∀ {α : Type} {x : α} {xs : List α} {d : α}, List.getD (x :: xs) (0 : Nat) d = x) ∧
 (∀ {α : Type} {x : α} {xs : List α} {n : Nat} {d : α}, List.getD (x :: xs) (n + (1 : Nat)) d = List.getD xs n d) ∧
 (∀ {α : Type} {a : α} {l : List α} {d : α}, List.headD (a :: l) d = a) :=
 ⟨@List.take_zero.{0}, @List.append_nil.{0}, @List.nil_append.{0}, @List.cons_append.{0}, @List.getElem?_map.{0,0}, @List.getElem?_drop.{0}, @List.getElem?_cons_zero.{0}, @List.getElem?_cons_succ.{0}, @List.getElem?_nil.{0}, @List.set_cons_zero.{0}, @List.set_cons_succ.{0}, @List.all_cons.{0}, @List.all_nil.{0}, @List.flatMap_cons.{0,0}, @List.flatMap_nil.{0,0}, @List.mem_cons.{0}, @List.not_mem_nil.{0}, @List.getD_cons_zero.{0}, @List.getD_cons_succ.{0}, @List.headD_cons.{0}⟩
theorem kn2 : (∀ {α : Type} {d : α}, List.headD [] d = d) ∧
 (∀ {α : Type} {a : α} {as : List α}, List.tail (a :: as) = as) ∧
 (∀ {α : Type}, List.tail ([] : List α) = []) ∧
 (∀ (k : IntKind) (l : List Int), List.map num (List.map (V.int k) l) = l) ∧
 (∀ (l : List Int), u8s (List.map (V.int IntKind.u8) l) = true) ∧
 (∀ {n : Nat} {xs : List V}, u8s xs = true → u8s (List.drop n xs) = true) ∧
 (∀ {n : Nat} {xs : List V}, u8s xs = true → u8s (List.take n xs) = true) ∧
 (∀ {xs ys : List V}, u8s xs = true → u8s ys = true → u8s (xs ++ ys) = true) ∧
 (∀ {n : Nat} {m : Int} {xs : List V}, u8s xs = true → u8s (List.set xs n (V.int IntKind.u8 m)) = true) ∧
 (∀ {n : Nat} {m : Int}, u8s (List.replicate n (V.int IntKind.u8 m)) = true) ∧
 (∀ {k : IntKind} {l : List Int}, ints (List.map (V.int k) l)) ∧
 (∀ {n : Nat} {k : IntKind} {m : Int} {xs : List V}, ints xs → ints (List.set xs n (V.int k m))) ∧
 (∀ {n : Nat} {k : IntKind} {m : Int}, ints (List.replicate n (V.int k m))) ∧
 (∀ {n : Nat} {xs : List V}, ints xs → ints (List.take n xs)) ∧
 (∀ {n : Nat} {xs : List V}, ints xs → ints (List.drop n xs)) ∧
 (∀ {xs ys : List V}, ints xs → ints ys → ints (xs ++ ys)) ∧
 (∀ {l : List V}, ints l → goods l = true) ∧
 (∀ {l : List V}, ints l → List.all l scalar = true) ∧
 (∀ {cs ls : List V}, List.length ls = List.length cs → setAt cs (0 : Nat) ls = ls) ∧
 (∀ {cs ls : List V}, List.length ls ≤ List.length cs → setAt cs (0 : Nat) ls = ls ++ List.drop (List.length ls) cs) :=
 ⟨@List.headD_nil.{0}, @List.tail_cons.{0}, @List.tail_nil.{0}, @ziz, @zh4, @zic, @zid, @zie, @zif, @zih, @zii, @zil, @zim, @zik, @zij, @zin, @zip, @ziq, @zix, @ziy⟩
theorem kn3 : (∀ {H : Hp} {l : List V}, ints l → shareL H l = some (l, H)) ∧
 (∀ {H : Hp} {l : List V}, ints l → outL [] H l = some (l, H)) ∧
 (∀ {H : Hp} {l : List V}, ints l → putL H l = (l, H)) ∧
 (∀ {h0 : Nat} {l : List V}, ints l → List.flatMap (ids1 h0) l = []) ∧
 (∀ {h0 : Nat} {ord : List Nat} {H : Hp} {l : List V}, ints l → List.map (ren1 h0 ord H) l = l) ∧
 (∀ {α : Type} (e : α → V) (sz : Nat), (∀ (a : α), List.length (leaves (e a)) = sz) → ∀ (l : List α), sizes sz (List.map e l) = true) ∧
 (∀ {sz n : Nat} {xs : List V}, sizes sz xs = true → sizes sz (List.drop n xs) = true) ∧
 (∀ {sz n : Nat} {xs : List V}, sizes sz xs = true → sizes sz (List.take n xs) = true) ∧
 (∀ {sz : Nat} {xs ys : List V}, sizes sz (xs ++ ys) = (sizes sz xs && sizes sz ys)) ∧
 (∀ {sz n : Nat} {xs : List V} {v : V}, sizes sz xs = true → List.length (leaves v) = sz → sizes sz (List.set xs n v) = true) ∧
 (∀ {sz n : Nat} {v : V}, List.length (leaves v) = sz → sizes sz (List.replicate n v) = true) ∧
 (∀ {α β : Type} (a : α) (f : α → Option β), Option.bind (some a) f = f a) ∧
 (∀ {α β : Type} (f : α → Option β), Option.bind none f = none) ∧
 (∀ {α β : Type} (a : α) (f : α → β), Option.map f (some a) = some (f a)) ∧
 (∀ {α β : Type} (f : α → β), Option.map f none = none) ∧
 (∀ {α : Type} (val val_1 : α), (some val = some val_1) = (val = val_1)) ∧
 (∀ {α β : Type} (fst : α) (snd : β) (fst_1 : α) (snd_1 : β), ((fst, snd) = (fst_1, snd_1)) = (fst = fst_1 ∧ snd = snd_1)) ∧
 (∀ (b : Bool), (b && true) = b) ∧
 (∀ (b : Bool), (true && b) = b) ∧
 (∀ (b : Bool), (b && false) = false) :=
 ⟨@zir, @zis, @zit, @ziu, @ziv, @zh3, @zh6, @zh7, @zh8, @zh9, @zia, @Option.bind_some.{0,0}, @Option.bind_none.{0,0}, @Option.map_some.{0,0}, @Option.map_none.{0,0}, @Option.some.injEq.{0}, @Prod.mk.injEq.{0,0}, @Bool.and_true, @Bool.true_and, @Bool.and_false⟩
theorem kn4 : (∀ (b : Bool), (false && b) = false) ∧
 ((!true) = false) ∧
 ((!false) = true) ∧
 (∀ (b : Bool), (!!b) = b) ∧
 (∀ (b : Bool), ((!b) = true) = (b = false)) ∧
 (∀ (b : Bool), ((!b) = false) = (b = true)) ∧
 (∀ (a b : Bool), ((a && b) = true) = (a = true ∧ b = true)) ∧
 (∀ (a b : Bool), ((a || b) = true) = (a = true ∨ b = true)) ∧
 (∀ {p : Prop} [inst : Decidable p], (decide p = true) = p) ∧
 (∀ {p : Prop} {x : Decidable p}, decide p = false ↔ ¬p) ∧
 (∀ (b : Bool), (b || true) = true) ∧
 (∀ (b : Bool), (true || b) = true) ∧
 (∀ (b : Bool), (false || b) = b) ∧
 (∀ (b : Bool), (b || false) = b) ∧
 (∀ (h : Decidable True), decide True = true) ∧
 (∀ (h : Decidable False), decide False = false) ∧
 (∀ (p : Prop), (True ∧ p) = p) ∧
 (∀ (p : Prop), (p ∧ True) = p) ∧
 ((¬True) = False) ∧
 ((¬False) = True) :=
 ⟨@Bool.false_and, @Bool.not_true, @Bool.not_false, @Bool.not_not, @Bool.not_eq_true', @Bool.not_eq_false', @Bool.and_eq_true, @Bool.or_eq_true, @decide_eq_true_eq, @decide_eq_false_iff_not, @Bool.or_true, @Bool.true_or, @Bool.false_or, @Bool.or_false, @decide_true, @decide_false, @true_and, @and_true, @not_true_eq_false, @not_false_eq_true⟩
theorem kn5 : ((false = true) = False) ∧
 (∀ (n : Nat), (0 : Nat) + n = n) ∧
 (∀ (n : Nat), n + (0 : Nat) = n) ∧
 (∀ (n : Nat), n - (0 : Nat) = n) ∧
 (∀ (n : Nat), n * (1 : Nat) = n) ∧
 (∀ (n : Nat), (0 : Nat) * n = (0 : Nat)) ∧
 (∀ (n : Nat), Int.toNat ↑n = n) ∧
 (∀ (n : Nat), (0 : Int) ≤ ↑n) ∧
 (∀ {α : Type} {a b : α}, Option.getD (some a) b = a) ∧
 (∀ {α : Type} {a : α}, Option.getD none a = a) ∧
 (∀ {α : Type} {a : α}, Option.isNone (some a) = false) ∧
 (∀ {α : Type}, Option.isNone (none : Option α) = true) ∧
 (∀ {α : Type} {a : α}, Option.isSome (some a) = true) ∧
 (∀ (n : Nat), n ≤ n) ∧
 (∀ (n : Nat), (0 : Nat) ≤ n) ∧
 (∀ (p : Prop), (p ∨ False) = p) ∧
 (∀ (p : Prop), (False ∨ p) = p) ∧
 (∀ (p : Prop), (p ∧ p) = p) ∧
 (∀ (p : Prop), (p ∨ p) = p) ∧
 (Int.toNat (1 : Int) = (1 : Nat)) :=
 ⟨@Bool.false_eq_true, @Nat.zero_add, @Nat.add_zero, @Nat.sub_zero, @Nat.mul_one, @Nat.zero_mul, @Int.toNat_natCast, @Int.natCast_nonneg, @Option.getD_some.{0}, @Option.getD_none.{0}, @Option.isNone_some.{0}, @Option.isNone_none.{0}, @Option.isSome_some.{0}, @Nat.le_refl, @Nat.zero_le, @or_false, @false_or, @and_self, @or_self, @Int.toNat_one⟩
theorem kn6 : (Int.toNat (0 : Int) = (0 : Nat)) ∧
 (∀ (n : Nat), Nat.succ n ≠ n) ∧
 (∀ (a : Int), a ≤ a) :=
 ⟨@Int.toNat_zero, @Nat.succ_ne_self, @Int.le_refl⟩
theorem kk : type_of% (And.intro kk0 (And.intro kk1 (And.intro kk2 (And.intro kk3 (And.intro kk4 (And.intro kk5 (And.intro kk6 (And.intro kk7 (And.intro kk8 (And.intro kk9 (And.intro kk10 (And.intro kk11 (And.intro kk12 (And.intro kk13 (And.intro kk14 (And.intro kk15 (And.intro kk16 (And.intro kk17 kk18)))))))))))))))))) := (And.intro kk0 (And.intro kk1 (And.intro kk2 (And.intro kk3 (And.intro kk4 (And.intro kk5 (And.intro kk6 (And.intro kk7 (And.intro kk8 (And.intro kk9 (And.intro kk10 (And.intro kk11 (And.intro kk12 (And.intro kk13 (And.intro kk14 (And.intro kk15 (And.intro kk16 (And.intro kk17 kk18))))))))))))))))))
theorem qa.{u} {α : Sort u} (a : α) : (a = a) ↔ True := eq_self_iff_true a
theorem qb.{u} (α : Sort u) : (α → True) = True := implies_true α
theorem qc.{u} {b : Prop} (α : Sort u) [Nonempty α] : (α → b) ↔ b := forall_const α
theorem qd (n : Nat) : ((OfNat.ofNat n : Nat) : Int) = OfNat.ofNat n := Int.cast_ofNat_Int
theorem br {α : Type} {c : Prop} [Decidable c] {a b r : α} (h : (if c then a else b) = r) : (c = True ∧ a = r) ∨ (c = False ∧ b = r) := by
 by_cases hc : c
 ·rw [if_pos hc] at h; exact .inl ⟨eq_true hc, h⟩
 ·rw [if_neg hc] at h; exact .inr ⟨eq_false hc, h⟩
theorem bn {α : Type} {c : Prop} [Decidable c] {a : Option α} {r : α} (h : (if c then a else none) = some r) : c = True ∧ a = some r := by
 by_cases hc : c
 ·rw [if_pos hc] at h; exact ⟨eq_true hc, h⟩
 ·rw [if_neg hc] at h; cases h
theorem bm {α : Type} {c : Prop} [Decidable c] {a : Option α} {r : α} (h : (if c then none else a) = some r) : c = False ∧ a = some r := by
 by_cases hc : c
 ·rw [if_pos hc] at h; cases h
 ·rw [if_neg hc] at h; exact ⟨eq_false hc, h⟩
theorem bc {α : Type} {c : Prop} [Decidable c] {a b r : α} (h : (if c then a else b) = r) : (c ∧ a = r) ∨ (c = False ∧ b = r) := by
 by_cases hc : c
 ·rw [if_pos hc] at h; exact .inl ⟨hc, h⟩
 ·rw [if_neg hc] at h; exact .inr ⟨eq_false hc, h⟩
theorem bb {α : Type} {b : Bool} {x y r : α} (h : (if b = true then x else y) = r) : ((b = false) = False ∧ (b = true) = True ∧ x = r) ∨ ((b = false) = True ∧ (b = true) = False ∧ y = r) := by
 cases b
 ·exact .inr ⟨eq_true rfl, eq_false (by decide), h⟩
 ·exact .inl ⟨eq_false (by decide), eq_true rfl, h⟩
theorem ob {α β : Type} {o : Option α} {f : α → Option β} {r : β} (h : o.bind f = some r) : ∃ x, o = some x ∧ f x = some r := by
 cases o with
 | none => cases h
 | some x => exact ⟨x, rfl, h⟩
theorem kn : type_of% (And.intro (@qa.{1}) (And.intro (@qb.{0}) (And.intro (@qb.{1}) (And.intro (@qc.{0}) (And.intro (@qc.{1}) (And.intro qd (And.intro kn0 (And.intro kn1 (And.intro kn2 (And.intro kn3 (And.intro kn4 (And.intro kn5 kn6)))))))))))) := (And.intro (@qa.{1}) (And.intro (@qb.{0}) (And.intro (@qb.{1}) (And.intro (@qc.{0}) (And.intro (@qc.{1}) (And.intro qd (And.intro kn0 (And.intro kn1 (And.intro kn2 (And.intro kn3 (And.intro kn4 (And.intro kn5 kn6))))))))))))
abbrev mt (d n : Nat) : MO := ⟨some d, .mv (.t n), none⟩
abbrev mo (d : Nat) (o : MOp) : MO := ⟨some d, o, none⟩
abbrev mc (d : Nat) (v : V) : MO := ⟨some d, .mv (.c v), none⟩
abbrev me (d n i : Nat) : MO := ⟨some d, .ext (.t n) i, none⟩
abbrev ml (d n : Nat) : MO := ⟨some d, .load (.t n) 1 false, none⟩
abbrev mn (o : MOp) : MO := ⟨none, o, none⟩
theorem vd {T : Nat → Option MFun} {f : Nat} {mf : MFun} {md : List Nat} (h : T f = some mf) (hi : mf.inline = false) (hm : mf.modes = md) {O : Orc} {H : Hp} {vs : List V} : vcall T O f vs H = (args H md vs).bind fun p => vk H p.2 md vs (O.deep f p.1) := by subst hm; exact zhw h hi
theorem vi {T : Nat → Option MFun} {f : Nat} {mf : MFun} (h : T f = some mf) (hi : mf.inline = true) {O : Orc} {H : Hp} {vs : List V} : vcall T O f vs H = ik (O.inl f vs H) := zhx h hi
theorem ex_of {T : Nat → Option MFun} {c c' : MC} (h : c = c') {O : Orc} {m h0 : Nat} {fr : Fr} {H : Hp} : exec T O m h0 c fr H = exec T O m h0 c' fr H := by rw [h]
theorem ru_of {T : Nat → Option MFun} {c c' : List MO} (h : c = c') {O : Orc} {fr : Fr} {H : Hp} : runO T O c fr H = runO T O c' fr H := by rw [h]
theorem dr_of {T : Nat → Option MFun} {l l' : List MO} {chk : List (Nat × Nat)} (h : l = l') (hc : chk.all (fun p => decide (p.1 < l'.length) && decide (p.2 < l'.length)) = true) {O : Orc} {m h0 : Nat} {fr : Fr} {H : Hp} : exec T O m h0 (.dreg l chk) fr H = alt (runC T O l' fr H) (slowD T O l' chk fr H) := by subst h; exact zi7 hc
theorem df_of {T : Nat → Option MFun} {l l' : List MO} {chk : List (Nat × Nat)} (h : l = l') {O : Orc} {m h0 : Nat} {fr : Fr} {H : Hp} (hs : allSame T O (trace T O fr H l') l' chk) : exec T O m h0 (.dreg l chk) fr H = runO T O l fr H := by subst h; exact zhm _ _ hs
namespace C
theorem ra {T : Nat → Option MFun} {P : Prop} {c c' : List MO} (h : c = c') (p : P) : (∀ {O : Orc} {fr : Fr} {H : Hp}, runO T O c fr H = runO T O c' fr H) ∧ P := ⟨ru_of h, p⟩
theorem xa {T : Nat → Option MFun} {P : Prop} {c c' : MC} (h : c = c') (p : P) : (∀ {O : Orc} {m h0 : Nat} {fr : Fr} {H : Hp}, exec T O m h0 c fr H = exec T O m h0 c' fr H) ∧ P := ⟨ex_of h, p⟩
end C
section
variable {P : Program}
def Trodden (w : World) (ps : List MemPlace) (a : Addr) : Prop := MemPlace.cell a.block a.off ∈ ps ∧ (w.cell? a).isSome = true
def RdL (P : Program) (t : TypeId) {α : Type} (lv : α → List V) (ok : α → Prop) : Prop :=
 ∀ {H : Type} {enc : TypeId × Value → H} {w : World} {fuel : Nat} {cs : List Value} {x : DataW H × List MemPlace}, DataW.trod enc P w 0 (fun _ => true) true fuel t cs = some x →
  ∃ a : α, (lv a).length = cs.length ∧ ok a ∧ (∀ (j : Nat) (lf : V), (lv a)[j]? = some lf → deep1 lf = true) ∧
   ∀ (I : Addr → Prop), (∀ b, Trodden w x.2 b → I b) → ∀ (ρ : Infs) (j : Nat) (lf : V), (lv a)[j]? = some lf → VR I ρ w.cell? lf (cs.getD j undef)
theorem inR_wf {k : IntKind} {n : Int} (h : (Lit.int k n).wf = true) : inR k n := by
 simp only [Lit.wf, y5, decide_eq_true_eq] at h; exact h
theorem op_int {t : TypeId} {k : IntKind} (ht : P.underlying t = some (.int k)) : RdL P t (fun n : Int => [.int k n]) (inR k) := by
 intro H enc w fuel cs x h
 obtain ⟨n, rfl, rfl, hw⟩ := DataW.trod_int ht h
 refine ⟨n, rfl, inR_wf hw, fun j lf hj => ?_, fun I hI ρ j lf hj => ?_⟩
 ·cases j <;> simp at hj; subst hj; rfl
 ·cases j <;> simp at hj; subst hj; exact .int k n (inR_wf hw)
theorem zjg {t : TypeId} (ht : P.underlying t = some .bool) : RdL P t (fun b : Bool => [.bool b]) (fun _ => True) := by
 intro H enc w fuel cs x h
 obtain ⟨n, rfl, rfl⟩ := DataW.trod_bool ht h
 refine ⟨n, rfl, trivial, fun j lf hj => ?_, fun I hI ρ j lf hj => ?_⟩
 ·cases j <;> simp at hj; subst hj; rfl
 ·cases j <;> simp at hj; subst hj; exact .bool n
theorem cells?_get {w : World} {a : Addr} {n : Nat} {cs : List Value} (h : w.cells? 0 a n = some cs) : cs.length = n ∧ ∀ i, i < n → w.cell? (a.add i) = cs[i]? := by
 unfold World.cells? at h
 rw [if_pos (Nat.zero_le _)] at h
 obtain ⟨h1, h2⟩ : cs.length = (List.range n).length ∧ ∀ (i m : Nat), (List.range n)[i]? = some m → w.cell? (a.add m) = cs[i]? := ⟨mapM_some_length h, fun i m hm => mapM_some_get h i m hm⟩
 rw [y55] at h1
 exact ⟨h1, fun i hi => h2 i i (by rw [List.getElem?_range hi])⟩
theorem op_sl {t e : TypeId} {α : Type} {lv : α → List V} {ok : α → Prop} {ec : α → V} (ht : P.underlying t = some (.slice e)) (he : RdL P e lv ok) (hl : ∀ a, leaves (ec a) = lv a) :
  RdL P t (fun s : Sl α => [.sl s.z (s.l.map ec)]) (fun s => (s.z = true → s.l = []) ∧ s.l.length ≤ maxLen ∧ ∀ a ∈ s.l, ok a) := by
 intro H enc w fuel cs x h
 rcases DataW.trod_slice ht h with ⟨rfl, rfl⟩ | ⟨a, len, cap, elems, rest, n, rfl, rfl, rfl, hb, hlc, hm, hlen, hel, hsp, hns⟩
 ·refine ⟨⟨true, []⟩, rfl, ⟨fun _ => rfl, Nat.zero_le _, fun a h => by simp at h⟩, fun j lf hj => ?_, fun I hI ρ j lf hj => ?_⟩
  ·cases j <;> simp at hj; subst hj; rfl
  ·cases j <;> simp at hj; subst hj
   exact .sl true [] none 0 0 (fun _ _ => undef) (by simp) rfl (fun _ => rfl) (fun i x h => by simp at h) (fun i j x lf h => by simp at h) (fun ad i j x lf h => by simp at h) (fun i j x lf h => by simp at h)
 ·-- element by element
  have each : ∀ i, i < len → ∃ (u : α) (vs : List Value) (y : DataW H × List MemPlace), elems[i]? = some y ∧ vs.length = P.cellsOf e ∧ (∀ j, j < P.cellsOf e → w.cell? (a.add (i * P.cellsOf e + j)) = vs[j]?) ∧ (lv u).length = P.cellsOf e ∧ ok u ∧ (∀ (j : Nat) (lf : V), (lv u)[j]? = some lf → deep1 lf = true) ∧
    ∀ (I : Addr → Prop), (∀ b, Trodden w y.2 b → I b) → ∀ (ρ : Infs) (j : Nat) (lf : V), (lv u)[j]? = some lf → VR I ρ w.cell? lf (vs.getD j undef) := by
   intro i hi
   have h1 := hel i hi
   have h2 : elems[i]? = some elems[i] := y6 (by omega)
   rw [h2] at h1
   cases hc : w.cells? 0 (a.add (i * P.cellsOf e)) (P.cellsOf e) with
   | none => rw [hc] at h1; cases h1
   | some vs =>
    rw [hc, y4] at h1
    obtain ⟨q1, q2⟩ := cells?_get hc
    obtain ⟨u, r1, r2, r3, r4⟩ := he h1
    exact ⟨u, vs, elems[i], h2, q1, fun j hj => by rw [← q2 j hj, Addr.add_add], by rw [r1, q1], r2, r3, r4⟩
  have pick : ∃ us : List α, us.length = len ∧ ∀ (i : Nat) (u : α), us[i]? = some u → ∃ (vs : List Value) (y : DataW H × List MemPlace), elems[i]? = some y ∧ vs.length = P.cellsOf e ∧ (∀ j, j < P.cellsOf e → w.cell? (a.add (i * P.cellsOf e + j)) = vs[j]?) ∧ (lv u).length = P.cellsOf e ∧ ok u ∧ (∀ (j : Nat) (lf : V), (lv u)[j]? = some lf → deep1 lf = true) ∧
    ∀ (I : Addr → Prop), (∀ b, Trodden w y.2 b → I b) → ∀ (ρ : Infs) (j : Nat) (lf : V), (lv u)[j]? = some lf → VR I ρ w.cell? lf (vs.getD j undef) := by
   have : ∀ m, m ≤ len → ∃ us : List α, us.length = m ∧ ∀ (i : Nat) (u : α), us[i]? = some u → ∃ (vs : List Value) (y : DataW H × List MemPlace), elems[i]? = some y ∧ vs.length = P.cellsOf e ∧ (∀ j, j < P.cellsOf e → w.cell? (a.add (i * P.cellsOf e + j)) = vs[j]?) ∧ (lv u).length = P.cellsOf e ∧ ok u ∧ (∀ (j : Nat) (lf : V), (lv u)[j]? = some lf → deep1 lf = true) ∧
     ∀ (I : Addr → Prop), (∀ b, Trodden w y.2 b → I b) → ∀ (ρ : Infs) (j : Nat) (lf : V), (lv u)[j]? = some lf → VR I ρ w.cell? lf (vs.getD j undef) := by
    intro m
    induction m with
    | zero => exact fun _ => ⟨[], rfl, fun i u h => by simp at h⟩
    | succ m ih =>
     intro hm
     obtain ⟨us, e1, e2⟩ := ih (by omega)
     obtain ⟨u, vs, y, f⟩ := each m (by omega)
     refine ⟨us ++ [u], by simp [e1], fun i u' hi => ?_⟩
     rcases y28 i us.length with hlt | hge
     ·rw [y10 hlt] at hi; exact e2 i u' hi
     ·rw [y18 hge] at hi
      have : i = m := by
       have := z4 hi
       simp at this; omega
      subst this
      rw [e1] at hi; simp at hi; subst hi
      exact ⟨vs, y, f⟩
   exact this len (y13 _)
  obtain ⟨us, hul, hus⟩ := pick
  let vals : Nat → Nat → Value := fun i j => (w.cell? (a.add (i * P.cellsOf e + j))).getD undef
  have lvs : ∀ (i : Nat) (x : V), (us.map ec)[i]? = some x → ∃ u, us[i]? = some u ∧ x = ec u := by
   intro i x hx
   rw [y40] at hx
   cases hu : us[i]? with
   | none => simp [hu] at hx
   | some u => simp [hu] at hx; exact ⟨u, rfl, hx.symm⟩
  have hin : ∀ (i j : Nat) (y : DataW H × List MemPlace), i < len → j < P.cellsOf e → MemPlace.cell (a.add (i * P.cellsOf e + j)).block (a.add (i * P.cellsOf e + j)).off ∈ MemPlace.row a ((elems.length + rest.length) * P.cellsOf e) ++ (elems ++ rest).flatMap (·.2) := by
   intro i j y hi hj
   refine List.mem_append.2 (.inl ?_)
   unfold MemPlace.row
   refine List.mem_map.2 ⟨i * P.cellsOf e + j, ?_, by unfold Addr.add; split <;> simp_all⟩
   rw [List.mem_range]
   have : (i + 1) * P.cellsOf e ≤ (elems.length + rest.length) * P.cellsOf e := y16 _ (by omega)
   have e2 : (i + 1) * P.cellsOf e = i * P.cellsOf e + P.cellsOf e := Nat.succ_mul _ _
   omega
  refine ⟨⟨false, us⟩, rfl, ⟨(fun h => by cases h), (by simp only; rw [hul]; exact Nat.le_trans hlc hm), fun u hu => ?_⟩, fun j lf hj => ?_, fun I hI ρ j lf hj => ?_⟩
  ·obtain ⟨i, hi⟩ := List.mem_iff_getElem?.1 hu
   obtain ⟨_, _, _, _, _, _, h5, _⟩ := hus i u hi
   exact h5
  ·cases j <;> simp at hj; subst hj; rfl
  ·cases j <;> simp at hj; subst hj
   have hlenm : (us.map ec).length = len := by simp [hul]
   show VR I ρ w.cell? (.sl false (us.map ec)) (.slice (some a) len cap)
   rw [← hlenm]
   refine .sl false (us.map ec) (some a) cap (P.cellsOf e) vals ⟨by rw [hlenm]; exact hlc, by rw [hlenm]; exact Nat.le_trans hlc (by simpa [maxLen] using hm)⟩ rfl (fun h => by cases h) (fun i x hx => ?_) (fun i j x lf hx hj => ?_) (fun ad i j x lf had hx hj => ?_) (fun i j x lf hx hj => ?_)
   ·obtain ⟨u, hu, rfl⟩ := lvs i x hx
    obtain ⟨_, _, _, _, _, h4, _⟩ := hus i u hu
    rw [hl, h4]
   ·obtain ⟨u, hu, rfl⟩ := lvs i x hx
    obtain ⟨_, _, _, _, _, _, _, h6, _⟩ := hus i u hu
    rw [hl] at hj; exact h6 j lf hj
   ·obtain ⟨u, hu, rfl⟩ := lvs i x hx
    obtain ⟨vs, y, hy, h2, h3, h4, h5, h6, h7⟩ := hus i u hu
    cases had
    rw [hl] at hj
    have hjl : j < P.cellsOf e := by rw [← h4]; exact z4 hj
    have hil : i < len := by rw [← hul]; exact z4 hu
    have hsome : w.cell? (a.add (i * P.cellsOf e + j)) = some (vals i j) := by
     show _ = some ((w.cell? (a.add (i * P.cellsOf e + j))).getD undef)
     rw [h3 j hjl, y6 (by omega)]; rfl
    exact ⟨hI _ ⟨hin i j y hil hjl, by rw [hsome]; rfl⟩, hsome⟩
   ·obtain ⟨u, hu, rfl⟩ := lvs i x hx
    obtain ⟨vs, y, hy, h2, h3, h4, h5, h6, h7⟩ := hus i u hu
    rw [hl] at hj
    have hjl : j < P.cellsOf e := by rw [← h4]; exact z4 hj
    have := h7 I (fun b hb => hI b ⟨List.mem_append.2 (.inr (List.mem_flatMap.2 ⟨y, List.mem_append.2 (.inl (y53 hy)), hb.1⟩)), hb.2⟩) ρ j lf hj
    have hv : vals i j = vs.getD j undef := by
     show (w.cell? (a.add (i * P.cellsOf e + j))).getD undef = _
     rw [h3 j hjl, y14]
    rw [hv]; exact this
def RdF (P : Program) (off : Nat) (fs : List Field) {α : Type} (lv : α → List V) (ok : α → Prop) : Prop :=
 ∀ {H : Type} {enc : TypeId × Value → H} {w : World} {n : Nat} {cs : List Value} {xs : List (DataW H × List MemPlace)}, xs.length = fs.length →
  (∀ (i : Nat) (f : Field), fs[i]? = some f → DataW.trod enc P w 0 (fun _ => true) true n f.type ((cs.drop f.offset).take (P.cellsOf f.type)) = xs[i]?) →
  ∃ a : α, (lv a).length + off = (if fs = [] then off else cs.length) ∧ ok a ∧ (∀ (j : Nat) (lf : V), (lv a)[j]? = some lf → deep1 lf = true) ∧
   ∀ (I : Addr → Prop), (∀ b, Trodden w (xs.flatMap (·.2)) b → I b) → ∀ (ρ : Infs) (j : Nat) (lf : V), (lv a)[j]? = some lf → VR I ρ w.cell? lf (cs.getD (off + j) undef)
def fieldsAt (P : Program) : Nat → List Field → Nat → Bool
 | off, [], n => decide (off = n)
 | off, f :: fs, n => decide (f.offset = off) && decide (off + P.cellsOf f.type ≤ n) && fieldsAt P (off + P.cellsOf f.type) fs n
def RdG (P : Program) (fs : List Field) {α : Type} (lv : α → List V) (ok : α → Prop) : Prop :=
 ∀ {H : Type} {enc : TypeId × Value → H} {w : World} {n off : Nat} {cs : List Value} {xs : List (DataW H × List MemPlace)}, fieldsAt P off fs cs.length = true → xs.length = fs.length →
  (∀ (i : Nat) (f : Field), fs[i]? = some f → DataW.trod enc P w 0 (fun _ => true) true n f.type ((cs.drop f.offset).take (P.cellsOf f.type)) = xs[i]?) →
  ∃ a : α, off + (lv a).length = cs.length ∧ ok a ∧ (∀ (j : Nat) (lf : V), (lv a)[j]? = some lf → deep1 lf = true) ∧
   ∀ (I : Addr → Prop), (∀ b, Trodden w (xs.flatMap (·.2)) b → I b) → ∀ (ρ : Infs) (j : Nat) (lf : V), (lv a)[j]? = some lf → VR I ρ w.cell? lf (cs.getD (off + j) undef)
theorem zjh : RdG P [] (fun _ : Unit => []) (fun _ => True) := by
 intro H enc w n off cs xs hf hx h
 simp only [fieldsAt, decide_eq_true_eq] at hf
 exact ⟨(), by simp [hf], trivial, fun j lf hj => by simp at hj, fun I hI ρ j lf hj => by simp at hj⟩
theorem zji {f : Field} {fs : List Field} {α β : Type} {lv : α → List V} {ok : α → Prop} {lv' : β → List V} {ok' : β → Prop} (h1 : RdL P f.type lv ok) (h2 : RdG P fs lv' ok') :
  RdG P (f :: fs) (fun p : α × β => lv p.1 ++ lv' p.2) (fun p => ok p.1 ∧ ok' p.2) := by
 intro H enc w n off cs xs hf hx h
 simp only [fieldsAt, y5, decide_eq_true_eq] at hf
 obtain ⟨⟨ho, hle⟩, hf⟩ := hf
 cases xs with
 | nil => simp at hx
 | cons x xs =>
  have k1 := h 0 f rfl
  simp only [y35] at k1
  obtain ⟨a, a1, a2, a3, a4⟩ := h1 k1
  obtain ⟨b, b1, b2, b3, b4⟩ := h2 hf (by simpa using hx) fun i g hg => by
   have := h (i + 1) g (by simpa using hg)
   simpa using this
  have hal : (lv a).length = P.cellsOf f.type := by
   rw [a1, y19, y12, ho]
   omega
  refine ⟨(a, b), by simp only [y9, hal]; omega, ⟨a2, b2⟩, fun j lf hj => ?_, fun I hI ρ j lf hj => ?_⟩
  ·simp only at hj
   rcases y28 j (lv a).length with hlt | hge
   ·rw [y10 hlt] at hj; exact a3 j lf hj
   ·rw [y18 hge] at hj; exact b3 _ lf hj
  ·simp only at hj
   rcases y28 j (lv a).length with hlt | hge
   ·rw [y10 hlt] at hj
    have := a4 I (fun q hq => hI q ⟨List.mem_flatMap.2 ⟨x, y30, hq.1⟩, hq.2⟩) ρ j lf hj
    rw [y14, List.getElem?_take_of_lt (by omega), y38, ho] at this
    rwa [y14]
   ·rw [y18 hge] at hj
    have := b4 I (fun q hq => hI q ⟨by
     obtain ⟨z, hz, hz2⟩ := List.mem_flatMap.1 hq.1
     exact List.mem_flatMap.2 ⟨z, y34 _ hz, hz2⟩, hq.2⟩) ρ _ lf hj
    rwa [show off + P.cellsOf f.type + (j - (lv a).length) = off + j by omega] at this
theorem op_st {t : TypeId} {fs : Array Field} {α : Type} {lv : α → List V} {ok : α → Prop} (ht : P.underlying t = some (.struct fs)) (hf : fieldsAt P 0 fs.toList (P.cellsOf t) = true) (h : RdG P fs.toList lv ok) : RdL P t lv ok := by
 intro H enc w fuel cs x hx
 obtain ⟨xs, n, rfl, rfl, hl, hxl, hg⟩ := DataW.trod_struct ht hx
 rw [← hl] at hf
 obtain ⟨a, a1, a2, a3, a4⟩ := h hf (by simpa using hxl) fun i f hfi => hg i f (by simpa using hfi)
 refine ⟨a, by simpa using a1, a2, a3, fun I hI ρ j lf hj => ?_⟩
 have := a4 I hI ρ j lf hj
 simpa using this
theorem RdL.map {t : TypeId} {α β : Type} {lv : α → List V} {ok : α → Prop} {lv' : β → List V} {ok' : β → Prop} (h : RdL P t lv ok) (f : α → β) (h1 : ∀ a, lv' (f a) = lv a) (h2 : ∀ a, ok a → ok' (f a)) : RdL P t lv' ok' := by
 intro H enc w fuel cs x hx
 obtain ⟨a, a1, a2, a3, a4⟩ := h hx
 exact ⟨f a, by rw [h1]; exact a1, h2 a a2, by rw [h1]; exact a3, by rw [h1]; exact a4⟩
def RdV (P : Program) (t : TypeId) {α : Type} (e : α → V) (ok : α → Prop) : Prop :=
 ∀ {H : Type} {enc : TypeId × Value → H} {w : World} {r : Reach} {b0 : Nat} {v : Value} {d : DataW H} {ps : List MemPlace}, Value.okWide P w r b0 t v → DataW.Trod enc P w 0 (fun _ => true) true t v d ps →
  ∃ a : α, ok a ∧ deepV (e a) ∧ ∀ (I : Addr → Prop), (∀ b, Trodden w ps b → I b) → ∀ (ρ : Infs), VR I ρ w.cell? (e a) v
theorem zjj {t : TypeId} {α : Type} {e : α → V} {lv : α → List V} {ok : α → Prop} (h : RdL P t lv ok) (hl : ∀ a, lv a = [e a]) (hn : ∀ a cs, e a ≠ .agg cs) (hv : ∀ {w : World} {r : Reach} {b0 : Nat} {v : Value}, Value.okWide P w r b0 t v → v.cells = #[v]) : RdV P t e ok := by
 intro H enc w r b0 v d ps hw hd
 obtain ⟨fuel, hf⟩ := hd
 rw [hv hw] at hf
 obtain ⟨a, a1, a2, a3, a4⟩ := h hf
 refine ⟨a, a2, fun j lf hj => ?_, fun I hI ρ => ?_⟩
 ·have hle : leaves (e a) = [e a] := by cases he : e a <;> first | rfl | exact absurd he (hn a _)
  rw [hle, ← hl] at hj; exact a3 j lf hj
 ·have := a4 I hI ρ 0 (e a) (by rw [hl]; rfl)
  simpa using this
theorem zjk {t : TypeId} {fs : Array Field} {α : Type} {lv : α → List V} {ok : α → Prop} (ht : P.underlying t = some (.struct fs)) (h : RdL P t lv ok) : RdV P t (fun a => .agg (lv a)) ok := by
 intro H enc w r b0 v d ps hw hd
 obtain ⟨fuel, hf⟩ := hd
 obtain ⟨arr, rfl, hs⟩ := WideShapes.okWide_struct ht hw
 have hc : (Value.agg arr).cells.toList = arr.toList := by simp [Value.cells]
 rw [hc] at hf
 obtain ⟨a, a1, a2, a3, a4⟩ := h hf
 refine ⟨a, a2, a3, fun I hI ρ => ?_⟩
 refine .agg _ arr (by simpa using a1.symm) (zg fun i v hi => zh (a3 i v hi)) fun i v hi => ?_
 have := a4 I hI ρ i v hi
 simpa [y15, y14] using this
theorem opV_sl {t e : TypeId} {α : Type} {lv : α → List V} {ok : α → Prop} {ec : α → V} (ht : P.underlying t = some (.slice e)) (he : RdL P e lv ok) (hl : ∀ a, leaves (ec a) = lv a) :
  RdV P t (Sl.enc ec) (fun s => (s.z = true → s.l = []) ∧ s.l.length ≤ maxLen ∧ ∀ a ∈ s.l, ok a) :=
 zjj (op_sl ht he hl) (fun _ => rfl) (fun _ _ h => by cases h) fun {w r b0 v} h => by obtain ⟨a, n, c, rfl⟩ := WideShapes.okWide_slice ht h; rfl
theorem zjl {f : FuncId} {ds : List V} (hd : DeepOk P f ds [.bool true]) {W : World} {xs : List Value} {ps : List MemPlace} (hl : xs.length = ds.length) (h : ∀ (I : Addr → Prop), (∀ b, Trodden W ps b → I b) → Ds I W ds (fun i => xs.getD i undef) [] []) :
  Calls P f xs.toArray W fun e w' => e = .returned (.bool true) ∧ RowKit.Below W.heap.size W w' := by
 refine (hd (Trodden W ps) W xs [] [] hl (fun a ha => ha.2) (fun i j a b B h => by simp at h) (h _ fun _ h => h)).mono ?_
 rintro e w' ⟨I', ys, bs', is', rfl, h1, h2, h3, h4, n⟩
 obtain ⟨k1, k2, k3⟩ := h2.2 [] [] rfl
 match ys, h1 with
 | [y], _ =>
  have := k3 0 (.bool true) rfl
  simp only [List.getD_cons_zero] at this
  cases this
  refine ⟨rfl, n.grow.os, n.grow.tape, n.grow.output, n.grow.size, fun k hk => n.grow.keep k hk fun ⟨id, inf, h, _⟩ => by simp at h⟩
end
end Go.Dvm
