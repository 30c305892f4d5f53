/- A small machine over plain values, and its soundness over the model: part 3. -/
import Derived.Control
import Derived.Calls
import Derived.Laws.World
import Derived.Laws.Sem
import Derived.Laws.Cells
import Derived.Laws.CopyRow
import Derived.Tactics
import Derived.RowKit
import Derived.Laws.Strings
import Derived.Laws.StructEq
import Derived.Laws.BytesArg
import Derived.Laws.Tables
import Derived.Laws.Entries
import Derived.Laws.Small
import Derived.Laws.MakeOwn
import Derived.Great.BuildSlice
import Derived.Orders
import Derived.ChangeArms
import Derived.Below
import Derived.Carry
import Derived.OpenShut
import Derived.WideShapes
import Derived.Test.YtnmceljcgioomaaQv1
/- Lemmas of lists and of truth, bundled. Printed by gencore.py. -/
set_option linter.unusedVariables false
namespace Go.Dvm
theorem kn0 : (∀ {α β : Type} {f : α → β} {l : List α} {i : Nat}, List.map f (List.drop i l) = List.drop i (List.map f l)) ∧
  (∀ {α β : Type} {f : α → β} {l : List α} {i : Nat}, List.map f (List.take i l) = List.take i (List.map f l)) ∧
  (∀ {α β : Type} {f : α → β} {l₁ l₂ : List α}, List.map f (l₁ ++ l₂) = List.map f l₁ ++ List.map f l₂) ∧
  (∀ {α β : Type} {f : α → β} {a : α} {l : List α}, List.map f (a :: l) = f a :: List.map f l) ∧
  (∀ {α β : Type} {f : α → β}, List.map f [] = []) ∧
  (∀ {α β : Type} {f : α → β} {l : List α} {i : Nat} {a : α}, List.map f (List.set l i a) = List.set (List.map f l) i (f a)) ∧
  (∀ {n : Nat} {α : Type} {a : α} {α_1 : Type} {f : α → α_1}, List.map f (List.replicate n a) = List.replicate n (f a)) ∧
  (∀ {α β : Type} {as : List α} (f : α → β), List.length (List.map f as) = List.length as) ∧
  (∀ {α : Type} {i : Nat} {l : List α}, List.length (List.drop i l) = List.length l - i) ∧
  (∀ {α : Type} {i : Nat} {l : List α}, List.length (List.take i l) = min i (List.length l)) ∧
  (∀ {α : Type} {as bs : List α}, List.length (as ++ bs) = List.length as + List.length bs) ∧
  (∀ {α : Type} {a : α} {as : List α}, List.length (a :: as) = List.length as + (1 : Nat)) ∧
  (∀ {α : Type}, List.length ([] : List α) = (0 : Nat)) ∧
  (∀ {α : Type} {as : List α} {i : Nat} {a : α}, List.length (List.set as i a) = List.length as) ∧
  (∀ {α : Type} {n : Nat} {a : α}, List.length (List.replicate n a) = n) ∧
  (∀ {α : Type} {l : List α}, List.drop (0 : Nat) l = l) ∧
  (∀ {α : Type} {a : α} {l : List α} {i : Nat}, List.drop (i + (1 : Nat)) (a :: l) = List.drop i l) ∧
  (∀ {α : Type} {i : Nat}, List.drop i ([] : List α) = []) ∧
  (∀ {α : Type} {i : Nat}, List.take i ([] : List α) = []) ∧
  (∀ {α : Type} {a : α} {as : List α} {i : Nat}, List.take (i + (1 : Nat)) (a :: as) = a :: List.take i as) :=
  ⟨@List.map_drop.{0,0}, @List.map_take.{0,0}, @List.map_append.{0,0}, @List.map_cons.{0,0}, @List.map_nil.{0,0}, @List.map_set.{0,0}, @List.map_replicate.{0,0}, @List.length_map.{0,0}, @List.length_drop.{0}, @List.length_take.{0}, @List.length_append.{0}, @List.length_cons.{0}, @List.length_nil.{0}, @List.length_set.{0}, @List.length_replicate.{0}, @List.drop_zero.{0}, @List.drop_succ_cons.{0}, @List.drop_nil.{0}, @List.take_nil.{0}, @List.take_succ_cons.{0}⟩
theorem kn1 : (∀ {α : Type} {l : List α}, List.take (0 : Nat) l = []) ∧
  (∀ {α : Type} (as : List α), as ++ [] = as) ∧
  (∀ {α : Type} (as : List α), [] ++ as = as) ∧
  (∀ {α : Type} {a : α} {as bs : List α}, a :: as ++ bs = a :: (as ++ bs)) ∧
  (∀ {α β : Type} {f : α → β} {l : List α} {i : Nat}, (List.map f l)[i]? = Option.map f l[i]?) ∧
  (∀ {α : Type} {xs : List α} {i j : Nat}, (List.drop i xs)[j]? = xs[i + j]?) ∧
  (∀ {α : Type} {a : α} {l : List α}, (a :: l)[(0 : Nat)]? = some a) ∧
  (∀ {α : Type} {a : α} {i : Nat} {l : List α}, (a :: l)[i + (1 : Nat)]? = l[i]?) ∧
  (∀ {α : Type} {i : Nat}, ([] : List α)[i]? = none) ∧
  (∀ {α : Type} {x : α} {xs : List α} {a : α}, List.set (x :: xs) (0 : Nat) a = a :: xs) ∧
  (∀ {α : Type} {x : α} {xs : List α} {i : Nat} {a : α}, List.set (x :: xs) (i + (1 : Nat)) a = x :: List.set xs i a) ∧
  (∀ {α : Type} {a : α} {l : List α} {f : α → Bool}, List.all (a :: l) f = (f a && List.all l f)) ∧
  (∀ {α : Type} {f : α → Bool}, List.all [] f = true) ∧
  (∀ {α β : Type} {x : α} {xs : List α} {f : α → List β}, List.flatMap f (x :: xs) = f x ++ List.flatMap f xs) ∧
  (∀ {α β : Type} {f : α → List β}, List.flatMap f [] = []) ∧
  (∀ {α : Type} {b : α} {l : List α} {a : α}, a ∈ b :: l ↔ a = b ∨ a ∈ l) ∧
  (∀ {α : Type} {a : α}, ¬a ∈ []) ∧
  (∀ {α : Type} {x : α} {xs : List α} {d : α}, List.getD (x :: xs) (0 : Nat) d = x) ∧
  (∀ {α : Type} {x : α} {xs : List α} {n : Nat} {d : α}, List.getD (x :: xs) (n + (1 : Nat)) d = List.getD xs n d) ∧
  (∀ {α : Type} {a : α} {l : List α} {d : α}, List.headD (a :: l) d = a) :=
  ⟨@List.take_zero.{0}, @List.append_nil.{0}, @List.nil_append.{0}, @List.cons_append.{0}, @List.getElem?_map.{0,0}, @List.getElem?_drop.{0}, @List.getElem?_cons_zero.{0}, @List.getElem?_cons_succ.{0}, @List.getElem?_nil.{0}, @List.set_cons_zero.{0}, @List.set_cons_succ.{0}, @List.all_cons.{0}, @List.all_nil.{0}, @List.flatMap_cons.{0,0}, @List.flatMap_nil.{0,0}, @List.mem_cons.{0}, @List.not_mem_nil.{0}, @List.getD_cons_zero.{0}, @List.getD_cons_succ.{0}, @List.headD_cons.{0}⟩
theorem kn2 : (∀ {α : Type} {d : α}, List.headD [] d = d) ∧
  (∀ {α : Type} {a : α} {as : List α}, List.tail (a :: as) = as) ∧
  (∀ {α : Type}, List.tail ([] : List α) = []) ∧
  (∀ (k : IntKind) (l : List Int), List.map num (List.map (V.int k) l) = l) ∧
  (∀ (l : List Int), u8s (List.map (V.int IntKind.u8) l) = true) ∧
  (∀ {n : Nat} {xs : List V}, u8s xs = true → u8s (List.drop n xs) = true) ∧
  (∀ {n : Nat} {xs : List V}, u8s xs = true → u8s (List.take n xs) = true) ∧
  (∀ {xs ys : List V}, u8s xs = true → u8s ys = true → u8s (xs ++ ys) = true) ∧
  (∀ {n : Nat} {m : Int} {xs : List V}, u8s xs = true → u8s (List.set xs n (V.int IntKind.u8 m)) = true) ∧
  (∀ {n : Nat} {m : Int}, u8s (List.replicate n (V.int IntKind.u8 m)) = true) ∧
  (∀ {k : IntKind} {l : List Int}, ints (List.map (V.int k) l)) ∧
  (∀ {n : Nat} {k : IntKind} {m : Int} {xs : List V}, ints xs → ints (List.set xs n (V.int k m))) ∧
  (∀ {n : Nat} {k : IntKind} {m : Int}, ints (List.replicate n (V.int k m))) ∧
  (∀ {n : Nat} {xs : List V}, ints xs → ints (List.take n xs)) ∧
  (∀ {n : Nat} {xs : List V}, ints xs → ints (List.drop n xs)) ∧
  (∀ {xs ys : List V}, ints xs → ints ys → ints (xs ++ ys)) ∧
  (∀ {l : List V}, ints l → goods l = true) ∧
  (∀ {l : List V}, ints l → List.all l scalar = true) ∧
  (∀ {cs ls : List V}, List.length ls = List.length cs → setAt cs (0 : Nat) ls = ls) ∧
  (∀ {cs ls : List V}, List.length ls ≤ List.length cs → setAt cs (0 : Nat) ls = ls ++ List.drop (List.length ls) cs) :=
  ⟨@List.headD_nil.{0}, @List.tail_cons.{0}, @List.tail_nil.{0}, @num_map, @u8s_map, @u8s_drop, @u8s_take, @u8s_app, @u8s_set, @u8s_rep, @ints_map, @ints_set, @ints_rep, @ints_take, @ints_drop, @ints_app, @goods_ints, @all_ints, @setAt_all, @setAt_pre⟩
theorem kn3 : (∀ {H : Hp} {l : List V}, ints l → shareL H l = some (l, H)) ∧
  (∀ {H : Hp} {l : List V}, ints l → outL [] H l = some (l, H)) ∧
  (∀ {H : Hp} {l : List V}, ints l → putL H l = (l, H)) ∧
  (∀ {h0 : Nat} {l : List V}, ints l → List.flatMap (ids1 h0) l = []) ∧
  (∀ {h0 : Nat} {ord : List Nat} {H : Hp} {l : List V}, ints l → List.map (ren1 h0 ord H) l = l) ∧
  (∀ {α : Type} (e : α → V) (sz : Nat), (∀ (a : α), List.length (leaves (e a)) = sz) → ∀ (l : List α), sizes sz (List.map e l) = true) ∧
  (∀ {sz n : Nat} {xs : List V}, sizes sz xs = true → sizes sz (List.drop n xs) = true) ∧
  (∀ {sz n : Nat} {xs : List V}, sizes sz xs = true → sizes sz (List.take n xs) = true) ∧
  (∀ {sz : Nat} {xs ys : List V}, sizes sz (xs ++ ys) = (sizes sz xs && sizes sz ys)) ∧
  (∀ {sz n : Nat} {xs : List V} {v : V}, sizes sz xs = true → List.length (leaves v) = sz → sizes sz (List.set xs n v) = true) ∧
  (∀ {sz n : Nat} {v : V}, List.length (leaves v) = sz → sizes sz (List.replicate n v) = true) ∧
  (∀ {α β : Type} (a : α) (f : α → Option β), Option.bind (some a) f = f a) ∧
  (∀ {α β : Type} (f : α → Option β), Option.bind none f = none) ∧
  (∀ {α β : Type} (a : α) (f : α → β), Option.map f (some a) = some (f a)) ∧
  (∀ {α β : Type} (f : α → β), Option.map f none = none) ∧
  (∀ {α : Type} (val val_1 : α), (some val = some val_1) = (val = val_1)) ∧
  (∀ {α β : Type} (fst : α) (snd : β) (fst_1 : α) (snd_1 : β), ((fst, snd) = (fst_1, snd_1)) = (fst = fst_1 ∧ snd = snd_1)) ∧
  (∀ (b : Bool), (b && true) = b) ∧
  (∀ (b : Bool), (true && b) = b) ∧
  (∀ (b : Bool), (b && false) = false) :=
  ⟨@shareL_ints, @outL_ints, @putL_ints, @flat_ints, @ren_ints, @sizes_map, @sizes_drop, @sizes_take, @sizes_app, @sizes_set, @sizes_rep, @Option.bind_some.{0,0}, @Option.bind_none.{0,0}, @Option.map_some.{0,0}, @Option.map_none.{0,0}, @Option.some.injEq.{0}, @Prod.mk.injEq.{0,0}, @Bool.and_true, @Bool.true_and, @Bool.and_false⟩
theorem kn4 : (∀ (b : Bool), (false && b) = false) ∧
  ((!true) = false) ∧
  ((!false) = true) ∧
  (∀ (b : Bool), (!!b) = b) ∧
  (∀ (b : Bool), ((!b) = true) = (b = false)) ∧
  (∀ (b : Bool), ((!b) = false) = (b = true)) ∧
  (∀ (a b : Bool), ((a && b) = true) = (a = true ∧ b = true)) ∧
  (∀ (a b : Bool), ((a || b) = true) = (a = true ∨ b = true)) ∧
  (∀ {p : Prop} [inst : Decidable p], (decide p = true) = p) ∧
  (∀ {p : Prop} {x : Decidable p}, decide p = false ↔ ¬p) ∧
  (∀ (b : Bool), (b || true) = true) ∧
  (∀ (b : Bool), (true || b) = true) ∧
  (∀ (b : Bool), (false || b) = b) ∧
  (∀ (b : Bool), (b || false) = b) ∧
  (∀ (h : Decidable True), decide True = true) ∧
  (∀ (h : Decidable False), decide False = false) ∧
  (∀ (p : Prop), (True ∧ p) = p) ∧
  (∀ (p : Prop), (p ∧ True) = p) ∧
  ((¬True) = False) ∧
  ((¬False) = True) :=
  ⟨@Bool.false_and, @Bool.not_true, @Bool.not_false, @Bool.not_not, @Bool.not_eq_true', @Bool.not_eq_false', @Bool.and_eq_true, @Bool.or_eq_true, @decide_eq_true_eq, @decide_eq_false_iff_not, @Bool.or_true, @Bool.true_or, @Bool.false_or, @Bool.or_false, @decide_true, @decide_false, @true_and, @and_true, @not_true_eq_false, @not_false_eq_true⟩
theorem kn5 : ((false = true) = False) ∧
  (∀ (n : Nat), (0 : Nat) + n = n) ∧
  (∀ (n : Nat), n + (0 : Nat) = n) ∧
  (∀ (n : Nat), n - (0 : Nat) = n) ∧
  (∀ (n : Nat), n * (1 : Nat) = n) ∧
  (∀ (n : Nat), (0 : Nat) * n = (0 : Nat)) ∧
  (∀ (n : Nat), Int.toNat ↑n = n) ∧
  (∀ (n : Nat), (0 : Int) ≤ ↑n) ∧
  (∀ {α : Type} {a b : α}, Option.getD (some a) b = a) ∧
  (∀ {α : Type} {a : α}, Option.getD none a = a) ∧
  (∀ {α : Type} {a : α}, Option.isNone (some a) = false) ∧
  (∀ {α : Type}, Option.isNone (none : Option α) = true) ∧
  (∀ {α : Type} {a : α}, Option.isSome (some a) = true) ∧
  (∀ (n : Nat), n ≤ n) ∧
  (∀ (n : Nat), (0 : Nat) ≤ n) ∧
  (∀ (p : Prop), (p ∨ False) = p) ∧
  (∀ (p : Prop), (False ∨ p) = p) ∧
  (∀ (p : Prop), (p ∧ p) = p) ∧
  (∀ (p : Prop), (p ∨ p) = p) ∧
  (Int.toNat (1 : Int) = (1 : Nat)) :=
  ⟨@Bool.false_eq_true, @Nat.zero_add, @Nat.add_zero, @Nat.sub_zero, @Nat.mul_one, @Nat.zero_mul, @Int.toNat_natCast, @Int.natCast_nonneg, @Option.getD_some.{0}, @Option.getD_none.{0}, @Option.isNone_some.{0}, @Option.isNone_none.{0}, @Option.isSome_some.{0}, @Nat.le_refl, @Nat.zero_le, @or_false, @false_or, @and_self, @or_self, @Int.toNat_one⟩
theorem kn6 : (Int.toNat (0 : Int) = (0 : Nat)) ∧
  (∀ (n : Nat), Nat.succ n ≠ n) ∧
  (∀ (a : Int), a ≤ a) :=
  ⟨@Int.toNat_zero, @Nat.succ_ne_self, @Int.le_refl⟩
end Go.Dvm

/- What a law is handed, read as data; and what its machine answers, as the row says it. -/
set_option linter.unusedVariables false
namespace Go.Dvm
section
variable {P : Program}

/-- The places that were read, and are there. -/
def Trodden (w : World) (ps : List MemPlace) (a : Addr) : Prop := MemPlace.cell a.block a.off ∈ ps ∧ (w.cell? a).isSome = true

/-- Of a type's cells: a typed value, by its leaves. -/
def RdL (P : Program) (t : TypeId) {α : Type} (lv : α → List V) (ok : α → Prop) : Prop :=
  ∀ {H : Type} {enc : TypeId × Value → H} {w : World} {fuel : Nat} {cs : List Value} {x : DataW H × List MemPlace}, DataW.trod enc P w 0 (fun _ => true) true fuel t cs = some x →
    ∃ a : α, (lv a).length = cs.length ∧ ok a ∧ (∀ (j : Nat) (lf : V), (lv a)[j]? = some lf → deep1 lf = true) ∧
      ∀ (I : Addr → Prop), (∀ b, Trodden w x.2 b → I b) → ∀ (ρ : Infs) (j : Nat) (lf : V), (lv a)[j]? = some lf → VR I ρ w.cell? lf (cs.getD j undef)

theorem inR_wf {k : IntKind} {n : Int} (h : (Lit.int k n).wf = true) : inR k n := by
  simp only [Lit.wf, Bool.and_eq_true, decide_eq_true_eq] at h; exact h

theorem op_int {t : TypeId} {k : IntKind} (ht : P.underlying t = some (.int k)) : RdL P t (fun n : Int => [.int k n]) (inR k) := by
  intro H enc w fuel cs x h
  obtain ⟨n, rfl, rfl, hw⟩ := DataW.trod_int ht h
  refine ⟨n, rfl, inR_wf hw, fun j lf hj => ?_, fun I hI ρ j lf hj => ?_⟩
  · cases j <;> simp at hj; subst hj; rfl
  · cases j <;> simp at hj; subst hj; exact .int k n (inR_wf hw)
theorem op_bool {t : TypeId} (ht : P.underlying t = some .bool) : RdL P t (fun b : Bool => [.bool b]) (fun _ => True) := by
  intro H enc w fuel cs x h
  obtain ⟨n, rfl, rfl⟩ := DataW.trod_bool ht h
  refine ⟨n, rfl, trivial, fun j lf hj => ?_, fun I hI ρ j lf hj => ?_⟩
  · cases j <;> simp at hj; subst hj; rfl
  · cases j <;> simp at hj; subst hj; exact .bool n

theorem cells?_get {w : World} {a : Addr} {n : Nat} {cs : List Value} (h : w.cells? 0 a n = some cs) : cs.length = n ∧ ∀ i, i < n → w.cell? (a.add i) = cs[i]? := by
  unfold World.cells? at h
  rw [if_pos (Nat.zero_le _)] at h
  obtain ⟨h1, h2⟩ : cs.length = (List.range n).length ∧ ∀ (i m : Nat), (List.range n)[i]? = some m → w.cell? (a.add m) = cs[i]? := ⟨mapM_some_length h, fun i m hm => mapM_some_get h i m hm⟩
  rw [List.length_range] at h1
  exact ⟨h1, fun i hi => h2 i i (by rw [List.getElem?_range hi])⟩

theorem op_sl {t e : TypeId} {α : Type} {lv : α → List V} {ok : α → Prop} {ec : α → V} (ht : P.underlying t = some (.slice e)) (he : RdL P e lv ok) (hl : ∀ a, leaves (ec a) = lv a) :
    RdL P t (fun s : Sl α => [.sl s.z (s.l.map ec)]) (fun s => (s.z = true → s.l = []) ∧ s.l.length ≤ maxLen ∧ ∀ a ∈ s.l, ok a) := by
  intro H enc w fuel cs x h
  rcases DataW.trod_slice ht h with ⟨rfl, rfl⟩ | ⟨a, len, cap, elems, rest, n, rfl, rfl, rfl, hb, hlc, hm, hlen, hel, hsp, hns⟩
  · refine ⟨⟨true, []⟩, rfl, ⟨fun _ => rfl, Nat.zero_le _, fun a h => by simp at h⟩, fun j lf hj => ?_, fun I hI ρ j lf hj => ?_⟩
    · cases j <;> simp at hj; subst hj; rfl
    · cases j <;> simp at hj; subst hj
      exact .sl true [] none 0 0 (fun _ _ => undef) (by simp) rfl (fun _ => rfl) (fun i x h => by simp at h) (fun i j x lf h => by simp at h) (fun ad i j x lf h => by simp at h) (fun i j x lf h => by simp at h)
  · -- element by element
    have each : ∀ i, i < len → ∃ (u : α) (vs : List Value) (y : DataW H × List MemPlace), elems[i]? = some y ∧ vs.length = P.cellsOf e ∧ (∀ j, j < P.cellsOf e → w.cell? (a.add (i * P.cellsOf e + j)) = vs[j]?) ∧ (lv u).length = P.cellsOf e ∧ ok u ∧ (∀ (j : Nat) (lf : V), (lv u)[j]? = some lf → deep1 lf = true) ∧
        ∀ (I : Addr → Prop), (∀ b, Trodden w y.2 b → I b) → ∀ (ρ : Infs) (j : Nat) (lf : V), (lv u)[j]? = some lf → VR I ρ w.cell? lf (vs.getD j undef) := by
      intro i hi
      have h1 := hel i hi
      have h2 : elems[i]? = some elems[i] := List.getElem?_eq_getElem (by omega)
      rw [h2] at h1
      cases hc : w.cells? 0 (a.add (i * P.cellsOf e)) (P.cellsOf e) with
      | none => rw [hc] at h1; cases h1
      | some vs =>
        rw [hc, Option.bind_some] at h1
        obtain ⟨q1, q2⟩ := cells?_get hc
        obtain ⟨u, r1, r2, r3, r4⟩ := he h1
        exact ⟨u, vs, elems[i], h2, q1, fun j hj => by rw [← q2 j hj, Addr.add_add], by rw [r1, q1], r2, r3, r4⟩
    have pick : ∃ us : List α, us.length = len ∧ ∀ (i : Nat) (u : α), us[i]? = some u → ∃ (vs : List Value) (y : DataW H × List MemPlace), elems[i]? = some y ∧ vs.length = P.cellsOf e ∧ (∀ j, j < P.cellsOf e → w.cell? (a.add (i * P.cellsOf e + j)) = vs[j]?) ∧ (lv u).length = P.cellsOf e ∧ ok u ∧ (∀ (j : Nat) (lf : V), (lv u)[j]? = some lf → deep1 lf = true) ∧
        ∀ (I : Addr → Prop), (∀ b, Trodden w y.2 b → I b) → ∀ (ρ : Infs) (j : Nat) (lf : V), (lv u)[j]? = some lf → VR I ρ w.cell? lf (vs.getD j undef) := by
      have : ∀ m, m ≤ len → ∃ us : List α, us.length = m ∧ ∀ (i : Nat) (u : α), us[i]? = some u → ∃ (vs : List Value) (y : DataW H × List MemPlace), elems[i]? = some y ∧ vs.length = P.cellsOf e ∧ (∀ j, j < P.cellsOf e → w.cell? (a.add (i * P.cellsOf e + j)) = vs[j]?) ∧ (lv u).length = P.cellsOf e ∧ ok u ∧ (∀ (j : Nat) (lf : V), (lv u)[j]? = some lf → deep1 lf = true) ∧
          ∀ (I : Addr → Prop), (∀ b, Trodden w y.2 b → I b) → ∀ (ρ : Infs) (j : Nat) (lf : V), (lv u)[j]? = some lf → VR I ρ w.cell? lf (vs.getD j undef) := by
        intro m
        induction m with
        | zero => exact fun _ => ⟨[], rfl, fun i u h => by simp at h⟩
        | succ m ih =>
          intro hm
          obtain ⟨us, e1, e2⟩ := ih (by omega)
          obtain ⟨u, vs, y, f⟩ := each m (by omega)
          refine ⟨us ++ [u], by simp [e1], fun i u' hi => ?_⟩
          rcases Nat.lt_or_ge i us.length with hlt | hge
          · rw [List.getElem?_append_left hlt] at hi; exact e2 i u' hi
          · rw [List.getElem?_append_right hge] at hi
            have : i = m := by
              have := lt_of_get hi
              simp at this; omega
            subst this
            rw [e1] at hi; simp at hi; subst hi
            exact ⟨vs, y, f⟩
      exact this len (Nat.le_refl _)
    obtain ⟨us, hul, hus⟩ := pick
    let vals : Nat → Nat → Value := fun i j => (w.cell? (a.add (i * P.cellsOf e + j))).getD undef
    have lvs : ∀ (i : Nat) (x : V), (us.map ec)[i]? = some x → ∃ u, us[i]? = some u ∧ x = ec u := by
      intro i x hx
      rw [List.getElem?_map] at hx
      cases hu : us[i]? with
      | none => simp [hu] at hx
      | some u => simp [hu] at hx; exact ⟨u, rfl, hx.symm⟩
    have hin : ∀ (i j : Nat) (y : DataW H × List MemPlace), i < len → j < P.cellsOf e → MemPlace.cell (a.add (i * P.cellsOf e + j)).block (a.add (i * P.cellsOf e + j)).off ∈ MemPlace.row a ((elems.length + rest.length) * P.cellsOf e) ++ (elems ++ rest).flatMap (·.2) := by
      intro i j y hi hj
      refine List.mem_append.2 (.inl ?_)
      unfold MemPlace.row
      refine List.mem_map.2 ⟨i * P.cellsOf e + j, ?_, by unfold Addr.add; split <;> simp_all⟩
      rw [List.mem_range]
      have : (i + 1) * P.cellsOf e ≤ (elems.length + rest.length) * P.cellsOf e := Nat.mul_le_mul_right _ (by omega)
      have e2 : (i + 1) * P.cellsOf e = i * P.cellsOf e + P.cellsOf e := Nat.succ_mul _ _
      omega
    refine ⟨⟨false, us⟩, rfl, ⟨(fun h => by cases h), (by simp only; rw [hul]; exact Nat.le_trans hlc hm), fun u hu => ?_⟩, fun j lf hj => ?_, fun I hI ρ j lf hj => ?_⟩
    · obtain ⟨i, hi⟩ := List.mem_iff_getElem?.1 hu
      obtain ⟨_, _, _, _, _, _, h5, _⟩ := hus i u hi
      exact h5
    · cases j <;> simp at hj; subst hj; rfl
    · cases j <;> simp at hj; subst hj
      have hlenm : (us.map ec).length = len := by simp [hul]
      show VR I ρ w.cell? (.sl false (us.map ec)) (.slice (some a) len cap)
      rw [← hlenm]
      refine .sl false (us.map ec) (some a) cap (P.cellsOf e) vals ⟨by rw [hlenm]; exact hlc, by rw [hlenm]; exact Nat.le_trans hlc (by simpa [maxLen] using hm)⟩ rfl (fun h => by cases h) (fun i x hx => ?_) (fun i j x lf hx hj => ?_) (fun ad i j x lf had hx hj => ?_) (fun i j x lf hx hj => ?_)
      · obtain ⟨u, hu, rfl⟩ := lvs i x hx
        obtain ⟨_, _, _, _, _, h4, _⟩ := hus i u hu
        rw [hl, h4]
      · obtain ⟨u, hu, rfl⟩ := lvs i x hx
        obtain ⟨_, _, _, _, _, _, _, h6, _⟩ := hus i u hu
        rw [hl] at hj; exact h6 j lf hj
      · obtain ⟨u, hu, rfl⟩ := lvs i x hx
        obtain ⟨vs, y, hy, h2, h3, h4, h5, h6, h7⟩ := hus i u hu
        cases had
        rw [hl] at hj
        have hjl : j < P.cellsOf e := by rw [← h4]; exact lt_of_get hj
        have hil : i < len := by rw [← hul]; exact lt_of_get hu
        have hsome : w.cell? (a.add (i * P.cellsOf e + j)) = some (vals i j) := by
          show _ = some ((w.cell? (a.add (i * P.cellsOf e + j))).getD undef)
          rw [h3 j hjl, List.getElem?_eq_getElem (by omega)]; rfl
        exact ⟨hI _ ⟨hin i j y hil hjl, by rw [hsome]; rfl⟩, hsome⟩
      · obtain ⟨u, hu, rfl⟩ := lvs i x hx
        obtain ⟨vs, y, hy, h2, h3, h4, h5, h6, h7⟩ := hus i u hu
        rw [hl] at hj
        have hjl : j < P.cellsOf e := by rw [← h4]; exact lt_of_get hj
        have := h7 I (fun b hb => hI b ⟨List.mem_append.2 (.inr (List.mem_flatMap.2 ⟨y, List.mem_append.2 (.inl (List.mem_of_getElem? hy)), hb.1⟩)), hb.2⟩) ρ j lf hj
        have hv : vals i j = vs.getD j undef := by
          show (w.cell? (a.add (i * P.cellsOf e + j))).getD undef = _
          rw [h3 j hjl, List.getD_eq_getElem?_getD]
        rw [hv]; exact this

/-- A struct's fields, one behind the other. -/
def RdF (P : Program) (off : Nat) (fs : List Field) {α : Type} (lv : α → List V) (ok : α → Prop) : Prop :=
  ∀ {H : Type} {enc : TypeId × Value → H} {w : World} {n : Nat} {cs : List Value} {xs : List (DataW H × List MemPlace)}, xs.length = fs.length →
    (∀ (i : Nat) (f : Field), fs[i]? = some f → DataW.trod enc P w 0 (fun _ => true) true n f.type ((cs.drop f.offset).take (P.cellsOf f.type)) = xs[i]?) →
    ∃ a : α, (lv a).length + off = (if fs = [] then off else cs.length) ∧ ok a ∧ (∀ (j : Nat) (lf : V), (lv a)[j]? = some lf → deep1 lf = true) ∧
      ∀ (I : Addr → Prop), (∀ b, Trodden w (xs.flatMap (·.2)) b → I b) → ∀ (ρ : Infs) (j : Nat) (lf : V), (lv a)[j]? = some lf → VR I ρ w.cell? lf (cs.getD (off + j) undef)

/-- Fields at the offsets that they have, up to the struct's end. -/
def fieldsAt (P : Program) : Nat → List Field → Nat → Bool
  | off, [], n => decide (off = n)
  | off, f :: fs, n => decide (f.offset = off) && decide (off + P.cellsOf f.type ≤ n) && fieldsAt P (off + P.cellsOf f.type) fs n

theorem fieldsAt_le : ∀ {fs : List Field} {off n : Nat}, fieldsAt P off fs n = true → off ≤ n
  | [], off, n, h => by simp [fieldsAt] at h; omega
  | f :: fs, off, n, h => by
    simp only [fieldsAt, Bool.and_eq_true, decide_eq_true_eq] at h
    have := fieldsAt_le h.2; omega

def RdG (P : Program) (fs : List Field) {α : Type} (lv : α → List V) (ok : α → Prop) : Prop :=
  ∀ {H : Type} {enc : TypeId × Value → H} {w : World} {n off : Nat} {cs : List Value} {xs : List (DataW H × List MemPlace)}, fieldsAt P off fs cs.length = true → xs.length = fs.length →
    (∀ (i : Nat) (f : Field), fs[i]? = some f → DataW.trod enc P w 0 (fun _ => true) true n f.type ((cs.drop f.offset).take (P.cellsOf f.type)) = xs[i]?) →
    ∃ a : α, off + (lv a).length = cs.length ∧ ok a ∧ (∀ (j : Nat) (lf : V), (lv a)[j]? = some lf → deep1 lf = true) ∧
      ∀ (I : Addr → Prop), (∀ b, Trodden w (xs.flatMap (·.2)) b → I b) → ∀ (ρ : Infs) (j : Nat) (lf : V), (lv a)[j]? = some lf → VR I ρ w.cell? lf (cs.getD (off + j) undef)

theorem opG_nil : RdG P [] (fun _ : Unit => []) (fun _ => True) := by
  intro H enc w n off cs xs hf hx h
  simp only [fieldsAt, decide_eq_true_eq] at hf
  exact ⟨(), by simp [hf], trivial, fun j lf hj => by simp at hj, fun I hI ρ j lf hj => by simp at hj⟩

theorem opG_cons {f : Field} {fs : List Field} {α β : Type} {lv : α → List V} {ok : α → Prop} {lv' : β → List V} {ok' : β → Prop} (h1 : RdL P f.type lv ok) (h2 : RdG P fs lv' ok') :
    RdG P (f :: fs) (fun p : α × β => lv p.1 ++ lv' p.2) (fun p => ok p.1 ∧ ok' p.2) := by
  intro H enc w n off cs xs hf hx h
  simp only [fieldsAt, Bool.and_eq_true, decide_eq_true_eq] at hf
  obtain ⟨⟨ho, hle⟩, hf⟩ := hf
  cases xs with
  | nil => simp at hx
  | cons x xs =>
    have k1 := h 0 f rfl
    simp only [List.getElem?_cons_zero] at k1
    obtain ⟨a, a1, a2, a3, a4⟩ := h1 k1
    obtain ⟨b, b1, b2, b3, b4⟩ := h2 hf (by simpa using hx) fun i g hg => by
      have := h (i + 1) g (by simpa using hg)
      simpa using this
    have hal : (lv a).length = P.cellsOf f.type := by
      rw [a1, List.length_take, List.length_drop, ho]
      omega
    refine ⟨(a, b), by simp only [List.length_append, hal]; omega, ⟨a2, b2⟩, fun j lf hj => ?_, fun I hI ρ j lf hj => ?_⟩
    · simp only at hj
      rcases Nat.lt_or_ge j (lv a).length with hlt | hge
      · rw [List.getElem?_append_left hlt] at hj; exact a3 j lf hj
      · rw [List.getElem?_append_right hge] at hj; exact b3 _ lf hj
    · simp only at hj
      rcases Nat.lt_or_ge j (lv a).length with hlt | hge
      · rw [List.getElem?_append_left hlt] at hj
        have := a4 I (fun q hq => hI q ⟨List.mem_flatMap.2 ⟨x, List.mem_cons_self, hq.1⟩, hq.2⟩) ρ j lf hj
        rw [List.getD_eq_getElem?_getD, List.getElem?_take_of_lt (by omega), List.getElem?_drop, ho] at this
        rwa [List.getD_eq_getElem?_getD]
      · rw [List.getElem?_append_right hge] at hj
        have := b4 I (fun q hq => hI q ⟨by
          obtain ⟨z, hz, hz2⟩ := List.mem_flatMap.1 hq.1
          exact List.mem_flatMap.2 ⟨z, List.mem_cons_of_mem _ hz, hz2⟩, hq.2⟩) ρ _ lf hj
        rwa [show off + P.cellsOf f.type + (j - (lv a).length) = off + j by omega] at this

theorem op_st {t : TypeId} {fs : Array Field} {α : Type} {lv : α → List V} {ok : α → Prop} (ht : P.underlying t = some (.struct fs)) (hf : fieldsAt P 0 fs.toList (P.cellsOf t) = true) (h : RdG P fs.toList lv ok) : RdL P t lv ok := by
  intro H enc w fuel cs x hx
  obtain ⟨xs, n, rfl, rfl, hl, hxl, hg⟩ := DataW.trod_struct ht hx
  rw [← hl] at hf
  obtain ⟨a, a1, a2, a3, a4⟩ := h hf (by simpa using hxl) fun i f hfi => hg i f (by simpa using hfi)
  refine ⟨a, by simpa using a1, a2, a3, fun I hI ρ j lf hj => ?_⟩
  have := a4 I hI ρ j lf hj
  simpa using this

theorem RdL.map {t : TypeId} {α β : Type} {lv : α → List V} {ok : α → Prop} {lv' : β → List V} {ok' : β → Prop} (h : RdL P t lv ok) (f : α → β) (h1 : ∀ a, lv' (f a) = lv a) (h2 : ∀ a, ok a → ok' (f a)) : RdL P t lv' ok' := by
  intro H enc w fuel cs x hx
  obtain ⟨a, a1, a2, a3, a4⟩ := h hx
  exact ⟨f a, by rw [h1]; exact a1, h2 a a2, by rw [h1]; exact a3, by rw [h1]; exact a4⟩

/-- An argument: one cell, or a struct. -/
def RdV (P : Program) (t : TypeId) {α : Type} (e : α → V) (ok : α → Prop) : Prop :=
  ∀ {H : Type} {enc : TypeId × Value → H} {w : World} {r : Reach} {b0 : Nat} {v : Value} {d : DataW H} {ps : List MemPlace}, Value.okWide P w r b0 t v → DataW.Trod enc P w 0 (fun _ => true) true t v d ps →
    ∃ a : α, ok a ∧ deepV (e a) ∧ ∀ (I : Addr → Prop), (∀ b, Trodden w ps b → I b) → ∀ (ρ : Infs), VR I ρ w.cell? (e a) v

theorem opV_leaf {t : TypeId} {α : Type} {e : α → V} {lv : α → List V} {ok : α → Prop} (h : RdL P t lv ok) (hl : ∀ a, lv a = [e a]) (hn : ∀ a cs, e a ≠ .agg cs) (hv : ∀ {w : World} {r : Reach} {b0 : Nat} {v : Value}, Value.okWide P w r b0 t v → v.cells = #[v]) : RdV P t e ok := by
  intro H enc w r b0 v d ps hw hd
  obtain ⟨fuel, hf⟩ := hd
  rw [hv hw] at hf
  obtain ⟨a, a1, a2, a3, a4⟩ := h hf
  refine ⟨a, a2, fun j lf hj => ?_, fun I hI ρ => ?_⟩
  · have hle : leaves (e a) = [e a] := by cases he : e a <;> first | rfl | exact absurd he (hn a _)
    rw [hle, ← hl] at hj; exact a3 j lf hj
  · have := a4 I hI ρ 0 (e a) (by rw [hl]; rfl)
    simpa using this
theorem opV_agg {t : TypeId} {fs : Array Field} {α : Type} {lv : α → List V} {ok : α → Prop} (ht : P.underlying t = some (.struct fs)) (h : RdL P t lv ok) : RdV P t (fun a => .agg (lv a)) ok := by
  intro H enc w r b0 v d ps hw hd
  obtain ⟨fuel, hf⟩ := hd
  obtain ⟨arr, rfl, hs⟩ := WideShapes.okWide_struct ht hw
  have hc : (Value.agg arr).cells.toList = arr.toList := by simp [Value.cells]
  rw [hc] at hf
  obtain ⟨a, a1, a2, a3, a4⟩ := h hf
  refine ⟨a, a2, a3, fun I hI ρ => ?_⟩
  refine .agg _ arr (by simpa using a1.symm) (goods_of fun i v hi => deep1_good (a3 i v hi)) fun i v hi => ?_
  have := a4 I hI ρ i v hi
  simpa [Array.getD_eq_getD_getElem?, List.getD_eq_getElem?_getD] using this

theorem opV_int {t : TypeId} {k : IntKind} (ht : P.underlying t = some (.int k)) : RdV P t (V.int k) (inR k) :=
  opV_leaf (op_int ht) (fun _ => rfl) (fun _ _ h => by cases h) fun {w r b0 v} h => by obtain ⟨n, rfl⟩ := WideShapes.okWide_int ht h; rfl
theorem opV_bool {t : TypeId} (ht : P.underlying t = some .bool) : RdV P t V.bool (fun _ => True) :=
  opV_leaf (op_bool ht) (fun _ => rfl) (fun _ _ h => by cases h) fun {w r b0 v} h => by obtain ⟨n, rfl⟩ := WideShapes.okWide_bool ht h; rfl
theorem opV_sl {t e : TypeId} {α : Type} {lv : α → List V} {ok : α → Prop} {ec : α → V} (ht : P.underlying t = some (.slice e)) (he : RdL P e lv ok) (hl : ∀ a, leaves (ec a) = lv a) :
    RdV P t (Sl.enc ec) (fun s => (s.z = true → s.l = []) ∧ s.l.length ≤ maxLen ∧ ∀ a ∈ s.l, ok a) :=
  opV_leaf (op_sl ht he hl) (fun _ => rfl) (fun _ _ h => by cases h) fun {w r b0 v} h => by obtain ⟨a, n, c, rfl⟩ := WideShapes.okWide_slice ht h; rfl

/-- A law's walk: from a run of the machine. -/
theorem law_walk {f : FuncId} {ds : List V} (hd : DeepOk P f ds [.bool true]) {W : World} {xs : List Value} {ps : List MemPlace} (hl : xs.length = ds.length) (h : ∀ (I : Addr → Prop), (∀ b, Trodden W ps b → I b) → Ds I W ds (fun i => xs.getD i undef) [] []) :
    Calls P f xs.toArray W fun e w' => e = .returned (.bool true) ∧ RowKit.Below W.heap.size W w' := by
  refine (hd (Trodden W ps) W xs [] [] hl (fun a ha => ha.2) (fun i j a b B h => by simp at h) (h _ fun _ h => h)).mono ?_
  rintro e w' ⟨I', ys, bs', is', rfl, h1, h2, h3, h4, n⟩
  obtain ⟨k1, k2, k3⟩ := h2.2 [] [] rfl
  match ys, h1 with
  | [y], _ =>
    have := k3 0 (.bool true) rfl
    simp only [List.getD_cons_zero] at this
    cases this
    refine ⟨rfl, n.grow.os, n.grow.tape, n.grow.output, n.grow.size, fun k hk => n.grow.keep k hk fun ⟨id, inf, h, _⟩ => by simp at h⟩
end
end Go.Dvm
