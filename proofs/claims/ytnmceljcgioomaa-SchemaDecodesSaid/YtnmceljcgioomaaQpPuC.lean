/- Plain laws of the functions. -/
import Derived.Test.YtnmceljcgioomaaQpPuB
set_option linter.all false
namespace Go.Dvm.I
open Go Go.Dvm

/-- The first place of a number. -/
def idxI (x : Int) : List Int → Nat → Int
  | [], _ => -1
  | a :: l, i => if x = a then (i : Int) else idxI x l (i + 1)
theorem idxI_nn {x : Int} : ∀ {l : List Int} {i : Nat}, 0 ≤ idxI x l i ↔ x ∈ l
  | [], i => by simp [idxI]
  | a :: l, i => by
    simp only [idxI, List.mem_cons]
    by_cases h : x = a
    · simp [h]
    · rw [if_neg h, idxI_nn]; simp [h]
theorem slices_Index_l0_ev (z : Bool) (L : List Int) (x : Int) (hL : L.length ≤ 1000000) : ∀ (k i : Nat), L.length = i + k → Ev (fun q => slices_Index_int_int_l0 q z L x (L.length : Int) (i : Int)) (idxI x (L.drop i) i)
  | 0, i, hk => by
    refine Ev.succ (Ev.neg (by omega) (Ev.ret' ?_)) (fun q => rfl)
    rw [List.drop_of_length_le (by omega)]; rfl
  | k + 1, i, hk => by
    have hi : i < L.length := by omega
    have hg : L[(i : Int).toNat]? = some L[i] := by simpa using List.getElem?_eq_getElem hi
    refine Ev.succ (Ev.pos (by omega) (Ev.pos (by omega) (Ev.opt hg ?_))) (fun q => rfl)
    rw [List.drop_eq_getElem_cons hi]
    simp only [idxI]
    refine Ev.ite (fun h => ?_) fun h => ?_
    · rw [if_pos h]; exact Ev.ret _
    · rw [if_neg h, wrp_i64 (by omega) (by omega), show ((i : Int) + 1) = ((i + 1 : Nat) : Int) by omega]
      exact slices_Index_l0_ev z L x hL k (i + 1) (by omega)
theorem slices_Index_ev (s : Sl Int) (x : Int) (hL : s.l.length ≤ 1000000) : Ev (fun q => slices_Index_int_int q s x) (idxI x s.l 0) := by
  have := slices_Index_l0_ev s.z s.l x hL s.l.length 0 (by simp)
  rw [List.drop_zero] at this
  exact Ev.succ this (fun q => rfl)
theorem slices_Contains_ev (s : Sl Int) (x : Int) (hL : s.l.length ≤ 1000000) : Ev (fun q => slices_Contains_int_int q s x) (decide (x ∈ s.l)) := by
  refine Ev.succ (Ev.bind (slices_Index_ev s x hL) (Ev.ret' ?_)) (fun q => rfl)
  rw [decide_eq_decide]; exact idxI_nn

def noR : S_api_Record := ⟨0, 0, 0, ⟨0, 0, 0⟩, 0⟩
def upR (v : Int) (r : S_api_Record) : S_api_Record := ⟨r.Index, r.Proc, if v < 2 then 0 else r.Seq, r.Op, if v < 3 then 0 else r.Resp⟩
theorem schema_Upgrade_ev (v : Int) (r : S_api_Record) : Ev (fun q => schema_Upgrade q v r) (if v < 1 ∨ 3 < v then (noR, 6) else (upR v r, 0)) := by
  refine Ev.succ ?_ (fun q => rfl)
  by_cases hv : v < 1 ∨ 3 < v
  · rw [if_pos hv]; exact Ev.bind (schema_fields_no hv) (Ev.pos rfl (Ev.ret _))
  · rw [if_neg hv]
    have hm := (fieldsOf_mem (v := v)).2
    refine Ev.bind (schema_fields_ev (by omega) (by omega)) (Ev.neg (by simp) (Ev.bind (slices_Contains_ev _ 3 (by simp only; omega)) ?_))
    refine Ev.ite (fun h => Ev.bind (slices_Contains_ev _ 5 (by simp only; omega)) (Ev.ite (fun h' => Ev.ret' ?_) fun h' => Ev.ret' ?_)) fun h => Ev.bind (slices_Contains_ev _ 5 (by simp only; omega)) (Ev.ite (fun h' => Ev.ret' ?_) fun h' => Ev.ret' ?_)
    all_goals
      simp only [decide_eq_true_eq] at h h'
      have h3 : v = 1 ∨ v = 2 ∨ v = 3 := by omega
      rcases h3 with rfl | rfl | rfl <;> simp [fieldsOf] at h h' <;> simp [upR]

theorem put_inj {a b : Int} {x y : List Int} (h1 : 0 ≤ a ∧ a < 4611686018427387904) (h2 : 0 ≤ b ∧ b < 4611686018427387904) (h : put a ++ x = put b ++ y) : a = b ∧ x = y := by
  rw [put_ok h1.1 h1.2, put_ok h2.1 h2.2] at h
  obtain ⟨e, h⟩ := grp_inj h
  exact ⟨by omega, h⟩
theorem putS_inj {a b : Int} {x y : List Int} (h : putS a ++ x = putS b ++ y) : a = b ∧ x = y := by
  obtain ⟨e, h⟩ := grp_inj h
  exact ⟨zig_inj e, h⟩
theorem opB_inj {a b : S_api_Op} {x y : List Int} (h1 : fitsOp a = true) (h2 : fitsOp b = true) (h : opB a ++ x = opB b ++ y) : a = b ∧ x = y := by
  have k1 := fitsOp_iff.1 h1; have k2 := fitsOp_iff.1 h2
  simp only [opB, List.append_assoc] at h
  obtain ⟨e1, h⟩ := put_inj ⟨k1.1, by omega⟩ ⟨k2.1, by omega⟩ h
  obtain ⟨e2, h⟩ := putS_inj h
  obtain ⟨e3, h⟩ := putS_inj h
  cases a; cases b; simp_all
theorem rec_ext {a b : S_api_Record} (h1 : a.Index = b.Index) (h2 : a.Proc = b.Proc) (h3 : a.Seq = b.Seq) (h4 : a.Op = b.Op) (h5 : a.Resp = b.Resp) : a = b := by cases a; cases b; simp_all
theorem recB_inj {v : Int} {a b : S_api_Record} {x y : List Int} (h1 : 1 ≤ v) (h3 : v ≤ 3) (ha : FitsR a) (hb : FitsR b) (h : recB v a ++ x = recB v b ++ y) : upR v a = upR v b ∧ x = y := by
  obtain ⟨a1, a2, a3, a4, a5, a6, a7, a8, a9⟩ := ha
  obtain ⟨b1, b2, b3, b4, b5, b6, b7, b8, b9⟩ := hb
  have hv : v = 1 ∨ v = 2 ∨ v = 3 := by omega
  rcases hv with rfl | rfl | rfl <;> simp [recB, fieldsOf, fieldsB, valB] at h
  · obtain ⟨e1, h⟩ := put_inj ⟨a1, a2⟩ ⟨b1, b2⟩ h
    simp only [List.append_cancel_left_eq] at h
    obtain ⟨e2, h⟩ := put_inj ⟨a3, by omega⟩ ⟨b3, by omega⟩ h
    simp only [List.append_cancel_left_eq] at h
    obtain ⟨e3, h⟩ := opB_inj a7 b7 h
    exact ⟨rec_ext e1 e2 rfl e3 rfl, h⟩
  · obtain ⟨e1, h⟩ := put_inj ⟨a1, a2⟩ ⟨b1, b2⟩ h
    simp only [List.append_cancel_left_eq] at h
    obtain ⟨e2, h⟩ := put_inj ⟨a3, by omega⟩ ⟨b3, by omega⟩ h
    simp only [List.append_cancel_left_eq] at h
    obtain ⟨e4, h⟩ := put_inj ⟨a5, a6⟩ ⟨b5, b6⟩ h
    simp only [List.append_cancel_left_eq] at h
    obtain ⟨e3, h⟩ := opB_inj a7 b7 h
    exact ⟨rec_ext e1 e2 (by simpa [upR] using e4) e3 rfl, h⟩
  · obtain ⟨e1, h⟩ := put_inj ⟨a1, a2⟩ ⟨b1, b2⟩ h
    simp only [List.append_cancel_left_eq] at h
    obtain ⟨e2, h⟩ := put_inj ⟨a3, by omega⟩ ⟨b3, by omega⟩ h
    simp only [List.append_cancel_left_eq] at h
    obtain ⟨e4, h⟩ := put_inj ⟨a5, a6⟩ ⟨b5, b6⟩ h
    simp only [List.append_cancel_left_eq] at h
    obtain ⟨e3, h⟩ := opB_inj a7 b7 h
    simp only [List.append_cancel_left_eq] at h
    obtain ⟨e5, h⟩ := putS_inj h
    exact ⟨rec_ext e1 e2 (by simpa [upR] using e4) e3 (by simpa [upR] using e5), h⟩
theorem recB_up {v : Int} {a b : S_api_Record} (h1 : 1 ≤ v) (h3 : v ≤ 3) (h : upR v a = upR v b) : recB v a = recB v b := by
  simp only [upR, S_api_Record.mk.injEq] at h
  obtain ⟨e1, e2, e3, e4, e5⟩ := h
  have hv : v = 1 ∨ v = 2 ∨ v = 3 := by omega
  rcases hv with rfl | rfl | rfl <;> simp_all [recB, fieldsOf, fieldsB, valB]
theorem grp0 : grp 0 = [0] := grp_lt (by omega)
theorem awake06_ev : Ev (fun q => ferrymanlaw06_awake q) true := by
  have hf : FitsR ⟨5, 2, 0, ⟨0, 0, 0⟩, 0⟩ := by decide
  have he := schema_Encode_ev 1 ⟨5, 2, 0, ⟨0, 0, 0⟩, 0⟩
  rw [if_neg (by omega), if_pos hf] at he
  refine Ev.succ (Ev.bind he (Ev.pos rfl (Ev.ret' ?_))) (fun q => rfl)
  rw [decide_eq_true_eq]
  simp [recB, fieldsOf, fieldsB, valB, put, grp_lt, opB, putS, zig, grp0]

theorem ferrymanlaw06_SchemaApart_true : ∀ (a0 : Int) (a1 : S_api_Record) (a2 : S_api_Record), inR .i64 a0 → S_api_Record.ok a1 → S_api_Record.ok a2 → ∃ q, ferrymanlaw06_SchemaApart q a0 a1 a2 = some true := by
  intro v a b _ _ _
  refine Ev.get (f := fun q => ferrymanlaw06_SchemaApart q v a b) ?_
  have e1 := schema_Encode_ev v a
  have e2 := schema_Encode_ev v b
  have u1 := schema_Upgrade_ev v a
  have u2 := schema_Upgrade_ev v b
  by_cases hv : v < 1 ∨ 3 < v
  · rw [if_pos hv] at e1 e2
    exact Ev.succ (Ev.bind awake06_ev (Ev.bind e1 (Ev.bind e2 (Ev.pos rfl (Ev.neg (by decide) (Ev.ret _)))))) (fun q => rfl)
  · rw [if_neg hv] at e1 e2 u1 u2
    by_cases ha : FitsR a
    · rw [if_pos ha] at e1
      by_cases hb : FitsR b
      · rw [if_pos hb] at e2
        refine Ev.succ (Ev.bind awake06_ev (Ev.bind e1 (Ev.bind e2 (Ev.pos rfl (Ev.pos rfl (Ev.pos rfl (Ev.bind u1 (Ev.bind u2 (Ev.pos rfl (Ev.pos rfl (Ev.pos ?_ ?_)))))))))) ) (fun q => rfl)
        · have key : recB v a = recB v b ↔ upR v a = upR v b := ⟨fun h => (recB_inj (x := []) (y := []) (by omega) (by omega) ha hb (by rw [h])).1, recB_up (by omega) (by omega)⟩
          have e : ∀ x y : S_api_Record, (decide (x.Index = y.Index) && (decide (x.Proc = y.Proc) && (decide (x.Seq = y.Seq) && (decide (x.Op.Code = y.Op.Code) && (decide (x.Op.A = y.Op.A) && (decide (x.Op.B = y.Op.B) && decide (x.Resp = y.Resp))))))) = true ↔ x = y := by
            intro x y
            simp only [Bool.and_eq_true, decide_eq_true_eq]
            constructor
            · rintro ⟨h1, h2, h3, h4, h5, h6, h7⟩
              refine rec_ext h1 h2 h3 ?_ h7
              cases hx : x.Op; cases hy : y.Op; simp_all
            · rintro rfl; simp
          simp only [beq_iff_eq]
          rw [Bool.eq_iff_iff, e, decide_eq_true_eq]; exact key
        · refine Ev.ite (fun h3 => ?_) fun h3 => Ev.ret _
          subst h3
          refine Ev.pos rfl (Ev.pos rfl (Ev.pos rfl (Ev.pos rfl (Ev.pos rfl (Ev.pos rfl (Ev.pos rfl (Ev.ret' ?_)))))))
          simp [upR]
      · rw [if_neg hb] at e2
        exact Ev.succ (Ev.bind awake06_ev (Ev.bind e1 (Ev.bind e2 (Ev.pos rfl (Ev.pos rfl (Ev.neg (by decide) (Ev.ret _))))))) (fun q => rfl)
    · rw [if_neg ha] at e1
      exact Ev.succ (Ev.bind awake06_ev (Ev.bind e1 (Ev.bind e2 (Ev.pos rfl (Ev.neg (by decide) (Ev.ret _)))))) (fun q => rfl)

theorem upR_up (v : Int) (r : S_api_Record) : upR v (upR v r) = upR v r := by
  simp only [upR, S_api_Record.mk.injEq]; refine ⟨trivial, trivial, ?_, trivial, ?_⟩ <;> split <;> simp_all
theorem upR_fits {v : Int} {r : S_api_Record} (h : FitsR r) : FitsR (upR v r) := by
  obtain ⟨a1, a2, a3, a4, a5, a6, a7, a8, a9⟩ := h
  refine ⟨a1, a2, a3, a4, ?_, ?_, a7, ?_, ?_⟩ <;> simp only [upR] <;> split <;> omega
theorem ferrymanlaw06_SchemaAgain_true : ∀ (a0 : Int) (a1 : S_api_Record), inR .i64 a0 → S_api_Record.ok a1 → ∃ q, ferrymanlaw06_SchemaAgain q a0 a1 = some true := by
  intro v a _ _
  refine Ev.get (f := fun q => ferrymanlaw06_SchemaAgain q v a) ?_
  have e1 := schema_Encode_ev v a
  have e2 := schema_Encode_ev v (upR v a)
  have u1 := schema_Upgrade_ev v a
  have u2 := schema_Upgrade_ev v (upR v a)
  have u3 := schema_Upgrade_ev 3 (upR v a)
  by_cases hv : v < 1 ∨ 3 < v
  · rw [if_pos hv] at u1
    exact Ev.succ (Ev.bind awake06_ev (Ev.bind u1 (Ev.pos rfl (Ev.neg (by decide) (Ev.ret _))))) (fun q => rfl)
  · rw [if_neg hv] at e1 e2 u1 u2
    rw [if_neg (by omega)] at u3
    rw [upR_up] at u2
    have h3 : upR 3 (upR v a) = upR v a := by simp [upR]
    rw [h3] at u3
    refine Ev.succ (Ev.bind awake06_ev (Ev.bind u1 (Ev.pos rfl (Ev.pos rfl (Ev.bind e1 (Ev.bind e2 (Ev.bind u2 (Ev.bind u3 (Ev.pos rfl (Ev.pos rfl (Ev.pos rfl (Ev.pos rfl (Ev.pos rfl (Ev.pos rfl (Ev.pos rfl (Ev.pos rfl (Ev.pos rfl (Ev.pos rfl (Ev.pos rfl (Ev.pos rfl (Ev.pos rfl (Ev.pos rfl (Ev.pos rfl (Ev.pos rfl ?_)))))))))))))))))))))))) (fun q => rfl)
    by_cases ha : FitsR a
    · simp only [if_pos ha, if_pos (upR_fits (v := v) ha)]
      refine Ev.pos trivial (Ev.pos trivial (Ev.ret' ?_))
      rw [decide_eq_true_eq]
      exact recB_up (by omega) (by omega) (upR_up v a).symm
    · simp only [if_neg ha]
      exact Ev.neg (by decide) (Ev.ret _)
end Go.Dvm.I
