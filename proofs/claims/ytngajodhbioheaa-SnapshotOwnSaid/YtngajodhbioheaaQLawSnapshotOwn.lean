/- The law SnapshotOwn holds for every input: called with any arguments that can be read as data, it answers true and leaves them as they were. -/
import Derived.Test.YtngajodhbioheaaRows
import Derived.Test.YtngajodhbioheaaQo
import Derived.Test.YtngajodhbioheaaQr2
import Derived.Test.YtngajodhbioheaaQp0
import Derived.WalkKit
import Derived.ProofKit
import Derived.OpenShut
import Derived.ChangeOld
import Derived.Below
import Derived.Carry
import Derived.SizedLaws
import Derived.RowKit
set_option linter.all false
set_option maxRecDepth 100000
set_option maxHeartbeats 4000000
namespace Go.Proofs.Ytngajodhbioheaa.snapshotOwn
open Go.ChangeShapes Go.WideShapes Go.ChangeAt Go.RowKit Go.Dvm Go.Dvm.C Go.Dvm.I
theorem op_3 : RdL Try.prog 3 (fun r => [V.int .i64 r]) (fun r => inR .i64 r) := op_int Try.underlying3
theorem op_22 : RdL Try.prog 22 (fun r => [(Sl.enc (V.int .i64)) r]) (fun r => okSl (fun x => inR .i64 x) r) := op_sl Try.underlying22 op_3 (fun _ => rfl)
theorem op_4 : RdL Try.prog 4 (fun r => [V.bool r]) (fun _ => True) := zjg Try.underlying4
theorem op_24 : RdL Try.prog 24 (fun r : zjm => [V.int .i64 r.Kind, (Sl.enc (V.int .i64)) r.L, V.bool r.Sealed, V.int .i64 r.To]) (fun r => zjm.ok r) := RdL.map (op_st Try.underlying24 (by kernel_rfl) (zji op_3 (zji op_22 (zji op_4 (zji op_3 (zjh)))))) (fun p => (⟨p.1, p.2.1, p.2.2.1, p.2.2.2.1⟩ : zjm)) (fun p => rfl) (fun p h => ⟨h.1, h.2.1, h.2.2.1, h.2.2.2.1⟩)
theorem op_58 : RdL Try.prog 58 (fun r : zjn => [V.int .i64 r.Proc, V.int .i64 r.Seq, V.int .i64 r.Resp]) (fun r => zjn.ok r) := RdL.map (op_st Try.underlying58 (by kernel_rfl) (zji op_3 (zji op_3 (zji op_3 (zjh))))) (fun p => (⟨p.1, p.2.1, p.2.2.1⟩ : zjn)) (fun p => rfl) (fun p h => ⟨h.1, h.2.1, h.2.2.1⟩)
theorem op_25 : RdL Try.prog 25 (fun r => [(Sl.enc zjn.enc) r]) (fun r => okSl (fun x => zjn.ok x) r) := op_sl Try.underlying25 op_58 (fun _ => rfl)
theorem op_27 : RdL Try.prog 27 (fun r : zjo => [V.int .i64 r.Index, V.int .i64 r.State.Kind, (Sl.enc (V.int .i64)) r.State.L, V.bool r.State.Sealed, V.int .i64 r.State.To, (Sl.enc zjn.enc) r.Table]) (fun r => zjo.ok r) := RdL.map (op_st Try.underlying27 (by kernel_rfl) (zji op_3 (zji op_24 (zji op_25 (zjh))))) (fun p => (⟨p.1, p.2.1, p.2.2.1⟩ : zjo)) (fun p => rfl) (fun p h => ⟨h.1, h.2.1, h.2.2.1⟩)
theorem opv_27 : RdV Try.prog 27 (fun r => zjo.enc r) (fun r => zjo.ok r) := zjk Try.underlying27 op_27
theorem op_48 : RdL Try.prog 48 (fun r : zjq => [V.int .i64 r.Code, V.int .i64 r.A, V.int .i64 r.B]) (fun r => zjq.ok r) := RdL.map (op_st Try.underlying48 (by kernel_rfl) (zji op_3 (zji op_3 (zji op_3 (zjh))))) (fun p => (⟨p.1, p.2.1, p.2.2.1⟩ : zjq)) (fun p => rfl) (fun p h => ⟨h.1, h.2.1, h.2.2.1⟩)
theorem op_50 : RdL Try.prog 50 (fun r : zjr => [V.int .i64 r.Index, V.int .i64 r.Proc, V.int .i64 r.Seq, V.int .i64 r.Op.Code, V.int .i64 r.Op.A, V.int .i64 r.Op.B, V.int .i64 r.Resp]) (fun r => zjr.ok r) := RdL.map (op_st Try.underlying50 (by kernel_rfl) (zji op_3 (zji op_3 (zji op_3 (zji op_48 (zji op_3 (zjh))))))) (fun p => (⟨p.1, p.2.1, p.2.2.1, p.2.2.2.1, p.2.2.2.2.1⟩ : zjr)) (fun p => rfl) (fun p h => ⟨h.1, h.2.1, h.2.2.1, h.2.2.2.1, h.2.2.2.2.1⟩)
theorem opv_37 : RdV Try.prog 37 (fun r => (Sl.enc zjr.enc) r) (fun r => okSl (fun x => zjr.ok x) r) := opV_sl Try.underlying37 op_50 (fun _ => rfl)
theorem own : ownKnob Try.prog.godebug = none := by kernel_rfl
theorem laidOut : laidOutB Try.prog = true := by kernel_rfl
theorem deep (a0 : zjo) (a1 : (Sl zjr)) (q : Nat) (h : zmq q a0 a1 = some true) : DeepOk Try.prog F.zmq [zjo.enc a0, (Sl.enc zjr.enc) a1] [.bool true] :=
 (orc_ok (fun _ _ h => tab_ok mixed okAll prims h) (fun f mf h => zhf okAll f mf h) (8 * q)).2 _ _ _ (zbki q (8 * q) (y13 _) a0 a1 true h)
set_option maxRecDepth 100000 in
theorem lifted (os : Os) (started : os.Started) (H : Type) (enc : TypeId × Value → H) :
  ReturnsInHanded {} Try.checked os 12 .any (Rows.snapshotOwnSpec.pre6 enc Try.prog Try.f12 Rows.snapshotOwnRow.domain false) (Rows.snapshotOwnSpec.post enc Try.prog Try.f12 false true false false) := by
 refine returnsInHanded_of_change_sized (C := Try.checked) own started (by kernel_rfl) Try.func12
  (ChangeSpec.witness6 (enc := enc) (C := Try.checked) false ⟨#[], #[.agg #[.int .i64 0, .int .i64 0, .slice none 0 0, .bool false, .int .i64 0, .slice none 0 0], .slice none 0 0], []⟩ 8 (by kernel_rfl) (by kernel_rfl) (by kernel_rfl) (by kernel_rfl)) ?_
 intro W base args ds gs before hval0 hW hcnd hsz0 _
 have hval : ∀ (j : Nat) t v, Try.f12.params[j]? = some t → args[j]? = some v → Value.okWide Try.prog W .any base t v := hval0
 have hW' := hW
 obtain ⟨p, q, hA0, hV, rfl, hfz, hnd⟩ := hW
 have hA : DataW.TrodAll enc Try.prog W 0 (fun _ => true) true Try.f12.params.toList args.toList ds p := hA0
 rw [Try.params12] at hA hval
 obtain ⟨v0, vs0, d0, ds0, p0, q0, hargs, rfl, rfl, h0, r0⟩ := trodAll_cons hA
 obtain ⟨v1, vs1, d1, ds1, p1, q1, rfl, rfl, rfl, h1, r1⟩ := trodAll_cons r0
 obtain ⟨rfl, rfl, rfl⟩ := trodAll_nil r1
 obtain rfl : args = #[v0, v1] := by cases args; simp_all
 obtain ⟨rfl, rfl⟩ := trodVars_none hV
 obtain ⟨a0, o0, dp0, vr0⟩ := opv_27 (hval 0 27 v0 rfl rfl) h0
 have lt0 : ∀ x ∈ p0, x.block < W.heap.size := by obtain ⟨m, hm⟩ := h0; exact DataW.trod_lt m _ _ _ hm
 obtain ⟨a1, o1, dp1, vr1⟩ := opv_37 (hval 1 37 v1 rfl rfl) h1
 have lt1 : ∀ x ∈ p1, x.block < W.heap.size := by obtain ⟨m, hm⟩ := h1; exact DataW.trod_lt m _ _ _ hm
 obtain ⟨q, hq⟩ := zbph a0 a1 o0 o1
 refine (zjl (deep a0 a1 q hq) (xs := [v0, v1]) (ps := p0 ++ (p1 ++ ([]))) rfl (fun I hI => Ds.cons (D.deep dp0 (fun ρ => vr0 I (fun b hb => hI b ⟨List.mem_append.2 (.inl hb.1), hb.2⟩) ρ)) (Ds.cons (D.deep dp1 (fun ρ => vr1 I (fun b hb => hI b ⟨List.mem_append.2 (.inr (List.mem_append.2 (.inl hb.1))), hb.2⟩) ρ)) (Ds.nil _)))).mono fun e W' ⟨he, bel⟩ => ?_
 subst he
 exact ⟨_, rfl, _, _, _, [], _, [], hW', trodAll_mk1 (shut_bool Try.underlying4 _), (trodAll_cons_mk (Below.trod laidOut (by kernel_rfl) (of_decide_eq_true (by kernel_rfl)) h0 bel lt0) (trodAll_cons_mk (Below.trod laidOut (by kernel_rfl) (of_decide_eq_true (by kernel_rfl)) h1 bel lt1) trodAll_mk0)), rfl, bel.frame _, fun h => by cases h⟩
theorem over : Rows.snapshotOwnRow.holds Try.pinned (OpenSpec.ofChange Rows.snapshotOwnSpec) :=
 OpenClaim.holds_of_wide 12 Try.f12 rfl rfl rfl rfl rfl rfl rfl ⟨rfl, rfl, rfl, rfl, rfl⟩ rfl rfl rfl rfl rfl (by kernel_rfl) Try.func12 (by kernel_rfl)
  (of_decide_eq_true (by kernel_rfl)) (by unfold Func.isWrapper; first | (rw [if_pos (by decide +kernel)]; kernel_rfl) | (rw [if_neg (by decide +kernel)]; exact ⟨rfl, rfl⟩))
  (fun os started H enc _ => lifted os started H enc)
end Go.Proofs.Ytngajodhbioheaa.snapshotOwn
namespace Go.Proofs.Ytngajodhbioheaa
/-- The row, under a short name, for the claim. -/
theorem snapshotOwn_holds : Rows.SnapshotOwnSaid := snapshotOwn.over
end Go.Proofs.Ytngajodhbioheaa
