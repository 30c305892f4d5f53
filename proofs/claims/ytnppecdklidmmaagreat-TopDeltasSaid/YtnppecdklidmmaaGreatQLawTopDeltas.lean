/- The law TopDeltas holds for every input: called with any arguments that can be read as data, it answers true and leaves them as they were. -/
import Derived.Test.YtnppecdklidmmaaGreatRows
import Derived.Test.YtnppecdklidmmaaGreatQo
import Derived.Test.YtnppecdklidmmaaGreatQr2
import Derived.Test.YtnppecdklidmmaaGreatQp1
import Derived.WalkKit
import Derived.ProofKit
import Derived.OpenShut
import Derived.ChangeOld
import Derived.Below
import Derived.Carry
import Derived.SizedLaws
import Derived.RowKit
set_option linter.all false
set_option maxRecDepth 100000
set_option maxHeartbeats 4000000
namespace Go.Proofs.YtnppecdklidmmaaGreat.topDeltas
open Go.ChangeShapes Go.WideShapes Go.ChangeAt Go.RowKit Go.Dvm Go.Dvm.C Go.Dvm.I
theorem op_3 : RdL Tryz.prog 3 (fun r => [V.int .i64 r]) (fun r => inR .i64 r) := op_int Tryz.underlying3
theorem op_22 : RdL Tryz.prog 22 (fun r => [(Sl.enc (V.int .i64)) r]) (fun r => okSl (fun x => inR .i64 x) r) := op_sl Tryz.underlying22 op_3 (fun _ => rfl)
theorem op_4 : RdL Tryz.prog 4 (fun r => [V.bool r]) (fun _ => True) := zjv Tryz.underlying4
theorem op_24 : RdL Tryz.prog 24 (fun r : zj4 => [V.int .i64 r.Kind, (Sl.enc (V.int .i64)) r.L, V.bool r.Sealed, V.int .i64 r.To]) (fun r => zj4.ok r) := RdL.map (op_st Tryz.underlying24 (by kernel_rfl) (zjx op_3 (zjx op_22 (zjx op_4 (zjx op_3 (zjw)))))) (fun p => (⟨p.1, p.2.1, p.2.2.1, p.2.2.2.1⟩ : zj4)) (fun p => rfl) (fun p h => ⟨h.1, h.2.1, h.2.2.1, h.2.2.2.1⟩)
theorem op_79 : RdL Tryz.prog 79 (fun r : zj5 => [V.int .i64 r.Proc, V.int .i64 r.Seq, V.int .i64 r.Resp]) (fun r => zj5.ok r) := RdL.map (op_st Tryz.underlying79 (by kernel_rfl) (zjx op_3 (zjx op_3 (zjx op_3 (zjw))))) (fun p => (⟨p.1, p.2.1, p.2.2.1⟩ : zj5)) (fun p => rfl) (fun p h => ⟨h.1, h.2.1, h.2.2.1⟩)
theorem op_25 : RdL Tryz.prog 25 (fun r => [(Sl.enc zj5.enc) r]) (fun r => okSl (fun x => zj5.ok x) r) := op_sl Tryz.underlying25 op_79 (fun _ => rfl)
theorem op_27 : RdL Tryz.prog 27 (fun r : zj6 => [V.int .i64 r.Index, V.int .i64 r.State.Kind, (Sl.enc (V.int .i64)) r.State.L, V.bool r.State.Sealed, V.int .i64 r.State.To, (Sl.enc zj5.enc) r.Table]) (fun r => zj6.ok r) := RdL.map (op_st Tryz.underlying27 (by kernel_rfl) (zjx op_3 (zjx op_24 (zjx op_25 (zjw))))) (fun p => (⟨p.1, p.2.1, p.2.2.1⟩ : zj6)) (fun p => rfl) (fun p h => ⟨h.1, h.2.1, h.2.2.1⟩)
theorem opv_27 : RdV Tryz.prog 27 (fun r => zj6.enc r) (fun r => zj6.ok r) := zjz Tryz.underlying27 op_27
theorem op_71 : RdL Tryz.prog 71 (fun r : zj7 => [V.int .i64 r.Code, V.int .i64 r.A, V.int .i64 r.B]) (fun r => zj7.ok r) := RdL.map (op_st Tryz.underlying71 (by kernel_rfl) (zjx op_3 (zjx op_3 (zjx op_3 (zjw))))) (fun p => (⟨p.1, p.2.1, p.2.2.1⟩ : zj7)) (fun p => rfl) (fun p h => ⟨h.1, h.2.1, h.2.2.1⟩)
theorem op_73 : RdL Tryz.prog 73 (fun r : zj8 => [V.int .i64 r.Index, V.int .i64 r.Proc, V.int .i64 r.Seq, V.int .i64 r.Op.Code, V.int .i64 r.Op.A, V.int .i64 r.Op.B, V.int .i64 r.Resp]) (fun r => zj8.ok r) := RdL.map (op_st Tryz.underlying73 (by kernel_rfl) (zjx op_3 (zjx op_3 (zjx op_3 (zjx op_71 (zjx op_3 (zjw))))))) (fun p => (⟨p.1, p.2.1, p.2.2.1, p.2.2.2.1, p.2.2.2.2.1⟩ : zj8)) (fun p => rfl) (fun p h => ⟨h.1, h.2.1, h.2.2.1, h.2.2.2.1, h.2.2.2.2.1⟩)
theorem opv_28 : RdV Tryz.prog 28 (fun r => (Sl.enc zj8.enc) r) (fun r => okSl (fun x => zj8.ok x) r) := opV_sl Tryz.underlying28 op_73 (fun _ => rfl)
theorem opv_3 : RdV Tryz.prog 3 (fun r => (V.int .i64) r) (fun r => inR .i64 r) := zj0 Tryz.underlying3
theorem own : ownKnob Tryz.prog.godebug = none := by kernel_rfl
theorem laidOut : laidOutB Tryz.prog = true := by kernel_rfl
theorem deep (a0 : zj6) (a1 : (Sl zj8)) (a2 : Int) (q : Nat) (h : zpo q a0 a1 a2 = some true) : DeepOk Tryz.prog F.zpo [zj6.enc a0, (Sl.enc zj8.enc) a1, (V.int .i64) a2] [.bool true] :=
 (orc_ok (fun _ _ h => tab_ok mixed okAll prims h) (fun f mf h => zht okAll f mf h) (8 * q)).2 _ _ _ (zb8n q (8 * q) (y16 _) a0 a1 a2 true h)
set_option maxRecDepth 100000 in
theorem lifted (os : Os) (started : os.Started) (H : Type) (enc : TypeId × Value → H) :
  ReturnsInHanded {} Tryz.checked os 3 .any (Rows.topDeltasSpec.pre6 enc Tryz.prog Tryz.f3 Rows.topDeltasRow.domain false) (Rows.topDeltasSpec.post enc Tryz.prog Tryz.f3 false true false false) := by
 refine returnsInHanded_of_change_sized (C := Tryz.checked) own started (by kernel_rfl) Tryz.func3
  (ChangeSpec.witness6 (enc := enc) (C := Tryz.checked) false ⟨#[], #[.agg #[.int .i64 0, .int .i64 0, .slice none 0 0, .bool false, .int .i64 0, .slice none 0 0], .slice none 0 0, .int .i64 0], []⟩ 8 (by kernel_rfl) (by kernel_rfl) (by kernel_rfl) (by kernel_rfl)) ?_
 intro W base args ds gs before hval0 hW hcnd hsz0 _
 have hval : ∀ (j : Nat) t v, Tryz.f3.params[j]? = some t → args[j]? = some v → Value.okWide Tryz.prog W .any base t v := hval0
 have hW' := hW
 obtain ⟨p, q, hA0, hV, rfl, hfz, hnd⟩ := hW
 have hA : DataW.TrodAll enc Tryz.prog W 0 (fun _ => true) true Tryz.f3.params.toList args.toList ds p := hA0
 rw [Tryz.params3] at hA hval
 obtain ⟨v0, vs0, d0, ds0, p0, q0, hargs, rfl, rfl, h0, r0⟩ := trodAll_cons hA
 obtain ⟨v1, vs1, d1, ds1, p1, q1, rfl, rfl, rfl, h1, r1⟩ := trodAll_cons r0
 obtain ⟨v2, vs2, d2, ds2, p2, q2, rfl, rfl, rfl, h2, r2⟩ := trodAll_cons r1
 obtain ⟨rfl, rfl, rfl⟩ := trodAll_nil r2
 obtain rfl : args = #[v0, v1, v2] := by cases args; simp_all
 obtain ⟨rfl, rfl⟩ := trodVars_none hV
 obtain ⟨a0, o0, dp0, vr0⟩ := opv_27 (hval 0 27 v0 rfl rfl) h0
 have lt0 : ∀ x ∈ p0, x.block < W.heap.size := by obtain ⟨m, hm⟩ := h0; exact DataW.trod_lt m _ _ _ hm
 obtain ⟨a1, o1, dp1, vr1⟩ := opv_28 (hval 1 28 v1 rfl rfl) h1
 have lt1 : ∀ x ∈ p1, x.block < W.heap.size := by obtain ⟨m, hm⟩ := h1; exact DataW.trod_lt m _ _ _ hm
 obtain ⟨a2, o2, dp2, vr2⟩ := opv_3 (hval 2 3 v2 rfl rfl) h2
 have lt2 : ∀ x ∈ p2, x.block < W.heap.size := by obtain ⟨m, hm⟩ := h2; exact DataW.trod_lt m _ _ _ hm
 obtain ⟨q, hq⟩ := zcja a0 a1 a2 o0 o1 o2
 refine (zj1 (deep a0 a1 a2 q hq) (xs := [v0, v1, v2]) (ps := p0 ++ (p1 ++ (p2 ++ ([])))) rfl (fun I hI => Ds.cons (D.deep dp0 (fun ρ => vr0 I (fun b hb => hI b ⟨List.mem_append.2 (.inl hb.1), hb.2⟩) ρ)) (Ds.cons (D.deep dp1 (fun ρ => vr1 I (fun b hb => hI b ⟨List.mem_append.2 (.inr (List.mem_append.2 (.inl hb.1))), hb.2⟩) ρ)) (Ds.cons (D.deep dp2 (fun ρ => vr2 I (fun b hb => hI b ⟨List.mem_append.2 (.inr (List.mem_append.2 (.inr (List.mem_append.2 (.inl hb.1))))), hb.2⟩) ρ)) (Ds.nil _))))).mono fun e W' ⟨he, bel⟩ => ?_
 subst he
 exact ⟨_, rfl, _, _, _, [], _, [], hW', trodAll_mk1 (shut_bool Tryz.underlying4 _), (trodAll_cons_mk (Below.trod laidOut (by kernel_rfl) (of_decide_eq_true (by kernel_rfl)) h0 bel lt0) (trodAll_cons_mk (Below.trod laidOut (by kernel_rfl) (of_decide_eq_true (by kernel_rfl)) h1 bel lt1) (trodAll_cons_mk (Below.trod laidOut (by kernel_rfl) (of_decide_eq_true (by kernel_rfl)) h2 bel lt2) trodAll_mk0))), rfl, bel.frame _, fun h => by cases h⟩
theorem over : Rows.topDeltasRow.holds Tryz.pinned (OpenSpec.ofChange Rows.topDeltasSpec) :=
 OpenClaim.holds_of_wide 3 Tryz.f3 rfl rfl rfl rfl rfl rfl rfl ⟨rfl, rfl, rfl, rfl, rfl⟩ rfl rfl rfl rfl rfl (by kernel_rfl) Tryz.func3 (by kernel_rfl)
  (of_decide_eq_true (by kernel_rfl)) (by unfold Func.isWrapper; first | (rw [if_pos (by decide +kernel)]; kernel_rfl) | (rw [if_neg (by decide +kernel)]; exact ⟨rfl, rfl⟩))
  (fun os started H enc _ => lifted os started H enc)
end Go.Proofs.YtnppecdklidmmaaGreat.topDeltas
namespace Go.Proofs.YtnppecdklidmmaaGreat
/-- The row, under a short name, for the claim. -/
theorem topDeltas_holds : Rows.TopDeltasSaid := topDeltas.over
end Go.Proofs.YtnppecdklidmmaaGreat
