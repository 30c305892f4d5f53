/- The law ShipTakes holds for every input: called with any arguments that can be read as data, it answers true and leaves them as they were. -/
import Derived.Test.YtnppecdklidmmaaGreatRows
import Derived.Test.YtnppecdklidmmaaGreatQo
import Derived.Test.YtnppecdklidmmaaGreatQr2
import Derived.Test.YtnppecdklidmmaaGreatQp1
import Derived.WalkKit
import Derived.ProofKit
import Derived.OpenShut
import Derived.ChangeOld
import Derived.Below
import Derived.Carry
import Derived.SizedLaws
import Derived.RowKit
set_option linter.all false
set_option maxRecDepth 100000
set_option maxHeartbeats 4000000
namespace Go.Proofs.YtnppecdklidmmaaGreat.shipTakes
open Go.ChangeShapes Go.WideShapes Go.ChangeAt Go.RowKit Go.Dvm Go.Dvm.C Go.Dvm.I
theorem opv_3 : RdV Tryz.prog 3 (fun r => (V.int .i64) r) (fun r => inR .i64 r) := zj0 Tryz.underlying3
theorem op_3 : RdL Tryz.prog 3 (fun r => [V.int .i64 r]) (fun r => inR .i64 r) := op_int Tryz.underlying3
theorem op_5 : RdL Tryz.prog 5 (fun r => [V.int .u8 r]) (fun r => inR .u8 r) := op_int Tryz.underlying5
theorem op_38 : RdL Tryz.prog 38 (fun r => [(Sl.enc (V.int .u8)) r]) (fun r => okSl (fun x => inR .u8 x) r) := op_sl Tryz.underlying38 op_5 (fun _ => rfl)
theorem op_53 : RdL Tryz.prog 53 (fun r : zku => [V.int .i64 r.From, V.int .i64 r.To, V.int .i64 r.Kind, V.int .i64 r.Index, (Sl.enc (V.int .u8)) r.B]) (fun r => zku.ok r) := RdL.map (op_st Tryz.underlying53 (by kernel_rfl) (zjy op_3 (zjy op_3 (zjy op_3 (zjy op_3 (zjy op_38 (zjx))))))) (fun p => (⟨p.1, p.2.1, p.2.2.1, p.2.2.2.1, p.2.2.2.2.1⟩ : zku)) (fun p => rfl) (fun p h => ⟨h.1, h.2.1, h.2.2.1, h.2.2.2.1, h.2.2.2.2.1⟩)
theorem opv_45 : RdV Tryz.prog 45 (fun r => (Sl.enc zku.enc) r) (fun r => okSl (fun x => zku.ok x) r) := opV_sl Tryz.underlying45 op_53 (fun _ => rfl)
theorem own : ownKnob Tryz.prog.godebug = none := by kernel_rfl
theorem laidOut : laidOutB Tryz.prog = true := by kernel_rfl
theorem deep (a0 : Int) (a1 : Int) (a2 : (Sl zku)) (q : Nat) (h : zrd q a0 a1 a2 = some true) : DeepOk Tryz.prog 4 [(V.int .i64) a0, (V.int .i64) a1, (Sl.enc zku.enc) a2] [.bool true] := by
 have k := us0 (q := q) (y14 _) h
 exact (orc_ok (fun _ _ h => tab_ok mixed okAll prims h) (fun f mf h => zhw okAll f mf h) (8 * q)).2 _ _ _ k
set_option maxRecDepth 100000 in
theorem lifted (os : Os) (started : os.Started) (H : Type) (enc : TypeId × Value → H) :
  ReturnsInHanded {} Tryz.checked os 4 .any (Rows.shipTakesSpec.pre6 enc Tryz.prog Tryz.f4 Rows.shipTakesRow.domain false) (Rows.shipTakesSpec.post enc Tryz.prog Tryz.f4 false true false false) := by
 refine returnsInHanded_of_change_sized (C := Tryz.checked) own started (by kernel_rfl) Tryz.func4
  (ChangeSpec.witness6 (enc := enc) (C := Tryz.checked) false ⟨#[], #[.int .i64 0, .int .i64 0, .slice none 0 0], []⟩ 8 (by kernel_rfl) (by kernel_rfl) (by kernel_rfl) (by kernel_rfl)) ?_
 intro W base args ds gs before hval0 hW hcnd hsz0 _
 have hval : ∀ (j : Nat) t v, Tryz.f4.params[j]? = some t → args[j]? = some v → Value.okWide Tryz.prog W .any base t v := hval0
 have hW' := hW
 obtain ⟨p, q, hA0, hV, rfl, hfz, hnd⟩ := hW
 have hA : DataW.TrodAll enc Tryz.prog W 0 (fun _ => true) true Tryz.f4.params.toList args.toList ds p := hA0
 rw [Tryz.params4] at hA hval
 obtain ⟨v0, vs0, d0, ds0, p0, q0, hargs, rfl, rfl, h0, r0⟩ := trodAll_cons hA
 obtain ⟨v1, vs1, d1, ds1, p1, q1, rfl, rfl, rfl, h1, r1⟩ := trodAll_cons r0
 obtain ⟨v2, vs2, d2, ds2, p2, q2, rfl, rfl, rfl, h2, r2⟩ := trodAll_cons r1
 obtain ⟨rfl, rfl, rfl⟩ := trodAll_nil r2
 obtain rfl : args = #[v0, v1, v2] := by cases args; simp_all
 obtain ⟨rfl, rfl⟩ := trodVars_none hV
 obtain ⟨a0, o0, dp0, vr0⟩ := opv_3 (hval 0 3 v0 rfl rfl) h0
 have lt0 : ∀ x ∈ p0, x.block < W.heap.size := by obtain ⟨m, hm⟩ := h0; exact DataW.trod_lt m _ _ _ hm
 obtain ⟨a1, o1, dp1, vr1⟩ := opv_3 (hval 1 3 v1 rfl rfl) h1
 have lt1 : ∀ x ∈ p1, x.block < W.heap.size := by obtain ⟨m, hm⟩ := h1; exact DataW.trod_lt m _ _ _ hm
 obtain ⟨a2, o2, dp2, vr2⟩ := opv_45 (hval 2 45 v2 rfl rfl) h2
 have lt2 : ∀ x ∈ p2, x.block < W.heap.size := by obtain ⟨m, hm⟩ := h2; exact DataW.trod_lt m _ _ _ hm
 obtain ⟨q, hq⟩ := zb3d a0 a1 a2 o0 o1 o2
 refine (zj1 (deep a0 a1 a2 q hq) (xs := [v0, v1, v2]) (ps := p0 ++ (p1 ++ (p2 ++ ([])))) rfl (fun I hI => Ds.cons (D.deep dp0 (fun ρ => vr0 I (fun b hb => hI b ⟨List.mem_append.2 (.inl hb.1), hb.2⟩) ρ)) (Ds.cons (D.deep dp1 (fun ρ => vr1 I (fun b hb => hI b ⟨List.mem_append.2 (.inr (List.mem_append.2 (.inl hb.1))), hb.2⟩) ρ)) (Ds.cons (D.deep dp2 (fun ρ => vr2 I (fun b hb => hI b ⟨List.mem_append.2 (.inr (List.mem_append.2 (.inr (List.mem_append.2 (.inl hb.1))))), hb.2⟩) ρ)) (Ds.nil _))))).mono fun e W' ⟨he, bel⟩ => ?_
 subst he
 exact ⟨_, rfl, _, _, _, [], _, [], hW', trodAll_mk1 (shut_bool Tryz.underlying4 _), (trodAll_cons_mk (Below.trod laidOut (by kernel_rfl) (of_decide_eq_true (by kernel_rfl)) h0 bel lt0) (trodAll_cons_mk (Below.trod laidOut (by kernel_rfl) (of_decide_eq_true (by kernel_rfl)) h1 bel lt1) (trodAll_cons_mk (Below.trod laidOut (by kernel_rfl) (of_decide_eq_true (by kernel_rfl)) h2 bel lt2) trodAll_mk0))), rfl, bel.frame _, fun h => by cases h⟩
theorem over : Rows.shipTakesRow.holds Tryz.pinned (OpenSpec.ofChange Rows.shipTakesSpec) :=
 OpenClaim.holds_of_wide 4 Tryz.f4 rfl rfl rfl rfl rfl rfl rfl ⟨rfl, rfl, rfl, rfl, rfl⟩ rfl rfl rfl rfl rfl (by kernel_rfl) Tryz.func4 (by kernel_rfl)
  (of_decide_eq_true (by kernel_rfl)) (by unfold Func.isWrapper; first | (rw [if_pos (by decide +kernel)]; kernel_rfl) | (rw [if_neg (by decide +kernel)]; exact ⟨rfl, rfl⟩))
  (fun os started H enc _ => lifted os started H enc)
end Go.Proofs.YtnppecdklidmmaaGreat.shipTakes
namespace Go.Proofs.YtnppecdklidmmaaGreat
/-- The row, under a short name, for the claim. -/
theorem shipTakes_holds : Rows.ShipTakesSaid := shipTakes.over
end Go.Proofs.YtnppecdklidmmaaGreat
