/- The walk of the law StoreParts. -/
import Derived.Test.YtfefdjloogcapaaGreatRows
import Derived.Test.YtfefdjloogcapaaGreatQo
import Derived.Test.YtfefdjloogcapaaGreatQr1
import Derived.Test.YtfefdjloogcapaaGreatQp0
import Derived.WalkKit
import Derived.ProofKit
import Derived.OpenShut
import Derived.ChangeOld
import Derived.Below
import Derived.Carry
import Derived.SizedLaws
import Derived.RowKit
set_option linter.all false
set_option maxRecDepth 100000
set_option maxHeartbeats 4000000
namespace Go.Proofs.YtfefdjloogcapaaGreat.storeParts
open Go.ChangeShapes Go.WideShapes Go.ChangeAt Go.RowKit Go.Dvm Go.Dvm.C Go.Dvm.I
theorem opv_3 : RdV Tryz.prog 3 (fun r => (V.int .i64) r) (fun r => inR .i64 r) := zjw Tryz.underlying3
theorem op_3 : RdL Tryz.prog 3 (fun r => [V.int .i64 r]) (fun r => inR .i64 r) := op_int Tryz.underlying3
theorem op_35 : RdL Tryz.prog 35 (fun r : zld => [V.int .i64 r.Code, V.int .i64 r.A, V.int .i64 r.B]) (fun r => zld.ok r) := RdL.map (op_st Tryz.underlying35 (by kernel_rfl) (zju op_3 (zju op_3 (zju op_3 (zjt))))) (fun p => (⟨p.1, p.2.1, p.2.2.1⟩ : zld)) (fun p => rfl) (fun p h => ⟨h.1, h.2.1, h.2.2.1⟩)
theorem op_36 : RdL Tryz.prog 36 (fun r => [(Sl.enc (V.int .i64)) r]) (fun r => okSl (fun x => inR .i64 x) r) := op_sl Tryz.underlying36 op_3 (fun _ => rfl)
theorem op_83 : RdL Tryz.prog 83 (fun r : zle => [V.int .i64 r.Index, V.int .i64 r.Proc, V.int .i64 r.Seq, V.int .i64 r.Op.Code, V.int .i64 r.Op.A, V.int .i64 r.Op.B, V.int .i64 r.Resp]) (fun r => zle.ok r) := RdL.map (op_st Tryz.underlying83 (by kernel_rfl) (zju op_3 (zju op_3 (zju op_3 (zju op_35 (zju op_3 (zjt))))))) (fun p => (⟨p.1, p.2.1, p.2.2.1, p.2.2.2.1, p.2.2.2.2.1⟩ : zle)) (fun p => rfl) (fun p h => ⟨h.1, h.2.1, h.2.2.1, h.2.2.2.1, h.2.2.2.2.1⟩)
theorem op_31 : RdL Tryz.prog 31 (fun r => [(Sl.enc zle.enc) r]) (fun r => okSl (fun x => zle.ok x) r) := op_sl Tryz.underlying31 op_83 (fun _ => rfl)
theorem op_5 : RdL Tryz.prog 5 (fun r => [V.int .u8 r]) (fun r => inR .u8 r) := op_int Tryz.underlying5
theorem op_37 : RdL Tryz.prog 37 (fun r => [(Sl.enc (V.int .u8)) r]) (fun r => okSl (fun x => inR .u8 x) r) := op_sl Tryz.underlying37 op_5 (fun _ => rfl)
theorem op_39 : RdL Tryz.prog 39 (fun r : zlf => [V.int .i64 r.Kind, V.int .i64 r.Many, V.int .i64 r.N, V.int .i64 r.Op.Code, V.int .i64 r.Op.A, V.int .i64 r.Op.B, (Sl.enc (V.int .i64)) r.Keep, (Sl.enc zle.enc) r.Records, (Sl.enc (V.int .u8)) r.B]) (fun r => zlf.ok r) := RdL.map (op_st Tryz.underlying39 (by kernel_rfl) (zju op_3 (zju op_3 (zju op_3 (zju op_35 (zju op_36 (zju op_31 (zju op_37 (zjt))))))))) (fun p => (⟨p.1, p.2.1, p.2.2.1, p.2.2.2.1, p.2.2.2.2.1, p.2.2.2.2.2.1, p.2.2.2.2.2.2.1⟩ : zlf)) (fun p => rfl) (fun p h => ⟨h.1, h.2.1, h.2.2.1, h.2.2.2.1, h.2.2.2.2.1, h.2.2.2.2.2.1, h.2.2.2.2.2.2.1⟩)
theorem opv_22 : RdV Tryz.prog 22 (fun r => (Sl.enc zlf.enc) r) (fun r => okSl (fun x => zlf.ok x) r) := opV_sl Tryz.underlying22 op_39 (fun _ => rfl)
theorem own : ownKnob Tryz.prog.godebug = none := by kernel_rfl
theorem laidOut : laidOutB Tryz.prog = true := by kernel_rfl
theorem deep (a0 : Int) (a1 : (Sl zlf)) (q : Nat) (h : zoa q a0 a1 = some true) : DeepOk Tryz.prog 3 [(V.int .i64) a0, (Sl.enc zlf.enc) a1] [.bool true] := by
 have k := us0 (q := q) (y13 _) h
 exact (orc_ok (fun _ _ h => tab_ok mixed okAll prims h) (fun f mf h => zhr okAll f mf h) (12 * q)).2 _ _ _ k
set_option maxRecDepth 100000 in
theorem lifted (os : Os) (started : os.Started) (H : Type) (enc : TypeId × Value → H) :
  ReturnsInHanded {} Tryz.checked os 3 .any (Rows.storePartsSpec.pre6 enc Tryz.prog Tryz.f3 Rows.storePartsRow.domain false) (Rows.storePartsSpec.post enc Tryz.prog Tryz.f3 false true false false) := by
 refine returnsInHanded_of_change_sized (C := Tryz.checked) own started (by kernel_rfl) Tryz.func3
  (ChangeSpec.witness6 (enc := enc) (C := Tryz.checked) false ⟨#[], #[.int .i64 0, .slice none 0 0], []⟩ 8 (by kernel_rfl) (by kernel_rfl) (by kernel_rfl) (by kernel_rfl)) ?_
 intro W base args ds gs before hval0 hW hcnd hsz0 _
 have hval : ∀ (j : Nat) t v, Tryz.f3.params[j]? = some t → args[j]? = some v → Value.okWide Tryz.prog W .any base t v := hval0
 have hW' := hW
 obtain ⟨p, q, hA0, hV, rfl, hfz, hnd⟩ := hW
 have hA : DataW.TrodAll enc Tryz.prog W 0 (fun _ => true) true Tryz.f3.params.toList args.toList ds p := hA0
 rw [Tryz.params3] at hA hval
 obtain ⟨v0, vs0, d0, ds0, p0, q0, hargs, rfl, rfl, h0, r0⟩ := trodAll_cons hA
 obtain ⟨v1, vs1, d1, ds1, p1, q1, rfl, rfl, rfl, h1, r1⟩ := trodAll_cons r0
 obtain ⟨rfl, rfl, rfl⟩ := trodAll_nil r1
 obtain rfl : args = #[v0, v1] := by cases args; simp_all
 obtain ⟨rfl, rfl⟩ := trodVars_none hV
 obtain ⟨a0, o0, dp0, vr0⟩ := opv_3 (hval 0 3 v0 rfl rfl) h0
 have lt0 : ∀ x ∈ p0, x.block < W.heap.size := by obtain ⟨m, hm⟩ := h0; exact DataW.trod_lt m _ _ _ hm
 obtain ⟨a1, o1, dp1, vr1⟩ := opv_22 (hval 1 22 v1 rfl rfl) h1
 have lt1 : ∀ x ∈ p1, x.block < W.heap.size := by obtain ⟨m, hm⟩ := h1; exact DataW.trod_lt m _ _ _ hm
 obtain ⟨q, hq⟩ := z7w a0 a1 o0 o1
 refine (zjx (deep a0 a1 q hq) (xs := [v0, v1]) (ps := p0 ++ (p1 ++ ([]))) rfl (fun I hI => Ds.cons (D.deep dp0 (fun ρ => vr0 I (fun b hb => hI b ⟨List.mem_append.2 (.inl hb.1), hb.2⟩) ρ)) (Ds.cons (D.deep dp1 (fun ρ => vr1 I (fun b hb => hI b ⟨List.mem_append.2 (.inr (List.mem_append.2 (.inl hb.1))), hb.2⟩) ρ)) (Ds.nil _)))).mono fun e W' ⟨he, bel⟩ => ?_
 subst he
 exact ⟨_, rfl, _, _, _, [], _, [], hW', trodAll_mk1 (shut_bool Tryz.underlying4 _), (trodAll_cons_mk (Below.trod laidOut (by kernel_rfl) (of_decide_eq_true (by kernel_rfl)) h0 bel lt0) (trodAll_cons_mk (Below.trod laidOut (by kernel_rfl) (of_decide_eq_true (by kernel_rfl)) h1 bel lt1) trodAll_mk0)), rfl, bel.frame _, fun h => by cases h⟩
end Go.Proofs.YtfefdjloogcapaaGreat.storeParts
