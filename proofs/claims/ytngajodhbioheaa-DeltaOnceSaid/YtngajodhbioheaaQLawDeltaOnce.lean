/- The law DeltaOnce holds for every input: called with any arguments that can be read as data, it answers true and leaves them as they were. -/
import Derived.Test.YtngajodhbioheaaRows
import Derived.Test.YtngajodhbioheaaQo
import Derived.Test.YtngajodhbioheaaQr2
import Derived.Test.YtngajodhbioheaaQp0
import Derived.WalkKit
import Derived.ProofKit
import Derived.OpenShut
import Derived.ChangeOld
import Derived.Below
import Derived.Carry
import Derived.SizedLaws
import Derived.RowKit
set_option linter.all false
set_option maxRecDepth 100000
set_option maxHeartbeats 4000000
namespace Go.Proofs.Ytngajodhbioheaa.deltaOnce
open Go.ChangeShapes Go.WideShapes Go.ChangeAt Go.RowKit Go.Dvm Go.Dvm.C Go.Dvm.I
theorem op_5 : RdL Try.prog 5 (fun r => [V.int .u8 r]) (fun r => inR .u8 r) := op_int Try.underlying5
theorem opv_42 : RdV Try.prog 42 (fun r => (Sl.enc (V.int .u8)) r) (fun r => okSl (fun x => inR .u8 x) r) := opV_sl Try.underlying42 op_5 (fun _ => rfl)
theorem own : ownKnob Try.prog.godebug = none := by kernel_rfl
theorem laidOut : laidOutB Try.prog = true := by kernel_rfl
theorem deep (a0 : (Sl Int)) (q : Nat) (h : znj q a0 = some true) : DeepOk Try.prog F.znj [(Sl.enc (V.int .u8)) a0] [.bool true] :=
 (orc_ok (fun _ _ h => tab_ok mixed okAll prims h) (fun f mf h => zhi okAll f mf h) (8 * q)).2 _ _ _ (zbso q (8 * q) (y15 _) a0 true h)
set_option maxRecDepth 100000 in
theorem lifted (os : Os) (started : os.Started) (H : Type) (enc : TypeId × Value → H) :
  ReturnsInHanded {} Try.checked os 6 .any (Rows.deltaOnceSpec.pre6 enc Try.prog Try.f6 Rows.deltaOnceRow.domain false) (Rows.deltaOnceSpec.post enc Try.prog Try.f6 false true false false) := by
 refine returnsInHanded_of_change_sized (C := Try.checked) own started (by kernel_rfl) Try.func6
  (ChangeSpec.witness6 (enc := enc) (C := Try.checked) false ⟨#[], #[.slice none 0 0], []⟩ 8 (by kernel_rfl) (by kernel_rfl) (by kernel_rfl) (by kernel_rfl)) ?_
 intro W base args ds gs before hval0 hW hcnd hsz0 _
 have hval : ∀ (j : Nat) t v, Try.f6.params[j]? = some t → args[j]? = some v → Value.okWide Try.prog W .any base t v := hval0
 have hW' := hW
 obtain ⟨p, q, hA0, hV, rfl, hfz, hnd⟩ := hW
 have hA : DataW.TrodAll enc Try.prog W 0 (fun _ => true) true Try.f6.params.toList args.toList ds p := hA0
 rw [Try.params6] at hA hval
 obtain ⟨v0, vs0, d0, ds0, p0, q0, hargs, rfl, rfl, h0, r0⟩ := trodAll_cons hA
 obtain ⟨rfl, rfl, rfl⟩ := trodAll_nil r0
 obtain rfl : args = #[v0] := by cases args; simp_all
 obtain ⟨rfl, rfl⟩ := trodVars_none hV
 obtain ⟨a0, o0, dp0, vr0⟩ := opv_42 (hval 0 42 v0 rfl rfl) h0
 have lt0 : ∀ x ∈ p0, x.block < W.heap.size := by obtain ⟨m, hm⟩ := h0; exact DataW.trod_lt m _ _ _ hm
 obtain ⟨q, hq⟩ := zbx7 a0 o0
 refine (zji (deep a0 q hq) (xs := [v0]) (ps := p0 ++ ([])) rfl (fun I hI => Ds.cons (D.deep dp0 (fun ρ => vr0 I (fun b hb => hI b ⟨List.mem_append.2 (.inl hb.1), hb.2⟩) ρ)) (Ds.nil _))).mono fun e W' ⟨he, bel⟩ => ?_
 subst he
 exact ⟨_, rfl, _, _, _, [], _, [], hW', trodAll_mk1 (shut_bool Try.underlying4 _), (trodAll_cons_mk (Below.trod laidOut (by kernel_rfl) (of_decide_eq_true (by kernel_rfl)) h0 bel lt0) trodAll_mk0), rfl, bel.frame _, fun h => by cases h⟩
theorem over : Rows.deltaOnceRow.holds Try.pinned (OpenSpec.ofChange Rows.deltaOnceSpec) :=
 OpenClaim.holds_of_wide 6 Try.f6 rfl rfl rfl rfl rfl rfl rfl ⟨rfl, rfl, rfl, rfl, rfl⟩ rfl rfl rfl rfl rfl (by kernel_rfl) Try.func6 (by kernel_rfl)
  (of_decide_eq_true (by kernel_rfl)) (by unfold Func.isWrapper; first | (rw [if_pos (by decide +kernel)]; kernel_rfl) | (rw [if_neg (by decide +kernel)]; exact ⟨rfl, rfl⟩))
  (fun os started H enc _ => lifted os started H enc)
end Go.Proofs.Ytngajodhbioheaa.deltaOnce
namespace Go.Proofs.Ytngajodhbioheaa
/-- The row, under a short name, for the claim. -/
theorem deltaOnce_holds : Rows.DeltaOnceSaid := deltaOnce.over
end Go.Proofs.Ytngajodhbioheaa
