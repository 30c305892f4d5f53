/- The functions of the law, as they answer, over typed data. -/
import Derived.Test.YtnmceljcgioomaaQv2
set_option linter.all false
set_option maxRecDepth 100000
set_option maxHeartbeats 4000000
namespace Go.Dvm.I
open Go Go.Dvm
structure S_api_Op where
  Code : Int
  A : Int
  B : Int
def S_api_Op.enc (r : S_api_Op) : V := .agg [V.int .i64 r.Code, V.int .i64 r.A, V.int .i64 r.B]
structure S_api_Record where
  Index : Int
  Proc : Int
  Seq : Int
  Op : S_api_Op
  Resp : Int
def S_api_Record.enc (r : S_api_Record) : V := .agg [V.int .i64 r.Index, V.int .i64 r.Proc, V.int .i64 r.Seq, V.int .i64 r.Op.Code, V.int .i64 r.Op.A, V.int .i64 r.Op.B, V.int .i64 r.Resp]
def okSl {α : Type} (ok : α → Prop) (s : Sl α) : Prop := (s.z = true → s.l = []) ∧ s.l.length ≤ maxLen ∧ ∀ a ∈ s.l, ok a
def S_api_Op.ok (r : S_api_Op) : Prop := inR .i64 r.Code ∧ inR .i64 r.A ∧ inR .i64 r.B
def S_api_Record.ok (r : S_api_Record) : Prop := inR .i64 r.Index ∧ inR .i64 r.Proc ∧ inR .i64 r.Seq ∧ S_api_Op.ok r.Op ∧ inR .i64 r.Resp
def schema_fields : Nat → Int → Option ((Ow Int))
  | 0, _ => none
  | q + 1, a0 => (if a0 < 1 then (some ⟨true, true, []⟩) else (if 4 ≤ a0 then (some ⟨true, true, []⟩) else (if 0 ≤ a0 then (if a0.toNat < 4 then (if a0.toNat = 0 then (some ⟨false, true, []⟩) else (if a0.toNat = 1 then (some ⟨false, true, [1, 2, 4]⟩) else (if a0.toNat = 2 then (some ⟨false, true, [1, 2, 3, 4]⟩) else (if a0.toNat = 3 then (some ⟨false, true, [1, 2, 3, 4, 5]⟩) else none)))) else none) else none)))
def objs_cut : Nat → Int → Option (Int)
  | 0, _ => none
  | q + 1, a0 => (some (if (-1099511627776) < (if 1099511627776 < a0 then 1099511627776 else a0) then (if 1099511627776 < a0 then 1099511627776 else a0) else (-1099511627776)))
def objs_Fits : Nat → S_api_Op → Option (Bool)
  | 0, _ => none
  | q + 1, a0 => (if 0 ≤ a0.Code then (if a0.Code ≤ 10 then ((objs_cut q a0.A).bind fun r1 => (if a0.A = r1 then ((objs_cut q a0.B).bind fun r2 => (some (decide (a0.B = r2)))) else (some false))) else (some false)) else (some false))
def schema_Fits : Nat → S_api_Record → Option (Bool)
  | 0, _ => none
  | q + 1, a0 => (if 0 ≤ a0.Index then (if a0.Index < 4611686018427387904 then (if 0 ≤ a0.Proc then (if a0.Proc ≤ 64 then (if 0 ≤ a0.Seq then (if a0.Seq < 4611686018427387904 then ((objs_Fits q a0.Op).bind fun r1 => (if r1 = true then (if (-1125899906842624) ≤ a0.Resp then (some (decide (a0.Resp ≤ 1125899906842624))) else (some false)) else (some false))) else (some false)) else (some false)) else (some false)) else (some false)) else (some false)) else (some false))
def num_groups_l0 : Nat → Int → Bool → (List Int) → Bool → Option ((Ow Int))
  | 0, _, _, _, _ => none
  | q + 1, v1, h0z, h0l, h0x => (if 128 ≤ v1 then (if (h0l.length + 1) ≤ 4294967296 then (num_groups_l0 q (ishr .u64 v1 7) false (h0l ++ [(ibits .or .u8 (wrp .u8 v1) 128)]) h0x) else none) else (if (h0l.length + 1) ≤ 4294967296 then (some ⟨false, h0x, (h0l ++ [(wrp .u8 v1)])⟩) else none))
def num_groups : Nat → (Ow Int) → Int → Option ((Ow Int))
  | 0, _, _ => none
  | q + 1, a0, a1 => (num_groups_l0 q a1 a0.n a0.xs a0.x)
def num_Put : Nat → (Ow Int) → Int → Option ((Ow Int))
  | 0, _, _ => none
  | q + 1, a0, a1 => (if a1 < 0 then (some a0) else (if 4611686018427387904 ≤ a1 then (some a0) else ((num_groups q a0 (wrp .u64 a1)).bind fun r1 => (some r1))))
def num_Zig : Nat → Int → Option (Int)
  | 0, _ => none
  | q + 1, a0 => (some (ibits .xor .u64 (ishl .u64 (wrp .u64 a0) 1) (wrp .u64 (ishr .i64 a0 63))))
def num_PutSigned : Nat → (Ow Int) → Int → Option ((Ow Int))
  | 0, _, _ => none
  | q + 1, a0, a1 => ((num_Zig q a1).bind fun r1 => ((num_groups q a0 r1).bind fun r2 => (some r2)))
def codec_PutOp : Nat → (Ow Int) → S_api_Op → Option ((Ow Int) × Int)
  | 0, _, _ => none
  | q + 1, a0, a1 => ((objs_Fits q a1).bind fun r1 => (if r1 = true then ((num_Put q a0 a1.Code).bind fun r2 => ((num_PutSigned q r2 a1.A).bind fun r3 => ((num_PutSigned q r3 a1.B).bind fun r4 => (some (r4, 0))))) else (some (a0, 1))))
def schema_put : Nat → (Ow Int) → Int → S_api_Record → Option ((Ow Int))
  | 0, _, _, _ => none
  | q + 1, a0, a1, a2 => ((num_Put q a0 a1).bind fun r1 => (if a1 = 1 then ((num_Put q r1 a2.Index).bind fun r2 => (some r2)) else (if a1 = 2 then ((num_Put q r1 a2.Proc).bind fun r3 => (some r3)) else (if a1 = 3 then ((num_Put q r1 a2.Seq).bind fun r4 => (some r4)) else (if a1 = 4 then ((codec_PutOp q r1 a2.Op).bind fun r5 => (some r5.1)) else ((num_PutSigned q r1 a2.Resp).bind fun r6 => (some r6)))))))
def schema_Encode_l0 : Nat → Int → Int → Int → Int → Int → Int → Int → Int → Int → Bool → (List Int) → Bool → Bool → (List Int) → Bool → Option ((Ow Int) × Int)
  | 0, _, _, _, _, _, _, _, _, _, _, _, _, _, _, _ => none
  | q + 1, v22, v23, h0_0, h0_1, h0_2, h0_3, h0_4, h0_5, h0_6, h1z, h1l, h1x, h2z, h2l, h2x => (if v23 < v22 then (if 0 ≤ v23 then (if v23.toNat < h2l.length then ((h2l[v23.toNat]?).bind fun e4 => ((schema_put q ⟨h1z, h1x, h1l⟩ e4 (⟨h0_0, h0_1, h0_2, (⟨h0_3, h0_4, h0_5⟩ : S_api_Op), h0_6⟩ : S_api_Record)).bind fun r5 => (schema_Encode_l0 q v22 (wrp .i64 (v23 + 1)) h0_0 h0_1 h0_2 h0_3 h0_4 h0_5 h0_6 r5.n r5.xs r5.x h2z h2l h2x))) else none) else none) else (some (⟨h1z, h1x, h1l⟩, 0)))
def schema_Encode : Nat → Int → S_api_Record → Option ((Ow Int) × Int)
  | 0, _, _ => none
  | q + 1, a0, a1 => ((schema_fields q a0).bind fun r1 => (if r1.n = true then (some (⟨true, true, []⟩, 6)) else ((schema_Fits q a1).bind fun r2 => (if r2 = true then ((num_Put q ⟨true, true, []⟩ a0).bind fun r3 => (schema_Encode_l0 q (r1.xs.length : Int) 0 a1.Index a1.Proc a1.Seq a1.Op.Code a1.Op.A a1.Op.B a1.Resp r3.n r3.xs r3.x r1.n r1.xs r1.x)) else (some (⟨true, true, []⟩, 1))))))
def ferrymanlaw06_awake : Nat → Option (Bool)
  | 0 => none
  | q + 1 => ((schema_Encode q 1 (⟨5, 2, 0, (⟨0, 0, 0⟩ : S_api_Op), 0⟩ : S_api_Record)).bind fun r1 => (if r1.2 = 0 then (some (decide (r1.1.xs = [1, 1, 5, 2, 2, 4, 0, 0, 0]))) else (some false)))
def num_read_l0 : Nat → Bool → (List Int) → Int → Int → Int → Option (Int × Int)
  | 0, _, _, _, _, _ => none
  | q + 1, v0z, v0l, v4, v9, v10 => (if v10 < v9 then (if 0 ≤ v10 then ((v0l[v10.toNat]?).bind fun e1 => (if (wrp .i64 (7 * v10)) < 0 then none else (if v10 = 9 then (if 1 < e1 then (some (0, 0)) else (if e1 = 0 then (if 0 < v10 then (some (0, 0)) else (if e1 < 128 then (some ((ibits .or .u64 v4 (ishl .u64 (wrp .u64 (ibits .and .u8 e1 127)) (wrp .i64 (7 * v10)))), (wrp .i64 (v10 + 1)))) else (num_read_l0 q v0z v0l (ibits .or .u64 v4 (ishl .u64 (wrp .u64 (ibits .and .u8 e1 127)) (wrp .i64 (7 * v10)))) v9 (wrp .i64 (v10 + 1))))) else (if e1 < 128 then (some ((ibits .or .u64 v4 (ishl .u64 (wrp .u64 (ibits .and .u8 e1 127)) (wrp .i64 (7 * v10)))), (wrp .i64 (v10 + 1)))) else (num_read_l0 q v0z v0l (ibits .or .u64 v4 (ishl .u64 (wrp .u64 (ibits .and .u8 e1 127)) (wrp .i64 (7 * v10)))) v9 (wrp .i64 (v10 + 1)))))) else (if e1 = 0 then (if 0 < v10 then (some (0, 0)) else (if e1 < 128 then (some ((ibits .or .u64 v4 (ishl .u64 (wrp .u64 (ibits .and .u8 e1 127)) (wrp .i64 (7 * v10)))), (wrp .i64 (v10 + 1)))) else (num_read_l0 q v0z v0l (ibits .or .u64 v4 (ishl .u64 (wrp .u64 (ibits .and .u8 e1 127)) (wrp .i64 (7 * v10)))) v9 (wrp .i64 (v10 + 1))))) else (if e1 < 128 then (some ((ibits .or .u64 v4 (ishl .u64 (wrp .u64 (ibits .and .u8 e1 127)) (wrp .i64 (7 * v10)))), (wrp .i64 (v10 + 1)))) else (num_read_l0 q v0z v0l (ibits .or .u64 v4 (ishl .u64 (wrp .u64 (ibits .and .u8 e1 127)) (wrp .i64 (7 * v10)))) v9 (wrp .i64 (v10 + 1)))))))) else none) else (some (0, 0)))
def num_read : Nat → (Sl Int) → Option (Int × Int)
  | 0, _ => none
  | q + 1, a0 => (num_read_l0 q a0.z a0.l 0 (if 10 < (a0.l.length : Int) then 10 else (a0.l.length : Int)) 0)
def num_Get : Nat → (Sl Int) → Option (Int × Int)
  | 0, _ => none
  | q + 1, a0 => ((num_read q a0).bind fun r1 => (if 4611686018427387904 ≤ r1.1 then (some (0, 0)) else (some ((wrp .i64 r1.1), r1.2))))
def slices_Clone_int_int : Nat → (Sl Int) → Option ((Ow Int))
  | 0, _ => none
  | q + 1, a0 => (if a0.z = true then (some ⟨true, true, []⟩) else (if a0.l.length ≤ 4294967296 then (some ⟨false, true, a0.l⟩) else none))
def slices_Index_int_int_l0 : Nat → Bool → (List Int) → Int → Int → Int → Option (Int)
  | 0, _, _, _, _, _ => none
  | q + 1, v0z, v0l, v1, v7, v8 => (if v8 < v7 then (if 0 ≤ v8 then ((v0l[v8.toNat]?).bind fun e1 => (if v1 = e1 then (some v8) else (slices_Index_int_int_l0 q v0z v0l v1 v7 (wrp .i64 (v8 + 1))))) else none) else (some (-1)))
def slices_Index_int_int : Nat → (Sl Int) → Int → Option (Int)
  | 0, _, _ => none
  | q + 1, a0, a1 => (slices_Index_int_int_l0 q a0.z a0.l a1 (a0.l.length : Int) 0)
def slices_Delete_int_int : Nat → (Ow Int) → Int → Int → Option ((Ow Int))
  | 0, _, _, _ => none
  | q + 1, a0, a1, a2 => (if 0 ≤ a1 then (if a1 ≤ a2 then (if a2 ≤ (a0.xs.length : Int) then (if a1 = a2 then (some a0) else (if a1.toNat ≤ a0.xs.length then (if a0.n = true then (if 0 ≤ a2 then (if a2.toNat ≤ a0.xs.length then (if (a0.xs.length + (a0.xs.length - a2.toNat)) ≤ 4294967296 then (if (((a0.xs.length + (a0.xs.length - a2.toNat)) : Nat) : Int) ≤ (a0.xs.length : Int) then (if a0.xs.length ≤ (a0.xs.length + (a0.xs.length - a2.toNat)) then (if (a0.xs.length - a2.toNat) = 0 then none else (if a0.x = true then (some ⟨(a0.n && (decide ((a0.xs.length - a2.toNat) = 0))), true, (((List.take (a0.xs.length + (a0.xs.length - a2.toNat)) (a0.xs ++ (List.drop a2.toNat a0.xs))) ++ (List.replicate (a0.xs.length - (a0.xs.length + (a0.xs.length - a2.toNat))) 0)) ++ (List.drop ((a0.xs.length + (a0.xs.length - a2.toNat)) + (a0.xs.length - (a0.xs.length + (a0.xs.length - a2.toNat)))) (a0.xs ++ (List.drop a2.toNat a0.xs))))⟩) else none)) else none) else none) else none) else none) else none) else (if 0 ≤ a2 then (if a2.toNat ≤ a0.xs.length then (if (a1.toNat + (a0.xs.length - a2.toNat)) ≤ a0.xs.length then (if a0.x = true then (if (((a1.toNat + (a0.xs.length - a2.toNat)) : Nat) : Int) ≤ (a0.xs.length : Int) then (if a0.xs.length ≤ (((min a1.toNat a0.xs.length) + (a0.xs.length - a2.toNat)) + (a0.xs.length - (a1.toNat + (a0.xs.length - a2.toNat)))) then (some ⟨a0.n, true, (List.take (a1.toNat + (a0.xs.length - a2.toNat)) (((List.take (a1.toNat + (a0.xs.length - a2.toNat)) (((List.take a1.toNat a0.xs) ++ (List.drop a2.toNat a0.xs)) ++ (List.drop (a1.toNat + (a0.xs.length - a2.toNat)) a0.xs))) ++ (List.replicate (a0.xs.length - (a1.toNat + (a0.xs.length - a2.toNat))) 0)) ++ (List.drop ((a1.toNat + (a0.xs.length - a2.toNat)) + (a0.xs.length - (a1.toNat + (a0.xs.length - a2.toNat)))) (((List.take a1.toNat a0.xs) ++ (List.drop a2.toNat a0.xs)) ++ (List.drop (a1.toNat + (a0.xs.length - a2.toNat)) a0.xs)))))⟩) else none) else none) else none) else none) else none) else none)) else none)) else none) else none) else none)
def num_Zag : Nat → Int → Option (Int)
  | 0, _ => none
  | q + 1, a0 => (some (ibits .xor .i64 (wrp .i64 (ishr .u64 a0 1)) (wrp .i64 (0 - (wrp .i64 (ibits .and .u64 a0 1))))))
def num_GetSigned : Nat → (Sl Int) → Option (Int × Int)
  | 0, _ => none
  | q + 1, a0 => ((num_read q a0).bind fun r1 => (if r1.2 = 0 then (some (0, 0)) else ((num_Zag q r1.1).bind fun r2 => (some (r2, r1.2)))))
def codec_GetOp : Nat → (Sl Int) → Option (S_api_Op × Int)
  | 0, _ => none
  | q + 1, a0 => ((num_Get q a0).bind fun r1 => (if 0 ≤ r1.2 then (if r1.2 ≤ (a0.l.length : Int) then ((num_GetSigned q ⟨a0.z, (List.drop r1.2.toNat a0.l)⟩).bind fun r2 => (if 0 < r1.2 then (if 0 ≤ r2.2 then (if r2.2 ≤ (((a0.l.length - r1.2.toNat) : Nat) : Int) then ((num_GetSigned q ⟨a0.z, (List.drop r2.2.toNat (List.drop r1.2.toNat a0.l))⟩).bind fun r3 => (if 0 < r2.2 then (if 0 ≤ r3.2 then (if r3.2 ≤ ((((a0.l.length - r1.2.toNat) - r2.2.toNat) : Nat) : Int) then (if 0 < r3.2 then ((objs_Fits q (⟨r1.1, r2.1, r3.1⟩ : S_api_Op)).bind fun r4 => (if r4 = true then (some ((⟨r1.1, r2.1, r3.1⟩ : S_api_Op), (wrp .i64 ((a0.l.length : Int) - (((((a0.l.length - r1.2.toNat) - r2.2.toNat) - r3.2.toNat) : Nat) : Int))))) else (some ((⟨0, 0, 0⟩ : S_api_Op), 0)))) else (some ((⟨0, 0, 0⟩ : S_api_Op), 0))) else none) else none) else (if 0 ≤ r3.2 then (if r3.2 ≤ ((((a0.l.length - r1.2.toNat) - r2.2.toNat) : Nat) : Int) then (some ((⟨0, 0, 0⟩ : S_api_Op), 0)) else none) else none))) else none) else none) else (if 0 ≤ r2.2 then (if r2.2 ≤ (((a0.l.length - r1.2.toNat) : Nat) : Int) then ((num_GetSigned q ⟨a0.z, (List.drop r2.2.toNat (List.drop r1.2.toNat a0.l))⟩).bind fun r5 => (if 0 ≤ r5.2 then (if r5.2 ≤ ((((a0.l.length - r1.2.toNat) - r2.2.toNat) : Nat) : Int) then (some ((⟨0, 0, 0⟩ : S_api_Op), 0)) else none) else none)) else none) else none))) else none) else none))
def schema_pass : Nat → (Sl Int) → Option (Int)
  | 0, _ => none
  | q + 1, a0 => ((num_Get q a0).bind fun r1 => (if r1.2 = 0 then (some 0) else (if (wrp .i64 ((a0.l.length : Int) - r1.2)) < r1.1 then (some 0) else (some (wrp .i64 (r1.2 + r1.1))))))
def schema_read_l0 : Nat → Int → Bool → (List Int) → Int → Int → Int → Int → Int → Int → Int → Int → Bool → (List Int) → Bool → Option (S_api_Record × Int)
  | 0, _, _, _, _, _, _, _, _, _, _, _, _, _, _ => none
  | q + 1, v0, v1z, v1l, v7, h0_0, h0_1, h0_2, h0_3, h0_4, h0_5, h0_6, h1z, h1l, h1x => (if 0 < (v1l.length : Int) then ((num_Get q ⟨v1z, v1l⟩).bind fun r3 => (if r3.2 = 0 then (some ((⟨h0_0, h0_1, h0_2, (⟨h0_3, h0_4, h0_5⟩ : S_api_Op), h0_6⟩ : S_api_Record), 3)) else (if r3.1 ≤ v7 then (some ((⟨h0_0, h0_1, h0_2, (⟨h0_3, h0_4, h0_5⟩ : S_api_Op), h0_6⟩ : S_api_Record), 3)) else (if 0 ≤ r3.2 then (if r3.2 ≤ (v1l.length : Int) then ((slices_Index_int_int q ⟨h1z, h1l⟩ r3.1).bind fun r4 => (if 0 ≤ r4 then ((slices_Delete_int_int q ⟨h1z, h1x, h1l⟩ r4 (wrp .i64 (r4 + 1))).bind fun r5 => (if r3.1 = 1 then ((num_Get q ⟨v1z, (List.drop r3.2.toNat v1l)⟩).bind fun r6 => (if r6.2 = 0 then (some ((⟨r6.1, h0_1, h0_2, (⟨h0_3, h0_4, h0_5⟩ : S_api_Op), h0_6⟩ : S_api_Record), 3)) else (if 0 ≤ r6.2 then (if r6.2 ≤ (((v1l.length - r3.2.toNat) : Nat) : Int) then (schema_read_l0 q v0 v1z (List.drop r6.2.toNat (List.drop r3.2.toNat v1l)) r3.1 r6.1 h0_1 h0_2 h0_3 h0_4 h0_5 h0_6 r5.n r5.xs r5.x) else none) else none))) else (if r3.1 = 2 then ((num_Get q ⟨v1z, (List.drop r3.2.toNat v1l)⟩).bind fun r7 => (if r7.2 = 0 then (some ((⟨h0_0, r7.1, h0_2, (⟨h0_3, h0_4, h0_5⟩ : S_api_Op), h0_6⟩ : S_api_Record), 3)) else (if 0 ≤ r7.2 then (if r7.2 ≤ (((v1l.length - r3.2.toNat) : Nat) : Int) then (schema_read_l0 q v0 v1z (List.drop r7.2.toNat (List.drop r3.2.toNat v1l)) r3.1 h0_0 r7.1 h0_2 h0_3 h0_4 h0_5 h0_6 r5.n r5.xs r5.x) else none) else none))) else (if r3.1 = 3 then ((num_Get q ⟨v1z, (List.drop r3.2.toNat v1l)⟩).bind fun r8 => (if r8.2 = 0 then (some ((⟨h0_0, h0_1, r8.1, (⟨h0_3, h0_4, h0_5⟩ : S_api_Op), h0_6⟩ : S_api_Record), 3)) else (if 0 ≤ r8.2 then (if r8.2 ≤ (((v1l.length - r3.2.toNat) : Nat) : Int) then (schema_read_l0 q v0 v1z (List.drop r8.2.toNat (List.drop r3.2.toNat v1l)) r3.1 h0_0 h0_1 r8.1 h0_3 h0_4 h0_5 h0_6 r5.n r5.xs r5.x) else none) else none))) else (if r3.1 = 4 then ((codec_GetOp q ⟨v1z, (List.drop r3.2.toNat v1l)⟩).bind fun r9 => (if r9.2 = 0 then (some ((⟨h0_0, h0_1, h0_2, r9.1, h0_6⟩ : S_api_Record), 3)) else (if 0 ≤ r9.2 then (if r9.2 ≤ (((v1l.length - r3.2.toNat) : Nat) : Int) then (schema_read_l0 q v0 v1z (List.drop r9.2.toNat (List.drop r3.2.toNat v1l)) r3.1 h0_0 h0_1 h0_2 r9.1.Code r9.1.A r9.1.B h0_6 r5.n r5.xs r5.x) else none) else none))) else (if r3.1 = 5 then ((num_GetSigned q ⟨v1z, (List.drop r3.2.toNat v1l)⟩).bind fun r10 => (if r10.2 = 0 then (some ((⟨h0_0, h0_1, h0_2, (⟨h0_3, h0_4, h0_5⟩ : S_api_Op), r10.1⟩ : S_api_Record), 3)) else (if 0 ≤ r10.2 then (if r10.2 ≤ (((v1l.length - r3.2.toNat) : Nat) : Int) then (schema_read_l0 q v0 v1z (List.drop r10.2.toNat (List.drop r3.2.toNat v1l)) r3.1 h0_0 h0_1 h0_2 h0_3 h0_4 h0_5 r10.1 r5.n r5.xs r5.x) else none) else none))) else (some ((⟨h0_0, h0_1, h0_2, (⟨h0_3, h0_4, h0_5⟩ : S_api_Op), h0_6⟩ : S_api_Record), 3)))))))) else (if r3.1 < 16 then (some ((⟨h0_0, h0_1, h0_2, (⟨h0_3, h0_4, h0_5⟩ : S_api_Op), h0_6⟩ : S_api_Record), 7)) else (if v0 = 3 then (some ((⟨h0_0, h0_1, h0_2, (⟨h0_3, h0_4, h0_5⟩ : S_api_Op), h0_6⟩ : S_api_Record), 7)) else ((schema_pass q ⟨v1z, (List.drop r3.2.toNat v1l)⟩).bind fun r11 => (if r11 = 0 then (some ((⟨h0_0, h0_1, h0_2, (⟨h0_3, h0_4, h0_5⟩ : S_api_Op), h0_6⟩ : S_api_Record), 3)) else (if 0 ≤ r11 then (if r11 ≤ (((v1l.length - r3.2.toNat) : Nat) : Int) then (schema_read_l0 q v0 v1z (List.drop r11.toNat (List.drop r3.2.toNat v1l)) r3.1 h0_0 h0_1 h0_2 h0_3 h0_4 h0_5 h0_6 h1z h1l h1x) else none) else none))))))) else none) else none)))) else (if 0 < (h1l.length : Int) then (some ((⟨h0_0, h0_1, h0_2, (⟨h0_3, h0_4, h0_5⟩ : S_api_Op), h0_6⟩ : S_api_Record), 7)) else ((schema_Fits q (⟨h0_0, h0_1, h0_2, (⟨h0_3, h0_4, h0_5⟩ : S_api_Op), h0_6⟩ : S_api_Record)).bind fun r12 => (if r12 = true then (some ((⟨h0_0, h0_1, h0_2, (⟨h0_3, h0_4, h0_5⟩ : S_api_Op), h0_6⟩ : S_api_Record), 0)) else (some ((⟨h0_0, h0_1, h0_2, (⟨h0_3, h0_4, h0_5⟩ : S_api_Op), h0_6⟩ : S_api_Record), 1))))))
def schema_read : Nat → Int → (Sl Int) → Option (S_api_Record × Int)
  | 0, _, _ => none
  | q + 1, a0, a1 => ((schema_fields q a0).bind fun r1 => ((slices_Clone_int_int q ⟨r1.n, r1.xs⟩).bind fun r2 => (schema_read_l0 q a0 a1.z a1.l (-1) 0 0 0 0 0 0 0 r2.n r2.xs r2.x)))
def schema_Decode : Nat → (Sl Int) → Option (S_api_Record × Int)
  | 0, _ => none
  | q + 1, a0 => (if (a0.l.length : Int) = 0 then (some ((⟨0, 0, 0, (⟨0, 0, 0⟩ : S_api_Op), 0⟩ : S_api_Record), 2)) else ((num_Get q a0).bind fun r1 => (if r1.2 = 0 then (some ((⟨0, 0, 0, (⟨0, 0, 0⟩ : S_api_Op), 0⟩ : S_api_Record), 3)) else ((schema_fields q r1.1).bind fun r2 => (if r2.n = true then (some ((⟨0, 0, 0, (⟨0, 0, 0⟩ : S_api_Op), 0⟩ : S_api_Record), 6)) else (if 0 ≤ r1.2 then (if r1.2 ≤ (a0.l.length : Int) then ((schema_read q r1.1 ⟨a0.z, (List.drop r1.2.toNat a0.l)⟩).bind fun r3 => (if r3.2 = 0 then (some (r3.1, 0)) else (some ((⟨0, 0, 0, (⟨0, 0, 0⟩ : S_api_Op), 0⟩ : S_api_Record), r3.2)))) else none) else none))))))
def ferrymanref01_read_l0 : Nat → Bool → (List Int) → Int → Int → Int → Option (Int × Int)
  | 0, _, _, _, _, _ => none
  | q + 1, v0z, v0l, v4, v5, v6 => (if v6 < (v0l.length : Int) then (if v6 < 10 then (if 0 ≤ v6 then ((v0l[v6.toNat]?).bind fun e1 => (if v6 = 9 then (if 1 < (wrp .u64 (Int.tmod e1 128)) then (some (0, 0)) else (if e1 < 128 then (if 0 < v6 then (if (wrp .u64 (Int.tmod e1 128)) = 0 then (some (0, 0)) else (some ((wrp .u64 (v4 + (wrp .u64 ((wrp .u64 (Int.tmod e1 128)) * v5)))), (wrp .i64 (v6 + 1))))) else (some ((wrp .u64 (v4 + (wrp .u64 ((wrp .u64 (Int.tmod e1 128)) * v5)))), (wrp .i64 (v6 + 1))))) else (ferrymanref01_read_l0 q v0z v0l (wrp .u64 (v4 + (wrp .u64 ((wrp .u64 (Int.tmod e1 128)) * v5)))) (wrp .u64 (v5 * 128)) (wrp .i64 (v6 + 1))))) else (if e1 < 128 then (if 0 < v6 then (if (wrp .u64 (Int.tmod e1 128)) = 0 then (some (0, 0)) else (some ((wrp .u64 (v4 + (wrp .u64 ((wrp .u64 (Int.tmod e1 128)) * v5)))), (wrp .i64 (v6 + 1))))) else (some ((wrp .u64 (v4 + (wrp .u64 ((wrp .u64 (Int.tmod e1 128)) * v5)))), (wrp .i64 (v6 + 1))))) else (ferrymanref01_read_l0 q v0z v0l (wrp .u64 (v4 + (wrp .u64 ((wrp .u64 (Int.tmod e1 128)) * v5)))) (wrp .u64 (v5 * 128)) (wrp .i64 (v6 + 1)))))) else none) else (some (0, 0))) else (some (0, 0)))
def ferrymanref01_read : Nat → (Sl Int) → Option (Int × Int)
  | 0, _ => none
  | q + 1, a0 => (ferrymanref01_read_l0 q a0.z a0.l 0 1 0)
def ferrymanref01_Get : Nat → (Sl Int) → Option (Int × Int)
  | 0, _ => none
  | q + 1, a0 => ((ferrymanref01_read q a0).bind fun r1 => (if r1.2 = 0 then (some (0, 0)) else (if 4611686018427387904 ≤ r1.1 then (some (0, 0)) else (some ((wrp .i64 r1.1), r1.2)))))
def ferrymanref06_has : Nat → Int → Int → Option (Bool)
  | 0, _, _ => none
  | q + 1, a0, a1 => (if a1 = 1 then (some true) else (if a1 = 2 then (some true) else (if a1 = 4 then (some true) else (if a1 = 3 then (if 2 ≤ a0 then (some true) else (if a1 = 5 then (some (decide (a0 = 3))) else (some false))) else (if a1 = 5 then (some (decide (a0 = 3))) else (some false))))))
def ferrymanref01_Zag : Nat → Int → Option (Int)
  | 0, _ => none
  | q + 1, a0 => (if (Int.tmod a0 2) = 0 then (some (wrp .i64 (wrp .u64 (Int.tdiv a0 2)))) else (some (wrp .i64 ((wrp .i64 (0 - (wrp .i64 (wrp .u64 (Int.tdiv a0 2))))) - 1))))
def ferrymanref01_GetSigned : Nat → (Sl Int) → Option (Int × Int)
  | 0, _ => none
  | q + 1, a0 => ((ferrymanref01_read q a0).bind fun r1 => (if r1.2 = 0 then (some (0, 0)) else ((ferrymanref01_Zag q r1.1).bind fun r2 => (some (r2, r1.2)))))
def ferrymanref04_cut : Nat → Int → Option (Int)
  | 0, _ => none
  | q + 1, a0 => (if a0 < (-1099511627776) then (some (-1099511627776)) else (if 1099511627776 < a0 then (some 1099511627776) else (some a0)))
def ferrymanref04_Fits : Nat → S_api_Op → Option (Bool)
  | 0, _ => none
  | q + 1, a0 => (if 0 ≤ a0.Code then (if a0.Code ≤ 10 then ((ferrymanref04_cut q a0.A).bind fun r1 => (if a0.A = r1 then ((ferrymanref04_cut q a0.B).bind fun r2 => (some (decide (a0.B = r2)))) else (some false))) else (some false)) else (some false))
def ferrymanref05_GetOp : Nat → (Sl Int) → Option (S_api_Op × Int)
  | 0, _ => none
  | q + 1, a0 => ((ferrymanref01_Get q a0).bind fun r1 => (if 0 ≤ r1.2 then (if r1.2 ≤ (a0.l.length : Int) then ((ferrymanref01_GetSigned q ⟨a0.z, (List.drop r1.2.toNat a0.l)⟩).bind fun r2 => (if 0 ≤ (wrp .i64 (r1.2 + r2.2)) then (if (wrp .i64 (r1.2 + r2.2)) ≤ (a0.l.length : Int) then ((ferrymanref01_GetSigned q ⟨a0.z, (List.drop ((wrp .i64 (r1.2 + r2.2)).toNat) a0.l)⟩).bind fun r3 => ((ferrymanref04_Fits q (⟨r1.1, r2.1, r3.1⟩ : S_api_Op)).bind fun r4 => (if r1.2 = 0 then (some ((⟨0, 0, 0⟩ : S_api_Op), 0)) else (if r2.2 = 0 then (some ((⟨0, 0, 0⟩ : S_api_Op), 0)) else (if r3.2 = 0 then (some ((⟨0, 0, 0⟩ : S_api_Op), 0)) else (if r4 = true then (some ((⟨r1.1, r2.1, r3.1⟩ : S_api_Op), (wrp .i64 ((wrp .i64 (r1.2 + r2.2)) + r3.2)))) else (some ((⟨0, 0, 0⟩ : S_api_Op), 0)))))))) else none) else none)) else none) else none))
def ferrymanref06_value : Nat → S_api_Record → Int → (Sl Int) → Option (S_api_Record × Int)
  | 0, _, _, _ => none
  | q + 1, a0, a1, a2 => ((ferrymanref01_Get q a2).bind fun r1 => (if a1 = 1 then (some ((⟨r1.1, a0.Proc, a0.Seq, a0.Op, a0.Resp⟩ : S_api_Record), r1.2)) else (if a1 = 2 then (some ((⟨a0.Index, r1.1, a0.Seq, a0.Op, a0.Resp⟩ : S_api_Record), r1.2)) else (if a1 = 3 then (some ((⟨a0.Index, a0.Proc, r1.1, a0.Op, a0.Resp⟩ : S_api_Record), r1.2)) else (if a1 = 4 then ((ferrymanref05_GetOp q a2).bind fun r2 => (some ((⟨a0.Index, a0.Proc, a0.Seq, r2.1, a0.Resp⟩ : S_api_Record), r2.2))) else (if a1 = 5 then ((ferrymanref01_GetSigned q a2).bind fun r3 => (some ((⟨a0.Index, a0.Proc, a0.Seq, a0.Op, r3.1⟩ : S_api_Record), r3.2))) else (some (a0, r1.2))))))))
def ferrymanref06_Fits : Nat → S_api_Record → Option (Bool)
  | 0, _ => none
  | q + 1, a0 => ((ferrymanref04_Fits q a0.Op).bind fun r1 => (if r1 = true then (if 0 ≤ a0.Index then (if a0.Index < 4611686018427387904 then (if 0 ≤ a0.Seq then (if a0.Seq < 4611686018427387904 then (if 0 ≤ a0.Proc then (if a0.Proc ≤ 64 then (if (-1125899906842624) ≤ a0.Resp then (some (decide (a0.Resp ≤ 1125899906842624))) else (some false)) else (some false)) else (some false)) else (some false)) else (some false)) else (some false)) else (some false)) else (some false)))
def ferrymanref06_Decode_l0 : Nat → Bool → (List Int) → Int → Int → Int → Int → Int → Int → Int → Int → Int → Int → Int → Option (S_api_Record × Int)
  | 0, _, _, _, _, _, _, _, _, _, _, _, _, _ => none
  | q + 1, v0z, v0l, v5, v6, v8, v9, h2_0, h2_1, h2_2, h2_3, h2_4, h2_5, h2_6 => (if v6 < (v0l.length : Int) then (if 0 ≤ v6 then (if v6 ≤ (v0l.length : Int) then ((ferrymanref01_Get q ⟨v0z, (List.drop v6.toNat v0l)⟩).bind fun r2 => (if r2.2 = 0 then (some ((⟨0, 0, 0, (⟨0, 0, 0⟩ : S_api_Op), 0⟩ : S_api_Record), 3)) else (if r2.1 ≤ v8 then (some ((⟨0, 0, 0, (⟨0, 0, 0⟩ : S_api_Op), 0⟩ : S_api_Record), 3)) else ((ferrymanref06_has q v5 r2.1).bind fun r3 => (if r3 = true then (if 0 ≤ (wrp .i64 (v6 + r2.2)) then (if (wrp .i64 (v6 + r2.2)) ≤ (v0l.length : Int) then ((ferrymanref06_value q (⟨h2_0, h2_1, h2_2, (⟨h2_3, h2_4, h2_5⟩ : S_api_Op), h2_6⟩ : S_api_Record) r2.1 ⟨v0z, (List.drop ((wrp .i64 (v6 + r2.2)).toNat) v0l)⟩).bind fun r4 => (if r4.2 = 0 then (some ((⟨0, 0, 0, (⟨0, 0, 0⟩ : S_api_Op), 0⟩ : S_api_Record), 3)) else (ferrymanref06_Decode_l0 q v0z v0l v5 (wrp .i64 ((wrp .i64 (v6 + r2.2)) + r4.2)) r2.1 (wrp .i64 (v9 + 1)) r4.1.Index r4.1.Proc r4.1.Seq r4.1.Op.Code r4.1.Op.A r4.1.Op.B r4.1.Resp))) else none) else none) else (if r2.1 < 16 then (some ((⟨0, 0, 0, (⟨0, 0, 0⟩ : S_api_Op), 0⟩ : S_api_Record), 7)) else (if v5 = 3 then (some ((⟨0, 0, 0, (⟨0, 0, 0⟩ : S_api_Op), 0⟩ : S_api_Record), 7)) else (if 0 ≤ (wrp .i64 (v6 + r2.2)) then (if (wrp .i64 (v6 + r2.2)) ≤ (v0l.length : Int) then ((ferrymanref01_Get q ⟨v0z, (List.drop ((wrp .i64 (v6 + r2.2)).toNat) v0l)⟩).bind fun r5 => (if r5.2 = 0 then (some ((⟨0, 0, 0, (⟨0, 0, 0⟩ : S_api_Op), 0⟩ : S_api_Record), 3)) else (if (wrp .i64 ((wrp .i64 ((v0l.length : Int) - (wrp .i64 (v6 + r2.2)))) - r5.2)) < r5.1 then (some ((⟨0, 0, 0, (⟨0, 0, 0⟩ : S_api_Op), 0⟩ : S_api_Record), 3)) else (ferrymanref06_Decode_l0 q v0z v0l v5 (wrp .i64 ((wrp .i64 ((wrp .i64 (v6 + r2.2)) + r5.2)) + r5.1)) r2.1 v9 h2_0 h2_1 h2_2 h2_3 h2_4 h2_5 h2_6)))) else none) else none)))))))) else none) else none) else (if v9 = (wrp .i64 (v5 + 2)) then ((ferrymanref06_Fits q (⟨h2_0, h2_1, h2_2, (⟨h2_3, h2_4, h2_5⟩ : S_api_Op), h2_6⟩ : S_api_Record)).bind fun r6 => (if r6 = true then (some ((⟨h2_0, h2_1, h2_2, (⟨h2_3, h2_4, h2_5⟩ : S_api_Op), h2_6⟩ : S_api_Record), 0)) else (some ((⟨0, 0, 0, (⟨0, 0, 0⟩ : S_api_Op), 0⟩ : S_api_Record), 1)))) else (some ((⟨0, 0, 0, (⟨0, 0, 0⟩ : S_api_Op), 0⟩ : S_api_Record), 7))))
def ferrymanref06_Decode : Nat → (Sl Int) → Option (S_api_Record × Int)
  | 0, _ => none
  | q + 1, a0 => (if (a0.l.length : Int) = 0 then (some ((⟨0, 0, 0, (⟨0, 0, 0⟩ : S_api_Op), 0⟩ : S_api_Record), 2)) else ((ferrymanref01_Get q a0).bind fun r1 => (if r1.2 = 0 then (some ((⟨0, 0, 0, (⟨0, 0, 0⟩ : S_api_Op), 0⟩ : S_api_Record), 3)) else (if r1.1 < 1 then (some ((⟨0, 0, 0, (⟨0, 0, 0⟩ : S_api_Op), 0⟩ : S_api_Record), 6)) else (if 3 < r1.1 then (some ((⟨0, 0, 0, (⟨0, 0, 0⟩ : S_api_Op), 0⟩ : S_api_Record), 6)) else (ferrymanref06_Decode_l0 q a0.z a0.l r1.1 r1.2 (-1) 0 0 0 0 0 0 0 0))))))
def ferrymanlaw06_SchemaDecodes : Nat → (Sl Int) → Option (Bool)
  | 0, _ => none
  | q + 1, a0 => ((ferrymanlaw06_awake q).bind fun r1 => (if 3000 < (a0.l.length : Int) then (some r1) else ((schema_Decode q a0).bind fun r2 => ((ferrymanref06_Decode q a0).bind fun r3 => (if r1 = true then (if r2.1.Index = r3.1.Index then (if r2.1.Proc = r3.1.Proc then (if r2.1.Seq = r3.1.Seq then (if r2.1.Op.Code = r3.1.Op.Code then (if r2.1.Op.A = r3.1.Op.A then (if r2.1.Op.B = r3.1.Op.B then (if r2.1.Resp = r3.1.Resp then (some (decide (r2.2 = r3.2))) else (some false)) else (some false)) else (some false)) else (some false)) else (some false)) else (some false)) else (some false)) else (some false))))))
def ferrymanref01_groups_l0 : Nat → Int → Bool → (List Int) → Option ((Ow Int))
  | 0, _, _, _ => none
  | q + 1, v0, h0z, h0l => (if 127 < v0 then (if (h0l.length + 1) ≤ 4294967296 then (ferrymanref01_groups_l0 q (wrp .u64 (Int.tdiv v0 128)) false (h0l ++ [(wrp .u8 (wrp .u64 ((Int.tmod v0 128) + 128)))])) else none) else (if (h0l.length + 1) ≤ 4294967296 then (some ⟨false, true, (h0l ++ [(wrp .u8 v0)])⟩) else none))
def ferrymanref01_groups : Nat → Int → Option ((Ow Int))
  | 0, _ => none
  | q + 1, a0 => (ferrymanref01_groups_l0 q a0 true [])
def ferrymanref01_Put : Nat → (Sl Int) → Int → Option ((Ow Int))
  | 0, _, _ => none
  | q + 1, a0, a1 => (if a0.l.length ≤ 4294967296 then (if a1 < 0 then (some ⟨(decide (a0.l.length = 0)), true, a0.l⟩) else (if 4611686018427387904 ≤ a1 then (some ⟨(decide (a0.l.length = 0)), true, a0.l⟩) else ((ferrymanref01_groups q (wrp .u64 a1)).bind fun r1 => (if (a0.l.length + r1.xs.length) ≤ 4294967296 then (some ⟨((decide (a0.l.length = 0)) && (decide (r1.xs.length = 0))), true, (a0.l ++ r1.xs)⟩) else none)))) else none)
def ferrymanref01_Zig : Nat → Int → Option (Int)
  | 0, _ => none
  | q + 1, a0 => (if 0 ≤ a0 then (some (wrp .u64 ((wrp .u64 a0) * 2))) else (some (wrp .u64 ((wrp .u64 ((wrp .u64 (wrp .i64 (0 - (wrp .i64 (a0 + 1))))) * 2)) + 1))))
def ferrymanref01_PutSigned : Nat → (Sl Int) → Int → Option ((Ow Int))
  | 0, _, _ => none
  | q + 1, a0, a1 => (if a0.l.length ≤ 4294967296 then ((ferrymanref01_Zig q a1).bind fun r1 => ((ferrymanref01_groups q r1).bind fun r2 => (if (a0.l.length + r2.xs.length) ≤ 4294967296 then (some ⟨((decide (a0.l.length = 0)) && (decide (r2.xs.length = 0))), true, (a0.l ++ r2.xs)⟩) else none))) else none)
def ferrymanref05_PutOp : Nat → (Sl Int) → S_api_Op → Option ((Ow Int) × Int)
  | 0, _, _ => none
  | q + 1, a0, a1 => (if a0.l.length ≤ 4294967296 then ((ferrymanref04_Fits q a1).bind fun r1 => (if r1 = true then ((ferrymanref01_Put q ⟨(decide (a0.l.length = 0)), a0.l⟩ a1.Code).bind fun r2 => ((ferrymanref01_PutSigned q ⟨r2.n, r2.xs⟩ a1.A).bind fun r3 => ((ferrymanref01_PutSigned q ⟨r3.n, r3.xs⟩ a1.B).bind fun r4 => (some (r4, 0))))) else (some (⟨(decide (a0.l.length = 0)), true, a0.l⟩, 1)))) else none)
def ferrymanref06_Encode_l0 : Nat → Int → Int → Int → Int → Int → Int → Int → Int → Int → Bool → (List Int) → Bool → Option ((Ow Int) × Int)
  | 0, _, _, _, _, _, _, _, _, _, _, _, _ => none
  | q + 1, v0, v8, h0_0, h0_1, h0_2, h0_3, h0_4, h0_5, h0_6, h1z, h1l, h1x => (if v8 ≤ 5 then ((ferrymanref06_has q v0 v8).bind fun r3 => (if r3 = true then ((ferrymanref01_Put q ⟨h1z, h1l⟩ v8).bind fun r4 => (if v8 = 1 then ((ferrymanref01_Put q ⟨r4.n, r4.xs⟩ h0_0).bind fun r5 => (ferrymanref06_Encode_l0 q v0 (wrp .i64 (v8 + 1)) h0_0 h0_1 h0_2 h0_3 h0_4 h0_5 h0_6 r5.n r5.xs r5.x)) else (if v8 = 2 then ((ferrymanref01_Put q ⟨r4.n, r4.xs⟩ h0_1).bind fun r6 => (ferrymanref06_Encode_l0 q v0 (wrp .i64 (v8 + 1)) h0_0 h0_1 h0_2 h0_3 h0_4 h0_5 h0_6 r6.n r6.xs r6.x)) else (if v8 = 3 then ((ferrymanref01_Put q ⟨r4.n, r4.xs⟩ h0_2).bind fun r7 => (ferrymanref06_Encode_l0 q v0 (wrp .i64 (v8 + 1)) h0_0 h0_1 h0_2 h0_3 h0_4 h0_5 h0_6 r7.n r7.xs r7.x)) else (if v8 = 4 then ((ferrymanref05_PutOp q ⟨r4.n, r4.xs⟩ (⟨h0_3, h0_4, h0_5⟩ : S_api_Op)).bind fun r8 => (ferrymanref06_Encode_l0 q v0 (wrp .i64 (v8 + 1)) h0_0 h0_1 h0_2 h0_3 h0_4 h0_5 h0_6 r8.1.n r8.1.xs r8.1.x)) else (if v8 = 5 then ((ferrymanref01_PutSigned q ⟨r4.n, r4.xs⟩ h0_6).bind fun r9 => (ferrymanref06_Encode_l0 q v0 (wrp .i64 (v8 + 1)) h0_0 h0_1 h0_2 h0_3 h0_4 h0_5 h0_6 r9.n r9.xs r9.x)) else (ferrymanref06_Encode_l0 q v0 (wrp .i64 (v8 + 1)) h0_0 h0_1 h0_2 h0_3 h0_4 h0_5 h0_6 r4.n r4.xs r4.x))))))) else (ferrymanref06_Encode_l0 q v0 (wrp .i64 (v8 + 1)) h0_0 h0_1 h0_2 h0_3 h0_4 h0_5 h0_6 h1z h1l h1x))) else (some (⟨h1z, h1x, h1l⟩, 0)))
def ferrymanref06_Encode : Nat → Int → S_api_Record → Option ((Ow Int) × Int)
  | 0, _, _ => none
  | q + 1, a0, a1 => (if a0 < 1 then (some (⟨true, true, []⟩, 6)) else (if 3 < a0 then (some (⟨true, true, []⟩, 6)) else ((ferrymanref06_Fits q a1).bind fun r1 => (if r1 = true then ((ferrymanref01_Put q ⟨true, []⟩ a0).bind fun r2 => (ferrymanref06_Encode_l0 q a0 1 a1.Index a1.Proc a1.Seq a1.Op.Code a1.Op.A a1.Op.B a1.Resp r2.n r2.xs r2.x)) else (some (⟨true, true, []⟩, 1))))))
def slices_Contains_int_int : Nat → (Sl Int) → Int → Option (Bool)
  | 0, _, _ => none
  | q + 1, a0, a1 => ((slices_Index_int_int q a0 a1).bind fun r1 => (some (decide (0 ≤ r1))))
def schema_Upgrade : Nat → Int → S_api_Record → Option (S_api_Record × Int)
  | 0, _, _ => none
  | q + 1, a0, a1 => ((schema_fields q a0).bind fun r1 => (if r1.n = true then (some ((⟨0, 0, 0, (⟨0, 0, 0⟩ : S_api_Op), 0⟩ : S_api_Record), 6)) else ((slices_Contains_int_int q ⟨r1.n, r1.xs⟩ 3).bind fun r2 => (if r2 = true then ((slices_Contains_int_int q ⟨r1.n, r1.xs⟩ 5).bind fun r3 => (if r3 = true then (some (a1, 0)) else (some ((⟨a1.Index, a1.Proc, a1.Seq, a1.Op, 0⟩ : S_api_Record), 0)))) else ((slices_Contains_int_int q ⟨r1.n, r1.xs⟩ 5).bind fun r4 => (if r4 = true then (some ((⟨a1.Index, a1.Proc, 0, a1.Op, a1.Resp⟩ : S_api_Record), 0)) else (some ((⟨a1.Index, a1.Proc, 0, a1.Op, 0⟩ : S_api_Record), 0))))))))
def ferrymanref06_Upgrade : Nat → Int → S_api_Record → Option (S_api_Record × Int)
  | 0, _, _ => none
  | q + 1, a0, a1 => (if a0 < 1 then (some ((⟨0, 0, 0, (⟨0, 0, 0⟩ : S_api_Op), 0⟩ : S_api_Record), 6)) else (if 3 < a0 then (some ((⟨0, 0, 0, (⟨0, 0, 0⟩ : S_api_Op), 0⟩ : S_api_Record), 6)) else (if a0 < 2 then (if a0 < 3 then (some ((⟨a1.Index, a1.Proc, 0, a1.Op, 0⟩ : S_api_Record), 0)) else (some ((⟨a1.Index, a1.Proc, 0, a1.Op, a1.Resp⟩ : S_api_Record), 0))) else (if a0 < 3 then (some ((⟨a1.Index, a1.Proc, a1.Seq, a1.Op, 0⟩ : S_api_Record), 0)) else (some (a1, 0))))))
def ferrymanlaw06_SchemaEncodes : Nat → Int → S_api_Record → Option (Bool)
  | 0, _, _ => none
  | q + 1, a0, a1 => ((ferrymanlaw06_awake q).bind fun r1 => ((schema_Encode q a0 a1).bind fun r2 => ((ferrymanref06_Encode q a0 a1).bind fun r3 => ((schema_Upgrade q a0 a1).bind fun r4 => ((ferrymanref06_Upgrade q a0 a1).bind fun r5 => (if r1 = true then (if r2.1.xs = r3.1.xs then (if r2.2 = r3.2 then (if r4.1.Index = r5.1.Index then (if r4.1.Proc = r5.1.Proc then (if r4.1.Seq = r5.1.Seq then (if r4.1.Op.Code = r5.1.Op.Code then (if r4.1.Op.A = r5.1.Op.A then (if r4.1.Op.B = r5.1.Op.B then (if r4.1.Resp = r5.1.Resp then (if r4.2 = r5.2 then ((schema_Fits q a1).bind fun r6 => ((ferrymanref06_Fits q a1).bind fun r7 => (some (r6 == r7)))) else (some false)) else (some false)) else (some false)) else (some false)) else (some false)) else (some false)) else (some false)) else (some false)) else (some false)) else (some false)) else (some false)))))))
def ferrymanlaw06_SchemaApart : Nat → Int → S_api_Record → S_api_Record → Option (Bool)
  | 0, _, _, _ => none
  | q + 1, a0, a1, a2 => ((ferrymanlaw06_awake q).bind fun r1 => ((schema_Encode q a0 a1).bind fun r2 => ((schema_Encode q a0 a2).bind fun r3 => (if r1 = true then (if r2.2 = 0 then (if r3.2 = 0 then ((schema_Upgrade q a0 a1).bind fun r4 => ((schema_Upgrade q a0 a2).bind fun r5 => (if r4.2 = 0 then (if r5.2 = 0 then (if ((decide (r2.1.xs = r3.1.xs)) == ((decide (r4.1.Index = r5.1.Index)) && ((decide (r4.1.Proc = r5.1.Proc)) && ((decide (r4.1.Seq = r5.1.Seq)) && ((decide (r4.1.Op.Code = r5.1.Op.Code)) && ((decide (r4.1.Op.A = r5.1.Op.A)) && ((decide (r4.1.Op.B = r5.1.Op.B)) && (decide (r4.1.Resp = r5.1.Resp))))))))) = true then (if a0 = 3 then (if r4.1.Index = a1.Index then (if r4.1.Proc = a1.Proc then (if r4.1.Seq = a1.Seq then (if r4.1.Op.Code = a1.Op.Code then (if r4.1.Op.A = a1.Op.A then (if r4.1.Op.B = a1.Op.B then (if r4.1.Resp = a1.Resp then (some ((decide (r5.1.Index = a2.Index)) && ((decide (r5.1.Proc = a2.Proc)) && ((decide (r5.1.Seq = a2.Seq)) && ((decide (r5.1.Op.Code = a2.Op.Code)) && ((decide (r5.1.Op.A = a2.Op.A)) && ((decide (r5.1.Op.B = a2.Op.B)) && (decide (r5.1.Resp = a2.Resp))))))))) else (some false)) else (some false)) else (some false)) else (some false)) else (some false)) else (some false)) else (some false)) else (some true)) else (some false)) else (some false)) else (some false)))) else (some r1)) else (some r1)) else (some r1)))))
def ferrymanlaw06_SchemaAgain : Nat → Int → S_api_Record → Option (Bool)
  | 0, _, _ => none
  | q + 1, a0, a1 => ((ferrymanlaw06_awake q).bind fun r1 => ((schema_Upgrade q a0 a1).bind fun r2 => (if r1 = true then (if r2.2 = 0 then ((schema_Encode q a0 a1).bind fun r3 => ((schema_Encode q a0 r2.1).bind fun r4 => ((schema_Upgrade q a0 r2.1).bind fun r5 => ((schema_Upgrade q 3 r2.1).bind fun r6 => (if r5.2 = 0 then (if r6.2 = 0 then (if r5.1.Index = r2.1.Index then (if r5.1.Proc = r2.1.Proc then (if r5.1.Seq = r2.1.Seq then (if r5.1.Op.Code = r2.1.Op.Code then (if r5.1.Op.A = r2.1.Op.A then (if r5.1.Op.B = r2.1.Op.B then (if r5.1.Resp = r2.1.Resp then (if r6.1.Index = r2.1.Index then (if r6.1.Proc = r2.1.Proc then (if r6.1.Seq = r2.1.Seq then (if r6.1.Op.Code = r2.1.Op.Code then (if r6.1.Op.A = r2.1.Op.A then (if r6.1.Op.B = r2.1.Op.B then (if r6.1.Resp = r2.1.Resp then (if r3.2 = 0 then (if r4.2 = 0 then (some (decide (r3.1.xs = r4.1.xs))) else (some false)) else (some true)) else (some false)) else (some false)) else (some false)) else (some false)) else (some false)) else (some false)) else (some false)) else (some false)) else (some false)) else (some false)) else (some false)) else (some false)) else (some false)) else (some false)) else (some false)) else (some false)))))) else (some r1)) else (some r1))))
mutual
def crc_Table_l0 : Nat → Int → (List Int) → (List Int) → Option ((List Int))
  | 0, _, _, _ => none
  | q + 1, v5, h0_0, h1_0 => (if v5 < 256 then (crc_Table_l1 q v5 (wrp .u32 v5) v5 0 h0_0 h1_0) else (if 256 ≤ h1_0.length then (if (min 256 h1_0.length) = 256 then (if 256 ≤ h0_0.length then (if 256 ≤ (256 + (h0_0.length - 256)) then (some (List.take 256 ((List.take 256 h1_0) ++ (List.drop 256 h0_0)))) else none) else none) else none) else none))
def crc_Table_l1 : Nat → Int → Int → Int → Int → (List Int) → (List Int) → Option ((List Int))
  | 0, _, _, _, _, _, _ => none
  | q + 1, v2, v3, v5, v10, h0_0, h1_0 => (if v10 < 8 then (crc_Table_l1 q v2 (ibits .xor .u32 (ishr .u32 v3 1) (ibits .and .u32 2197175160 (wrp .u32 (0 - (ibits .and .u32 v3 1))))) v5 (wrp .i64 (v10 + 1)) h0_0 h1_0) else (if 0 ≤ v2 then (if v2.toNat < 256 then (if (v2.toNat + 1) ≤ h1_0.length then (crc_Table_l0 q (wrp .i64 (v5 + 1)) h0_0 (List.set h1_0 v2.toNat v3)) else none) else none) else none))
end
def crc_Table : Nat → Option ((List Int))
  | 0 => none
  | q + 1 => (crc_Table_l0 q 0 (List.replicate 256 0) (List.replicate 256 0))
def crc_More_l0 : Nat → Int → Bool → (List Int) → Int → Int → (List Int) → Option (Int)
  | 0, _, _, _, _, _, _ => none
  | q + 1, v6, v12z, v12l, v13, v14, h0_0 => (if v14 < v13 then (if 0 ≤ v14 then ((v12l[v14.toNat]?).bind fun e2 => (if 0 ≤ (ibits .xor .u8 (wrp .u8 v6) e2) then (if (ibits .xor .u8 (wrp .u8 v6) e2).toNat < 256 then ((h0_0[(ibits .xor .u8 (wrp .u8 v6) e2).toNat]?).bind fun e3 => (crc_More_l0 q (ibits .xor .u32 e3 (ishr .u32 v6 8)) v12z v12l v13 (wrp .i64 (v14 + 1)) h0_0)) else none) else none)) else none) else (some (ibits .xor .u32 4294967295 v6)))
def crc_More : Nat → Int → (Sl Int) → Option (Int)
  | 0, _, _ => none
  | q + 1, a0, a1 => ((crc_Table q).bind fun r1 => (if r1.length = 256 then (crc_More_l0 q (ibits .xor .u32 4294967295 a0) a1.z a1.l (a1.l.length : Int) 0 r1) else none))
def crc_Sum : Nat → (Sl Int) → Option (Int)
  | 0, _ => none
  | q + 1, a0 => ((crc_More q 0 a0).bind fun r1 => (some r1))
def num_fixed_l0 : Nat → Int → Int → Int → Bool → (List Int) → Option ((Ow Int))
  | 0, _, _, _, _, _ => none
  | q + 1, v0, v7, v8, h0z, h0l => (if v8 < v7 then (if (wrp .i64 (8 * v8)) < 0 then none else (if (h0l.length + 1) ≤ 4294967296 then (num_fixed_l0 q v0 v7 (wrp .i64 (v8 + 1)) false (h0l ++ [(wrp .u8 (ishr .u64 v0 (wrp .i64 (8 * v8))))])) else none)) else (some ⟨h0z, true, h0l⟩))
def num_fixed : Nat → Int → Int → Option ((Ow Int))
  | 0, _, _ => none
  | q + 1, a0, a1 => (num_fixed_l0 q a0 a1 0 true [])
def num_Fixed32 : Nat → Int → Option ((Ow Int))
  | 0, _ => none
  | q + 1, a0 => ((num_fixed q (wrp .u64 a0) 4).bind fun r1 => (some r1))
def frame_sum : Nat → (Sl Int) → (Sl Int) → Option ((Ow Int))
  | 0, _, _ => none
  | q + 1, a0, a1 => ((crc_Sum q a0).bind fun r1 => ((crc_More q r1 a1).bind fun r2 => ((num_Fixed32 q r2).bind fun r3 => (some r3))))
def slices_Concat_byte_byte_l1 : Nat → Nat → Bool → (List (Sl Int)) → Int → Int → Bool → (List Int) → Option ((Ow Int))
  | 0, _, _, _, _, _, _, _ => none
  | q + 1, v6len, v25z, v25l, v26, v27, h0z, h0l => (if v27 < v26 then (if 0 ≤ v27 then ((v25l[v27.toNat]?).bind fun e2 => (if (v6len + e2.l.length) ≤ h0l.length then (slices_Concat_byte_byte_l1 q (v6len + e2.l.length) v25z v25l v26 (wrp .i64 (v27 + 1)) h0z (((List.take v6len h0l) ++ e2.l) ++ (List.drop (v6len + e2.l.length) h0l))) else none)) else none) else (some ⟨h0z, true, (List.take v6len h0l)⟩))
def slices_Concat_byte_byte_l3 : Nat → Bool → (List (Sl Int)) → Int → Int → Bool → (List Int) → Option ((Ow Int))
  | 0, _, _, _, _, _, _ => none
  | q + 1, v25z, v25l, v26, v27, h0z, h0l => (if v27 < v26 then (if 0 ≤ v27 then ((v25l[v27.toNat]?).bind fun e4 => (if (h0l.length + e4.l.length) ≤ 4294967296 then (slices_Concat_byte_byte_l3 q v25z v25l v26 (wrp .i64 (v27 + 1)) (h0z && (decide (e4.l.length = 0))) (h0l ++ e4.l)) else none)) else none) else (some ⟨h0z, true, h0l⟩))
def slices_Concat_byte_byte_l2 : Nat → Bool → (List (Sl Int)) → Int → Option ((Ow Int))
  | 0, _, _, _ => none
  | q + 1, v25z, v25l, v26 => (if 0 < v26 then ((v25l[0]?).bind fun e3 => (if e3.l.length ≤ 4294967296 then (slices_Concat_byte_byte_l3 q v25z v25l v26 (wrp .i64 1) (decide (e3.l.length = 0)) e3.l) else none)) else (some ⟨true, true, []⟩))
def slices_Concat_byte_byte_l0 : Nat → Bool → (List (Sl Int)) → Int → Bool → (List (Sl Int)) → Int → Int → Option ((Ow Int))
  | 0, _, _, _, _, _, _, _ => none
  | q + 1, v0z, v0l, v3, v9z, v9l, v10, v11 => (if v11 < v10 then (if 0 ≤ v11 then ((v9l[v11.toNat]?).bind fun e1 => (if (wrp .i64 (v3 + (e1.l.length : Int))) < 0 then none else (slices_Concat_byte_byte_l0 q v0z v0l (wrp .i64 (v3 + (e1.l.length : Int))) v9z v9l v10 (wrp .i64 (v11 + 1))))) else none) else (if v3 < 0 then none else (if 0 < (wrp .i64 (v3 - (wrp .i64 0))) then (if 0 ≤ (wrp .i64 (v3 - (wrp .i64 0))) then (if (wrp .i64 (v3 - (wrp .i64 0))).toNat ≤ 4294967296 then (if (wrp .i64 (v3 - (wrp .i64 0))) = 0 then none else (slices_Concat_byte_byte_l1 q 0 v0z v0l (v0l.length : Int) 0 (decide ((wrp .i64 (v3 - (wrp .i64 0))) = 0)) (List.replicate ((wrp .i64 (v3 - (wrp .i64 0))).toNat) 0))) else none) else none) else (slices_Concat_byte_byte_l2 q v0z v0l (v0l.length : Int)))))
def slices_Concat_byte_byte : Nat → (Sl (Sl Int)) → Option ((Ow Int))
  | 0, _ => none
  | q + 1, a0 => (slices_Concat_byte_byte_l0 q a0.z a0.l 0 a0.z a0.l (a0.l.length : Int) 0)
def frame_Encode : Nat → (Sl Int) → Option ((Ow Int) × Int)
  | 0, _ => none
  | q + 1, a0 => (if 1048576 < (a0.l.length : Int) then (some (⟨true, true, []⟩, 5)) else ((num_Put q ⟨true, true, []⟩ (a0.l.length : Int)).bind fun r1 => ((frame_sum q ⟨r1.n, r1.xs⟩ a0).bind fun r2 => ((slices_Concat_byte_byte q ⟨false, [⟨r1.n, r1.xs⟩, a0, ⟨r2.n, r2.xs⟩]⟩).bind fun r3 => (some (r3, 0))))))
def frame_open_1 : Nat → Int → Option (Bool)
  | 0, _ => none
  | q + 1, a0 => (some (decide (a0 < 128)))
def frame_open_s0_l0 : Nat → Bool → (List Int) → Int → Int → Option (Int)
  | 0, _, _, _, _ => none
  | q + 1, v0z, v0l, v7, v8 => (if v8 < v7 then (if 0 ≤ v8 then ((v0l[v8.toNat]?).bind fun e1 => ((frame_open_1 q e1).bind fun r2 => (if r2 = true then (some v8) else (frame_open_s0_l0 q v0z v0l v7 (wrp .i64 (v8 + 1)))))) else none) else (some (-1)))
def frame_open_s0 : Nat → Bool → (List Int) → Option (Int)
  | 0, _, _ => none
  | q + 1, v0z, v0l => (frame_open_s0_l0 q v0z v0l (v0l.length : Int) 0)
def frame_open : Nat → (Sl Int) → Option (Bool)
  | 0, _ => none
  | q + 1, a0 => (if (a0.l.length : Int) < 10 then ((frame_open_s0 q a0.z a0.l).bind fun r1 => (some (!(decide (0 ≤ r1))))) else (some false))
def slices_Equal_byte_byte_l0 : Nat → Bool → (List Int) → Bool → (List Int) → Int → Int → Option (Bool)
  | 0, _, _, _, _, _, _ => none
  | q + 1, v0z, v0l, v1z, v1l, v12, v13 => (if v13 < v12 then (if 0 ≤ v13 then ((v0l[v13.toNat]?).bind fun e1 => ((v1l[v13.toNat]?).bind fun e2 => (if e1 = e2 then (slices_Equal_byte_byte_l0 q v0z v0l v1z v1l v12 (wrp .i64 (v13 + 1))) else (some false)))) else none) else (some true))
def slices_Equal_byte_byte : Nat → (Sl Int) → (Sl Int) → Option (Bool)
  | 0, _, _ => none
  | q + 1, a0, a1 => (if (a0.l.length : Int) = (a1.l.length : Int) then (slices_Equal_byte_byte_l0 q a0.z a0.l a1.z a1.l (a0.l.length : Int) 0) else (some false))
def slices_Clone_byte_byte : Nat → (Sl Int) → Option ((Ow Int))
  | 0, _ => none
  | q + 1, a0 => (if a0.z = true then (some ⟨true, true, []⟩) else (if a0.l.length ≤ 4294967296 then (some ⟨false, true, a0.l⟩) else none))
def frame_Decode : Nat → (Sl Int) → Option ((Ow Int) × Int × Int)
  | 0, _ => none
  | q + 1, a0 => ((frame_open q a0).bind fun r1 => (if r1 = true then (some (⟨true, true, []⟩, 0, 2)) else ((num_Get q a0).bind fun r2 => (if r2.2 = 0 then (some (⟨true, true, []⟩, 0, 3)) else (if 1048576 < r2.1 then (some (⟨true, true, []⟩, 0, 5)) else (if (a0.l.length : Int) < (wrp .i64 ((wrp .i64 (r2.2 + 4)) + r2.1)) then (some (⟨true, true, []⟩, 0, 2)) else (if 0 ≤ r2.2 then (if r2.2 ≤ r2.2 then (if r2.2.toNat ≤ a0.l.length then (if 0 ≤ (wrp .i64 (r2.2 + r2.1)) then (if (wrp .i64 (r2.2 + r2.1)) ≤ (wrp .i64 (r2.2 + r2.1)) then (if (wrp .i64 (r2.2 + r2.1)).toNat ≤ a0.l.length then (if r2.2 ≤ (wrp .i64 (r2.2 + r2.1)) then (if (wrp .i64 (r2.2 + r2.1)) ≤ (wrp .i64 ((wrp .i64 (r2.2 + r2.1)) + 4)) then (if (wrp .i64 ((wrp .i64 (r2.2 + r2.1)) + 4)).toNat ≤ a0.l.length then ((frame_sum q ⟨a0.z, (List.take r2.2.toNat a0.l)⟩ ⟨a0.z, (List.drop r2.2.toNat (List.take ((wrp .i64 (r2.2 + r2.1)).toNat) a0.l))⟩).bind fun r3 => ((slices_Equal_byte_byte q ⟨a0.z, (List.drop ((wrp .i64 (r2.2 + r2.1)).toNat) (List.take ((wrp .i64 ((wrp .i64 (r2.2 + r2.1)) + 4)).toNat) a0.l))⟩ ⟨r3.n, r3.xs⟩).bind fun r4 => (if r4 = true then ((slices_Clone_byte_byte q ⟨a0.z, (List.drop r2.2.toNat (List.take ((wrp .i64 (r2.2 + r2.1)).toNat) a0.l))⟩).bind fun r5 => (some (r5, (wrp .i64 ((wrp .i64 (r2.2 + r2.1)) + 4)), 0))) else (some (⟨true, true, []⟩, 0, 4))))) else none) else none) else none) else none) else none) else none) else none) else none) else none)))))))
def frame_Size : Nat → Int → Option (Int)
  | 0, _ => none
  | q + 1, a0 => (if a0 < 0 then (some 0) else (if 1048576 < a0 then (some 0) else ((num_Put q ⟨true, true, []⟩ a0).bind fun r1 => (some (wrp .i64 ((wrp .i64 ((r1.xs.length : Int) + 4)) + a0))))))
def ferrymanlaw03_awake : Nat → Option (Bool)
  | 0 => none
  | q + 1 => ((frame_Encode q ⟨true, []⟩).bind fun r1 => ((frame_Decode q ⟨false, [128]⟩).bind fun r2 => ((frame_Decode q ⟨false, (List.replicate 5 0)⟩).bind fun r3 => (if r1.2 = 0 then (if r1.1.xs = [0, 81, 83, 125, 82] then (if r2.2.2 = 2 then (if r3.2.2 = 4 then ((frame_Size q 0).bind fun r4 => (some (decide (r4 = 5)))) else (some false)) else (some false)) else (some false)) else (some false)))))
def ferrymanref02_Entry_l0 : Nat → Int → Int → Option (Int)
  | 0, _, _ => none
  | q + 1, v3, v4 => (if v4 < 8 then (if (Int.tmod v3 2) = 1 then (ferrymanref02_Entry_l0 q (ibits .xor .u32 (wrp .u32 (Int.tdiv v3 2)) 2197175160) (wrp .i64 (v4 + 1))) else (ferrymanref02_Entry_l0 q (wrp .u32 (Int.tdiv v3 2)) (wrp .i64 (v4 + 1)))) else (some v3))
def ferrymanref02_Entry : Nat → Int → Option (Int)
  | 0, _ => none
  | q + 1, a0 => (ferrymanref02_Entry_l0 q (wrp .u32 a0) 0)
def ferrymanref02_More_l0 : Nat → Bool → (List Int) → Int → Int → Option (Int)
  | 0, _, _, _, _ => none
  | q + 1, v1z, v1l, v5, v6 => (if v6 < (v1l.length : Int) then (if 0 ≤ v6 then ((v1l[v6.toNat]?).bind fun e1 => ((ferrymanref02_Entry q (ibits .xor .u8 (wrp .u8 v5) e1)).bind fun r2 => (ferrymanref02_More_l0 q v1z v1l (ibits .xor .u32 r2 (wrp .u32 (Int.tdiv v5 256))) (wrp .i64 (v6 + 1))))) else none) else (some (ibits .xor .u32 4294967295 v5)))
def ferrymanref02_More : Nat → Int → (Sl Int) → Option (Int)
  | 0, _, _ => none
  | q + 1, a0, a1 => (ferrymanref02_More_l0 q a1.z a1.l (ibits .xor .u32 4294967295 a0) 0)
def ferrymanref02_Sum : Nat → (Sl Int) → Option (Int)
  | 0, _ => none
  | q + 1, a0 => ((ferrymanref02_More q 0 a0).bind fun r1 => (some r1))
def ferrymanref01_Fix_l0 : Nat → Int → Int → Int → Bool → (List Int) → Option ((Ow Int))
  | 0, _, _, _, _, _ => none
  | q + 1, v0, v1, v6, h0z, h0l => (if v6 < v1 then (if (h0l.length + 1) ≤ 4294967296 then (ferrymanref01_Fix_l0 q (wrp .u64 (Int.tdiv v0 256)) v1 (wrp .i64 (v6 + 1)) false (h0l ++ [(wrp .u8 (Int.tmod v0 256))])) else none) else (some ⟨h0z, true, h0l⟩))
def ferrymanref01_Fix : Nat → Int → Int → Option ((Ow Int))
  | 0, _, _ => none
  | q + 1, a0, a1 => (ferrymanref01_Fix_l0 q a0 a1 0 true [])
def ferrymanref03_Encode : Nat → (Sl Int) → Option ((Ow Int) × Int)
  | 0, _ => none
  | q + 1, a0 => (if 1048576 < (a0.l.length : Int) then (some (⟨true, true, []⟩, 5)) else ((ferrymanref01_Put q ⟨true, []⟩ (a0.l.length : Int)).bind fun r1 => ((ferrymanref02_Sum q ⟨r1.n, r1.xs⟩).bind fun r2 => ((ferrymanref02_More q r2 a0).bind fun r3 => (if r1.xs.length ≤ 4294967296 then (if (r1.xs.length + a0.l.length) ≤ 4294967296 then ((ferrymanref01_Fix q (wrp .u64 r3) 4).bind fun r4 => (if ((r1.xs.length + a0.l.length) + r4.xs.length) ≤ 4294967296 then (some (⟨(((decide (r1.xs.length = 0)) && (decide (a0.l.length = 0))) && (decide (r4.xs.length = 0))), true, ((r1.xs ++ a0.l) ++ r4.xs)⟩, 0)) else none)) else none) else none)))))
def ferrymanref03_Size : Nat → Int → Option (Int)
  | 0, _ => none
  | q + 1, a0 => (if a0 < 0 then (some 0) else (if 1048576 < a0 then (some 0) else ((ferrymanref01_Put q ⟨true, []⟩ a0).bind fun r1 => (some (wrp .i64 ((wrp .i64 ((r1.xs.length : Int) + 4)) + a0))))))
def ferrymanlaw03_FrameEncodes : Nat → (Sl Int) → Int → Option (Bool)
  | 0, _, _ => none
  | q + 1, a0, a1 => ((ferrymanlaw03_awake q).bind fun r1 => (if 5000 < (a0.l.length : Int) then (some r1) else ((frame_Encode q a0).bind fun r2 => ((ferrymanref03_Encode q a0).bind fun r3 => (if r1 = true then (if r2.1.xs = r3.1.xs then (if r2.2 = r3.2 then ((frame_Size q a1).bind fun r4 => ((ferrymanref03_Size q a1).bind fun r5 => (if r4 = r5 then ((frame_Size q (a0.l.length : Int)).bind fun r6 => (some (decide (r6 = (r2.1.xs.length : Int))))) else (some false)))) else (some false)) else (some false)) else (some false))))))
def ferrymanlaw03_FrameBack_l0 : Nat → Bool → (List Int) → Bool → Int → Bool → (List Int) → Bool → (List Int) → Bool → Option (Bool)
  | 0, _, _, _, _, _, _, _, _, _ => none
  | q + 1, v0z, v0l, v5, v12, h0z, h0l, h1z, h1l, h1x => (if v12 < (h1l.length : Int) then (if 0 ≤ v12 then (if v12.toNat < h1l.length then ((h1l[v12.toNat]?).bind fun e4 => (if h1x = true then (ferrymanlaw03_FrameBack_l0 q v0z v0l v5 (wrp .i64 (v12 + 1)) h0z h0l h1z (List.set h1l v12.toNat 7) true) else none)) else none) else none) else ((frame_Decode q ⟨h0z, h0l⟩).bind fun r5 => (if v5 = true then (if r5.2.2 = 0 then (some (decide (r5.1.xs = v0l))) else (some false)) else (some false))))
def ferrymanlaw03_FrameBack : Nat → (Sl Int) → (Sl Int) → Option (Bool)
  | 0, _, _ => none
  | q + 1, a0, a1 => ((ferrymanlaw03_awake q).bind fun r1 => (if 5000 < (a0.l.length : Int) then (some r1) else (if 100 < (a1.l.length : Int) then (some r1) else ((frame_Encode q a0).bind fun r2 => (if r2.1.xs.length ≤ 4294967296 then (if (r2.1.xs.length + a1.l.length) ≤ 4294967296 then ((frame_Decode q ⟨((decide (r2.1.xs.length = 0)) && (decide (a1.l.length = 0))), (r2.1.xs ++ a1.l)⟩).bind fun r3 => (if r2.2 = 0 then (if r3.2.2 = 0 then (if r3.2.1 = (r2.1.xs.length : Int) then (if r3.1.xs = a0.l then (ferrymanlaw03_FrameBack_l0 q a0.z a0.l r1 0 ((decide (r2.1.xs.length = 0)) && (decide (a1.l.length = 0))) (r2.1.xs ++ a1.l) r3.1.n r3.1.xs r3.1.x) else (some false)) else (some false)) else (some false)) else (some false))) else none) else none)))))
def ferrymanlaw03_FrameOnce : Nat → (Sl Int) → Option (Bool)
  | 0, _ => none
  | q + 1, a0 => ((ferrymanlaw03_awake q).bind fun r1 => (if 5000 < (a0.l.length : Int) then (some r1) else ((frame_Decode q a0).bind fun r2 => (if r2.2.2 = 0 then ((frame_Encode q ⟨r2.1.n, r2.1.xs⟩).bind fun r3 => (if r1 = true then (if r3.2 = 0 then (if r2.2.1 ≤ (a0.l.length : Int) then (if 0 ≤ r2.2.1 then (if r2.2.1.toNat ≤ a0.l.length then (some (decide (r3.1.xs = (List.take r2.2.1.toNat a0.l)))) else none) else none) else (some false)) else (some false)) else (some false))) else (if r1 = true then (if r2.2.1 = 0 then (some (decide ((r2.1.xs.length : Int) = 0))) else (some false)) else (some false))))))
def ferrymanlaw03_FrameBursts_l0 : Nat → Int → Int → Bool → Int → Bool → Int → Bool → (List Int) → Bool → Option (Bool)
  | 0, _, _, _, _, _, _, _, _, _ => none
  | q + 1, v1, v2, v7, v9, v10, v11, h0z, h0l, h0x => (if v11 < 32 then (if (wrp .u64 v11) < 0 then none else (if (Int.tmod (ishr .u32 v2 (wrp .u64 v11)) 2) = 1 then (if (wrp .i64 (v1 + v11)) < (wrp .i64 (8 * (h0l.length : Int))) then (if 0 ≤ (wrp .i64 (Int.tdiv (wrp .i64 (v1 + v11)) 8)) then (if (wrp .i64 (Int.tdiv (wrp .i64 (v1 + v11)) 8)).toNat < h0l.length then ((h0l[(wrp .i64 (Int.tdiv (wrp .i64 (v1 + v11)) 8)).toNat]?).bind fun e3 => (if (wrp .u64 (Int.tmod (wrp .i64 (v1 + v11)) 8)) < 0 then none else (if h0x = true then (ferrymanlaw03_FrameBursts_l0 q v1 v2 v7 v9 true (wrp .i64 (v11 + 1)) h0z (List.set h0l ((wrp .i64 (Int.tdiv (wrp .i64 (v1 + v11)) 8)).toNat) (ibits .xor .u8 e3 (ishl .u8 1 (wrp .u64 (Int.tmod (wrp .i64 (v1 + v11)) 8))))) true) else none))) else none) else none) else (ferrymanlaw03_FrameBursts_l0 q v1 v2 v7 v9 v10 (wrp .i64 (v11 + 1)) h0z h0l h0x)) else (ferrymanlaw03_FrameBursts_l0 q v1 v2 v7 v9 v10 (wrp .i64 (v11 + 1)) h0z h0l h0x))) else ((frame_Decode q ⟨h0z, h0l⟩).bind fun r4 => (if v7 = true then (if v9 = 0 then (if v10 = true then (if r4.2.2 = 0 then (some (!(decide (r4.2.1 = (h0l.length : Int))))) else (some true)) else (some true)) else (some false)) else (some false))))
def ferrymanlaw03_FrameBursts : Nat → (Sl Int) → Int → Int → Option (Bool)
  | 0, _, _, _ => none
  | q + 1, a0, a1, a2 => ((ferrymanlaw03_awake q).bind fun r1 => (if 1000 < (a0.l.length : Int) then (some r1) else ((frame_Encode q a0).bind fun r2 => (if a1 < 0 then (some r1) else (if (wrp .i64 (8 * (r2.1.xs.length : Int))) ≤ a1 then (some r1) else (if a2 = 0 then (some r1) else (ferrymanlaw03_FrameBursts_l0 q a1 a2 r1 r2.2 false 0 r2.1.n r2.1.xs r2.1.x)))))))
def ferrymanlaw03_FrameSizes : Nat → Int → Int → Option (Bool)
  | 0, _, _ => none
  | q + 1, a0, a1 => ((ferrymanlaw03_awake q).bind fun r1 => (if a0 < 0 then (some r1) else (if 1048576 < a0 then (some r1) else (if a1 < 1 then (some r1) else (if 1048576 < a1 then (some r1) else ((frame_Size q a0).bind fun r2 => (if r1 = true then (if 5 ≤ (wrp .i64 (r2 - a0)) then (if (wrp .i64 (r2 - a0)) ≤ 7 then (if 1048576 < (wrp .i64 (a0 + a1)) then ((frame_Size q (wrp .i64 (a0 + a1))).bind fun r3 => (if r3 = 0 then (some true) else (some (decide (r2 < r3))))) else ((frame_Size q (wrp .i64 (a0 + a1))).bind fun r4 => (some (decide (r2 < r4))))) else (some false)) else (some false)) else (some false))))))))
def ferrymanref03_open_l0 : Nat → Bool → (List Int) → Int → Option (Bool)
  | 0, _, _, _ => none
  | q + 1, v0z, v0l, v3 => (if v3 < (v0l.length : Int) then (if 0 ≤ v3 then ((v0l[v3.toNat]?).bind fun e1 => (if e1 < 128 then (some false) else (ferrymanref03_open_l0 q v0z v0l (wrp .i64 (v3 + 1))))) else none) else (some (decide ((v0l.length : Int) < 10))))
def ferrymanref03_open : Nat → (Sl Int) → Option (Bool)
  | 0, _ => none
  | q + 1, a0 => (ferrymanref03_open_l0 q a0.z a0.l 0)
def ferrymanref01_Fixed_l0 : Nat → Bool → (List Int) → Int → Int → Option (Int)
  | 0, _, _, _, _ => none
  | q + 1, v0z, v0l, v3, v4 => (if 0 ≤ v4 then (if v4 < (v0l.length : Int) then ((v0l[v4.toNat]?).bind fun e1 => (ferrymanref01_Fixed_l0 q v0z v0l (wrp .u64 ((wrp .u64 (v3 * 256)) + (wrp .u64 e1))) (wrp .i64 (v4 - 1)))) else (ferrymanref01_Fixed_l0 q v0z v0l v3 (wrp .i64 (v4 - 1)))) else (some v3))
def ferrymanref01_Fixed : Nat → (Sl Int) → Option (Int)
  | 0, _ => none
  | q + 1, a0 => (ferrymanref01_Fixed_l0 q a0.z a0.l 0 7)
def ferrymanref03_Decode : Nat → (Sl Int) → Option ((Ow Int) × Int × Int)
  | 0, _ => none
  | q + 1, a0 => ((ferrymanref03_open q a0).bind fun r1 => (if r1 = true then (some (⟨true, true, []⟩, 0, 2)) else ((ferrymanref01_Get q a0).bind fun r2 => (if r2.2 = 0 then (some (⟨true, true, []⟩, 0, 3)) else (if 1048576 < r2.1 then (some (⟨true, true, []⟩, 0, 5)) else (if (a0.l.length : Int) < (wrp .i64 ((wrp .i64 (r2.2 + 4)) + r2.1)) then (some (⟨true, true, []⟩, 0, 2)) else (if 0 ≤ r2.2 then (if r2.2 ≤ (wrp .i64 (r2.2 + r2.1)) then (if (wrp .i64 (r2.2 + r2.1)).toNat ≤ a0.l.length then (if 0 ≤ (wrp .i64 (r2.2 + r2.1)) then ((ferrymanref02_Sum q ⟨a0.z, (List.take ((wrp .i64 (r2.2 + r2.1)).toNat) a0.l)⟩).bind fun r3 => (if (wrp .i64 (r2.2 + r2.1)) ≤ (wrp .i64 ((wrp .i64 (r2.2 + r2.1)) + 4)) then (if (wrp .i64 ((wrp .i64 (r2.2 + r2.1)) + 4)).toNat ≤ a0.l.length then ((ferrymanref01_Fixed q ⟨a0.z, (List.drop ((wrp .i64 (r2.2 + r2.1)).toNat) (List.take ((wrp .i64 ((wrp .i64 (r2.2 + r2.1)) + 4)).toNat) a0.l))⟩).bind fun r4 => (if r4 = (wrp .u64 r3) then (if ((min ((wrp .i64 (r2.2 + r2.1)).toNat) a0.l.length) - r2.2.toNat) ≤ 4294967296 then (some (⟨(decide (((min ((wrp .i64 (r2.2 + r2.1)).toNat) a0.l.length) - r2.2.toNat) = 0)), true, (List.drop r2.2.toNat (List.take ((wrp .i64 (r2.2 + r2.1)).toNat) a0.l))⟩, (wrp .i64 ((wrp .i64 (r2.2 + 4)) + r2.1)), 0)) else none) else (some (⟨true, true, []⟩, 0, 4)))) else none) else none)) else none) else none) else none) else none)))))))
def frame_walk_l0 : Nat → Bool → (List Int) → Int → Bool → (List (Sl Int)) → Option ((Ow (Sl Int)) × Int × Int)
  | 0, _, _, _, _, _ => none
  | q + 1, v0z, v0l, v3, h0z, h0l => (if v3 < (v0l.length : Int) then (if 0 ≤ v3 then (if v3 ≤ (v0l.length : Int) then ((frame_Decode q ⟨v0z, (List.drop v3.toNat v0l)⟩).bind fun r1 => (if r1.2.2 = 0 then (if (h0l.length + 1) ≤ 4294967296 then (frame_walk_l0 q v0z v0l (wrp .i64 (v3 + r1.2.1)) false (h0l ++ [⟨r1.1.n, r1.1.xs⟩])) else none) else (some (⟨h0z, true, h0l⟩, v3, r1.2.2)))) else none) else none) else (some (⟨h0z, true, h0l⟩, v3, 0)))
def frame_walk : Nat → (Sl Int) → Option ((Ow (Sl Int)) × Int × Int)
  | 0, _ => none
  | q + 1, a0 => (frame_walk_l0 q a0.z a0.l 0 true [])
def frame_All : Nat → (Sl Int) → Option ((Ow (Sl Int)) × Int)
  | 0, _ => none
  | q + 1, a0 => ((frame_walk q a0).bind fun r1 => (if r1.2.2 = 0 then (some (r1.1, 0)) else (some (⟨true, true, []⟩, r1.2.2))))
def ferrymanref03_Whole_l0 : Nat → Bool → (List Int) → Int → Bool → (List (Sl Int)) → Option ((Ow (Sl Int)) × Int × Int)
  | 0, _, _, _, _, _ => none
  | q + 1, v0z, v0l, v6, h0z, h0l => (if v6 < (v0l.length : Int) then (if 0 ≤ v6 then (if v6 ≤ (v0l.length : Int) then ((ferrymanref03_Decode q ⟨v0z, (List.drop v6.toNat v0l)⟩).bind fun r1 => (if r1.2.2 = 0 then (if (h0l.length + 1) ≤ 4294967296 then (ferrymanref03_Whole_l0 q v0z v0l (wrp .i64 (v6 + r1.2.1)) false (h0l ++ [⟨r1.1.n, r1.1.xs⟩])) else none) else (some (⟨h0z, true, h0l⟩, v6, r1.2.2)))) else none) else none) else (some (⟨h0z, true, h0l⟩, v6, 0)))
def ferrymanref03_Whole : Nat → (Sl Int) → Option ((Ow (Sl Int)) × Int × Int)
  | 0, _ => none
  | q + 1, a0 => (ferrymanref03_Whole_l0 q a0.z a0.l 0 true [])
def ferrymanref03_All : Nat → (Sl Int) → Option ((Ow (Sl Int)) × Int)
  | 0, _ => none
  | q + 1, a0 => ((ferrymanref03_Whole q a0).bind fun r1 => (if r1.2.2 = 0 then (some (r1.1, 0)) else (some (⟨true, true, []⟩, r1.2.2))))
def frame_Whole : Nat → (Sl Int) → Option ((Ow (Sl Int)) × Int)
  | 0, _ => none
  | q + 1, a0 => ((frame_walk q a0).bind fun r1 => (some (r1.1, r1.2.1)))
def ferrymanref03_Same_l0 : Nat → Bool → (List (Sl Int)) → Bool → (List (Sl Int)) → Int → Option (Bool)
  | 0, _, _, _, _, _ => none
  | q + 1, v0z, v0l, v1z, v1l, v5 => (if v5 < (v0l.length : Int) then (if 0 ≤ v5 then ((v0l[v5.toNat]?).bind fun e1 => ((v1l[v5.toNat]?).bind fun e2 => (if e1.l = e2.l then (ferrymanref03_Same_l0 q v0z v0l v1z v1l (wrp .i64 (v5 + 1))) else (some false)))) else none) else (some true))
def ferrymanref03_Same : Nat → (Sl (Sl Int)) → (Sl (Sl Int)) → Option (Bool)
  | 0, _, _ => none
  | q + 1, a0, a1 => (if (a0.l.length : Int) = (a1.l.length : Int) then (ferrymanref03_Same_l0 q a0.z a0.l a1.z a1.l 0) else (some false))
def ferrymanlaw03_FrameDecodes : Nat → (Sl Int) → Option (Bool)
  | 0, _ => none
  | q + 1, a0 => ((ferrymanlaw03_awake q).bind fun r1 => (if 5000 < (a0.l.length : Int) then (some r1) else ((frame_Decode q a0).bind fun r2 => ((ferrymanref03_Decode q a0).bind fun r3 => ((frame_All q a0).bind fun r4 => ((ferrymanref03_All q a0).bind fun r5 => ((frame_Whole q a0).bind fun r6 => ((ferrymanref03_Whole q a0).bind fun r7 => ((ferrymanref03_Same q ⟨r4.1.n, r4.1.xs⟩ ⟨r5.1.n, r5.1.xs⟩).bind fun r8 => ((ferrymanref03_Same q ⟨r6.1.n, r6.1.xs⟩ ⟨r7.1.n, r7.1.xs⟩).bind fun r9 => (if r1 = true then (if r2.1.xs = r3.1.xs then (if r2.2.1 = r3.2.1 then (if r2.2.2 = r3.2.2 then (if r8 = true then (if r4.2 = r5.2 then (if r9 = true then (some (decide (r6.2 = r7.2.1))) else (some false)) else (some false)) else (some false)) else (some false)) else (some false)) else (some false)) else (some false))))))))))))
def ferrymanlaw03_FrameCuts_l1 : Nat → Bool → (List (Sl Int)) → Int → Bool → Int → Int → Bool → (List Int) → Bool → (List Int) → Option (Bool)
  | 0, _, _, _, _, _, _, _, _, _, _ => none
  | q + 1, v0z, v0l, v1, v5, v11, v12, h0z, h0l, h1z, h1l => (if v11 < (v0l.length : Int) then (if 0 ≤ v11 then (if v11.toNat < h1l.length then ((h1l[v11.toNat]?).bind fun e4 => (if e4 ≤ v1 then (ferrymanlaw03_FrameCuts_l1 q v0z v0l v1 v5 (wrp .i64 (v11 + 1)) e4 h0z h0l h1z h1l) else (if 0 ≤ v1 then (if v1.toNat ≤ h0l.length then (if h0z = true then ((frame_Whole q ⟨h0z, h0l⟩).bind fun r5 => ((frame_All q ⟨h0z, h0l⟩).bind fun r6 => (if v11.toNat ≤ v0l.length then ((ferrymanref03_Same q ⟨r5.1.n, r5.1.xs⟩ ⟨v0z, (List.take v11.toNat v0l)⟩).bind fun r7 => (if v12 = v1 then ((ferrymanref03_Same q ⟨r6.1.n, r6.1.xs⟩ ⟨v0z, (List.take v11.toNat v0l)⟩).bind fun r8 => (if v5 = true then (if r7 = true then (if r5.2 = v12 then (if r6.2 = 0 then (some r8) else (some false)) else (some false)) else (some false)) else (some false))) else (if v5 = true then (if r7 = true then (if r5.2 = v12 then (if r6.2 = 2 then (some (decide ((r6.1.xs.length : Int) = 0))) else (some false)) else (some false)) else (some false)) else (some false)))) else none))) else ((frame_Whole q ⟨h0z, (List.take v1.toNat h0l)⟩).bind fun r9 => ((frame_All q ⟨h0z, (List.take v1.toNat h0l)⟩).bind fun r10 => (if v11.toNat ≤ v0l.length then ((ferrymanref03_Same q ⟨r9.1.n, r9.1.xs⟩ ⟨v0z, (List.take v11.toNat v0l)⟩).bind fun r11 => (if v12 = v1 then ((ferrymanref03_Same q ⟨r10.1.n, r10.1.xs⟩ ⟨v0z, (List.take v11.toNat v0l)⟩).bind fun r12 => (if v5 = true then (if r11 = true then (if r9.2 = v12 then (if r10.2 = 0 then (some r12) else (some false)) else (some false)) else (some false)) else (some false))) else (if v5 = true then (if r11 = true then (if r9.2 = v12 then (if r10.2 = 2 then (some (decide ((r10.1.xs.length : Int) = 0))) else (some false)) else (some false)) else (some false)) else (some false)))) else none)))) else none) else none))) else none) else none) else (if 0 ≤ v1 then (if v1.toNat ≤ h0l.length then (if h0z = true then ((frame_Whole q ⟨h0z, h0l⟩).bind fun r13 => ((frame_All q ⟨h0z, h0l⟩).bind fun r14 => (if 0 ≤ v11 then (if v11.toNat ≤ v0l.length then ((ferrymanref03_Same q ⟨r13.1.n, r13.1.xs⟩ ⟨v0z, (List.take v11.toNat v0l)⟩).bind fun r15 => (if v12 = v1 then ((ferrymanref03_Same q ⟨r14.1.n, r14.1.xs⟩ ⟨v0z, (List.take v11.toNat v0l)⟩).bind fun r16 => (if v5 = true then (if r15 = true then (if r13.2 = v12 then (if r14.2 = 0 then (some r16) else (some false)) else (some false)) else (some false)) else (some false))) else (if v5 = true then (if r15 = true then (if r13.2 = v12 then (if r14.2 = 2 then (some (decide ((r14.1.xs.length : Int) = 0))) else (some false)) else (some false)) else (some false)) else (some false)))) else none) else none))) else ((frame_Whole q ⟨h0z, (List.take v1.toNat h0l)⟩).bind fun r17 => ((frame_All q ⟨h0z, (List.take v1.toNat h0l)⟩).bind fun r18 => (if 0 ≤ v11 then (if v11.toNat ≤ v0l.length then ((ferrymanref03_Same q ⟨r17.1.n, r17.1.xs⟩ ⟨v0z, (List.take v11.toNat v0l)⟩).bind fun r19 => (if v12 = v1 then ((ferrymanref03_Same q ⟨r18.1.n, r18.1.xs⟩ ⟨v0z, (List.take v11.toNat v0l)⟩).bind fun r20 => (if v5 = true then (if r19 = true then (if r17.2 = v12 then (if r18.2 = 0 then (some r20) else (some false)) else (some false)) else (some false)) else (some false))) else (if v5 = true then (if r19 = true then (if r17.2 = v12 then (if r18.2 = 2 then (some (decide ((r18.1.xs.length : Int) = 0))) else (some false)) else (some false)) else (some false)) else (some false)))) else none) else none)))) else none) else none))
def ferrymanlaw03_FrameCuts_l0 : Nat → Bool → (List (Sl Int)) → Int → Bool → Int → Bool → (List Int) → Bool → (List Int) → Option (Bool)
  | 0, _, _, _, _, _, _, _, _, _ => none
  | q + 1, v0z, v0l, v1, v5, v8, h0z, h0l, h1z, h1l => (if v8 < (v0l.length : Int) then (if 0 ≤ v8 then ((v0l[v8.toNat]?).bind fun e2 => (if 300 < (e2.l.length : Int) then (some v5) else ((frame_Encode q e2).bind fun r3 => (if r3.2 = 0 then (if (h0l.length + r3.1.xs.length) ≤ 4294967296 then (if (h1l.length + 1) ≤ 4294967296 then (ferrymanlaw03_FrameCuts_l0 q v0z v0l v1 v5 (wrp .i64 (v8 + 1)) (h0z && (decide (r3.1.xs.length = 0))) (h0l ++ r3.1.xs) false (h1l ++ [(((h0l.length + r3.1.xs.length) : Nat) : Int)])) else none) else none) else (some false))))) else none) else (if (h0l.length : Int) < v1 then (some v5) else (ferrymanlaw03_FrameCuts_l1 q v0z v0l v1 v5 0 0 h0z h0l h1z h1l)))
def ferrymanlaw03_FrameCuts : Nat → (Sl (Sl Int)) → Int → Option (Bool)
  | 0, _, _ => none
  | q + 1, a0, a1 => ((ferrymanlaw03_awake q).bind fun r1 => (if 30 < (a0.l.length : Int) then (some r1) else (if a1 < 0 then (some r1) else (ferrymanlaw03_FrameCuts_l0 q a0.z a0.l a1 r1 0 true [] true []))))
def ferrymanlaw06_SchemaOnce : Nat → (Sl Int) → Option (Bool)
  | 0, _ => none
  | q + 1, a0 => ((ferrymanlaw06_awake q).bind fun r1 => (if 3000 < (a0.l.length : Int) then (some r1) else ((schema_Decode q a0).bind fun r2 => (if r2.2 = 0 then ((schema_Encode q 3 r2.1).bind fun r3 => (if r1 = true then (if r3.2 = 0 then ((schema_Fits q r2.1).bind fun r4 => (if r4 = true then ((a0.l[0]?).bind fun e5 => (if e5 = 3 then (some (decide (r3.1.xs = a0.l))) else (some true))) else (some false))) else (some false)) else (some false))) else (if r1 = true then (some ((decide (r2.1.Index = 0)) && ((decide (r2.1.Proc = 0)) && ((decide (r2.1.Seq = 0)) && ((decide (r2.1.Op.Code = 0)) && ((decide (r2.1.Op.A = 0)) && ((decide (r2.1.Op.B = 0)) && (decide (r2.1.Resp = 0))))))))) else (some false))))))
def ferrymanlaw06_SchemaCuts : Nat → Int → S_api_Record → Int → (Sl Int) → Option (Bool)
  | 0, _, _, _, _ => none
  | q + 1, a0, a1, a2, a3 => ((ferrymanlaw06_awake q).bind fun r1 => ((schema_Encode q a0 a1).bind fun r2 => (if r1 = true then (if r2.2 = 0 then (if 100 < (a3.l.length : Int) then (some r1) else (if 0 ≤ a2 then (if a2 < (r2.1.xs.length : Int) then (if a2.toNat ≤ r2.1.xs.length then (if r2.1.n = true then ((schema_Decode q ⟨r2.1.n, r2.1.xs⟩).bind fun r3 => (if r3.2 = 0 then (some false) else (if a0 = 3 then (if (a3.l.length : Int) = 0 then (some true) else (if r2.1.xs.length ≤ 4294967296 then (if (r2.1.xs.length + a3.l.length) ≤ 4294967296 then ((schema_Decode q ⟨((decide (r2.1.xs.length = 0)) && (decide (a3.l.length = 0))), (r2.1.xs ++ a3.l)⟩).bind fun r4 => (some (!(decide (r4.2 = 0))))) else none) else none)) else (some true)))) else ((schema_Decode q ⟨r2.1.n, (List.take a2.toNat r2.1.xs)⟩).bind fun r5 => (if r5.2 = 0 then (some false) else (if a0 = 3 then (if (a3.l.length : Int) = 0 then (some true) else (if r2.1.xs.length ≤ 4294967296 then (if (r2.1.xs.length + a3.l.length) ≤ 4294967296 then ((schema_Decode q ⟨((decide (r2.1.xs.length = 0)) && (decide (a3.l.length = 0))), (r2.1.xs ++ a3.l)⟩).bind fun r6 => (some (!(decide (r6.2 = 0))))) else none) else none)) else (some true))))) else none) else (if a0 = 3 then (if (a3.l.length : Int) = 0 then (some true) else (if r2.1.xs.length ≤ 4294967296 then (if (r2.1.xs.length + a3.l.length) ≤ 4294967296 then ((schema_Decode q ⟨((decide (r2.1.xs.length = 0)) && (decide (a3.l.length = 0))), (r2.1.xs ++ a3.l)⟩).bind fun r7 => (some (!(decide (r7.2 = 0))))) else none) else none)) else (some true))) else (if a0 = 3 then (if (a3.l.length : Int) = 0 then (some true) else (if r2.1.xs.length ≤ 4294967296 then (if (r2.1.xs.length + a3.l.length) ≤ 4294967296 then ((schema_Decode q ⟨((decide (r2.1.xs.length = 0)) && (decide (a3.l.length = 0))), (r2.1.xs ++ a3.l)⟩).bind fun r8 => (some (!(decide (r8.2 = 0))))) else none) else none)) else (some true)))) else (some r1)) else (some r1))))
def ferrymanlaw06_SchemaBack : Nat → Int → S_api_Record → Option (Bool)
  | 0, _, _ => none
  | q + 1, a0, a1 => ((ferrymanlaw06_awake q).bind fun r1 => ((schema_Encode q a0 a1).bind fun r2 => ((schema_Decode q ⟨r2.1.n, r2.1.xs⟩).bind fun r3 => ((schema_Upgrade q a0 a1).bind fun r4 => (if r2.2 = 0 then (if r1 = true then (if r3.2 = 0 then (if r4.2 = 0 then (if r3.1.Index = r4.1.Index then (if r3.1.Proc = r4.1.Proc then (if r3.1.Seq = r4.1.Seq then (if r3.1.Op.Code = r4.1.Op.Code then (if r3.1.Op.A = r4.1.Op.A then (if r3.1.Op.B = r4.1.Op.B then (if r3.1.Resp = r4.1.Resp then (if a0 = 3 then (some ((decide (r3.1.Index = a1.Index)) && ((decide (r3.1.Proc = a1.Proc)) && ((decide (r3.1.Seq = a1.Seq)) && ((decide (r3.1.Op.Code = a1.Op.Code)) && ((decide (r3.1.Op.A = a1.Op.A)) && ((decide (r3.1.Op.B = a1.Op.B)) && (decide (r3.1.Resp = a1.Resp))))))))) else (some true)) else (some false)) else (some false)) else (some false)) else (some false)) else (some false)) else (some false)) else (some false)) else (some false)) else (some false)) else (some false)) else (if r1 = true then (if (r2.1.xs.length : Int) = 0 then (some (decide (r3.2 = 2))) else (some false)) else (some false)))))))
def ferrymanlaw06_SchemaStrange : Nat → Int → S_api_Record → Int → (Sl Int) → Option (Bool)
  | 0, _, _, _, _ => none
  | q + 1, a0, a1, a2, a3 => ((ferrymanlaw06_awake q).bind fun r1 => ((schema_Encode q a0 a1).bind fun r2 => (if r1 = true then (if r2.2 = 0 then (if a2 < 16 then (some r1) else (if 127 < a2 then (some r1) else (if 100 < (a3.l.length : Int) then (some r1) else (if (r2.1.xs.length + 1) ≤ 4294967296 then (if ((r2.1.xs.length + 1) + 1) ≤ 4294967296 then (if (((r2.1.xs.length + 1) + 1) + a3.l.length) ≤ 4294967296 then ((schema_Decode q ⟨false, (((r2.1.xs ++ [(wrp .u8 a2)]) ++ [(wrp .u8 (a3.l.length : Int))]) ++ a3.l)⟩).bind fun r3 => ((schema_Upgrade q a0 a1).bind fun r4 => (if a0 = 3 then (some (decide (r3.2 = 7))) else (if r3.2 = 0 then (if r4.2 = 0 then (some ((decide (r3.1.Index = r4.1.Index)) && ((decide (r3.1.Proc = r4.1.Proc)) && ((decide (r3.1.Seq = r4.1.Seq)) && ((decide (r3.1.Op.Code = r4.1.Op.Code)) && ((decide (r3.1.Op.A = r4.1.Op.A)) && ((decide (r3.1.Op.B = r4.1.Op.B)) && (decide (r3.1.Resp = r4.1.Resp))))))))) else (some false)) else (some false))))) else none) else none) else none)))) else (some r1)) else (some r1))))
end Go.Dvm.I
