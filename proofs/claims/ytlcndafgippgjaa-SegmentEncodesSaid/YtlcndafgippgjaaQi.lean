/- The functions of the law, as they answer, over typed data. -/
import Derived.Test.YtlcndafgippgjaaQv2
set_option linter.all false
set_option maxRecDepth 100000
set_option maxHeartbeats 4000000
namespace Go.Dvm.I
open Go Go.Dvm
structure S_api_Op where
  Code : Int
  A : Int
  B : Int
def S_api_Op.enc (r : S_api_Op) : V := .agg [V.int .i64 r.Code, V.int .i64 r.A, V.int .i64 r.B]
structure S_api_Record where
  Index : Int
  Proc : Int
  Seq : Int
  Op : S_api_Op
  Resp : Int
def S_api_Record.enc (r : S_api_Record) : V := .agg [V.int .i64 r.Index, V.int .i64 r.Proc, V.int .i64 r.Seq, V.int .i64 r.Op.Code, V.int .i64 r.Op.A, V.int .i64 r.Op.B, V.int .i64 r.Resp]
structure S_api_Segment where
  Kind : Int
  First : Int
  Records : (Sl S_api_Record)
def S_api_Segment.enc (r : S_api_Segment) : V := .agg [V.int .i64 r.Kind, V.int .i64 r.First, (Sl.enc S_api_Record.enc) r.Records]
def okSl {α : Type} (ok : α → Prop) (s : Sl α) : Prop := (s.z = true → s.l = []) ∧ s.l.length ≤ maxLen ∧ ∀ a ∈ s.l, ok a
def S_api_Op.ok (r : S_api_Op) : Prop := inR .i64 r.Code ∧ inR .i64 r.A ∧ inR .i64 r.B
def S_api_Record.ok (r : S_api_Record) : Prop := inR .i64 r.Index ∧ inR .i64 r.Proc ∧ inR .i64 r.Seq ∧ S_api_Op.ok r.Op ∧ inR .i64 r.Resp
def S_api_Segment.ok (r : S_api_Segment) : Prop := inR .i64 r.Kind ∧ inR .i64 r.First ∧ okSl (fun x => S_api_Record.ok x) r.Records
def segment_known : Nat → Int → Option (Bool)
  | 0, _ => none
  | q + 1, a0 => (if 1 ≤ a0 then (some (decide (a0 ≤ 3))) else (some false))
def num_groups_l0 : Nat → Int → Bool → (List Int) → Bool → Option ((Ow Int))
  | 0, _, _, _, _ => none
  | q + 1, v1, h0z, h0l, h0x => (if 128 ≤ v1 then (if (h0l.length + 1) ≤ 4294967296 then (num_groups_l0 q (ishr .u64 v1 7) false (h0l ++ [(ibits .or .u8 (wrp .u8 v1) 128)]) h0x) else none) else (if (h0l.length + 1) ≤ 4294967296 then (some ⟨false, h0x, (h0l ++ [(wrp .u8 v1)])⟩) else none))
def num_groups : Nat → (Ow Int) → Int → Option ((Ow Int))
  | 0, _, _ => none
  | q + 1, a0, a1 => (num_groups_l0 q a1 a0.n a0.xs a0.x)
def num_Put : Nat → (Ow Int) → Int → Option ((Ow Int))
  | 0, _, _ => none
  | q + 1, a0, a1 => (if a1 < 0 then (some a0) else (if 4611686018427387904 ≤ a1 then (some a0) else ((num_groups q a0 (wrp .u64 a1)).bind fun r1 => (some r1))))
mutual
def crc_Table_l0 : Nat → Int → (List Int) → (List Int) → Option ((List Int))
  | 0, _, _, _ => none
  | q + 1, v5, h0_0, h1_0 => (if v5 < 256 then (crc_Table_l1 q v5 (wrp .u32 v5) v5 0 h0_0 h1_0) else (if 256 ≤ h1_0.length then (if (min 256 h1_0.length) = 256 then (if 256 ≤ h0_0.length then (if 256 ≤ (256 + (h0_0.length - 256)) then (some (List.take 256 ((List.take 256 h1_0) ++ (List.drop 256 h0_0)))) else none) else none) else none) else none))
def crc_Table_l1 : Nat → Int → Int → Int → Int → (List Int) → (List Int) → Option ((List Int))
  | 0, _, _, _, _, _, _ => none
  | q + 1, v2, v3, v5, v10, h0_0, h1_0 => (if v10 < 8 then (crc_Table_l1 q v2 (ibits .xor .u32 (ishr .u32 v3 1) (ibits .and .u32 2197175160 (wrp .u32 (0 - (ibits .and .u32 v3 1))))) v5 (wrp .i64 (v10 + 1)) h0_0 h1_0) else (if 0 ≤ v2 then (if v2.toNat < 256 then (if (v2.toNat + 1) ≤ h1_0.length then (crc_Table_l0 q (wrp .i64 (v5 + 1)) h0_0 (List.set h1_0 v2.toNat v3)) else none) else none) else none))
end
def crc_Table : Nat → Option ((List Int))
  | 0 => none
  | q + 1 => (crc_Table_l0 q 0 (List.replicate 256 0) (List.replicate 256 0))
def crc_More_l0 : Nat → Int → Bool → (List Int) → Int → Int → (List Int) → Option (Int)
  | 0, _, _, _, _, _, _ => none
  | q + 1, v6, v12z, v12l, v13, v14, h0_0 => (if v14 < v13 then (if 0 ≤ v14 then ((v12l[v14.toNat]?).bind fun e2 => (if 0 ≤ (ibits .xor .u8 (wrp .u8 v6) e2) then (if (ibits .xor .u8 (wrp .u8 v6) e2).toNat < 256 then ((h0_0[(ibits .xor .u8 (wrp .u8 v6) e2).toNat]?).bind fun e3 => (crc_More_l0 q (ibits .xor .u32 e3 (ishr .u32 v6 8)) v12z v12l v13 (wrp .i64 (v14 + 1)) h0_0)) else none) else none)) else none) else (some (ibits .xor .u32 4294967295 v6)))
def crc_More : Nat → Int → (Sl Int) → Option (Int)
  | 0, _, _ => none
  | q + 1, a0, a1 => ((crc_Table q).bind fun r1 => (if r1.length = 256 then (crc_More_l0 q (ibits .xor .u32 4294967295 a0) a1.z a1.l (a1.l.length : Int) 0 r1) else none))
def crc_Sum : Nat → (Sl Int) → Option (Int)
  | 0, _ => none
  | q + 1, a0 => ((crc_More q 0 a0).bind fun r1 => (some r1))
def num_fixed_l0 : Nat → Int → Int → Int → Bool → (List Int) → Option ((Ow Int))
  | 0, _, _, _, _, _ => none
  | q + 1, v0, v7, v8, h0z, h0l => (if v8 < v7 then (if (wrp .i64 (8 * v8)) < 0 then none else (if (h0l.length + 1) ≤ 4294967296 then (num_fixed_l0 q v0 v7 (wrp .i64 (v8 + 1)) false (h0l ++ [(wrp .u8 (ishr .u64 v0 (wrp .i64 (8 * v8))))])) else none)) else (some ⟨h0z, true, h0l⟩))
def num_fixed : Nat → Int → Int → Option ((Ow Int))
  | 0, _, _ => none
  | q + 1, a0, a1 => (num_fixed_l0 q a0 a1 0 true [])
def num_Fixed32 : Nat → Int → Option ((Ow Int))
  | 0, _ => none
  | q + 1, a0 => ((num_fixed q (wrp .u64 a0) 4).bind fun r1 => (some r1))
def frame_sum : Nat → (Sl Int) → (Sl Int) → Option ((Ow Int))
  | 0, _, _ => none
  | q + 1, a0, a1 => ((crc_Sum q a0).bind fun r1 => ((crc_More q r1 a1).bind fun r2 => ((num_Fixed32 q r2).bind fun r3 => (some r3))))
def slices_Concat_byte_byte_l1 : Nat → Nat → Bool → (List (Sl Int)) → Int → Int → Bool → (List Int) → Option ((Ow Int))
  | 0, _, _, _, _, _, _, _ => none
  | q + 1, v6len, v25z, v25l, v26, v27, h0z, h0l => (if v27 < v26 then (if 0 ≤ v27 then ((v25l[v27.toNat]?).bind fun e2 => (if (v6len + e2.l.length) ≤ h0l.length then (slices_Concat_byte_byte_l1 q (v6len + e2.l.length) v25z v25l v26 (wrp .i64 (v27 + 1)) h0z (((List.take v6len h0l) ++ e2.l) ++ (List.drop (v6len + e2.l.length) h0l))) else none)) else none) else (some ⟨h0z, true, (List.take v6len h0l)⟩))
def slices_Concat_byte_byte_l3 : Nat → Bool → (List (Sl Int)) → Int → Int → Bool → (List Int) → Option ((Ow Int))
  | 0, _, _, _, _, _, _ => none
  | q + 1, v25z, v25l, v26, v27, h0z, h0l => (if v27 < v26 then (if 0 ≤ v27 then ((v25l[v27.toNat]?).bind fun e4 => (if (h0l.length + e4.l.length) ≤ 4294967296 then (slices_Concat_byte_byte_l3 q v25z v25l v26 (wrp .i64 (v27 + 1)) (h0z && (decide (e4.l.length = 0))) (h0l ++ e4.l)) else none)) else none) else (some ⟨h0z, true, h0l⟩))
def slices_Concat_byte_byte_l2 : Nat → Bool → (List (Sl Int)) → Int → Option ((Ow Int))
  | 0, _, _, _ => none
  | q + 1, v25z, v25l, v26 => (if 0 < v26 then ((v25l[0]?).bind fun e3 => (if e3.l.length ≤ 4294967296 then (slices_Concat_byte_byte_l3 q v25z v25l v26 (wrp .i64 1) (decide (e3.l.length = 0)) e3.l) else none)) else (some ⟨true, true, []⟩))
def slices_Concat_byte_byte_l0 : Nat → Bool → (List (Sl Int)) → Int → Bool → (List (Sl Int)) → Int → Int → Option ((Ow Int))
  | 0, _, _, _, _, _, _, _ => none
  | q + 1, v0z, v0l, v3, v9z, v9l, v10, v11 => (if v11 < v10 then (if 0 ≤ v11 then ((v9l[v11.toNat]?).bind fun e1 => (if (wrp .i64 (v3 + (e1.l.length : Int))) < 0 then none else (slices_Concat_byte_byte_l0 q v0z v0l (wrp .i64 (v3 + (e1.l.length : Int))) v9z v9l v10 (wrp .i64 (v11 + 1))))) else none) else (if v3 < 0 then none else (if 0 < (wrp .i64 (v3 - (wrp .i64 0))) then (if 0 ≤ (wrp .i64 (v3 - (wrp .i64 0))) then (if (wrp .i64 (v3 - (wrp .i64 0))).toNat ≤ 4294967296 then (if (wrp .i64 (v3 - (wrp .i64 0))) = 0 then none else (slices_Concat_byte_byte_l1 q 0 v0z v0l (v0l.length : Int) 0 (decide ((wrp .i64 (v3 - (wrp .i64 0))) = 0)) (List.replicate ((wrp .i64 (v3 - (wrp .i64 0))).toNat) 0))) else none) else none) else (slices_Concat_byte_byte_l2 q v0z v0l (v0l.length : Int)))))
def slices_Concat_byte_byte : Nat → (Sl (Sl Int)) → Option ((Ow Int))
  | 0, _ => none
  | q + 1, a0 => (slices_Concat_byte_byte_l0 q a0.z a0.l 0 a0.z a0.l (a0.l.length : Int) 0)
def frame_Encode : Nat → (Sl Int) → Option ((Ow Int) × Int)
  | 0, _ => none
  | q + 1, a0 => (if 1048576 < (a0.l.length : Int) then (some (⟨true, true, []⟩, 5)) else ((num_Put q ⟨true, true, []⟩ (a0.l.length : Int)).bind fun r1 => ((frame_sum q ⟨r1.n, r1.xs⟩ a0).bind fun r2 => ((slices_Concat_byte_byte q ⟨false, [⟨r1.n, r1.xs⟩, a0, ⟨r2.n, r2.xs⟩]⟩).bind fun r3 => (some (r3, 0))))))
def segment_framed : Nat → (Sl Int) → Option ((Ow Int))
  | 0, _ => none
  | q + 1, a0 => ((frame_Encode q a0).bind fun r1 => (some r1.1))
def segment_Head : Nat → Int → Int → Int → Option ((Ow Int) × Int)
  | 0, _, _, _ => none
  | q + 1, a0, a1, a2 => ((segment_known q a0).bind fun r1 => (if r1 = true then (if a1 < 0 then (some (⟨true, true, []⟩, 1)) else (if 6 ≤ a1 then (some (⟨true, true, []⟩, 1)) else (if a2 < 0 then (some (⟨true, true, []⟩, 1)) else (if 4611686018427387904 ≤ a2 then (some (⟨true, true, []⟩, 1)) else ((num_Put q ⟨false, true, [108]⟩ a0).bind fun r2 => ((num_Put q r2 a1).bind fun r3 => ((num_Put q r3 a2).bind fun r4 => ((segment_framed q ⟨r4.n, r4.xs⟩).bind fun r5 => (some (r5, 0)))))))))) else (some (⟨true, true, []⟩, 6))))
def objs_cut : Nat → Int → Option (Int)
  | 0, _ => none
  | q + 1, a0 => (some (if (-1099511627776) < (if 1099511627776 < a0 then 1099511627776 else a0) then (if 1099511627776 < a0 then 1099511627776 else a0) else (-1099511627776)))
def objs_Fits : Nat → S_api_Op → Option (Bool)
  | 0, _ => none
  | q + 1, a0 => (if 0 ≤ a0.Code then (if a0.Code ≤ 10 then ((objs_cut q a0.A).bind fun r1 => (if a0.A = r1 then ((objs_cut q a0.B).bind fun r2 => (some (decide (a0.B = r2)))) else (some false))) else (some false)) else (some false))
def schema_Fits : Nat → S_api_Record → Option (Bool)
  | 0, _ => none
  | q + 1, a0 => (if 0 ≤ a0.Index then (if a0.Index < 4611686018427387904 then (if 0 ≤ a0.Proc then (if a0.Proc ≤ 64 then (if 0 ≤ a0.Seq then (if a0.Seq < 4611686018427387904 then ((objs_Fits q a0.Op).bind fun r1 => (if r1 = true then (if (-1125899906842624) ≤ a0.Resp then (some (decide (a0.Resp ≤ 1125899906842624))) else (some false)) else (some false))) else (some false)) else (some false)) else (some false)) else (some false)) else (some false)) else (some false))
def segment_fit_l0 : Nat → Bool → (List S_api_Record) → Int → Bool → (List S_api_Record) → Int → Int → Option (Bool)
  | 0, _, _, _, _, _, _, _ => none
  | q + 1, v0z, v0l, v1, v7z, v7l, v8, v9 => (if v9 < v8 then (if 0 ≤ v9 then ((v7l[v9.toNat]?).bind fun e1 => ((schema_Fits q e1).bind fun r2 => (if r2 = true then (if e1.Index = (wrp .i64 (v1 + v9)) then (segment_fit_l0 q v0z v0l v1 v7z v7l v8 (wrp .i64 (v9 + 1))) else (some false)) else (some false)))) else none) else (some (decide ((v0l.length : Int) ≤ 4096))))
def segment_fit : Nat → (Sl S_api_Record) → Int → Option (Bool)
  | 0, _, _ => none
  | q + 1, a0, a1 => (segment_fit_l0 q a0.z a0.l a1 a0.z a0.l (a0.l.length : Int) 0)
def block_Fits_l0 : Nat → Bool → (List S_api_Record) → Bool → (List S_api_Record) → Int → Int → Option (Bool)
  | 0, _, _, _, _, _, _ => none
  | q + 1, v0z, v0l, v5z, v5l, v6, v7 => (if v7 < v6 then (if 0 ≤ v7 then ((v5l[v7.toNat]?).bind fun e1 => ((schema_Fits q e1).bind fun r2 => (if r2 = true then ((v0l[0]?).bind fun e3 => (if e1.Index = (wrp .i64 (e3.Index + v7)) then (block_Fits_l0 q v0z v0l v5z v5l v6 (wrp .i64 (v7 + 1))) else (some false))) else (some false)))) else none) else (if 0 < (v0l.length : Int) then (some (decide ((v0l.length : Int) ≤ 256))) else (some false)))
def block_Fits : Nat → (Sl S_api_Record) → Option (Bool)
  | 0, _ => none
  | q + 1, a0 => (block_Fits_l0 q a0.z a0.l a0.z a0.l (a0.l.length : Int) 0)
def num_Zig : Nat → Int → Option (Int)
  | 0, _ => none
  | q + 1, a0 => (some (ibits .xor .u64 (ishl .u64 (wrp .u64 a0) 1) (wrp .u64 (ishr .i64 a0 63))))
def num_PutSigned : Nat → (Ow Int) → Int → Option ((Ow Int))
  | 0, _, _ => none
  | q + 1, a0, a1 => ((num_Zig q a1).bind fun r1 => ((num_groups q a0 r1).bind fun r2 => (some r2)))
def codec_PutOp : Nat → (Ow Int) → S_api_Op → Option ((Ow Int) × Int)
  | 0, _, _ => none
  | q + 1, a0, a1 => ((objs_Fits q a1).bind fun r1 => (if r1 = true then ((num_Put q a0 a1.Code).bind fun r2 => ((num_PutSigned q r2 a1.A).bind fun r3 => ((num_PutSigned q r3 a1.B).bind fun r4 => (some (r4, 0))))) else (some (a0, 1))))
def block_Encode_l0 : Nat → Bool → (List S_api_Record) → Int → Int → (List (Int × Int)) → Bool → (List Int) → Bool → Option ((Ow Int) × Int)
  | 0, _, _, _, _, _, _, _, _ => none
  | q + 1, v20z, v20l, v21, v22, h0m, h1z, h1l, h1x => (if v22 < v21 then (if 0 ≤ v22 then ((v20l[v22.toNat]?).bind fun e5 => ((num_Put q ⟨h1z, h1x, h1l⟩ e5.Proc).bind fun r6 => ((num_PutSigned q r6 (wrp .i64 (e5.Seq - (mget h0m e5.Proc)))).bind fun r7 => ((codec_PutOp q r7 e5.Op).bind fun r8 => ((num_PutSigned q r8.1 e5.Resp).bind fun r9 => (block_Encode_l0 q v20z v20l v21 (wrp .i64 (v22 + 1)) (mset h0m e5.Proc e5.Seq) r9.n r9.xs r9.x)))))) else none) else (some (⟨h1z, h1x, h1l⟩, 0)))
def block_Encode : Nat → (Sl S_api_Record) → Option ((Ow Int) × Int)
  | 0, _ => none
  | q + 1, a0 => ((block_Fits q a0).bind fun r1 => (if r1 = true then ((a0.l[0]?).bind fun e2 => ((num_Put q ⟨true, true, []⟩ e2.Index).bind fun r3 => ((num_Put q r3 (a0.l.length : Int)).bind fun r4 => (block_Encode_l0 q a0.z a0.l (a0.l.length : Int) 0 [] r4.n r4.xs r4.x)))) else (some (⟨true, true, []⟩, 1))))
def schema_fields : Nat → Int → Option ((Ow Int))
  | 0, _ => none
  | q + 1, a0 => (if a0 < 1 then (some ⟨true, true, []⟩) else (if 4 ≤ a0 then (some ⟨true, true, []⟩) else (if 0 ≤ a0 then (if a0.toNat < 4 then (if a0.toNat = 0 then (some ⟨false, true, []⟩) else (if a0.toNat = 1 then (some ⟨false, true, [1, 2, 4]⟩) else (if a0.toNat = 2 then (some ⟨false, true, [1, 2, 3, 4]⟩) else (if a0.toNat = 3 then (some ⟨false, true, [1, 2, 3, 4, 5]⟩) else none)))) else none) else none)))
def schema_put : Nat → (Ow Int) → Int → S_api_Record → Option ((Ow Int))
  | 0, _, _, _ => none
  | q + 1, a0, a1, a2 => ((num_Put q a0 a1).bind fun r1 => (if a1 = 1 then ((num_Put q r1 a2.Index).bind fun r2 => (some r2)) else (if a1 = 2 then ((num_Put q r1 a2.Proc).bind fun r3 => (some r3)) else (if a1 = 3 then ((num_Put q r1 a2.Seq).bind fun r4 => (some r4)) else (if a1 = 4 then ((codec_PutOp q r1 a2.Op).bind fun r5 => (some r5.1)) else ((num_PutSigned q r1 a2.Resp).bind fun r6 => (some r6)))))))
def schema_Encode_l0 : Nat → Int → Int → Int → Int → Int → Int → Int → Int → Int → Bool → (List Int) → Bool → Bool → (List Int) → Bool → Option ((Ow Int) × Int)
  | 0, _, _, _, _, _, _, _, _, _, _, _, _, _, _, _ => none
  | q + 1, v22, v23, h0_0, h0_1, h0_2, h0_3, h0_4, h0_5, h0_6, h1z, h1l, h1x, h2z, h2l, h2x => (if v23 < v22 then (if 0 ≤ v23 then (if v23.toNat < h2l.length then ((h2l[v23.toNat]?).bind fun e4 => ((schema_put q ⟨h1z, h1x, h1l⟩ e4 (⟨h0_0, h0_1, h0_2, (⟨h0_3, h0_4, h0_5⟩ : S_api_Op), h0_6⟩ : S_api_Record)).bind fun r5 => (schema_Encode_l0 q v22 (wrp .i64 (v23 + 1)) h0_0 h0_1 h0_2 h0_3 h0_4 h0_5 h0_6 r5.n r5.xs r5.x h2z h2l h2x))) else none) else none) else (some (⟨h1z, h1x, h1l⟩, 0)))
def schema_Encode : Nat → Int → S_api_Record → Option ((Ow Int) × Int)
  | 0, _, _ => none
  | q + 1, a0, a1 => ((schema_fields q a0).bind fun r1 => (if r1.n = true then (some (⟨true, true, []⟩, 6)) else ((schema_Fits q a1).bind fun r2 => (if r2 = true then ((num_Put q ⟨true, true, []⟩ a0).bind fun r3 => (schema_Encode_l0 q (r1.xs.length : Int) 0 a1.Index a1.Proc a1.Seq a1.Op.Code a1.Op.A a1.Op.B a1.Resp r3.n r3.xs r3.x r1.n r1.xs r1.x)) else (some (⟨true, true, []⟩, 1))))))
def segment_data_l0 : Nat → Int → Bool → (List S_api_Record) → Int → Int → Bool → (List Int) → Bool → Option ((Ow Int))
  | 0, _, _, _, _, _, _, _, _ => none
  | q + 1, v0, v20z, v20l, v21, v22, h0z, h0l, h0x => (if v22 < v21 then (if 0 ≤ v22 then ((v20l[v22.toNat]?).bind fun e2 => ((schema_Encode q v0 e2).bind fun r3 => ((num_Put q ⟨h0z, h0x, h0l⟩ (r3.1.xs.length : Int)).bind fun r4 => (if (r4.xs.length + r3.1.xs.length) ≤ 4294967296 then (segment_data_l0 q v0 v20z v20l v21 (wrp .i64 (v22 + 1)) (r4.n && (decide (r3.1.xs.length = 0))) (r4.xs ++ r3.1.xs) r4.x) else none)))) else none) else (some ⟨h0z, h0x, h0l⟩))
def segment_data : Nat → Int → (Sl S_api_Record) → Option ((Ow Int))
  | 0, _, _ => none
  | q + 1, a0, a1 => (if a0 = 3 then ((block_Encode q a1).bind fun r1 => (some r1.1)) else (segment_data_l0 q a0 a1.z a1.l (a1.l.length : Int) 0 true [] true))
def segment_blocks_l0 : Nat → Int → Bool → (List S_api_Record) → Bool → (List (Sl Int)) → Option ((Ow (Sl Int)))
  | 0, _, _, _, _, _ => none
  | q + 1, v0, v1z, v1l, h0z, h0l => (if 0 < (v1l.length : Int) then (if 0 ≤ (if 16 < (v1l.length : Int) then 16 else (v1l.length : Int)) then (if (if 16 < (v1l.length : Int) then 16 else (v1l.length : Int)) ≤ (if 16 < (v1l.length : Int) then 16 else (v1l.length : Int)) then (if (if 16 < (v1l.length : Int) then 16 else (v1l.length : Int)).toNat ≤ v1l.length then ((segment_data q v0 ⟨v1z, (List.take ((if 16 < (v1l.length : Int) then 16 else (v1l.length : Int)).toNat) v1l)⟩).bind fun r1 => ((segment_framed q ⟨r1.n, r1.xs⟩).bind fun r2 => (if (h0l.length + 1) ≤ 4294967296 then (if (if 16 < (v1l.length : Int) then 16 else (v1l.length : Int)) ≤ (v1l.length : Int) then (segment_blocks_l0 q v0 v1z (List.drop ((if 16 < (v1l.length : Int) then 16 else (v1l.length : Int)).toNat) v1l) false (h0l ++ [⟨r2.n, r2.xs⟩])) else none) else none))) else none) else none) else none) else (some ⟨h0z, true, h0l⟩))
def segment_blocks : Nat → Int → (Sl S_api_Record) → Option ((Ow (Sl Int)))
  | 0, _, _ => none
  | q + 1, a0, a1 => (segment_blocks_l0 q a0 a1.z a1.l true [])
def segment_footer_l0 : Nat → Bool → (List (Sl Int)) → Int → Int → Bool → (List Int) → Bool → Option ((Ow Int))
  | 0, _, _, _, _, _, _, _ => none
  | q + 1, v14z, v14l, v15, v16, h0z, h0l, h0x => (if v16 < v15 then (if 0 ≤ v16 then ((v14l[v16.toNat]?).bind fun e2 => ((num_Put q ⟨h0z, h0x, h0l⟩ (e2.l.length : Int)).bind fun r3 => (segment_footer_l0 q v14z v14l v15 (wrp .i64 (v16 + 1)) r3.n r3.xs r3.x))) else none) else ((segment_framed q ⟨h0z, h0l⟩).bind fun r4 => (some r4)))
def segment_footer : Nat → (Sl (Sl Int)) → Option ((Ow Int))
  | 0, _ => none
  | q + 1, a0 => ((num_Put q ⟨true, true, []⟩ (wrp .i64 ((a0.l.length : Int) - 1))).bind fun r1 => (if 0 ≤ (wrp .i64 ((a0.l.length : Int) - 1)) then (if (wrp .i64 ((a0.l.length : Int) - 1)).toNat ≤ a0.l.length then (segment_footer_l0 q a0.z (List.take ((wrp .i64 ((a0.l.length : Int) - 1)).toNat) a0.l) (((min ((wrp .i64 ((a0.l.length : Int) - 1)).toNat) a0.l.length) : Nat) : Int) 0 r1.n r1.xs r1.x) else none) else none))
def segment_Encode : Nat → Int → S_api_Segment → Option ((Ow Int) × Int)
  | 0, _, _ => none
  | q + 1, a0, a1 => ((segment_Head q a0 a1.Kind a1.First).bind fun r1 => (if r1.2 = 0 then ((segment_fit q a1.Records a1.First).bind fun r2 => (if r2 = true then ((segment_blocks q a0 a1.Records).bind fun r3 => (if (1 + r3.xs.length) ≤ 4294967296 then ((slices_Concat_byte_byte q ⟨false, ([⟨r1.1.n, r1.1.xs⟩] ++ r3.xs)⟩).bind fun r4 => ((segment_footer q ⟨false, ([⟨r1.1.n, r1.1.xs⟩] ++ r3.xs)⟩).bind fun r5 => (if (r4.xs.length + r5.xs.length) ≤ 4294967296 then (some (⟨(r4.n && (decide (r5.xs.length = 0))), r4.x, (r4.xs ++ r5.xs)⟩, 0)) else none))) else none)) else (some (⟨true, true, []⟩, 1)))) else (some (⟨true, true, []⟩, r1.2))))
def ferrymanlaw08_awake : Nat → Option (Bool)
  | 0 => none
  | q + 1 => ((segment_Encode q 3 (⟨0, 0, ⟨true, []⟩⟩ : S_api_Segment)).bind fun r1 => (if r1.2 = 0 then (if (r1.1.xs.length : Int) = 15 then (if 5 ≤ r1.1.xs.length then (if r1.1.n = true then (if r1.1.xs = [4, 108, 3, 0, 0] then (if 11 ≤ r1.1.xs.length then (some (decide ((List.drop 9 r1.1.xs) = [1, 0]))) else none) else (some false)) else (if (List.take 5 r1.1.xs) = [4, 108, 3, 0, 0] then (if 11 ≤ r1.1.xs.length then (some (decide ((List.take 2 (List.drop 9 r1.1.xs)) = [1, 0]))) else none) else (some false))) else none) else (some false)) else (some false)))
def ferrymanref04_cut : Nat → Int → Option (Int)
  | 0, _ => none
  | q + 1, a0 => (if a0 < (-1099511627776) then (some (-1099511627776)) else (if 1099511627776 < a0 then (some 1099511627776) else (some a0)))
def ferrymanref04_Fits : Nat → S_api_Op → Option (Bool)
  | 0, _ => none
  | q + 1, a0 => (if 0 ≤ a0.Code then (if a0.Code ≤ 10 then ((ferrymanref04_cut q a0.A).bind fun r1 => (if a0.A = r1 then ((ferrymanref04_cut q a0.B).bind fun r2 => (some (decide (a0.B = r2)))) else (some false))) else (some false)) else (some false))
def ferrymanref06_Fits : Nat → S_api_Record → Option (Bool)
  | 0, _ => none
  | q + 1, a0 => ((ferrymanref04_Fits q a0.Op).bind fun r1 => (if r1 = true then (if 0 ≤ a0.Index then (if a0.Index < 4611686018427387904 then (if 0 ≤ a0.Seq then (if a0.Seq < 4611686018427387904 then (if 0 ≤ a0.Proc then (if a0.Proc ≤ 64 then (if (-1125899906842624) ≤ a0.Resp then (some (decide (a0.Resp ≤ 1125899906842624))) else (some false)) else (some false)) else (some false)) else (some false)) else (some false)) else (some false)) else (some false)) else (some false)))
def ferrymanref08_records_l0 : Nat → Bool → (List S_api_Record) → Int → Int → Option (Bool)
  | 0, _, _, _, _ => none
  | q + 1, v0z, v0l, v1, v5 => (if v5 < (v0l.length : Int) then (if 0 ≤ v5 then ((v0l[v5.toNat]?).bind fun e1 => ((ferrymanref06_Fits q e1).bind fun r2 => (if r2 = true then (if e1.Index = (wrp .i64 (v1 + v5)) then (ferrymanref08_records_l0 q v0z v0l v1 (wrp .i64 (v5 + 1))) else (some false)) else (some false)))) else none) else (some true))
def ferrymanref08_records : Nat → (Sl S_api_Record) → Int → Option (Bool)
  | 0, _, _ => none
  | q + 1, a0, a1 => (if 4096 < (a0.l.length : Int) then (some false) else (ferrymanref08_records_l0 q a0.z a0.l a1 0))
def ferrymanref08_May : Nat → S_api_Segment → Option (Bool)
  | 0, _ => none
  | q + 1, a0 => (if 0 ≤ a0.Kind then (if a0.Kind < 6 then (if 0 ≤ a0.First then (if a0.First < 4611686018427387904 then ((ferrymanref08_records q a0.Records a0.First).bind fun r1 => (some r1)) else (some false)) else (some false)) else (some false)) else (some false))
def ferrymanref01_groups_l0 : Nat → Int → Bool → (List Int) → Option ((Ow Int))
  | 0, _, _, _ => none
  | q + 1, v0, h0z, h0l => (if 127 < v0 then (if (h0l.length + 1) ≤ 4294967296 then (ferrymanref01_groups_l0 q (wrp .u64 (Int.tdiv v0 128)) false (h0l ++ [(wrp .u8 (wrp .u64 ((Int.tmod v0 128) + 128)))])) else none) else (if (h0l.length + 1) ≤ 4294967296 then (some ⟨false, true, (h0l ++ [(wrp .u8 v0)])⟩) else none))
def ferrymanref01_groups : Nat → Int → Option ((Ow Int))
  | 0, _ => none
  | q + 1, a0 => (ferrymanref01_groups_l0 q a0 true [])
def ferrymanref01_Put : Nat → (Sl Int) → Int → Option ((Ow Int))
  | 0, _, _ => none
  | q + 1, a0, a1 => (if a0.l.length ≤ 4294967296 then (if a1 < 0 then (some ⟨(decide (a0.l.length = 0)), true, a0.l⟩) else (if 4611686018427387904 ≤ a1 then (some ⟨(decide (a0.l.length = 0)), true, a0.l⟩) else ((ferrymanref01_groups q (wrp .u64 a1)).bind fun r1 => (if (a0.l.length + r1.xs.length) ≤ 4294967296 then (some ⟨((decide (a0.l.length = 0)) && (decide (r1.xs.length = 0))), true, (a0.l ++ r1.xs)⟩) else none)))) else none)
def ferrymanref02_Entry_l0 : Nat → Int → Int → Option (Int)
  | 0, _, _ => none
  | q + 1, v3, v4 => (if v4 < 8 then (if (Int.tmod v3 2) = 1 then (ferrymanref02_Entry_l0 q (ibits .xor .u32 (wrp .u32 (Int.tdiv v3 2)) 2197175160) (wrp .i64 (v4 + 1))) else (ferrymanref02_Entry_l0 q (wrp .u32 (Int.tdiv v3 2)) (wrp .i64 (v4 + 1)))) else (some v3))
def ferrymanref02_Entry : Nat → Int → Option (Int)
  | 0, _ => none
  | q + 1, a0 => (ferrymanref02_Entry_l0 q (wrp .u32 a0) 0)
def ferrymanref02_More_l0 : Nat → Bool → (List Int) → Int → Int → Option (Int)
  | 0, _, _, _, _ => none
  | q + 1, v1z, v1l, v5, v6 => (if v6 < (v1l.length : Int) then (if 0 ≤ v6 then ((v1l[v6.toNat]?).bind fun e1 => ((ferrymanref02_Entry q (ibits .xor .u8 (wrp .u8 v5) e1)).bind fun r2 => (ferrymanref02_More_l0 q v1z v1l (ibits .xor .u32 r2 (wrp .u32 (Int.tdiv v5 256))) (wrp .i64 (v6 + 1))))) else none) else (some (ibits .xor .u32 4294967295 v5)))
def ferrymanref02_More : Nat → Int → (Sl Int) → Option (Int)
  | 0, _, _ => none
  | q + 1, a0, a1 => (ferrymanref02_More_l0 q a1.z a1.l (ibits .xor .u32 4294967295 a0) 0)
def ferrymanref02_Sum : Nat → (Sl Int) → Option (Int)
  | 0, _ => none
  | q + 1, a0 => ((ferrymanref02_More q 0 a0).bind fun r1 => (some r1))
def ferrymanref01_Fix_l0 : Nat → Int → Int → Int → Bool → (List Int) → Option ((Ow Int))
  | 0, _, _, _, _, _ => none
  | q + 1, v0, v1, v6, h0z, h0l => (if v6 < v1 then (if (h0l.length + 1) ≤ 4294967296 then (ferrymanref01_Fix_l0 q (wrp .u64 (Int.tdiv v0 256)) v1 (wrp .i64 (v6 + 1)) false (h0l ++ [(wrp .u8 (Int.tmod v0 256))])) else none) else (some ⟨h0z, true, h0l⟩))
def ferrymanref01_Fix : Nat → Int → Int → Option ((Ow Int))
  | 0, _, _ => none
  | q + 1, a0, a1 => (ferrymanref01_Fix_l0 q a0 a1 0 true [])
def ferrymanref03_Encode : Nat → (Sl Int) → Option ((Ow Int) × Int)
  | 0, _ => none
  | q + 1, a0 => (if 1048576 < (a0.l.length : Int) then (some (⟨true, true, []⟩, 5)) else ((ferrymanref01_Put q ⟨true, []⟩ (a0.l.length : Int)).bind fun r1 => ((ferrymanref02_Sum q ⟨r1.n, r1.xs⟩).bind fun r2 => ((ferrymanref02_More q r2 a0).bind fun r3 => (if r1.xs.length ≤ 4294967296 then (if (r1.xs.length + a0.l.length) ≤ 4294967296 then ((ferrymanref01_Fix q (wrp .u64 r3) 4).bind fun r4 => (if ((r1.xs.length + a0.l.length) + r4.xs.length) ≤ 4294967296 then (some (⟨(((decide (r1.xs.length = 0)) && (decide (a0.l.length = 0))) && (decide (r4.xs.length = 0))), true, ((r1.xs ++ a0.l) ++ r4.xs)⟩, 0)) else none)) else none) else none)))))
def ferrymanref08_Head : Nat → Int → Int → Int → Option ((Ow Int) × Int)
  | 0, _, _, _ => none
  | q + 1, a0, a1, a2 => (if a0 < 1 then (some (⟨true, true, []⟩, 6)) else (if 3 < a0 then (some (⟨true, true, []⟩, 6)) else (if a1 < 0 then (some (⟨true, true, []⟩, 1)) else (if 6 ≤ a1 then (some (⟨true, true, []⟩, 1)) else (if a2 < 0 then (some (⟨true, true, []⟩, 1)) else (if 4611686018427387904 ≤ a2 then (some (⟨true, true, []⟩, 1)) else ((ferrymanref01_Put q ⟨false, [108]⟩ a0).bind fun r1 => ((ferrymanref01_Put q ⟨r1.n, r1.xs⟩ a1).bind fun r2 => ((ferrymanref01_Put q ⟨r2.n, r2.xs⟩ a2).bind fun r3 => ((ferrymanref03_Encode q ⟨r3.n, r3.xs⟩).bind fun r4 => (some (r4.1, 0))))))))))))
def ferrymanref07_Fits_l0 : Nat → Bool → (List S_api_Record) → Int → Option (Bool)
  | 0, _, _, _ => none
  | q + 1, v0z, v0l, v3 => (if v3 < (v0l.length : Int) then (if 0 ≤ v3 then ((v0l[v3.toNat]?).bind fun e1 => ((ferrymanref06_Fits q e1).bind fun r2 => (if r2 = true then (if 0 < v3 then (if 0 ≤ (wrp .i64 (v3 - 1)) then ((v0l[(wrp .i64 (v3 - 1)).toNat]?).bind fun e3 => (if e1.Index = (wrp .i64 (e3.Index + 1)) then (ferrymanref07_Fits_l0 q v0z v0l (wrp .i64 (v3 + 1))) else (some false))) else none) else (ferrymanref07_Fits_l0 q v0z v0l (wrp .i64 (v3 + 1)))) else (some false)))) else none) else (some true))
def ferrymanref07_Fits : Nat → (Sl S_api_Record) → Option (Bool)
  | 0, _ => none
  | q + 1, a0 => (if (a0.l.length : Int) < 1 then (some false) else (if 256 < (a0.l.length : Int) then (some false) else (ferrymanref07_Fits_l0 q a0.z a0.l 0)))
def ferrymanref07_last_l0 : Nat → Bool → (List S_api_Record) → Int → Int → Option (Int)
  | 0, _, _, _, _ => none
  | q + 1, v0z, v0l, v1, v5 => (if 0 ≤ v5 then ((v0l[v5.toNat]?).bind fun e1 => (if e1.Proc = v1 then (some e1.Seq) else (ferrymanref07_last_l0 q v0z v0l v1 (wrp .i64 (v5 - 1))))) else (some 0))
def ferrymanref07_last : Nat → (Sl S_api_Record) → Int → Option (Int)
  | 0, _, _ => none
  | q + 1, a0, a1 => (ferrymanref07_last_l0 q a0.z a0.l a1 (wrp .i64 ((a0.l.length : Int) - 1)))
def ferrymanref01_Zig : Nat → Int → Option (Int)
  | 0, _ => none
  | q + 1, a0 => (if 0 ≤ a0 then (some (wrp .u64 ((wrp .u64 a0) * 2))) else (some (wrp .u64 ((wrp .u64 ((wrp .u64 (wrp .i64 (0 - (wrp .i64 (a0 + 1))))) * 2)) + 1))))
def ferrymanref01_PutSigned : Nat → (Sl Int) → Int → Option ((Ow Int))
  | 0, _, _ => none
  | q + 1, a0, a1 => (if a0.l.length ≤ 4294967296 then ((ferrymanref01_Zig q a1).bind fun r1 => ((ferrymanref01_groups q r1).bind fun r2 => (if (a0.l.length + r2.xs.length) ≤ 4294967296 then (some ⟨((decide (a0.l.length = 0)) && (decide (r2.xs.length = 0))), true, (a0.l ++ r2.xs)⟩) else none))) else none)
def ferrymanref05_PutOp : Nat → (Sl Int) → S_api_Op → Option ((Ow Int) × Int)
  | 0, _, _ => none
  | q + 1, a0, a1 => (if a0.l.length ≤ 4294967296 then ((ferrymanref04_Fits q a1).bind fun r1 => (if r1 = true then ((ferrymanref01_Put q ⟨(decide (a0.l.length = 0)), a0.l⟩ a1.Code).bind fun r2 => ((ferrymanref01_PutSigned q ⟨r2.n, r2.xs⟩ a1.A).bind fun r3 => ((ferrymanref01_PutSigned q ⟨r3.n, r3.xs⟩ a1.B).bind fun r4 => (some (r4, 0))))) else (some (⟨(decide (a0.l.length = 0)), true, a0.l⟩, 1)))) else none)
def ferrymanref07_Encode_l0 : Nat → Bool → (List S_api_Record) → Int → Bool → (List Int) → Bool → Option ((Ow Int) × Int)
  | 0, _, _, _, _, _, _ => none
  | q + 1, v0z, v0l, v6, h0z, h0l, h0x => (if v6 < (v0l.length : Int) then (if 0 ≤ v6 then ((v0l[v6.toNat]?).bind fun e5 => ((ferrymanref01_Put q ⟨h0z, h0l⟩ e5.Proc).bind fun r6 => (if v6.toNat ≤ v0l.length then ((ferrymanref07_last q ⟨v0z, (List.take v6.toNat v0l)⟩ e5.Proc).bind fun r7 => ((ferrymanref01_PutSigned q ⟨r6.n, r6.xs⟩ (wrp .i64 (e5.Seq - r7))).bind fun r8 => ((ferrymanref05_PutOp q ⟨r8.n, r8.xs⟩ e5.Op).bind fun r9 => ((ferrymanref01_PutSigned q ⟨r9.1.n, r9.1.xs⟩ e5.Resp).bind fun r10 => (ferrymanref07_Encode_l0 q v0z v0l (wrp .i64 (v6 + 1)) r10.n r10.xs r10.x))))) else none))) else none) else (some (⟨h0z, h0x, h0l⟩, 0)))
def ferrymanref07_Encode : Nat → (Sl S_api_Record) → Option ((Ow Int) × Int)
  | 0, _ => none
  | q + 1, a0 => ((ferrymanref07_Fits q a0).bind fun r1 => (if r1 = true then ((a0.l[0]?).bind fun e2 => ((ferrymanref01_Put q ⟨true, []⟩ e2.Index).bind fun r3 => ((ferrymanref01_Put q ⟨r3.n, r3.xs⟩ (a0.l.length : Int)).bind fun r4 => (ferrymanref07_Encode_l0 q a0.z a0.l 0 r4.n r4.xs r4.x)))) else (some (⟨true, true, []⟩, 1))))
def ferrymanref06_has : Nat → Int → Int → Option (Bool)
  | 0, _, _ => none
  | q + 1, a0, a1 => (if a1 = 1 then (some true) else (if a1 = 2 then (some true) else (if a1 = 4 then (some true) else (if a1 = 3 then (if 2 ≤ a0 then (some true) else (if a1 = 5 then (some (decide (a0 = 3))) else (some false))) else (if a1 = 5 then (some (decide (a0 = 3))) else (some false))))))
def ferrymanref06_Encode_l0 : Nat → Int → Int → Int → Int → Int → Int → Int → Int → Int → Bool → (List Int) → Bool → Option ((Ow Int) × Int)
  | 0, _, _, _, _, _, _, _, _, _, _, _, _ => none
  | q + 1, v0, v8, h0_0, h0_1, h0_2, h0_3, h0_4, h0_5, h0_6, h1z, h1l, h1x => (if v8 ≤ 5 then ((ferrymanref06_has q v0 v8).bind fun r3 => (if r3 = true then ((ferrymanref01_Put q ⟨h1z, h1l⟩ v8).bind fun r4 => (if v8 = 1 then ((ferrymanref01_Put q ⟨r4.n, r4.xs⟩ h0_0).bind fun r5 => (ferrymanref06_Encode_l0 q v0 (wrp .i64 (v8 + 1)) h0_0 h0_1 h0_2 h0_3 h0_4 h0_5 h0_6 r5.n r5.xs r5.x)) else (if v8 = 2 then ((ferrymanref01_Put q ⟨r4.n, r4.xs⟩ h0_1).bind fun r6 => (ferrymanref06_Encode_l0 q v0 (wrp .i64 (v8 + 1)) h0_0 h0_1 h0_2 h0_3 h0_4 h0_5 h0_6 r6.n r6.xs r6.x)) else (if v8 = 3 then ((ferrymanref01_Put q ⟨r4.n, r4.xs⟩ h0_2).bind fun r7 => (ferrymanref06_Encode_l0 q v0 (wrp .i64 (v8 + 1)) h0_0 h0_1 h0_2 h0_3 h0_4 h0_5 h0_6 r7.n r7.xs r7.x)) else (if v8 = 4 then ((ferrymanref05_PutOp q ⟨r4.n, r4.xs⟩ (⟨h0_3, h0_4, h0_5⟩ : S_api_Op)).bind fun r8 => (ferrymanref06_Encode_l0 q v0 (wrp .i64 (v8 + 1)) h0_0 h0_1 h0_2 h0_3 h0_4 h0_5 h0_6 r8.1.n r8.1.xs r8.1.x)) else (if v8 = 5 then ((ferrymanref01_PutSigned q ⟨r4.n, r4.xs⟩ h0_6).bind fun r9 => (ferrymanref06_Encode_l0 q v0 (wrp .i64 (v8 + 1)) h0_0 h0_1 h0_2 h0_3 h0_4 h0_5 h0_6 r9.n r9.xs r9.x)) else (ferrymanref06_Encode_l0 q v0 (wrp .i64 (v8 + 1)) h0_0 h0_1 h0_2 h0_3 h0_4 h0_5 h0_6 r4.n r4.xs r4.x))))))) else (ferrymanref06_Encode_l0 q v0 (wrp .i64 (v8 + 1)) h0_0 h0_1 h0_2 h0_3 h0_4 h0_5 h0_6 h1z h1l h1x))) else (some (⟨h1z, h1x, h1l⟩, 0)))
def ferrymanref06_Encode : Nat → Int → S_api_Record → Option ((Ow Int) × Int)
  | 0, _, _ => none
  | q + 1, a0, a1 => (if a0 < 1 then (some (⟨true, true, []⟩, 6)) else (if 3 < a0 then (some (⟨true, true, []⟩, 6)) else ((ferrymanref06_Fits q a1).bind fun r1 => (if r1 = true then ((ferrymanref01_Put q ⟨true, []⟩ a0).bind fun r2 => (ferrymanref06_Encode_l0 q a0 1 a1.Index a1.Proc a1.Seq a1.Op.Code a1.Op.A a1.Op.B a1.Resp r2.n r2.xs r2.x)) else (some (⟨true, true, []⟩, 1))))))
def ferrymanref08_data_l0 : Nat → Int → Bool → (List S_api_Record) → Int → Bool → (List Int) → Bool → Option ((Ow Int))
  | 0, _, _, _, _, _, _, _ => none
  | q + 1, v0, v1z, v1l, v8, h0z, h0l, h0x => (if v8 < (v1l.length : Int) then (if 0 ≤ v8 then ((v1l[v8.toNat]?).bind fun e2 => ((ferrymanref06_Encode q v0 e2).bind fun r3 => ((ferrymanref01_Put q ⟨h0z, h0l⟩ (r3.1.xs.length : Int)).bind fun r4 => (if (r4.xs.length + r3.1.xs.length) ≤ 4294967296 then (ferrymanref08_data_l0 q v0 v1z v1l (wrp .i64 (v8 + 1)) (r4.n && (decide (r3.1.xs.length = 0))) (r4.xs ++ r3.1.xs) r4.x) else none)))) else none) else (some ⟨h0z, h0x, h0l⟩))
def ferrymanref08_data : Nat → Int → (Sl S_api_Record) → Option ((Ow Int))
  | 0, _, _ => none
  | q + 1, a0, a1 => (if a0 = 3 then ((ferrymanref07_Encode q a1).bind fun r1 => (some r1.1)) else (ferrymanref08_data_l0 q a0 a1.z a1.l 0 true [] true))
def ferrymanref08_frames_l0 : Nat → Int → Bool → (List S_api_Record) → Int → Bool → (List (Sl Int)) → Option ((Ow (Sl Int)))
  | 0, _, _, _, _, _, _ => none
  | q + 1, v0, v1z, v1l, v6, h0z, h0l => (if v6 < (v1l.length : Int) then (if (v1l.length : Int) < (wrp .i64 (v6 + 16)) then (if 0 ≤ v6 then (if v6 ≤ (v1l.length : Int) then ((ferrymanref08_data q v0 ⟨v1z, (List.drop v6.toNat (List.take v1l.length v1l))⟩).bind fun r1 => ((ferrymanref03_Encode q ⟨r1.n, r1.xs⟩).bind fun r2 => (if (h0l.length + 1) ≤ 4294967296 then (ferrymanref08_frames_l0 q v0 v1z v1l (wrp .i64 (v6 + 16)) false (h0l ++ [⟨r2.1.n, r2.1.xs⟩])) else none))) else none) else none) else (if 0 ≤ v6 then (if v6 ≤ (wrp .i64 (v6 + 16)) then (if (wrp .i64 (v6 + 16)).toNat ≤ v1l.length then ((ferrymanref08_data q v0 ⟨v1z, (List.drop v6.toNat (List.take ((wrp .i64 (v6 + 16)).toNat) v1l))⟩).bind fun r3 => ((ferrymanref03_Encode q ⟨r3.n, r3.xs⟩).bind fun r4 => (if (h0l.length + 1) ≤ 4294967296 then (ferrymanref08_frames_l0 q v0 v1z v1l (wrp .i64 (v6 + 16)) false (h0l ++ [⟨r4.1.n, r4.1.xs⟩])) else none))) else none) else none) else none)) else (some ⟨h0z, true, h0l⟩))
def ferrymanref08_frames : Nat → Int → (Sl S_api_Record) → Option ((Ow (Sl Int)))
  | 0, _, _ => none
  | q + 1, a0, a1 => (ferrymanref08_frames_l0 q a0 a1.z a1.l 0 true [])
def ferrymanref08_footer_l0 : Nat → Bool → (List (Sl Int)) → Int → Int → Bool → (List Int) → Bool → Option ((Ow Int))
  | 0, _, _, _, _, _, _, _ => none
  | q + 1, v1z, v1l, v6, v7, h0z, h0l, h0x => (if v7 < (v1l.length : Int) then ((ferrymanref01_Put q ⟨h0z, h0l⟩ v6).bind fun r2 => (if 0 ≤ v7 then ((v1l[v7.toNat]?).bind fun e3 => (ferrymanref08_footer_l0 q v1z v1l (e3.l.length : Int) (wrp .i64 (v7 + 1)) r2.n r2.xs r2.x)) else none)) else (some ⟨h0z, h0x, h0l⟩))
def ferrymanref08_footer : Nat → (Sl Int) → (Sl (Sl Int)) → Option ((Ow Int))
  | 0, _, _ => none
  | q + 1, a0, a1 => ((ferrymanref01_Put q ⟨true, []⟩ (a1.l.length : Int)).bind fun r1 => (ferrymanref08_footer_l0 q a1.z a1.l (a0.l.length : Int) 0 r1.n r1.xs r1.x))
def ferrymanref08_joined_l0 : Nat → Bool → (List (Sl Int)) → Int → Bool → (List Int) → Option ((Ow Int))
  | 0, _, _, _, _, _ => none
  | q + 1, v0z, v0l, v4, h0z, h0l => (if v4 < (v0l.length : Int) then (if 0 ≤ v4 then ((v0l[v4.toNat]?).bind fun e1 => (if (h0l.length + e1.l.length) ≤ 4294967296 then (ferrymanref08_joined_l0 q v0z v0l (wrp .i64 (v4 + 1)) (h0z && (decide (e1.l.length = 0))) (h0l ++ e1.l)) else none)) else none) else (some ⟨h0z, true, h0l⟩))
def ferrymanref08_joined : Nat → (Sl (Sl Int)) → Option ((Ow Int))
  | 0, _ => none
  | q + 1, a0 => (ferrymanref08_joined_l0 q a0.z a0.l 0 true [])
def ferrymanref08_Encode : Nat → Int → S_api_Segment → Option ((Ow Int) × Int)
  | 0, _, _ => none
  | q + 1, a0, a1 => (if a0 < 1 then (some (⟨true, true, []⟩, 6)) else (if 3 < a0 then (some (⟨true, true, []⟩, 6)) else ((ferrymanref08_May q a1).bind fun r1 => (if r1 = true then ((ferrymanref08_Head q a0 a1.Kind a1.First).bind fun r2 => ((ferrymanref08_frames q a0 a1.Records).bind fun r3 => ((ferrymanref08_footer q ⟨r2.1.n, r2.1.xs⟩ ⟨r3.n, r3.xs⟩).bind fun r4 => ((ferrymanref03_Encode q ⟨r4.n, r4.xs⟩).bind fun r5 => (if r2.1.xs.length ≤ 4294967296 then ((ferrymanref08_joined q ⟨r3.n, r3.xs⟩).bind fun r6 => (if (r2.1.xs.length + r6.xs.length) ≤ 4294967296 then (if ((r2.1.xs.length + r6.xs.length) + r5.1.xs.length) ≤ 4294967296 then (some (⟨(((decide (r2.1.xs.length = 0)) && (decide (r6.xs.length = 0))) && (decide (r5.1.xs.length = 0))), true, ((r2.1.xs ++ r6.xs) ++ r5.1.xs)⟩, 0)) else none) else none)) else none))))) else (some (⟨true, true, []⟩, 1))))))
def segment_Body : Nat → Int → (Sl S_api_Record) → Option ((Ow Int) × Int)
  | 0, _, _ => none
  | q + 1, a0, a1 => ((segment_known q a0).bind fun r1 => (if r1 = true then (if 0 < (a1.l.length : Int) then ((a1.l[0]?).bind fun e2 => ((segment_fit q a1 e2.Index).bind fun r3 => (if r3 = true then ((segment_blocks q a0 a1).bind fun r4 => ((slices_Concat_byte_byte q ⟨r4.n, r4.xs⟩).bind fun r5 => (some (r5, 0)))) else (some (⟨true, true, []⟩, 1))))) else ((segment_blocks q a0 a1).bind fun r6 => ((slices_Concat_byte_byte q ⟨r6.n, r6.xs⟩).bind fun r7 => (some (r7, 0))))) else (some (⟨true, true, []⟩, 6))))
def ferrymanref08_Body : Nat → Int → (Sl S_api_Record) → Option ((Ow Int) × Int)
  | 0, _, _ => none
  | q + 1, a0, a1 => (if a0 < 1 then (some (⟨true, true, []⟩, 6)) else (if 3 < a0 then (some (⟨true, true, []⟩, 6)) else (if 0 < (a1.l.length : Int) then ((a1.l[0]?).bind fun e1 => ((ferrymanref08_records q a1 e1.Index).bind fun r2 => (if r2 = true then ((ferrymanref08_frames q a0 a1).bind fun r3 => ((ferrymanref08_joined q ⟨r3.n, r3.xs⟩).bind fun r4 => (some (r4, 0)))) else (some (⟨true, true, []⟩, 1))))) else ((ferrymanref08_records q a1 0).bind fun r5 => (if r5 = true then ((ferrymanref08_frames q a0 a1).bind fun r6 => ((ferrymanref08_joined q ⟨r6.n, r6.xs⟩).bind fun r7 => (some (r7, 0)))) else (some (⟨true, true, []⟩, 1)))))))
def ferrymanlaw08_SegmentEncodes : Nat → Int → S_api_Segment → Option (Bool)
  | 0, _, _ => none
  | q + 1, a0, a1 => ((ferrymanlaw08_awake q).bind fun r1 => (if 100 < (a1.Records.l.length : Int) then (some r1) else ((segment_Encode q a0 a1).bind fun r2 => ((ferrymanref08_Encode q a0 a1).bind fun r3 => ((segment_Head q a0 a1.Kind a1.First).bind fun r4 => ((ferrymanref08_Head q a0 a1.Kind a1.First).bind fun r5 => ((segment_Body q a0 a1.Records).bind fun r6 => ((ferrymanref08_Body q a0 a1.Records).bind fun r7 => (if r1 = true then (if r2.1.xs = r3.1.xs then (if r2.2 = r3.2 then (if r4.1.xs = r5.1.xs then (if r4.2 = r5.2 then (if r6.1.xs = r7.1.xs then (some (decide (r6.2 = r7.2))) else (some false)) else (some false)) else (some false)) else (some false)) else (some false)) else (some false))))))))))
end Go.Dvm.I
