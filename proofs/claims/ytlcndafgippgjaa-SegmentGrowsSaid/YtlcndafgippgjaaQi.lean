/- The functions of the law, as they answer, over typed data. -/
import Derived.Test.YtlcndafgippgjaaQv2
set_option linter.all false
set_option maxRecDepth 100000
set_option maxHeartbeats 4000000
namespace Go.Dvm.I
open Go Go.Dvm
structure S_api_Op where
  Code : Int
  A : Int
  B : Int
def S_api_Op.enc (r : S_api_Op) : V := .agg [V.int .i64 r.Code, V.int .i64 r.A, V.int .i64 r.B]
structure S_api_Record where
  Index : Int
  Proc : Int
  Seq : Int
  Op : S_api_Op
  Resp : Int
def S_api_Record.enc (r : S_api_Record) : V := .agg [V.int .i64 r.Index, V.int .i64 r.Proc, V.int .i64 r.Seq, V.int .i64 r.Op.Code, V.int .i64 r.Op.A, V.int .i64 r.Op.B, V.int .i64 r.Resp]
structure S_api_Segment where
  Kind : Int
  First : Int
  Records : (Sl S_api_Record)
def S_api_Segment.enc (r : S_api_Segment) : V := .agg [V.int .i64 r.Kind, V.int .i64 r.First, (Sl.enc S_api_Record.enc) r.Records]
def okSl {α : Type} (ok : α → Prop) (s : Sl α) : Prop := (s.z = true → s.l = []) ∧ s.l.length ≤ maxLen ∧ ∀ a ∈ s.l, ok a
def S_api_Op.ok (r : S_api_Op) : Prop := inR .i64 r.Code ∧ inR .i64 r.A ∧ inR .i64 r.B
def S_api_Record.ok (r : S_api_Record) : Prop := inR .i64 r.Index ∧ inR .i64 r.Proc ∧ inR .i64 r.Seq ∧ S_api_Op.ok r.Op ∧ inR .i64 r.Resp
def S_api_Segment.ok (r : S_api_Segment) : Prop := inR .i64 r.Kind ∧ inR .i64 r.First ∧ okSl (fun x => S_api_Record.ok x) r.Records
def segment_known : Nat → Int → Option (Bool)
  | 0, _ => none
  | q + 1, a0 => (if 1 ≤ a0 then (some (decide (a0 ≤ 3))) else (some false))
def num_groups_l0 : Nat → Int → Bool → (List Int) → Bool → Option ((Ow Int))
  | 0, _, _, _, _ => none
  | q + 1, v1, h0z, h0l, h0x => (if 128 ≤ v1 then (if (h0l.length + 1) ≤ 4294967296 then (num_groups_l0 q (ishr .u64 v1 7) false (h0l ++ [(ibits .or .u8 (wrp .u8 v1) 128)]) h0x) else none) else (if (h0l.length + 1) ≤ 4294967296 then (some ⟨false, h0x, (h0l ++ [(wrp .u8 v1)])⟩) else none))
def num_groups : Nat → (Ow Int) → Int → Option ((Ow Int))
  | 0, _, _ => none
  | q + 1, a0, a1 => (num_groups_l0 q a1 a0.n a0.xs a0.x)
def num_Put : Nat → (Ow Int) → Int → Option ((Ow Int))
  | 0, _, _ => none
  | q + 1, a0, a1 => (if a1 < 0 then (some a0) else (if 4611686018427387904 ≤ a1 then (some a0) else ((num_groups q a0 (wrp .u64 a1)).bind fun r1 => (some r1))))
mutual
def crc_Table_l0 : Nat → Int → (List Int) → (List Int) → Option ((List Int))
  | 0, _, _, _ => none
  | q + 1, v5, h0_0, h1_0 => (if v5 < 256 then (crc_Table_l1 q v5 (wrp .u32 v5) v5 0 h0_0 h1_0) else (if 256 ≤ h1_0.length then (if (min 256 h1_0.length) = 256 then (if 256 ≤ h0_0.length then (if 256 ≤ (256 + (h0_0.length - 256)) then (some (List.take 256 ((List.take 256 h1_0) ++ (List.drop 256 h0_0)))) else none) else none) else none) else none))
def crc_Table_l1 : Nat → Int → Int → Int → Int → (List Int) → (List Int) → Option ((List Int))
  | 0, _, _, _, _, _, _ => none
  | q + 1, v2, v3, v5, v10, h0_0, h1_0 => (if v10 < 8 then (crc_Table_l1 q v2 (ibits .xor .u32 (ishr .u32 v3 1) (ibits .and .u32 2197175160 (wrp .u32 (0 - (ibits .and .u32 v3 1))))) v5 (wrp .i64 (v10 + 1)) h0_0 h1_0) else (if 0 ≤ v2 then (if v2.toNat < 256 then (if (v2.toNat + 1) ≤ h1_0.length then (crc_Table_l0 q (wrp .i64 (v5 + 1)) h0_0 (List.set h1_0 v2.toNat v3)) else none) else none) else none))
end
def crc_Table : Nat → Option ((List Int))
  | 0 => none
  | q + 1 => (crc_Table_l0 q 0 (List.replicate 256 0) (List.replicate 256 0))
def crc_More_l0 : Nat → Int → Bool → (List Int) → Int → Int → (List Int) → Option (Int)
  | 0, _, _, _, _, _, _ => none
  | q + 1, v6, v12z, v12l, v13, v14, h0_0 => (if v14 < v13 then (if 0 ≤ v14 then ((v12l[v14.toNat]?).bind fun e2 => (if 0 ≤ (ibits .xor .u8 (wrp .u8 v6) e2) then (if (ibits .xor .u8 (wrp .u8 v6) e2).toNat < 256 then ((h0_0[(ibits .xor .u8 (wrp .u8 v6) e2).toNat]?).bind fun e3 => (crc_More_l0 q (ibits .xor .u32 e3 (ishr .u32 v6 8)) v12z v12l v13 (wrp .i64 (v14 + 1)) h0_0)) else none) else none)) else none) else (some (ibits .xor .u32 4294967295 v6)))
def crc_More : Nat → Int → (Sl Int) → Option (Int)
  | 0, _, _ => none
  | q + 1, a0, a1 => ((crc_Table q).bind fun r1 => (if r1.length = 256 then (crc_More_l0 q (ibits .xor .u32 4294967295 a0) a1.z a1.l (a1.l.length : Int) 0 r1) else none))
def crc_Sum : Nat → (Sl Int) → Option (Int)
  | 0, _ => none
  | q + 1, a0 => ((crc_More q 0 a0).bind fun r1 => (some r1))
def num_fixed_l0 : Nat → Int → Int → Int → Bool → (List Int) → Option ((Ow Int))
  | 0, _, _, _, _, _ => none
  | q + 1, v0, v7, v8, h0z, h0l => (if v8 < v7 then (if (wrp .i64 (8 * v8)) < 0 then none else (if (h0l.length + 1) ≤ 4294967296 then (num_fixed_l0 q v0 v7 (wrp .i64 (v8 + 1)) false (h0l ++ [(wrp .u8 (ishr .u64 v0 (wrp .i64 (8 * v8))))])) else none)) else (some ⟨h0z, true, h0l⟩))
def num_fixed : Nat → Int → Int → Option ((Ow Int))
  | 0, _, _ => none
  | q + 1, a0, a1 => (num_fixed_l0 q a0 a1 0 true [])
def num_Fixed32 : Nat → Int → Option ((Ow Int))
  | 0, _ => none
  | q + 1, a0 => ((num_fixed q (wrp .u64 a0) 4).bind fun r1 => (some r1))
def frame_sum : Nat → (Sl Int) → (Sl Int) → Option ((Ow Int))
  | 0, _, _ => none
  | q + 1, a0, a1 => ((crc_Sum q a0).bind fun r1 => ((crc_More q r1 a1).bind fun r2 => ((num_Fixed32 q r2).bind fun r3 => (some r3))))
def slices_Concat_byte_byte_l1 : Nat → Nat → Bool → (List (Sl Int)) → Int → Int → Bool → (List Int) → Option ((Ow Int))
  | 0, _, _, _, _, _, _, _ => none
  | q + 1, v6len, v25z, v25l, v26, v27, h0z, h0l => (if v27 < v26 then (if 0 ≤ v27 then ((v25l[v27.toNat]?).bind fun e2 => (if (v6len + e2.l.length) ≤ h0l.length then (slices_Concat_byte_byte_l1 q (v6len + e2.l.length) v25z v25l v26 (wrp .i64 (v27 + 1)) h0z (((List.take v6len h0l) ++ e2.l) ++ (List.drop (v6len + e2.l.length) h0l))) else none)) else none) else (some ⟨h0z, true, (List.take v6len h0l)⟩))
def slices_Concat_byte_byte_l3 : Nat → Bool → (List (Sl Int)) → Int → Int → Bool → (List Int) → Option ((Ow Int))
  | 0, _, _, _, _, _, _ => none
  | q + 1, v25z, v25l, v26, v27, h0z, h0l => (if v27 < v26 then (if 0 ≤ v27 then ((v25l[v27.toNat]?).bind fun e4 => (if (h0l.length + e4.l.length) ≤ 4294967296 then (slices_Concat_byte_byte_l3 q v25z v25l v26 (wrp .i64 (v27 + 1)) (h0z && (decide (e4.l.length = 0))) (h0l ++ e4.l)) else none)) else none) else (some ⟨h0z, true, h0l⟩))
def slices_Concat_byte_byte_l2 : Nat → Bool → (List (Sl Int)) → Int → Option ((Ow Int))
  | 0, _, _, _ => none
  | q + 1, v25z, v25l, v26 => (if 0 < v26 then ((v25l[0]?).bind fun e3 => (if e3.l.length ≤ 4294967296 then (slices_Concat_byte_byte_l3 q v25z v25l v26 (wrp .i64 1) (decide (e3.l.length = 0)) e3.l) else none)) else (some ⟨true, true, []⟩))
def slices_Concat_byte_byte_l0 : Nat → Bool → (List (Sl Int)) → Int → Bool → (List (Sl Int)) → Int → Int → Option ((Ow Int))
  | 0, _, _, _, _, _, _, _ => none
  | q + 1, v0z, v0l, v3, v9z, v9l, v10, v11 => (if v11 < v10 then (if 0 ≤ v11 then ((v9l[v11.toNat]?).bind fun e1 => (if (wrp .i64 (v3 + (e1.l.length : Int))) < 0 then none else (slices_Concat_byte_byte_l0 q v0z v0l (wrp .i64 (v3 + (e1.l.length : Int))) v9z v9l v10 (wrp .i64 (v11 + 1))))) else none) else (if v3 < 0 then none else (if 0 < (wrp .i64 (v3 - (wrp .i64 0))) then (if 0 ≤ (wrp .i64 (v3 - (wrp .i64 0))) then (if (wrp .i64 (v3 - (wrp .i64 0))).toNat ≤ 4294967296 then (if (wrp .i64 (v3 - (wrp .i64 0))) = 0 then none else (slices_Concat_byte_byte_l1 q 0 v0z v0l (v0l.length : Int) 0 (decide ((wrp .i64 (v3 - (wrp .i64 0))) = 0)) (List.replicate ((wrp .i64 (v3 - (wrp .i64 0))).toNat) 0))) else none) else none) else (slices_Concat_byte_byte_l2 q v0z v0l (v0l.length : Int)))))
def slices_Concat_byte_byte : Nat → (Sl (Sl Int)) → Option ((Ow Int))
  | 0, _ => none
  | q + 1, a0 => (slices_Concat_byte_byte_l0 q a0.z a0.l 0 a0.z a0.l (a0.l.length : Int) 0)
def frame_Encode : Nat → (Sl Int) → Option ((Ow Int) × Int)
  | 0, _ => none
  | q + 1, a0 => (if 1048576 < (a0.l.length : Int) then (some (⟨true, true, []⟩, 5)) else ((num_Put q ⟨true, true, []⟩ (a0.l.length : Int)).bind fun r1 => ((frame_sum q ⟨r1.n, r1.xs⟩ a0).bind fun r2 => ((slices_Concat_byte_byte q ⟨false, [⟨r1.n, r1.xs⟩, a0, ⟨r2.n, r2.xs⟩]⟩).bind fun r3 => (some (r3, 0))))))
def segment_framed : Nat → (Sl Int) → Option ((Ow Int))
  | 0, _ => none
  | q + 1, a0 => ((frame_Encode q a0).bind fun r1 => (some r1.1))
def segment_Head : Nat → Int → Int → Int → Option ((Ow Int) × Int)
  | 0, _, _, _ => none
  | q + 1, a0, a1, a2 => ((segment_known q a0).bind fun r1 => (if r1 = true then (if a1 < 0 then (some (⟨true, true, []⟩, 1)) else (if 6 ≤ a1 then (some (⟨true, true, []⟩, 1)) else (if a2 < 0 then (some (⟨true, true, []⟩, 1)) else (if 4611686018427387904 ≤ a2 then (some (⟨true, true, []⟩, 1)) else ((num_Put q ⟨false, true, [108]⟩ a0).bind fun r2 => ((num_Put q r2 a1).bind fun r3 => ((num_Put q r3 a2).bind fun r4 => ((segment_framed q ⟨r4.n, r4.xs⟩).bind fun r5 => (some (r5, 0)))))))))) else (some (⟨true, true, []⟩, 6))))
def objs_cut : Nat → Int → Option (Int)
  | 0, _ => none
  | q + 1, a0 => (some (if (-1099511627776) < (if 1099511627776 < a0 then 1099511627776 else a0) then (if 1099511627776 < a0 then 1099511627776 else a0) else (-1099511627776)))
def objs_Fits : Nat → S_api_Op → Option (Bool)
  | 0, _ => none
  | q + 1, a0 => (if 0 ≤ a0.Code then (if a0.Code ≤ 10 then ((objs_cut q a0.A).bind fun r1 => (if a0.A = r1 then ((objs_cut q a0.B).bind fun r2 => (some (decide (a0.B = r2)))) else (some false))) else (some false)) else (some false))
def schema_Fits : Nat → S_api_Record → Option (Bool)
  | 0, _ => none
  | q + 1, a0 => (if 0 ≤ a0.Index then (if a0.Index < 4611686018427387904 then (if 0 ≤ a0.Proc then (if a0.Proc ≤ 64 then (if 0 ≤ a0.Seq then (if a0.Seq < 4611686018427387904 then ((objs_Fits q a0.Op).bind fun r1 => (if r1 = true then (if (-1125899906842624) ≤ a0.Resp then (some (decide (a0.Resp ≤ 1125899906842624))) else (some false)) else (some false))) else (some false)) else (some false)) else (some false)) else (some false)) else (some false)) else (some false))
def segment_fit_l0 : Nat → Bool → (List S_api_Record) → Int → Bool → (List S_api_Record) → Int → Int → Option (Bool)
  | 0, _, _, _, _, _, _, _ => none
  | q + 1, v0z, v0l, v1, v7z, v7l, v8, v9 => (if v9 < v8 then (if 0 ≤ v9 then ((v7l[v9.toNat]?).bind fun e1 => ((schema_Fits q e1).bind fun r2 => (if r2 = true then (if e1.Index = (wrp .i64 (v1 + v9)) then (segment_fit_l0 q v0z v0l v1 v7z v7l v8 (wrp .i64 (v9 + 1))) else (some false)) else (some false)))) else none) else (some (decide ((v0l.length : Int) ≤ 4096))))
def segment_fit : Nat → (Sl S_api_Record) → Int → Option (Bool)
  | 0, _, _ => none
  | q + 1, a0, a1 => (segment_fit_l0 q a0.z a0.l a1 a0.z a0.l (a0.l.length : Int) 0)
def block_Fits_l0 : Nat → Bool → (List S_api_Record) → Bool → (List S_api_Record) → Int → Int → Option (Bool)
  | 0, _, _, _, _, _, _ => none
  | q + 1, v0z, v0l, v5z, v5l, v6, v7 => (if v7 < v6 then (if 0 ≤ v7 then ((v5l[v7.toNat]?).bind fun e1 => ((schema_Fits q e1).bind fun r2 => (if r2 = true then ((v0l[0]?).bind fun e3 => (if e1.Index = (wrp .i64 (e3.Index + v7)) then (block_Fits_l0 q v0z v0l v5z v5l v6 (wrp .i64 (v7 + 1))) else (some false))) else (some false)))) else none) else (if 0 < (v0l.length : Int) then (some (decide ((v0l.length : Int) ≤ 256))) else (some false)))
def block_Fits : Nat → (Sl S_api_Record) → Option (Bool)
  | 0, _ => none
  | q + 1, a0 => (block_Fits_l0 q a0.z a0.l a0.z a0.l (a0.l.length : Int) 0)
def num_Zig : Nat → Int → Option (Int)
  | 0, _ => none
  | q + 1, a0 => (some (ibits .xor .u64 (ishl .u64 (wrp .u64 a0) 1) (wrp .u64 (ishr .i64 a0 63))))
def num_PutSigned : Nat → (Ow Int) → Int → Option ((Ow Int))
  | 0, _, _ => none
  | q + 1, a0, a1 => ((num_Zig q a1).bind fun r1 => ((num_groups q a0 r1).bind fun r2 => (some r2)))
def codec_PutOp : Nat → (Ow Int) → S_api_Op → Option ((Ow Int) × Int)
  | 0, _, _ => none
  | q + 1, a0, a1 => ((objs_Fits q a1).bind fun r1 => (if r1 = true then ((num_Put q a0 a1.Code).bind fun r2 => ((num_PutSigned q r2 a1.A).bind fun r3 => ((num_PutSigned q r3 a1.B).bind fun r4 => (some (r4, 0))))) else (some (a0, 1))))
def block_Encode_l0 : Nat → Bool → (List S_api_Record) → Int → Int → (List (Int × Int)) → Bool → (List Int) → Bool → Option ((Ow Int) × Int)
  | 0, _, _, _, _, _, _, _, _ => none
  | q + 1, v20z, v20l, v21, v22, h0m, h1z, h1l, h1x => (if v22 < v21 then (if 0 ≤ v22 then ((v20l[v22.toNat]?).bind fun e5 => ((num_Put q ⟨h1z, h1x, h1l⟩ e5.Proc).bind fun r6 => ((num_PutSigned q r6 (wrp .i64 (e5.Seq - (mget h0m e5.Proc)))).bind fun r7 => ((codec_PutOp q r7 e5.Op).bind fun r8 => ((num_PutSigned q r8.1 e5.Resp).bind fun r9 => (block_Encode_l0 q v20z v20l v21 (wrp .i64 (v22 + 1)) (mset h0m e5.Proc e5.Seq) r9.n r9.xs r9.x)))))) else none) else (some (⟨h1z, h1x, h1l⟩, 0)))
def block_Encode : Nat → (Sl S_api_Record) → Option ((Ow Int) × Int)
  | 0, _ => none
  | q + 1, a0 => ((block_Fits q a0).bind fun r1 => (if r1 = true then ((a0.l[0]?).bind fun e2 => ((num_Put q ⟨true, true, []⟩ e2.Index).bind fun r3 => ((num_Put q r3 (a0.l.length : Int)).bind fun r4 => (block_Encode_l0 q a0.z a0.l (a0.l.length : Int) 0 [] r4.n r4.xs r4.x)))) else (some (⟨true, true, []⟩, 1))))
def schema_fields : Nat → Int → Option ((Ow Int))
  | 0, _ => none
  | q + 1, a0 => (if a0 < 1 then (some ⟨true, true, []⟩) else (if 4 ≤ a0 then (some ⟨true, true, []⟩) else (if 0 ≤ a0 then (if a0.toNat < 4 then (if a0.toNat = 0 then (some ⟨false, true, []⟩) else (if a0.toNat = 1 then (some ⟨false, true, [1, 2, 4]⟩) else (if a0.toNat = 2 then (some ⟨false, true, [1, 2, 3, 4]⟩) else (if a0.toNat = 3 then (some ⟨false, true, [1, 2, 3, 4, 5]⟩) else none)))) else none) else none)))
def schema_put : Nat → (Ow Int) → Int → S_api_Record → Option ((Ow Int))
  | 0, _, _, _ => none
  | q + 1, a0, a1, a2 => ((num_Put q a0 a1).bind fun r1 => (if a1 = 1 then ((num_Put q r1 a2.Index).bind fun r2 => (some r2)) else (if a1 = 2 then ((num_Put q r1 a2.Proc).bind fun r3 => (some r3)) else (if a1 = 3 then ((num_Put q r1 a2.Seq).bind fun r4 => (some r4)) else (if a1 = 4 then ((codec_PutOp q r1 a2.Op).bind fun r5 => (some r5.1)) else ((num_PutSigned q r1 a2.Resp).bind fun r6 => (some r6)))))))
def schema_Encode_l0 : Nat → Int → Int → Int → Int → Int → Int → Int → Int → Int → Bool → (List Int) → Bool → Bool → (List Int) → Bool → Option ((Ow Int) × Int)
  | 0, _, _, _, _, _, _, _, _, _, _, _, _, _, _, _ => none
  | q + 1, v22, v23, h0_0, h0_1, h0_2, h0_3, h0_4, h0_5, h0_6, h1z, h1l, h1x, h2z, h2l, h2x => (if v23 < v22 then (if 0 ≤ v23 then (if v23.toNat < h2l.length then ((h2l[v23.toNat]?).bind fun e4 => ((schema_put q ⟨h1z, h1x, h1l⟩ e4 (⟨h0_0, h0_1, h0_2, (⟨h0_3, h0_4, h0_5⟩ : S_api_Op), h0_6⟩ : S_api_Record)).bind fun r5 => (schema_Encode_l0 q v22 (wrp .i64 (v23 + 1)) h0_0 h0_1 h0_2 h0_3 h0_4 h0_5 h0_6 r5.n r5.xs r5.x h2z h2l h2x))) else none) else none) else (some (⟨h1z, h1x, h1l⟩, 0)))
def schema_Encode : Nat → Int → S_api_Record → Option ((Ow Int) × Int)
  | 0, _, _ => none
  | q + 1, a0, a1 => ((schema_fields q a0).bind fun r1 => (if r1.n = true then (some (⟨true, true, []⟩, 6)) else ((schema_Fits q a1).bind fun r2 => (if r2 = true then ((num_Put q ⟨true, true, []⟩ a0).bind fun r3 => (schema_Encode_l0 q (r1.xs.length : Int) 0 a1.Index a1.Proc a1.Seq a1.Op.Code a1.Op.A a1.Op.B a1.Resp r3.n r3.xs r3.x r1.n r1.xs r1.x)) else (some (⟨true, true, []⟩, 1))))))
def segment_data_l0 : Nat → Int → Bool → (List S_api_Record) → Int → Int → Bool → (List Int) → Bool → Option ((Ow Int))
  | 0, _, _, _, _, _, _, _, _ => none
  | q + 1, v0, v20z, v20l, v21, v22, h0z, h0l, h0x => (if v22 < v21 then (if 0 ≤ v22 then ((v20l[v22.toNat]?).bind fun e2 => ((schema_Encode q v0 e2).bind fun r3 => ((num_Put q ⟨h0z, h0x, h0l⟩ (r3.1.xs.length : Int)).bind fun r4 => (if (r4.xs.length + r3.1.xs.length) ≤ 4294967296 then (segment_data_l0 q v0 v20z v20l v21 (wrp .i64 (v22 + 1)) (r4.n && (decide (r3.1.xs.length = 0))) (r4.xs ++ r3.1.xs) r4.x) else none)))) else none) else (some ⟨h0z, h0x, h0l⟩))
def segment_data : Nat → Int → (Sl S_api_Record) → Option ((Ow Int))
  | 0, _, _ => none
  | q + 1, a0, a1 => (if a0 = 3 then ((block_Encode q a1).bind fun r1 => (some r1.1)) else (segment_data_l0 q a0 a1.z a1.l (a1.l.length : Int) 0 true [] true))
def segment_blocks_l0 : Nat → Int → Bool → (List S_api_Record) → Bool → (List (Sl Int)) → Option ((Ow (Sl Int)))
  | 0, _, _, _, _, _ => none
  | q + 1, v0, v1z, v1l, h0z, h0l => (if 0 < (v1l.length : Int) then (if 0 ≤ (if 16 < (v1l.length : Int) then 16 else (v1l.length : Int)) then (if (if 16 < (v1l.length : Int) then 16 else (v1l.length : Int)) ≤ (if 16 < (v1l.length : Int) then 16 else (v1l.length : Int)) then (if (if 16 < (v1l.length : Int) then 16 else (v1l.length : Int)).toNat ≤ v1l.length then ((segment_data q v0 ⟨v1z, (List.take ((if 16 < (v1l.length : Int) then 16 else (v1l.length : Int)).toNat) v1l)⟩).bind fun r1 => ((segment_framed q ⟨r1.n, r1.xs⟩).bind fun r2 => (if (h0l.length + 1) ≤ 4294967296 then (if (if 16 < (v1l.length : Int) then 16 else (v1l.length : Int)) ≤ (v1l.length : Int) then (segment_blocks_l0 q v0 v1z (List.drop ((if 16 < (v1l.length : Int) then 16 else (v1l.length : Int)).toNat) v1l) false (h0l ++ [⟨r2.n, r2.xs⟩])) else none) else none))) else none) else none) else none) else (some ⟨h0z, true, h0l⟩))
def segment_blocks : Nat → Int → (Sl S_api_Record) → Option ((Ow (Sl Int)))
  | 0, _, _ => none
  | q + 1, a0, a1 => (segment_blocks_l0 q a0 a1.z a1.l true [])
def segment_footer_l0 : Nat → Bool → (List (Sl Int)) → Int → Int → Bool → (List Int) → Bool → Option ((Ow Int))
  | 0, _, _, _, _, _, _, _ => none
  | q + 1, v14z, v14l, v15, v16, h0z, h0l, h0x => (if v16 < v15 then (if 0 ≤ v16 then ((v14l[v16.toNat]?).bind fun e2 => ((num_Put q ⟨h0z, h0x, h0l⟩ (e2.l.length : Int)).bind fun r3 => (segment_footer_l0 q v14z v14l v15 (wrp .i64 (v16 + 1)) r3.n r3.xs r3.x))) else none) else ((segment_framed q ⟨h0z, h0l⟩).bind fun r4 => (some r4)))
def segment_footer : Nat → (Sl (Sl Int)) → Option ((Ow Int))
  | 0, _ => none
  | q + 1, a0 => ((num_Put q ⟨true, true, []⟩ (wrp .i64 ((a0.l.length : Int) - 1))).bind fun r1 => (if 0 ≤ (wrp .i64 ((a0.l.length : Int) - 1)) then (if (wrp .i64 ((a0.l.length : Int) - 1)).toNat ≤ a0.l.length then (segment_footer_l0 q a0.z (List.take ((wrp .i64 ((a0.l.length : Int) - 1)).toNat) a0.l) (((min ((wrp .i64 ((a0.l.length : Int) - 1)).toNat) a0.l.length) : Nat) : Int) 0 r1.n r1.xs r1.x) else none) else none))
def segment_Encode : Nat → Int → S_api_Segment → Option ((Ow Int) × Int)
  | 0, _, _ => none
  | q + 1, a0, a1 => ((segment_Head q a0 a1.Kind a1.First).bind fun r1 => (if r1.2 = 0 then ((segment_fit q a1.Records a1.First).bind fun r2 => (if r2 = true then ((segment_blocks q a0 a1.Records).bind fun r3 => (if (1 + r3.xs.length) ≤ 4294967296 then ((slices_Concat_byte_byte q ⟨false, ([⟨r1.1.n, r1.1.xs⟩] ++ r3.xs)⟩).bind fun r4 => ((segment_footer q ⟨false, ([⟨r1.1.n, r1.1.xs⟩] ++ r3.xs)⟩).bind fun r5 => (if (r4.xs.length + r5.xs.length) ≤ 4294967296 then (some (⟨(r4.n && (decide (r5.xs.length = 0))), r4.x, (r4.xs ++ r5.xs)⟩, 0)) else none))) else none)) else (some (⟨true, true, []⟩, 1)))) else (some (⟨true, true, []⟩, r1.2))))
def ferrymanlaw08_awake : Nat → Option (Bool)
  | 0 => none
  | q + 1 => ((segment_Encode q 3 (⟨0, 0, ⟨true, []⟩⟩ : S_api_Segment)).bind fun r1 => (if r1.2 = 0 then (if (r1.1.xs.length : Int) = 15 then (if 5 ≤ r1.1.xs.length then (if r1.1.n = true then (if r1.1.xs = [4, 108, 3, 0, 0] then (if 11 ≤ r1.1.xs.length then (some (decide ((List.drop 9 r1.1.xs) = [1, 0]))) else none) else (some false)) else (if (List.take 5 r1.1.xs) = [4, 108, 3, 0, 0] then (if 11 ≤ r1.1.xs.length then (some (decide ((List.take 2 (List.drop 9 r1.1.xs)) = [1, 0]))) else none) else (some false))) else none) else (some false)) else (some false)))
def segment_Body : Nat → Int → (Sl S_api_Record) → Option ((Ow Int) × Int)
  | 0, _, _ => none
  | q + 1, a0, a1 => ((segment_known q a0).bind fun r1 => (if r1 = true then (if 0 < (a1.l.length : Int) then ((a1.l[0]?).bind fun e2 => ((segment_fit q a1 e2.Index).bind fun r3 => (if r3 = true then ((segment_blocks q a0 a1).bind fun r4 => ((slices_Concat_byte_byte q ⟨r4.n, r4.xs⟩).bind fun r5 => (some (r5, 0)))) else (some (⟨true, true, []⟩, 1))))) else ((segment_blocks q a0 a1).bind fun r6 => ((slices_Concat_byte_byte q ⟨r6.n, r6.xs⟩).bind fun r7 => (some (r7, 0))))) else (some (⟨true, true, []⟩, 6))))
def frame_open_1 : Nat → Int → Option (Bool)
  | 0, _ => none
  | q + 1, a0 => (some (decide (a0 < 128)))
def frame_open_s0_l0 : Nat → Bool → (List Int) → Int → Int → Option (Int)
  | 0, _, _, _, _ => none
  | q + 1, v0z, v0l, v7, v8 => (if v8 < v7 then (if 0 ≤ v8 then ((v0l[v8.toNat]?).bind fun e1 => ((frame_open_1 q e1).bind fun r2 => (if r2 = true then (some v8) else (frame_open_s0_l0 q v0z v0l v7 (wrp .i64 (v8 + 1)))))) else none) else (some (-1)))
def frame_open_s0 : Nat → Bool → (List Int) → Option (Int)
  | 0, _, _ => none
  | q + 1, v0z, v0l => (frame_open_s0_l0 q v0z v0l (v0l.length : Int) 0)
def frame_open : Nat → (Sl Int) → Option (Bool)
  | 0, _ => none
  | q + 1, a0 => (if (a0.l.length : Int) < 10 then ((frame_open_s0 q a0.z a0.l).bind fun r1 => (some (!(decide (0 ≤ r1))))) else (some false))
def num_read_l0 : Nat → Bool → (List Int) → Int → Int → Int → Option (Int × Int)
  | 0, _, _, _, _, _ => none
  | q + 1, v0z, v0l, v4, v9, v10 => (if v10 < v9 then (if 0 ≤ v10 then ((v0l[v10.toNat]?).bind fun e1 => (if (wrp .i64 (7 * v10)) < 0 then none else (if v10 = 9 then (if 1 < e1 then (some (0, 0)) else (if e1 = 0 then (if 0 < v10 then (some (0, 0)) else (if e1 < 128 then (some ((ibits .or .u64 v4 (ishl .u64 (wrp .u64 (ibits .and .u8 e1 127)) (wrp .i64 (7 * v10)))), (wrp .i64 (v10 + 1)))) else (num_read_l0 q v0z v0l (ibits .or .u64 v4 (ishl .u64 (wrp .u64 (ibits .and .u8 e1 127)) (wrp .i64 (7 * v10)))) v9 (wrp .i64 (v10 + 1))))) else (if e1 < 128 then (some ((ibits .or .u64 v4 (ishl .u64 (wrp .u64 (ibits .and .u8 e1 127)) (wrp .i64 (7 * v10)))), (wrp .i64 (v10 + 1)))) else (num_read_l0 q v0z v0l (ibits .or .u64 v4 (ishl .u64 (wrp .u64 (ibits .and .u8 e1 127)) (wrp .i64 (7 * v10)))) v9 (wrp .i64 (v10 + 1)))))) else (if e1 = 0 then (if 0 < v10 then (some (0, 0)) else (if e1 < 128 then (some ((ibits .or .u64 v4 (ishl .u64 (wrp .u64 (ibits .and .u8 e1 127)) (wrp .i64 (7 * v10)))), (wrp .i64 (v10 + 1)))) else (num_read_l0 q v0z v0l (ibits .or .u64 v4 (ishl .u64 (wrp .u64 (ibits .and .u8 e1 127)) (wrp .i64 (7 * v10)))) v9 (wrp .i64 (v10 + 1))))) else (if e1 < 128 then (some ((ibits .or .u64 v4 (ishl .u64 (wrp .u64 (ibits .and .u8 e1 127)) (wrp .i64 (7 * v10)))), (wrp .i64 (v10 + 1)))) else (num_read_l0 q v0z v0l (ibits .or .u64 v4 (ishl .u64 (wrp .u64 (ibits .and .u8 e1 127)) (wrp .i64 (7 * v10)))) v9 (wrp .i64 (v10 + 1)))))))) else none) else (some (0, 0)))
def num_read : Nat → (Sl Int) → Option (Int × Int)
  | 0, _ => none
  | q + 1, a0 => (num_read_l0 q a0.z a0.l 0 (if 10 < (a0.l.length : Int) then 10 else (a0.l.length : Int)) 0)
def num_Get : Nat → (Sl Int) → Option (Int × Int)
  | 0, _ => none
  | q + 1, a0 => ((num_read q a0).bind fun r1 => (if 4611686018427387904 ≤ r1.1 then (some (0, 0)) else (some ((wrp .i64 r1.1), r1.2))))
def slices_Equal_byte_byte_l0 : Nat → Bool → (List Int) → Bool → (List Int) → Int → Int → Option (Bool)
  | 0, _, _, _, _, _, _ => none
  | q + 1, v0z, v0l, v1z, v1l, v12, v13 => (if v13 < v12 then (if 0 ≤ v13 then ((v0l[v13.toNat]?).bind fun e1 => ((v1l[v13.toNat]?).bind fun e2 => (if e1 = e2 then (slices_Equal_byte_byte_l0 q v0z v0l v1z v1l v12 (wrp .i64 (v13 + 1))) else (some false)))) else none) else (some true))
def slices_Equal_byte_byte : Nat → (Sl Int) → (Sl Int) → Option (Bool)
  | 0, _, _ => none
  | q + 1, a0, a1 => (if (a0.l.length : Int) = (a1.l.length : Int) then (slices_Equal_byte_byte_l0 q a0.z a0.l a1.z a1.l (a0.l.length : Int) 0) else (some false))
def slices_Clone_byte_byte : Nat → (Sl Int) → Option ((Ow Int))
  | 0, _ => none
  | q + 1, a0 => (if a0.z = true then (some ⟨true, true, []⟩) else (if a0.l.length ≤ 4294967296 then (some ⟨false, true, a0.l⟩) else none))
def frame_Decode : Nat → (Sl Int) → Option ((Ow Int) × Int × Int)
  | 0, _ => none
  | q + 1, a0 => ((frame_open q a0).bind fun r1 => (if r1 = true then (some (⟨true, true, []⟩, 0, 2)) else ((num_Get q a0).bind fun r2 => (if r2.2 = 0 then (some (⟨true, true, []⟩, 0, 3)) else (if 1048576 < r2.1 then (some (⟨true, true, []⟩, 0, 5)) else (if (a0.l.length : Int) < (wrp .i64 ((wrp .i64 (r2.2 + 4)) + r2.1)) then (some (⟨true, true, []⟩, 0, 2)) else (if 0 ≤ r2.2 then (if r2.2 ≤ r2.2 then (if r2.2.toNat ≤ a0.l.length then (if 0 ≤ (wrp .i64 (r2.2 + r2.1)) then (if (wrp .i64 (r2.2 + r2.1)) ≤ (wrp .i64 (r2.2 + r2.1)) then (if (wrp .i64 (r2.2 + r2.1)).toNat ≤ a0.l.length then (if r2.2 ≤ (wrp .i64 (r2.2 + r2.1)) then (if (wrp .i64 (r2.2 + r2.1)) ≤ (wrp .i64 ((wrp .i64 (r2.2 + r2.1)) + 4)) then (if (wrp .i64 ((wrp .i64 (r2.2 + r2.1)) + 4)).toNat ≤ a0.l.length then ((frame_sum q ⟨a0.z, (List.take r2.2.toNat a0.l)⟩ ⟨a0.z, (List.drop r2.2.toNat (List.take ((wrp .i64 (r2.2 + r2.1)).toNat) a0.l))⟩).bind fun r3 => ((slices_Equal_byte_byte q ⟨a0.z, (List.drop ((wrp .i64 (r2.2 + r2.1)).toNat) (List.take ((wrp .i64 ((wrp .i64 (r2.2 + r2.1)) + 4)).toNat) a0.l))⟩ ⟨r3.n, r3.xs⟩).bind fun r4 => (if r4 = true then ((slices_Clone_byte_byte q ⟨a0.z, (List.drop r2.2.toNat (List.take ((wrp .i64 (r2.2 + r2.1)).toNat) a0.l))⟩).bind fun r5 => (some (r5, (wrp .i64 ((wrp .i64 (r2.2 + r2.1)) + 4)), 0))) else (some (⟨true, true, []⟩, 0, 4))))) else none) else none) else none) else none) else none) else none) else none) else none) else none)))))))
def frame_walk_l0 : Nat → Bool → (List Int) → Int → Bool → (List (Sl Int)) → Option ((Ow (Sl Int)) × Int × Int)
  | 0, _, _, _, _, _ => none
  | q + 1, v0z, v0l, v3, h0z, h0l => (if v3 < (v0l.length : Int) then (if 0 ≤ v3 then (if v3 ≤ (v0l.length : Int) then ((frame_Decode q ⟨v0z, (List.drop v3.toNat v0l)⟩).bind fun r1 => (if r1.2.2 = 0 then (if (h0l.length + 1) ≤ 4294967296 then (frame_walk_l0 q v0z v0l (wrp .i64 (v3 + r1.2.1)) false (h0l ++ [⟨r1.1.n, r1.1.xs⟩])) else none) else (some (⟨h0z, true, h0l⟩, v3, r1.2.2)))) else none) else none) else (some (⟨h0z, true, h0l⟩, v3, 0)))
def frame_walk : Nat → (Sl Int) → Option ((Ow (Sl Int)) × Int × Int)
  | 0, _ => none
  | q + 1, a0 => (frame_walk_l0 q a0.z a0.l 0 true [])
def frame_Whole : Nat → (Sl Int) → Option ((Ow (Sl Int)) × Int)
  | 0, _ => none
  | q + 1, a0 => ((frame_walk q a0).bind fun r1 => (some (r1.1, r1.2.1)))
def num_Zag : Nat → Int → Option (Int)
  | 0, _ => none
  | q + 1, a0 => (some (ibits .xor .i64 (wrp .i64 (ishr .u64 a0 1)) (wrp .i64 (0 - (wrp .i64 (ibits .and .u64 a0 1))))))
def num_GetSigned : Nat → (Sl Int) → Option (Int × Int)
  | 0, _ => none
  | q + 1, a0 => ((num_read q a0).bind fun r1 => (if r1.2 = 0 then (some (0, 0)) else ((num_Zag q r1.1).bind fun r2 => (some (r2, r1.2)))))
def codec_GetOp : Nat → (Sl Int) → Option (S_api_Op × Int)
  | 0, _ => none
  | q + 1, a0 => ((num_Get q a0).bind fun r1 => (if 0 ≤ r1.2 then (if r1.2 ≤ (a0.l.length : Int) then ((num_GetSigned q ⟨a0.z, (List.drop r1.2.toNat a0.l)⟩).bind fun r2 => (if 0 < r1.2 then (if 0 ≤ r2.2 then (if r2.2 ≤ (((a0.l.length - r1.2.toNat) : Nat) : Int) then ((num_GetSigned q ⟨a0.z, (List.drop r2.2.toNat (List.drop r1.2.toNat a0.l))⟩).bind fun r3 => (if 0 < r2.2 then (if 0 ≤ r3.2 then (if r3.2 ≤ ((((a0.l.length - r1.2.toNat) - r2.2.toNat) : Nat) : Int) then (if 0 < r3.2 then ((objs_Fits q (⟨r1.1, r2.1, r3.1⟩ : S_api_Op)).bind fun r4 => (if r4 = true then (some ((⟨r1.1, r2.1, r3.1⟩ : S_api_Op), (wrp .i64 ((a0.l.length : Int) - (((((a0.l.length - r1.2.toNat) - r2.2.toNat) - r3.2.toNat) : Nat) : Int))))) else (some ((⟨0, 0, 0⟩ : S_api_Op), 0)))) else (some ((⟨0, 0, 0⟩ : S_api_Op), 0))) else none) else none) else (if 0 ≤ r3.2 then (if r3.2 ≤ ((((a0.l.length - r1.2.toNat) - r2.2.toNat) : Nat) : Int) then (some ((⟨0, 0, 0⟩ : S_api_Op), 0)) else none) else none))) else none) else none) else (if 0 ≤ r2.2 then (if r2.2 ≤ (((a0.l.length - r1.2.toNat) : Nat) : Int) then ((num_GetSigned q ⟨a0.z, (List.drop r2.2.toNat (List.drop r1.2.toNat a0.l))⟩).bind fun r5 => (if 0 ≤ r5.2 then (if r5.2 ≤ ((((a0.l.length - r1.2.toNat) - r2.2.toNat) : Nat) : Int) then (some ((⟨0, 0, 0⟩ : S_api_Op), 0)) else none) else none)) else none) else none))) else none) else none))
def block_record_l0 : Nat → Int → Int → Int → Int → Int → Int → Int → Int → Int → Int → Int → Int → Option (S_api_Record × Int)
  | 0, _, _, _, _, _, _, _, _, _, _, _, _ => none
  | q + 1, v3, v47_0, v47_1, v47_2, v47_3, v48, h0_1, h0_2, h0_3, h0_4, h0_5, h0_6 => (if v48 < 4 then (if 0 ≤ v48 then (if v48.toNat < 4 then (if v48.toNat = 0 then (if v47_0 = 0 then (some ((⟨0, 0, 0, (⟨0, 0, 0⟩ : S_api_Op), 0⟩ : S_api_Record), 0)) else (block_record_l0 q (wrp .i64 (v3 + v47_0)) v47_0 v47_1 v47_2 v47_3 (wrp .i64 (v48 + 1)) h0_1 h0_2 h0_3 h0_4 h0_5 h0_6)) else (if v48.toNat = 1 then (if v47_1 = 0 then (some ((⟨0, 0, 0, (⟨0, 0, 0⟩ : S_api_Op), 0⟩ : S_api_Record), 0)) else (block_record_l0 q (wrp .i64 (v3 + v47_1)) v47_0 v47_1 v47_2 v47_3 (wrp .i64 (v48 + 1)) h0_1 h0_2 h0_3 h0_4 h0_5 h0_6)) else (if v48.toNat = 2 then (if v47_2 = 0 then (some ((⟨0, 0, 0, (⟨0, 0, 0⟩ : S_api_Op), 0⟩ : S_api_Record), 0)) else (block_record_l0 q (wrp .i64 (v3 + v47_2)) v47_0 v47_1 v47_2 v47_3 (wrp .i64 (v48 + 1)) h0_1 h0_2 h0_3 h0_4 h0_5 h0_6)) else (if v48.toNat = 3 then (if v47_3 = 0 then (some ((⟨0, 0, 0, (⟨0, 0, 0⟩ : S_api_Op), 0⟩ : S_api_Record), 0)) else (block_record_l0 q (wrp .i64 (v3 + v47_3)) v47_0 v47_1 v47_2 v47_3 (wrp .i64 (v48 + 1)) h0_1 h0_2 h0_3 h0_4 h0_5 h0_6)) else none)))) else none) else none) else (some ((⟨0, h0_1, h0_2, (⟨h0_3, h0_4, h0_5⟩ : S_api_Op), h0_6⟩ : S_api_Record), v3)))
def block_record : Nat → (Sl Int) → Option (S_api_Record × Int)
  | 0, _ => none
  | q + 1, a0 => ((num_Get q a0).bind fun r1 => (if 0 ≤ r1.2 then (if r1.2 ≤ (a0.l.length : Int) then ((num_GetSigned q ⟨a0.z, (List.drop r1.2.toNat a0.l)⟩).bind fun r2 => (if 0 ≤ r2.2 then (if r2.2 ≤ (((a0.l.length - r1.2.toNat) : Nat) : Int) then ((codec_GetOp q ⟨a0.z, (List.drop r2.2.toNat (List.drop r1.2.toNat a0.l))⟩).bind fun r3 => (if 0 ≤ r3.2 then (if r3.2 ≤ ((((a0.l.length - r1.2.toNat) - r2.2.toNat) : Nat) : Int) then ((num_GetSigned q ⟨a0.z, (List.drop r3.2.toNat (List.drop r2.2.toNat (List.drop r1.2.toNat a0.l)))⟩).bind fun r4 => (block_record_l0 q 0 r1.2 r2.2 r3.2 r4.2 0 r1.1 r2.1 r3.1.Code r3.1.A r3.1.B r4.1)) else none) else none)) else none) else none)) else none) else none))
def bytes_Equal : Nat → (Sl Int) → (Sl Int) → Option (Bool)
  | 0, _, _ => none
  | q + 1, a0, a1 => (some (decide (a0.l = a1.l)))
def block_Decode_l0 : Nat → Bool → (List Int) → Int → Bool → (List Int) → Int → Int → (List (Int × Int)) → Bool → (List S_api_Record) → Option ((Ow S_api_Record) × Int)
  | 0, _, _, _, _, _, _, _, _, _, _ => none
  | q + 1, v0z, v0l, v4, v10z, v10l, v44, v45, h0m, h1z, h1l => (if v45 < v44 then ((block_record q ⟨v10z, v10l⟩).bind fun r3 => (if r3.2 = 0 then (some (⟨true, true, []⟩, 3)) else (if (h1l.length + 1) ≤ 4294967296 then (if 0 ≤ r3.2 then (if r3.2 ≤ (v10l.length : Int) then (block_Decode_l0 q v0z v0l v4 v10z (List.drop r3.2.toNat v10l) v44 (wrp .i64 (v45 + 1)) (mset h0m r3.1.Proc (wrp .i64 (r3.1.Seq + (mget h0m r3.1.Proc)))) false (h1l ++ [(⟨(wrp .i64 (v4 + v45)), r3.1.Proc, (wrp .i64 (r3.1.Seq + (mget h0m r3.1.Proc))), r3.1.Op, r3.1.Resp⟩ : S_api_Record)])) else none) else none) else none))) else ((block_Encode q ⟨h1z, h1l⟩).bind fun r4 => (if r4.2 = 0 then ((bytes_Equal q ⟨r4.1.n, r4.1.xs⟩ ⟨v0z, v0l⟩).bind fun r5 => (if r5 = true then (some (⟨h1z, false, h1l⟩, 0)) else (some (⟨true, true, []⟩, 3)))) else (some (⟨true, true, []⟩, 3)))))
def block_Decode : Nat → (Sl Int) → Option ((Ow S_api_Record) × Int)
  | 0, _ => none
  | q + 1, a0 => ((num_Get q a0).bind fun r1 => (if 0 ≤ r1.2 then (if r1.2 ≤ (a0.l.length : Int) then ((num_Get q ⟨a0.z, (List.drop r1.2.toNat a0.l)⟩).bind fun r2 => (if r1.2 = 0 then (some (⟨true, true, []⟩, 3)) else (if r2.2 = 0 then (some (⟨true, true, []⟩, 3)) else (if 256 < r2.1 then (some (⟨true, true, []⟩, 3)) else (if 0 ≤ (wrp .i64 (r1.2 + r2.2)) then (if (wrp .i64 (r1.2 + r2.2)) ≤ (a0.l.length : Int) then (block_Decode_l0 q a0.z a0.l r1.1 a0.z (List.drop ((wrp .i64 (r1.2 + r2.2)).toNat) a0.l) r2.1 0 [] true []) else none) else none))))) else none) else none))
def slices_Clone_int_int : Nat → (Sl Int) → Option ((Ow Int))
  | 0, _ => none
  | q + 1, a0 => (if a0.z = true then (some ⟨true, true, []⟩) else (if a0.l.length ≤ 4294967296 then (some ⟨false, true, a0.l⟩) else none))
def slices_Index_int_int_l0 : Nat → Bool → (List Int) → Int → Int → Int → Option (Int)
  | 0, _, _, _, _, _ => none
  | q + 1, v0z, v0l, v1, v7, v8 => (if v8 < v7 then (if 0 ≤ v8 then ((v0l[v8.toNat]?).bind fun e1 => (if v1 = e1 then (some v8) else (slices_Index_int_int_l0 q v0z v0l v1 v7 (wrp .i64 (v8 + 1))))) else none) else (some (-1)))
def slices_Index_int_int : Nat → (Sl Int) → Int → Option (Int)
  | 0, _, _ => none
  | q + 1, a0, a1 => (slices_Index_int_int_l0 q a0.z a0.l a1 (a0.l.length : Int) 0)
def slices_Delete_int_int : Nat → (Ow Int) → Int → Int → Option ((Ow Int))
  | 0, _, _, _ => none
  | q + 1, a0, a1, a2 => (if 0 ≤ a1 then (if a1 ≤ a2 then (if a2 ≤ (a0.xs.length : Int) then (if a1 = a2 then (some a0) else (if a1.toNat ≤ a0.xs.length then (if a0.n = true then (if 0 ≤ a2 then (if a2.toNat ≤ a0.xs.length then (if (a0.xs.length + (a0.xs.length - a2.toNat)) ≤ 4294967296 then (if (((a0.xs.length + (a0.xs.length - a2.toNat)) : Nat) : Int) ≤ (a0.xs.length : Int) then (if a0.xs.length ≤ (a0.xs.length + (a0.xs.length - a2.toNat)) then (if (a0.xs.length - a2.toNat) = 0 then none else (if a0.x = true then (some ⟨(a0.n && (decide ((a0.xs.length - a2.toNat) = 0))), true, (((List.take (a0.xs.length + (a0.xs.length - a2.toNat)) (a0.xs ++ (List.drop a2.toNat a0.xs))) ++ (List.replicate (a0.xs.length - (a0.xs.length + (a0.xs.length - a2.toNat))) 0)) ++ (List.drop ((a0.xs.length + (a0.xs.length - a2.toNat)) + (a0.xs.length - (a0.xs.length + (a0.xs.length - a2.toNat)))) (a0.xs ++ (List.drop a2.toNat a0.xs))))⟩) else none)) else none) else none) else none) else none) else none) else (if 0 ≤ a2 then (if a2.toNat ≤ a0.xs.length then (if (a1.toNat + (a0.xs.length - a2.toNat)) ≤ a0.xs.length then (if a0.x = true then (if (((a1.toNat + (a0.xs.length - a2.toNat)) : Nat) : Int) ≤ (a0.xs.length : Int) then (if a0.xs.length ≤ (((min a1.toNat a0.xs.length) + (a0.xs.length - a2.toNat)) + (a0.xs.length - (a1.toNat + (a0.xs.length - a2.toNat)))) then (some ⟨a0.n, true, (List.take (a1.toNat + (a0.xs.length - a2.toNat)) (((List.take (a1.toNat + (a0.xs.length - a2.toNat)) (((List.take a1.toNat a0.xs) ++ (List.drop a2.toNat a0.xs)) ++ (List.drop (a1.toNat + (a0.xs.length - a2.toNat)) a0.xs))) ++ (List.replicate (a0.xs.length - (a1.toNat + (a0.xs.length - a2.toNat))) 0)) ++ (List.drop ((a1.toNat + (a0.xs.length - a2.toNat)) + (a0.xs.length - (a1.toNat + (a0.xs.length - a2.toNat)))) (((List.take a1.toNat a0.xs) ++ (List.drop a2.toNat a0.xs)) ++ (List.drop (a1.toNat + (a0.xs.length - a2.toNat)) a0.xs)))))⟩) else none) else none) else none) else none) else none) else none)) else none)) else none) else none) else none)
def schema_pass : Nat → (Sl Int) → Option (Int)
  | 0, _ => none
  | q + 1, a0 => ((num_Get q a0).bind fun r1 => (if r1.2 = 0 then (some 0) else (if (wrp .i64 ((a0.l.length : Int) - r1.2)) < r1.1 then (some 0) else (some (wrp .i64 (r1.2 + r1.1))))))
def schema_read_l0 : Nat → Int → Bool → (List Int) → Int → Int → Int → Int → Int → Int → Int → Int → Bool → (List Int) → Bool → Option (S_api_Record × Int)
  | 0, _, _, _, _, _, _, _, _, _, _, _, _, _, _ => none
  | q + 1, v0, v1z, v1l, v7, h0_0, h0_1, h0_2, h0_3, h0_4, h0_5, h0_6, h1z, h1l, h1x => (if 0 < (v1l.length : Int) then ((num_Get q ⟨v1z, v1l⟩).bind fun r3 => (if r3.2 = 0 then (some ((⟨h0_0, h0_1, h0_2, (⟨h0_3, h0_4, h0_5⟩ : S_api_Op), h0_6⟩ : S_api_Record), 3)) else (if r3.1 ≤ v7 then (some ((⟨h0_0, h0_1, h0_2, (⟨h0_3, h0_4, h0_5⟩ : S_api_Op), h0_6⟩ : S_api_Record), 3)) else (if 0 ≤ r3.2 then (if r3.2 ≤ (v1l.length : Int) then ((slices_Index_int_int q ⟨h1z, h1l⟩ r3.1).bind fun r4 => (if 0 ≤ r4 then ((slices_Delete_int_int q ⟨h1z, h1x, h1l⟩ r4 (wrp .i64 (r4 + 1))).bind fun r5 => (if r3.1 = 1 then ((num_Get q ⟨v1z, (List.drop r3.2.toNat v1l)⟩).bind fun r6 => (if r6.2 = 0 then (some ((⟨r6.1, h0_1, h0_2, (⟨h0_3, h0_4, h0_5⟩ : S_api_Op), h0_6⟩ : S_api_Record), 3)) else (if 0 ≤ r6.2 then (if r6.2 ≤ (((v1l.length - r3.2.toNat) : Nat) : Int) then (schema_read_l0 q v0 v1z (List.drop r6.2.toNat (List.drop r3.2.toNat v1l)) r3.1 r6.1 h0_1 h0_2 h0_3 h0_4 h0_5 h0_6 r5.n r5.xs r5.x) else none) else none))) else (if r3.1 = 2 then ((num_Get q ⟨v1z, (List.drop r3.2.toNat v1l)⟩).bind fun r7 => (if r7.2 = 0 then (some ((⟨h0_0, r7.1, h0_2, (⟨h0_3, h0_4, h0_5⟩ : S_api_Op), h0_6⟩ : S_api_Record), 3)) else (if 0 ≤ r7.2 then (if r7.2 ≤ (((v1l.length - r3.2.toNat) : Nat) : Int) then (schema_read_l0 q v0 v1z (List.drop r7.2.toNat (List.drop r3.2.toNat v1l)) r3.1 h0_0 r7.1 h0_2 h0_3 h0_4 h0_5 h0_6 r5.n r5.xs r5.x) else none) else none))) else (if r3.1 = 3 then ((num_Get q ⟨v1z, (List.drop r3.2.toNat v1l)⟩).bind fun r8 => (if r8.2 = 0 then (some ((⟨h0_0, h0_1, r8.1, (⟨h0_3, h0_4, h0_5⟩ : S_api_Op), h0_6⟩ : S_api_Record), 3)) else (if 0 ≤ r8.2 then (if r8.2 ≤ (((v1l.length - r3.2.toNat) : Nat) : Int) then (schema_read_l0 q v0 v1z (List.drop r8.2.toNat (List.drop r3.2.toNat v1l)) r3.1 h0_0 h0_1 r8.1 h0_3 h0_4 h0_5 h0_6 r5.n r5.xs r5.x) else none) else none))) else (if r3.1 = 4 then ((codec_GetOp q ⟨v1z, (List.drop r3.2.toNat v1l)⟩).bind fun r9 => (if r9.2 = 0 then (some ((⟨h0_0, h0_1, h0_2, r9.1, h0_6⟩ : S_api_Record), 3)) else (if 0 ≤ r9.2 then (if r9.2 ≤ (((v1l.length - r3.2.toNat) : Nat) : Int) then (schema_read_l0 q v0 v1z (List.drop r9.2.toNat (List.drop r3.2.toNat v1l)) r3.1 h0_0 h0_1 h0_2 r9.1.Code r9.1.A r9.1.B h0_6 r5.n r5.xs r5.x) else none) else none))) else (if r3.1 = 5 then ((num_GetSigned q ⟨v1z, (List.drop r3.2.toNat v1l)⟩).bind fun r10 => (if r10.2 = 0 then (some ((⟨h0_0, h0_1, h0_2, (⟨h0_3, h0_4, h0_5⟩ : S_api_Op), r10.1⟩ : S_api_Record), 3)) else (if 0 ≤ r10.2 then (if r10.2 ≤ (((v1l.length - r3.2.toNat) : Nat) : Int) then (schema_read_l0 q v0 v1z (List.drop r10.2.toNat (List.drop r3.2.toNat v1l)) r3.1 h0_0 h0_1 h0_2 h0_3 h0_4 h0_5 r10.1 r5.n r5.xs r5.x) else none) else none))) else (some ((⟨h0_0, h0_1, h0_2, (⟨h0_3, h0_4, h0_5⟩ : S_api_Op), h0_6⟩ : S_api_Record), 3)))))))) else (if r3.1 < 16 then (some ((⟨h0_0, h0_1, h0_2, (⟨h0_3, h0_4, h0_5⟩ : S_api_Op), h0_6⟩ : S_api_Record), 7)) else (if v0 = 3 then (some ((⟨h0_0, h0_1, h0_2, (⟨h0_3, h0_4, h0_5⟩ : S_api_Op), h0_6⟩ : S_api_Record), 7)) else ((schema_pass q ⟨v1z, (List.drop r3.2.toNat v1l)⟩).bind fun r11 => (if r11 = 0 then (some ((⟨h0_0, h0_1, h0_2, (⟨h0_3, h0_4, h0_5⟩ : S_api_Op), h0_6⟩ : S_api_Record), 3)) else (if 0 ≤ r11 then (if r11 ≤ (((v1l.length - r3.2.toNat) : Nat) : Int) then (schema_read_l0 q v0 v1z (List.drop r11.toNat (List.drop r3.2.toNat v1l)) r3.1 h0_0 h0_1 h0_2 h0_3 h0_4 h0_5 h0_6 h1z h1l h1x) else none) else none))))))) else none) else none)))) else (if 0 < (h1l.length : Int) then (some ((⟨h0_0, h0_1, h0_2, (⟨h0_3, h0_4, h0_5⟩ : S_api_Op), h0_6⟩ : S_api_Record), 7)) else ((schema_Fits q (⟨h0_0, h0_1, h0_2, (⟨h0_3, h0_4, h0_5⟩ : S_api_Op), h0_6⟩ : S_api_Record)).bind fun r12 => (if r12 = true then (some ((⟨h0_0, h0_1, h0_2, (⟨h0_3, h0_4, h0_5⟩ : S_api_Op), h0_6⟩ : S_api_Record), 0)) else (some ((⟨h0_0, h0_1, h0_2, (⟨h0_3, h0_4, h0_5⟩ : S_api_Op), h0_6⟩ : S_api_Record), 1))))))
def schema_read : Nat → Int → (Sl Int) → Option (S_api_Record × Int)
  | 0, _, _ => none
  | q + 1, a0, a1 => ((schema_fields q a0).bind fun r1 => ((slices_Clone_int_int q ⟨r1.n, r1.xs⟩).bind fun r2 => (schema_read_l0 q a0 a1.z a1.l (-1) 0 0 0 0 0 0 0 r2.n r2.xs r2.x)))
def schema_Decode : Nat → (Sl Int) → Option (S_api_Record × Int)
  | 0, _ => none
  | q + 1, a0 => (if (a0.l.length : Int) = 0 then (some ((⟨0, 0, 0, (⟨0, 0, 0⟩ : S_api_Op), 0⟩ : S_api_Record), 2)) else ((num_Get q a0).bind fun r1 => (if r1.2 = 0 then (some ((⟨0, 0, 0, (⟨0, 0, 0⟩ : S_api_Op), 0⟩ : S_api_Record), 3)) else ((schema_fields q r1.1).bind fun r2 => (if r2.n = true then (some ((⟨0, 0, 0, (⟨0, 0, 0⟩ : S_api_Op), 0⟩ : S_api_Record), 6)) else (if 0 ≤ r1.2 then (if r1.2 ≤ (a0.l.length : Int) then ((schema_read q r1.1 ⟨a0.z, (List.drop r1.2.toNat a0.l)⟩).bind fun r3 => (if r3.2 = 0 then (some (r3.1, 0)) else (some ((⟨0, 0, 0, (⟨0, 0, 0⟩ : S_api_Op), 0⟩ : S_api_Record), r3.2)))) else none) else none))))))
def segment_elder_l0 : Nat → Int → Bool → (List Int) → Bool → (List S_api_Record) → Option ((Ow S_api_Record) × Bool)
  | 0, _, _, _, _, _ => none
  | q + 1, v0, v1z, v1l, h0z, h0l => (if 0 < (v1l.length : Int) then ((num_Get q ⟨v1z, v1l⟩).bind fun r1 => (if r1.2 = 0 then (some (⟨true, true, []⟩, false)) else (if r1.1 = 0 then (some (⟨true, true, []⟩, false)) else (if (wrp .i64 ((v1l.length : Int) - r1.2)) < r1.1 then (some (⟨true, true, []⟩, false)) else (if 0 ≤ r1.2 then ((v1l[r1.2.toNat]?).bind fun e2 => (if e2 = (wrp .u8 v0) then (if r1.2 ≤ (wrp .i64 (r1.2 + r1.1)) then (if (wrp .i64 (r1.2 + r1.1)).toNat ≤ v1l.length then ((schema_Decode q ⟨v1z, (List.drop r1.2.toNat (List.take ((wrp .i64 (r1.2 + r1.1)).toNat) v1l))⟩).bind fun r3 => (if r3.2 = 0 then (if (h0l.length + 1) ≤ 4294967296 then (if 0 ≤ (wrp .i64 (r1.2 + r1.1)) then (if (wrp .i64 (r1.2 + r1.1)) ≤ (v1l.length : Int) then (segment_elder_l0 q v0 v1z (List.drop ((wrp .i64 (r1.2 + r1.1)).toNat) v1l) false (h0l ++ [r3.1])) else none) else none) else none) else (some (⟨true, true, []⟩, false)))) else none) else none) else (some (⟨true, true, []⟩, false)))) else none))))) else (some (⟨h0z, true, h0l⟩, true)))
def segment_elder : Nat → Int → (Sl Int) → Option ((Ow S_api_Record) × Bool)
  | 0, _, _ => none
  | q + 1, a0, a1 => (segment_elder_l0 q a0 a1.z a1.l true [])
def frame_Size : Nat → Int → Option (Int)
  | 0, _ => none
  | q + 1, a0 => (if a0 < 0 then (some 0) else (if 1048576 < a0 then (some 0) else ((num_Put q ⟨true, true, []⟩ a0).bind fun r1 => (some (wrp .i64 ((wrp .i64 ((r1.xs.length : Int) + 4)) + a0))))))
def segment_Recover_s0_s0_l0 : Nat → Bool → (List Int) → Int → Bool → (List (Sl Int)) → Bool → Int → Int → Int → Option (Int × Int × Int × Int × Bool)
  | 0, _, _, _, _, _, _, _, _, _ => none
  | q + 1, v1z, v1l, v19, h1z, h1l, h1x, h3_0, h3_1, h3_2 => (if v19 < 3 then ((num_Get q ⟨v1z, v1l⟩).bind fun r2 => (if 0 ≤ v19 then (if v19.toNat < 3 then (if v19.toNat = 0 then (if r2.2 = 0 then (some (3, 0, 0, 0, false)) else (if 0 ≤ r2.2 then (if r2.2 ≤ (v1l.length : Int) then (segment_Recover_s0_s0_l0 q v1z (List.drop r2.2.toNat v1l) (wrp .i64 (v19 + 1)) h1z h1l h1x r2.1 h3_1 h3_2) else none) else none)) else (if v19.toNat = 1 then (if r2.2 = 0 then (some (3, 0, 0, 0, false)) else (if 0 ≤ r2.2 then (if r2.2 ≤ (v1l.length : Int) then (segment_Recover_s0_s0_l0 q v1z (List.drop r2.2.toNat v1l) (wrp .i64 (v19 + 1)) h1z h1l h1x h3_0 r2.1 h3_2) else none) else none)) else (if v19.toNat = 2 then (if r2.2 = 0 then (some (3, 0, 0, 0, false)) else (if 0 ≤ r2.2 then (if r2.2 ≤ (v1l.length : Int) then (segment_Recover_s0_s0_l0 q v1z (List.drop r2.2.toNat v1l) (wrp .i64 (v19 + 1)) h1z h1l h1x h3_0 h3_1 r2.1) else none) else none)) else none))) else none) else none)) else (if 0 < (v1l.length : Int) then (some (3, 0, 0, 0, false)) else ((segment_known q h3_0).bind fun r3 => (if r3 = true then (if 6 ≤ h3_1 then (some (1, 0, 0, 0, false)) else (some (0, h3_0, h3_1, h3_2, true))) else (some (6, 0, 0, 0, false))))))
def segment_Recover_s0_s0 : Nat → Bool → (List Int) → Bool → (List (Sl Int)) → Bool → Option (Int × Int × Int × Int × Bool)
  | 0, _, _, _, _, _ => none
  | q + 1, v1z, v1l, h1z, h1l, h1x => (if (v1l.length : Int) = 0 then (some (3, 0, 0, 0, false)) else ((v1l[0]?).bind fun e1 => (if e1 = 108 then (if 1 ≤ (v1l.length : Int) then (segment_Recover_s0_s0_l0 q v1z (List.drop 1 v1l) 0 h1z h1l h1x 0 0 0) else none) else (some (3, 0, 0, 0, false)))))
def segment_Recover_s0_l1 : Nat → Nat → Int → Int → Bool → (List (Sl Int)) → Bool → Int → Int → Int → Bool → Bool → (List S_api_Record) → Option (Nat × Int × Int × Int × Int × Int × Bool × Int × Int × Int × Int × Int × Nat × Bool × Bool × (List S_api_Record))
  | 0, _, _, _, _, _, _, _, _, _, _, _, _ => none
  | q + 1, v19len, v20, v21, h1z, h1l, h1x, h2_0, h2_1, h2_2, h2_4, h3z, h3l => (if v21 < v20 then (if 0 ≤ v21 then (if v21.toNat < v19len then ((h1l[(1 + v21.toNat)]?).bind fun e8 => (if h2_0 = 3 then ((block_Decode q e8).bind fun r9 => (if r9.2 = 0 then (if h2_4 = true then (if (r9.1.xs.length : Int) = 0 then (some (1, 0, 0, 0, 0, 0, false, (wrp .i64 (v21 + 1)), 3, h2_0, h2_1, h2_2, h3l.length, h2_4, h3z, h3l)) else (if 16 < (r9.1.xs.length : Int) then (some (1, 0, 0, 0, 0, 0, false, (wrp .i64 (v21 + 1)), 3, h2_0, h2_1, h2_2, h3l.length, h2_4, h3z, h3l)) else ((segment_fit q ⟨r9.1.n, r9.1.xs⟩ (wrp .i64 (h2_2 + (h3l.length : Int)))).bind fun r10 => (if r10 = true then (if 4096 < (wrp .i64 ((h3l.length : Int) + (r9.1.xs.length : Int))) then (some (1, 0, 0, 0, 0, 0, false, (wrp .i64 (v21 + 1)), 5, h2_0, h2_1, h2_2, h3l.length, h2_4, h3z, h3l)) else (if (h3l.length + r9.1.xs.length) ≤ 4294967296 then (segment_Recover_s0_l1 q v19len v20 (wrp .i64 (v21 + 1)) h1z h1l h1x h2_0 h2_1 h2_2 (decide ((r9.1.xs.length : Int) = 16)) (h3z && (decide (r9.1.xs.length = 0))) (h3l ++ r9.1.xs)) else none)) else (some (1, 0, 0, 0, 0, 0, false, (wrp .i64 (v21 + 1)), 3, h2_0, h2_1, h2_2, h3l.length, h2_4, h3z, h3l)))))) else (some (1, 0, 0, 0, 0, 0, false, (wrp .i64 (v21 + 1)), 3, h2_0, h2_1, h2_2, h3l.length, h2_4, h3z, h3l))) else (some (1, 0, 0, 0, 0, 0, false, (wrp .i64 (v21 + 1)), 3, h2_0, h2_1, h2_2, h3l.length, h2_4, h3z, h3l)))) else ((segment_elder q h2_0 e8).bind fun r11 => (if r11.2 = true then (if h2_4 = true then (if (r11.1.xs.length : Int) = 0 then (some (1, 0, 0, 0, 0, 0, false, (wrp .i64 (v21 + 1)), 3, h2_0, h2_1, h2_2, h3l.length, h2_4, h3z, h3l)) else (if 16 < (r11.1.xs.length : Int) then (some (1, 0, 0, 0, 0, 0, false, (wrp .i64 (v21 + 1)), 3, h2_0, h2_1, h2_2, h3l.length, h2_4, h3z, h3l)) else ((segment_fit q ⟨r11.1.n, r11.1.xs⟩ (wrp .i64 (h2_2 + (h3l.length : Int)))).bind fun r12 => (if r12 = true then (if 4096 < (wrp .i64 ((h3l.length : Int) + (r11.1.xs.length : Int))) then (some (1, 0, 0, 0, 0, 0, false, (wrp .i64 (v21 + 1)), 5, h2_0, h2_1, h2_2, h3l.length, h2_4, h3z, h3l)) else (if (h3l.length + r11.1.xs.length) ≤ 4294967296 then (segment_Recover_s0_l1 q v19len v20 (wrp .i64 (v21 + 1)) h1z h1l h1x h2_0 h2_1 h2_2 (decide ((r11.1.xs.length : Int) = 16)) (h3z && (decide (r11.1.xs.length = 0))) (h3l ++ r11.1.xs)) else none)) else (some (1, 0, 0, 0, 0, 0, false, (wrp .i64 (v21 + 1)), 3, h2_0, h2_1, h2_2, h3l.length, h2_4, h3z, h3l)))))) else (some (1, 0, 0, 0, 0, 0, false, (wrp .i64 (v21 + 1)), 3, h2_0, h2_1, h2_2, h3l.length, h2_4, h3z, h3l))) else (some (1, 0, 0, 0, 0, 0, false, (wrp .i64 (v21 + 1)), 3, h2_0, h2_1, h2_2, h3l.length, h2_4, h3z, h3l)))))) else none) else none) else (some (1, 0, 0, 0, 0, 0, false, (h1l.length : Int), 0, h2_0, h2_1, h2_2, h3l.length, h2_4, h3z, h3l)))
def segment_Recover_s0_l0 : Nat → Nat → Int → Bool → (List (Sl Int)) → Bool → Int → Int → Int → Bool → Option (Nat × Int × Int × Int × Int × Int × Bool × Int × Int × Int × Int × Int × Nat × Bool × Bool × (List S_api_Record))
  | 0, _, _, _, _, _, _, _, _, _ => none
  | q + 1, v19len, v20, h1z, h1l, h1x, h2_0, h2_1, h2_2, h2_4 => (if 0 < v20 then (if 0 < v19len then ((h1l[1]?).bind fun e3 => (if h2_0 = 3 then ((block_Decode q e3).bind fun r4 => (if r4.2 = 0 then (if h2_4 = true then (if (r4.1.xs.length : Int) = 0 then (some (0, (wrp .i64 1), 3, h2_0, h2_1, h2_2, h2_4, 0, 0, 0, 0, 0, 0, false, false, [])) else (if 16 < (r4.1.xs.length : Int) then (some (0, (wrp .i64 1), 3, h2_0, h2_1, h2_2, h2_4, 0, 0, 0, 0, 0, 0, false, false, [])) else ((segment_fit q ⟨r4.1.n, r4.1.xs⟩ (wrp .i64 (h2_2 + 0))).bind fun r5 => (if r5 = true then (if 4096 < (wrp .i64 (0 + (r4.1.xs.length : Int))) then (some (0, (wrp .i64 1), 5, h2_0, h2_1, h2_2, h2_4, 0, 0, 0, 0, 0, 0, false, false, [])) else (if r4.1.xs.length ≤ 4294967296 then (segment_Recover_s0_l1 q v19len v20 (wrp .i64 1) h1z h1l h1x h2_0 h2_1 h2_2 (decide ((r4.1.xs.length : Int) = 16)) (decide (r4.1.xs.length = 0)) r4.1.xs) else none)) else (some (0, (wrp .i64 1), 3, h2_0, h2_1, h2_2, h2_4, 0, 0, 0, 0, 0, 0, false, false, [])))))) else (some (0, (wrp .i64 1), 3, h2_0, h2_1, h2_2, h2_4, 0, 0, 0, 0, 0, 0, false, false, []))) else (some (0, (wrp .i64 1), 3, h2_0, h2_1, h2_2, h2_4, 0, 0, 0, 0, 0, 0, false, false, [])))) else ((segment_elder q h2_0 e3).bind fun r6 => (if r6.2 = true then (if h2_4 = true then (if (r6.1.xs.length : Int) = 0 then (some (0, (wrp .i64 1), 3, h2_0, h2_1, h2_2, h2_4, 0, 0, 0, 0, 0, 0, false, false, [])) else (if 16 < (r6.1.xs.length : Int) then (some (0, (wrp .i64 1), 3, h2_0, h2_1, h2_2, h2_4, 0, 0, 0, 0, 0, 0, false, false, [])) else ((segment_fit q ⟨r6.1.n, r6.1.xs⟩ (wrp .i64 (h2_2 + 0))).bind fun r7 => (if r7 = true then (if 4096 < (wrp .i64 (0 + (r6.1.xs.length : Int))) then (some (0, (wrp .i64 1), 5, h2_0, h2_1, h2_2, h2_4, 0, 0, 0, 0, 0, 0, false, false, [])) else (if r6.1.xs.length ≤ 4294967296 then (segment_Recover_s0_l1 q v19len v20 (wrp .i64 1) h1z h1l h1x h2_0 h2_1 h2_2 (decide ((r6.1.xs.length : Int) = 16)) (decide (r6.1.xs.length = 0)) r6.1.xs) else none)) else (some (0, (wrp .i64 1), 3, h2_0, h2_1, h2_2, h2_4, 0, 0, 0, 0, 0, 0, false, false, [])))))) else (some (0, (wrp .i64 1), 3, h2_0, h2_1, h2_2, h2_4, 0, 0, 0, 0, 0, 0, false, false, []))) else (some (0, (wrp .i64 1), 3, h2_0, h2_1, h2_2, h2_4, 0, 0, 0, 0, 0, 0, false, false, [])))))) else none) else (some (0, (h1l.length : Int), 0, h2_0, h2_1, h2_2, h2_4, 0, 0, 0, 0, 0, 0, false, false, [])))
def segment_Recover_s0 : Nat → Bool → (List (Sl Int)) → Bool → Option (Nat × Int × Int × Int × Int × Int × Bool × Int × Int × Int × Int × Int × Nat × Bool × Bool × (List S_api_Record))
  | 0, _, _, _ => none
  | q + 1, h1z, h1l, h1x => (if 0 < h1l.length then ((h1l[0]?).bind fun e1 => ((segment_Recover_s0_s0 q e1.z e1.l h1z h1l h1x).bind fun r2 => (if r2.1 = 0 then (if 1 ≤ h1l.length then (segment_Recover_s0_l0 q (h1l.length - 1) (((h1l.length - 1) : Nat) : Int) h1z h1l h1x r2.2.1 r2.2.2.1 r2.2.2.2.1 r2.2.2.2.2) else none) else (some (0, 0, r2.1, r2.2.1, r2.2.2.1, r2.2.2.2.1, r2.2.2.2.2, 0, 0, 0, 0, 0, 0, false, false, []))))) else none)
def segment_Recover_l0 : Nat → Int → Nat → Int → Int → Int → Int → Int → Bool → Bool → (List (Sl Int)) → Bool → Option (S_api_Segment × Int × Bool)
  | 0, _, _, _, _, _, _, _, _, _, _, _ => none
  | q + 1, v10, v32len, v33, v34, h1_0, h1_1, h1_2, h1_4, h2z, h2l, h2x => (if v34 < v33 then (if 0 ≤ v34 then (if v34.toNat < v32len then ((h2l[v34.toNat]?).bind fun e3 => ((frame_Size q (e3.l.length : Int)).bind fun r4 => (segment_Recover_l0 q (wrp .i64 (v10 + r4)) v32len v33 (wrp .i64 (v34 + 1)) h1_0 h1_1 h1_2 h1_4 h2z h2l h2x))) else none) else none) else (some ((⟨h1_1, h1_2, ⟨true, []⟩⟩ : S_api_Segment), v10, true)))
def segment_Recover_l1 : Nat → Int → Nat → Int → Int → Int → Int → Int → Bool → Bool → (List (Sl Int)) → Bool → Option (S_api_Segment × Int × Bool)
  | 0, _, _, _, _, _, _, _, _, _, _, _ => none
  | q + 1, v10, v32len, v33, v34, h1_0, h1_1, h1_2, h1_4, h2z, h2l, h2x => (if v34 < v33 then (if 0 ≤ v34 then (if v34.toNat < v32len then ((h2l[v34.toNat]?).bind fun e5 => ((frame_Size q (e5.l.length : Int)).bind fun r6 => (segment_Recover_l1 q (wrp .i64 (v10 + r6)) v32len v33 (wrp .i64 (v34 + 1)) h1_0 h1_1 h1_2 h1_4 h2z h2l h2x))) else none) else none) else (some ((⟨h1_1, h1_2, ⟨true, []⟩⟩ : S_api_Segment), v10, true)))
def segment_Recover_l2 : Nat → Int → Nat → Int → Int → Int → Int → Int → Nat → Bool → Bool → (List (Sl Int)) → Bool → Bool → (List S_api_Record) → Option (S_api_Segment × Int × Bool)
  | 0, _, _, _, _, _, _, _, _, _, _, _, _, _, _ => none
  | q + 1, v10, v32len, v33, v34, h1_0, h1_1, h1_2, h1_3len, h1_4, h2z, h2l, h2x, h3z, h3l => (if v34 < v33 then (if 0 ≤ v34 then (if v34.toNat < v32len then ((h2l[v34.toNat]?).bind fun e7 => ((frame_Size q (e7.l.length : Int)).bind fun r8 => (segment_Recover_l2 q (wrp .i64 (v10 + r8)) v32len v33 (wrp .i64 (v34 + 1)) h1_0 h1_1 h1_2 h1_3len h1_4 h2z h2l h2x h3z h3l))) else none) else none) else (some ((⟨h1_1, h1_2, ⟨h3z, h3l⟩⟩ : S_api_Segment), v10, true)))
def segment_Recover_l3 : Nat → Int → Nat → Int → Int → Int → Int → Int → Nat → Bool → Bool → (List (Sl Int)) → Bool → Bool → (List S_api_Record) → Option (S_api_Segment × Int × Bool)
  | 0, _, _, _, _, _, _, _, _, _, _, _, _, _, _ => none
  | q + 1, v10, v32len, v33, v34, h1_0, h1_1, h1_2, h1_3len, h1_4, h2z, h2l, h2x, h3z, h3l => (if v34 < v33 then (if 0 ≤ v34 then (if v34.toNat < v32len then ((h2l[v34.toNat]?).bind fun e9 => ((frame_Size q (e9.l.length : Int)).bind fun r10 => (segment_Recover_l3 q (wrp .i64 (v10 + r10)) v32len v33 (wrp .i64 (v34 + 1)) h1_0 h1_1 h1_2 h1_3len h1_4 h2z h2l h2x h3z h3l))) else none) else none) else (some ((⟨h1_1, h1_2, ⟨h3z, h3l⟩⟩ : S_api_Segment), v10, true)))
def segment_Recover : Nat → (Sl Int) → Option (S_api_Segment × Int × Bool)
  | 0, _ => none
  | q + 1, a0 => ((frame_Whole q a0).bind fun r1 => (if (r1.1.xs.length : Int) = 0 then (some ((⟨0, 0, ⟨true, []⟩⟩ : S_api_Segment), 0, false)) else ((segment_Recover_s0 q r1.1.n r1.1.xs r1.1.x).bind fun r2 => (if r2.1 = 0 then (if r2.2.1 = 0 then (some ((⟨0, 0, ⟨true, []⟩⟩ : S_api_Segment), 0, false)) else (if 0 ≤ r2.2.1 then (if r2.2.1.toNat ≤ r1.1.xs.length then (if r1.1.n = true then (segment_Recover_l0 q 0 r2.2.1.toNat (r2.2.1.toNat : Int) 0 r2.2.2.2.1 r2.2.2.2.2.1 r2.2.2.2.2.2.1 r2.2.2.2.2.2.2.1 r1.1.n r1.1.xs r1.1.x) else (segment_Recover_l1 q 0 r2.2.1.toNat (r2.2.1.toNat : Int) 0 r2.2.2.2.1 r2.2.2.2.2.1 r2.2.2.2.2.2.1 r2.2.2.2.2.2.2.1 r1.1.n r1.1.xs r1.1.x)) else none) else none)) else (if r2.2.2.2.2.2.2.2.1 = 0 then (some ((⟨0, 0, ⟨true, []⟩⟩ : S_api_Segment), 0, false)) else (if 0 ≤ r2.2.2.2.2.2.2.2.1 then (if r2.2.2.2.2.2.2.2.1.toNat ≤ r1.1.xs.length then (if r1.1.n = true then (segment_Recover_l2 q 0 r2.2.2.2.2.2.2.2.1.toNat (r2.2.2.2.2.2.2.2.1.toNat : Int) 0 r2.2.2.2.2.2.2.2.2.2.1 r2.2.2.2.2.2.2.2.2.2.2.1 r2.2.2.2.2.2.2.2.2.2.2.2.1 r2.2.2.2.2.2.2.2.2.2.2.2.2.1 r2.2.2.2.2.2.2.2.2.2.2.2.2.2.1 r1.1.n r1.1.xs r1.1.x r2.2.2.2.2.2.2.2.2.2.2.2.2.2.2.1 r2.2.2.2.2.2.2.2.2.2.2.2.2.2.2.2) else (segment_Recover_l3 q 0 r2.2.2.2.2.2.2.2.1.toNat (r2.2.2.2.2.2.2.2.1.toNat : Int) 0 r2.2.2.2.2.2.2.2.2.2.1 r2.2.2.2.2.2.2.2.2.2.2.1 r2.2.2.2.2.2.2.2.2.2.2.2.1 r2.2.2.2.2.2.2.2.2.2.2.2.2.1 r2.2.2.2.2.2.2.2.2.2.2.2.2.2.1 r1.1.n r1.1.xs r1.1.x r2.2.2.2.2.2.2.2.2.2.2.2.2.2.2.1 r2.2.2.2.2.2.2.2.2.2.2.2.2.2.2.2)) else none) else none))))))
def ferrymanref06_Upgrade : Nat → Int → S_api_Record → Option (S_api_Record × Int)
  | 0, _, _ => none
  | q + 1, a0, a1 => (if a0 < 1 then (some ((⟨0, 0, 0, (⟨0, 0, 0⟩ : S_api_Op), 0⟩ : S_api_Record), 6)) else (if 3 < a0 then (some ((⟨0, 0, 0, (⟨0, 0, 0⟩ : S_api_Op), 0⟩ : S_api_Record), 6)) else (if a0 < 2 then (if a0 < 3 then (some ((⟨a1.Index, a1.Proc, 0, a1.Op, 0⟩ : S_api_Record), 0)) else (some ((⟨a1.Index, a1.Proc, 0, a1.Op, a1.Resp⟩ : S_api_Record), 0))) else (if a0 < 3 then (some ((⟨a1.Index, a1.Proc, a1.Seq, a1.Op, 0⟩ : S_api_Record), 0)) else (some (a1, 0))))))
def ferrymanref08_Upgraded_l1 : Nat → Int → Int → Int → Int → Bool → (List S_api_Record) → Int → Int → (List S_api_Record) → Option (S_api_Segment)
  | 0, _, _, _, _, _, _, _, _, _ => none
  | q + 1, v0, v6, h0_0, h0_1, h0_2z, h0_2l, h2_0, h2_1, h3l => (if v6 < (h0_2l.length : Int) then (if 0 ≤ v6 then ((h0_2l[v6.toNat]?).bind fun e3 => ((ferrymanref06_Upgrade q v0 e3).bind fun r4 => (if (h3l.length + 1) ≤ 4294967296 then (ferrymanref08_Upgraded_l1 q v0 (wrp .i64 (v6 + 1)) h0_0 h0_1 h0_2z h0_2l h2_0 h2_1 (h3l ++ [r4.1])) else none))) else none) else (some (⟨h2_0, h2_1, ⟨false, h3l⟩⟩ : S_api_Segment)))
def ferrymanref08_Upgraded_l0 : Nat → Int → Int → Int → Bool → (List S_api_Record) → Int → Int → Option (S_api_Segment)
  | 0, _, _, _, _, _, _, _ => none
  | q + 1, v0, h0_0, h0_1, h0_2z, h0_2l, h2_0, h2_1 => (if 0 < (h0_2l.length : Int) then ((h0_2l[0]?).bind fun e1 => ((ferrymanref06_Upgrade q v0 e1).bind fun r2 => (ferrymanref08_Upgraded_l1 q v0 (wrp .i64 1) h0_0 h0_1 h0_2z h0_2l h2_0 h2_1 [r2.1]))) else (some (⟨h2_0, h2_1, ⟨true, []⟩⟩ : S_api_Segment)))
def ferrymanref08_Upgraded : Nat → Int → S_api_Segment → Option (S_api_Segment)
  | 0, _, _ => none
  | q + 1, a0, a1 => (ferrymanref08_Upgraded_l0 q a0 a1.Kind a1.First a1.Records.z a1.Records.l a1.Kind a1.First)
def ferrymanref07_Same_l0 : Nat → Bool → (List S_api_Record) → Bool → (List S_api_Record) → Int → Option (Bool)
  | 0, _, _, _, _, _ => none
  | q + 1, v0z, v0l, v1z, v1l, v5 => (if v5 < (v0l.length : Int) then (if 0 ≤ v5 then ((v0l[v5.toNat]?).bind fun e1 => ((v1l[v5.toNat]?).bind fun e2 => (if e1.Index = e2.Index then (if e1.Proc = e2.Proc then (if e1.Seq = e2.Seq then (if e1.Op.Code = e2.Op.Code then (if e1.Op.A = e2.Op.A then (if e1.Op.B = e2.Op.B then (if e1.Resp = e2.Resp then (ferrymanref07_Same_l0 q v0z v0l v1z v1l (wrp .i64 (v5 + 1))) else (some false)) else (some false)) else (some false)) else (some false)) else (some false)) else (some false)) else (some false)))) else none) else (some true))
def ferrymanref07_Same : Nat → (Sl S_api_Record) → (Sl S_api_Record) → Option (Bool)
  | 0, _, _ => none
  | q + 1, a0, a1 => (if (a0.l.length : Int) = (a1.l.length : Int) then (ferrymanref07_Same_l0 q a0.z a0.l a1.z a1.l 0) else (some false))
def ferrymanref08_Same : Nat → S_api_Segment → S_api_Segment → Option (Bool)
  | 0, _, _ => none
  | q + 1, a0, a1 => ((ferrymanref07_Same q a0.Records a1.Records).bind fun r1 => (if r1 = true then (if a0.Kind = a1.Kind then (some (decide (a0.First = a1.First))) else (some false)) else (some false)))
def ferrymanlaw08_SegmentGrows : Nat → Int → S_api_Segment → Int → Option (Bool)
  | 0, _, _, _ => none
  | q + 1, a0, a1, a2 => ((ferrymanlaw08_awake q).bind fun r1 => (if r1 = true then (if 100 < (a1.Records.l.length : Int) then (some r1) else (if a2 < 0 then (some r1) else (if 10 < a2 then (some r1) else (if (a1.Records.l.length : Int) < (wrp .i64 (a2 * 16)) then (some r1) else ((segment_Encode q a0 a1).bind fun r2 => (if r2.2 = 0 then ((segment_Head q a0 a1.Kind a1.First).bind fun r3 => (if 0 ≤ (wrp .i64 (a2 * 16)) then (if (wrp .i64 (a2 * 16)).toNat ≤ a1.Records.l.length then ((segment_Body q a0 ⟨a1.Records.z, (List.take ((wrp .i64 (a2 * 16)).toNat) a1.Records.l)⟩).bind fun r4 => (if (wrp .i64 (a2 * 16)) ≤ (a1.Records.l.length : Int) then ((segment_Body q a0 ⟨a1.Records.z, (List.drop ((wrp .i64 (a2 * 16)).toNat) a1.Records.l)⟩).bind fun r5 => (if r3.2 = 0 then (if r4.2 = 0 then (if r5.2 = 0 then (if r3.1.xs.length ≤ 4294967296 then (if (r3.1.xs.length + r4.1.xs.length) ≤ 4294967296 then ((segment_Recover q ⟨((decide (r3.1.xs.length = 0)) && (decide (r4.1.xs.length = 0))), (r3.1.xs ++ r4.1.xs)⟩).bind fun r6 => (if ((r3.1.xs.length + r4.1.xs.length) + r5.1.xs.length) ≤ 4294967296 then ((segment_Recover q ⟨(((decide (r3.1.xs.length = 0)) && (decide (r4.1.xs.length = 0))) && (decide (r5.1.xs.length = 0))), ((r3.1.xs ++ r4.1.xs) ++ r5.1.xs)⟩).bind fun r7 => ((ferrymanref08_Upgraded q a0 (⟨a1.Kind, a1.First, ⟨a1.Records.z, (List.take ((wrp .i64 (a2 * 16)).toNat) a1.Records.l)⟩⟩ : S_api_Segment)).bind fun r8 => ((ferrymanref08_Same q r6.1 r8).bind fun r9 => ((ferrymanref08_Upgraded q a0 a1).bind fun r10 => ((ferrymanref08_Same q r7.1 r10).bind fun r11 => (if r6.2.2 = true then (if r7.2.2 = true then (if r9 = true then (if r11 = true then (if r6.2.1 = (wrp .i64 ((r3.1.xs.length : Int) + (r4.1.xs.length : Int))) then (some (decide (r7.2.1 = (wrp .i64 (r6.2.1 + (r5.1.xs.length : Int)))))) else (some false)) else (some false)) else (some false)) else (some false)) else (some false))))))) else none)) else none) else none) else (some false)) else (some false)) else (some false))) else none)) else none) else none)) else (some true))))))) else (some r1)))
end Go.Dvm.I
