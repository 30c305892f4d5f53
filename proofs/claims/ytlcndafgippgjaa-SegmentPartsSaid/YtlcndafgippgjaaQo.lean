/- The code is the program's. -/
import Derived.Test.YtlcndafgippgjaaProg
import Derived.Test.YtlcndafgippgjaaQl0
import Derived.KernelRfl
set_option linter.all false
set_option maxRecDepth 100000
set_option maxHeartbeats 4000000
namespace Go.Dvm.C
open Go Go.Dvm
theorem ok_ferrymanlaw08_SegmentParts : okFun Go.Proofs.Try.prog 4 m_ferrymanlaw08_SegmentParts = true := by kernel_rfl
theorem ok_ferrymanlaw08_awake : okFun Go.Proofs.Try.prog 9 m_ferrymanlaw08_awake = true := by kernel_rfl
theorem ok_segment_Encode : okFun Go.Proofs.Try.prog 10 m_segment_Encode = true := by kernel_rfl
theorem ok_segment_Head : okFun Go.Proofs.Try.prog 12 m_segment_Head = true := by kernel_rfl
theorem ok_segment_Body : okFun Go.Proofs.Try.prog 14 m_segment_Body = true := by kernel_rfl
theorem ok_segment_fit : okFun Go.Proofs.Try.prog 20 m_segment_fit = true := by kernel_rfl
theorem ok_segment_blocks : okFun Go.Proofs.Try.prog 21 m_segment_blocks = true := by kernel_rfl
theorem ok_slices_Concat_byte_byte : okFun Go.Proofs.Try.prog 22 m_slices_Concat_byte_byte = true := by kernel_rfl
theorem ok_segment_footer : okFun Go.Proofs.Try.prog 23 m_segment_footer = true := by kernel_rfl
theorem ok_segment_known : okFun Go.Proofs.Try.prog 29 m_segment_known = true := by kernel_rfl
theorem ok_segment_framed : okFun Go.Proofs.Try.prog 30 m_segment_framed = true := by kernel_rfl
theorem ok_num_Put : okFun Go.Proofs.Try.prog 31 m_num_Put = true := by kernel_rfl
theorem ok_schema_Fits : okFun Go.Proofs.Try.prog 40 m_schema_Fits = true := by kernel_rfl
theorem ok_segment_data : okFun Go.Proofs.Try.prog 41 m_segment_data = true := by kernel_rfl
theorem ok_slices_Grow_byte_byte : okFun Go.Proofs.Try.prog 42 m_slices_Grow_byte_byte = true := by kernel_rfl
theorem ok_frame_Encode : okFun Go.Proofs.Try.prog 47 m_frame_Encode = true := by kernel_rfl
theorem ok_num_groups : okFun Go.Proofs.Try.prog 48 m_num_groups = true := by kernel_rfl
theorem ok_objs_Fits : okFun Go.Proofs.Try.prog 57 m_objs_Fits = true := by kernel_rfl
theorem ok_block_Encode : okFun Go.Proofs.Try.prog 58 m_block_Encode = true := by kernel_rfl
theorem ok_schema_Encode : okFun Go.Proofs.Try.prog 59 m_schema_Encode = true := by kernel_rfl
theorem ok_frame_sum : okFun Go.Proofs.Try.prog 63 m_frame_sum = true := by kernel_rfl
theorem ok_objs_cut : okFun Go.Proofs.Try.prog 69 m_objs_cut = true := by kernel_rfl
theorem ok_block_Fits : okFun Go.Proofs.Try.prog 70 m_block_Fits = true := by kernel_rfl
theorem ok_num_PutSigned : okFun Go.Proofs.Try.prog 71 m_num_PutSigned = true := by kernel_rfl
theorem ok_codec_PutOp : okFun Go.Proofs.Try.prog 72 m_codec_PutOp = true := by kernel_rfl
theorem ok_schema_fields : okFun Go.Proofs.Try.prog 73 m_schema_fields = true := by kernel_rfl
theorem ok_schema_put : okFun Go.Proofs.Try.prog 74 m_schema_put = true := by kernel_rfl
theorem ok_num_Fixed32 : okFun Go.Proofs.Try.prog 80 m_num_Fixed32 = true := by kernel_rfl
theorem ok_crc_More : okFun Go.Proofs.Try.prog 81 m_crc_More = true := by kernel_rfl
theorem ok_crc_Sum : okFun Go.Proofs.Try.prog 82 m_crc_Sum = true := by kernel_rfl
theorem ok_num_Zig : okFun Go.Proofs.Try.prog 90 m_num_Zig = true := by kernel_rfl
theorem ok_num_fixed : okFun Go.Proofs.Try.prog 92 m_num_fixed = true := by kernel_rfl
theorem ok_crc_Table : okFun Go.Proofs.Try.prog 93 m_crc_Table = true := by kernel_rfl
theorem okAll : okTab Go.Proofs.Try.prog tab = true := by
  simp only [tab, okTab, ok_ferrymanlaw08_SegmentParts, ok_ferrymanlaw08_awake, ok_segment_Encode, ok_segment_Head, ok_segment_Body, ok_segment_fit, ok_segment_blocks, ok_slices_Concat_byte_byte, ok_segment_footer, ok_segment_known, ok_segment_framed, ok_num_Put, ok_schema_Fits, ok_segment_data, ok_slices_Grow_byte_byte, ok_frame_Encode, ok_num_groups, ok_objs_Fits, ok_block_Encode, ok_schema_Encode, ok_frame_sum, ok_objs_cut, ok_block_Fits, ok_num_PutSigned, ok_codec_PutOp, ok_schema_fields, ok_schema_put, ok_num_Fixed32, ok_crc_More, ok_crc_Sum, ok_num_Zig, ok_num_fixed, ok_crc_Table, Bool.and_self, Bool.and_true]
theorem mixed : Go.Proofs.Try.prog.follows .mixedOrders = true := by kernel_rfl
end Go.Dvm.C
