/- The code is the program's. -/
import Derived.Test.YtlcndafgippgjaaProg
import Derived.Test.YtlcndafgippgjaaQl0
import Derived.KernelRfl
set_option linter.all false
set_option maxRecDepth 100000
set_option maxHeartbeats 4000000
namespace Go.Dvm.C
open Go Go.Dvm
theorem ok_ferrymanlaw08_SegmentGrows : okFun Go.Proofs.Try.prog 5 m_ferrymanlaw08_SegmentGrows = true := by kernel_rfl
theorem ok_ferrymanlaw08_awake : okFun Go.Proofs.Try.prog 9 m_ferrymanlaw08_awake = true := by kernel_rfl
theorem ok_segment_Encode : okFun Go.Proofs.Try.prog 10 m_segment_Encode = true := by kernel_rfl
theorem ok_segment_Head : okFun Go.Proofs.Try.prog 12 m_segment_Head = true := by kernel_rfl
theorem ok_segment_Body : okFun Go.Proofs.Try.prog 14 m_segment_Body = true := by kernel_rfl
theorem ok_segment_Recover : okFun Go.Proofs.Try.prog 16 m_segment_Recover = true := by kernel_rfl
theorem ok_ferrymanref08_Same : okFun Go.Proofs.Try.prog 17 m_ferrymanref08_Same = true := by kernel_rfl
theorem ok_ferrymanref08_Upgraded : okFun Go.Proofs.Try.prog 18 m_ferrymanref08_Upgraded = true := by kernel_rfl
theorem ok_segment_fit : okFun Go.Proofs.Try.prog 20 m_segment_fit = true := by kernel_rfl
theorem ok_segment_blocks : okFun Go.Proofs.Try.prog 21 m_segment_blocks = true := by kernel_rfl
theorem ok_slices_Concat_byte_byte : okFun Go.Proofs.Try.prog 22 m_slices_Concat_byte_byte = true := by kernel_rfl
theorem ok_segment_footer : okFun Go.Proofs.Try.prog 23 m_segment_footer = true := by kernel_rfl
theorem ok_segment_known : okFun Go.Proofs.Try.prog 29 m_segment_known = true := by kernel_rfl
theorem ok_segment_framed : okFun Go.Proofs.Try.prog 30 m_segment_framed = true := by kernel_rfl
theorem ok_num_Put : okFun Go.Proofs.Try.prog 31 m_num_Put = true := by kernel_rfl
theorem ok_frame_Whole : okFun Go.Proofs.Try.prog 34 m_frame_Whole = true := by kernel_rfl
theorem ok_segment_reader_walk : okFun Go.Proofs.Try.prog 35 m_segment_reader_walk = true := by kernel_rfl
theorem ok_frame_Size : okFun Go.Proofs.Try.prog 36 m_frame_Size = true := by kernel_rfl
theorem ok_ferrymanref07_Same : okFun Go.Proofs.Try.prog 37 m_ferrymanref07_Same = true := by kernel_rfl
theorem ok_ferrymanref06_Upgrade : okFun Go.Proofs.Try.prog 38 m_ferrymanref06_Upgrade = true := by kernel_rfl
theorem ok_schema_Fits : okFun Go.Proofs.Try.prog 40 m_schema_Fits = true := by kernel_rfl
theorem ok_segment_data : okFun Go.Proofs.Try.prog 41 m_segment_data = true := by kernel_rfl
theorem ok_slices_Grow_byte_byte : okFun Go.Proofs.Try.prog 42 m_slices_Grow_byte_byte = true := by kernel_rfl
theorem ok_frame_Encode : okFun Go.Proofs.Try.prog 47 m_frame_Encode = true := by kernel_rfl
theorem ok_num_groups : okFun Go.Proofs.Try.prog 48 m_num_groups = true := by kernel_rfl
theorem ok_frame_walk : okFun Go.Proofs.Try.prog 51 m_frame_walk = true := by kernel_rfl
theorem ok_segment_reader_head : okFun Go.Proofs.Try.prog 52 m_segment_reader_head = true := by kernel_rfl
theorem ok_segment_reader_block : okFun Go.Proofs.Try.prog 53 m_segment_reader_block = true := by kernel_rfl
theorem ok_bytes_Equal : okFun Go.Proofs.Try.prog 56 m_bytes_Equal = true := by kernel_rfl
theorem ok_objs_Fits : okFun Go.Proofs.Try.prog 57 m_objs_Fits = true := by kernel_rfl
theorem ok_block_Encode : okFun Go.Proofs.Try.prog 58 m_block_Encode = true := by kernel_rfl
theorem ok_schema_Encode : okFun Go.Proofs.Try.prog 59 m_schema_Encode = true := by kernel_rfl
theorem ok_frame_sum : okFun Go.Proofs.Try.prog 63 m_frame_sum = true := by kernel_rfl
theorem ok_frame_Decode : okFun Go.Proofs.Try.prog 65 m_frame_Decode = true := by kernel_rfl
theorem ok_num_Get : okFun Go.Proofs.Try.prog 66 m_num_Get = true := by kernel_rfl
theorem ok_block_Decode : okFun Go.Proofs.Try.prog 67 m_block_Decode = true := by kernel_rfl
theorem ok_segment_elder : okFun Go.Proofs.Try.prog 68 m_segment_elder = true := by kernel_rfl
theorem ok_objs_cut : okFun Go.Proofs.Try.prog 69 m_objs_cut = true := by kernel_rfl
theorem ok_block_Fits : okFun Go.Proofs.Try.prog 70 m_block_Fits = true := by kernel_rfl
theorem ok_num_PutSigned : okFun Go.Proofs.Try.prog 71 m_num_PutSigned = true := by kernel_rfl
theorem ok_codec_PutOp : okFun Go.Proofs.Try.prog 72 m_codec_PutOp = true := by kernel_rfl
theorem ok_schema_fields : okFun Go.Proofs.Try.prog 73 m_schema_fields = true := by kernel_rfl
theorem ok_schema_put : okFun Go.Proofs.Try.prog 74 m_schema_put = true := by kernel_rfl
theorem ok_num_Fixed32 : okFun Go.Proofs.Try.prog 80 m_num_Fixed32 = true := by kernel_rfl
theorem ok_crc_More : okFun Go.Proofs.Try.prog 81 m_crc_More = true := by kernel_rfl
theorem ok_crc_Sum : okFun Go.Proofs.Try.prog 82 m_crc_Sum = true := by kernel_rfl
theorem ok_frame_open : okFun Go.Proofs.Try.prog 84 m_frame_open = true := by kernel_rfl
theorem ok_slices_Equal_byte_byte : okFun Go.Proofs.Try.prog 85 m_slices_Equal_byte_byte = true := by kernel_rfl
theorem ok_slices_Clone_byte_byte : okFun Go.Proofs.Try.prog 86 m_slices_Clone_byte_byte = true := by kernel_rfl
theorem ok_num_read : okFun Go.Proofs.Try.prog 87 m_num_read = true := by kernel_rfl
theorem ok_block_record : okFun Go.Proofs.Try.prog 88 m_block_record = true := by kernel_rfl
theorem ok_schema_Decode : okFun Go.Proofs.Try.prog 89 m_schema_Decode = true := by kernel_rfl
theorem ok_num_Zig : okFun Go.Proofs.Try.prog 90 m_num_Zig = true := by kernel_rfl
theorem ok_num_fixed : okFun Go.Proofs.Try.prog 92 m_num_fixed = true := by kernel_rfl
theorem ok_crc_Table : okFun Go.Proofs.Try.prog 93 m_crc_Table = true := by kernel_rfl
theorem ok_slices_ContainsFunc_byte_byte : okFun Go.Proofs.Try.prog 94 m_slices_ContainsFunc_byte_byte = true := by kernel_rfl
theorem ok_frame_open_1 : okFun Go.Proofs.Try.prog 95 m_frame_open_1 = true := by kernel_rfl
theorem ok_num_GetSigned : okFun Go.Proofs.Try.prog 96 m_num_GetSigned = true := by kernel_rfl
theorem ok_codec_GetOp : okFun Go.Proofs.Try.prog 97 m_codec_GetOp = true := by kernel_rfl
theorem ok_schema_read : okFun Go.Proofs.Try.prog 98 m_schema_read = true := by kernel_rfl
theorem ok_slices_IndexFunc_byte_byte : okFun Go.Proofs.Try.prog 99 m_slices_IndexFunc_byte_byte = true := by kernel_rfl
theorem ok_num_Zag : okFun Go.Proofs.Try.prog 100 m_num_Zag = true := by kernel_rfl
theorem ok_codec_reader : okFun Go.Proofs.Try.prog 101 m_codec_reader = true := by kernel_rfl
theorem ok_slices_Clone_int_int : okFun Go.Proofs.Try.prog 102 m_slices_Clone_int_int = true := by kernel_rfl
theorem ok_slices_Index_int_int : okFun Go.Proofs.Try.prog 103 m_slices_Index_int_int = true := by kernel_rfl
theorem ok_slices_Delete_int_int : okFun Go.Proofs.Try.prog 104 m_slices_Delete_int_int = true := by kernel_rfl
theorem ok_schema_get : okFun Go.Proofs.Try.prog 105 m_schema_get = true := by kernel_rfl
theorem ok_schema_pass : okFun Go.Proofs.Try.prog 106 m_schema_pass = true := by kernel_rfl
theorem ok_codec_reader_1 : okFun Go.Proofs.Try.prog 107 m_codec_reader_1 = true := by kernel_rfl
theorem ok_codec_reader_2 : okFun Go.Proofs.Try.prog 108 m_codec_reader_2 = true := by kernel_rfl
theorem ok_codec_reader_3 : okFun Go.Proofs.Try.prog 109 m_codec_reader_3 = true := by kernel_rfl
theorem okAll : okTab Go.Proofs.Try.prog tab = true := by
  simp only [tab, okTab, ok_ferrymanlaw08_SegmentGrows, ok_ferrymanlaw08_awake, ok_segment_Encode, ok_segment_Head, ok_segment_Body, ok_segment_Recover, ok_ferrymanref08_Same, ok_ferrymanref08_Upgraded, ok_segment_fit, ok_segment_blocks, ok_slices_Concat_byte_byte, ok_segment_footer, ok_segment_known, ok_segment_framed, ok_num_Put, ok_frame_Whole, ok_segment_reader_walk, ok_frame_Size, ok_ferrymanref07_Same, ok_ferrymanref06_Upgrade, ok_schema_Fits, ok_segment_data, ok_slices_Grow_byte_byte, ok_frame_Encode, ok_num_groups, ok_frame_walk, ok_segment_reader_head, ok_segment_reader_block, ok_bytes_Equal, ok_objs_Fits, ok_block_Encode, ok_schema_Encode, ok_frame_sum, ok_frame_Decode, ok_num_Get, ok_block_Decode, ok_segment_elder, ok_objs_cut, ok_block_Fits, ok_num_PutSigned, ok_codec_PutOp, ok_schema_fields, ok_schema_put, ok_num_Fixed32, ok_crc_More, ok_crc_Sum, ok_frame_open, ok_slices_Equal_byte_byte, ok_slices_Clone_byte_byte, ok_num_read, ok_block_record, ok_schema_Decode, ok_num_Zig, ok_num_fixed, ok_crc_Table, ok_slices_ContainsFunc_byte_byte, ok_frame_open_1, ok_num_GetSigned, ok_codec_GetOp, ok_schema_read, ok_slices_IndexFunc_byte_byte, ok_num_Zag, ok_codec_reader, ok_slices_Clone_int_int, ok_slices_Index_int_int, ok_slices_Delete_int_int, ok_schema_get, ok_schema_pass, ok_codec_reader_1, ok_codec_reader_2, ok_codec_reader_3, Bool.and_self, Bool.and_true]
theorem mixed : Go.Proofs.Try.prog.follows .mixedOrders = true := by kernel_rfl
end Go.Dvm.C
