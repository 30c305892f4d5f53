/- The code is the program's. -/
import Derived.Test.YtnmceljcgioomaaProg
import Derived.Test.YtnmceljcgioomaaQl0
import Derived.KernelRfl
set_option linter.all false
set_option maxRecDepth 100000
set_option maxHeartbeats 4000000
namespace Go.Dvm.C
open Go Go.Dvm
theorem ok_ferrymanlaw06_SchemaDecodes : okFun Go.Proofs.Try.prog 13 m_ferrymanlaw06_SchemaDecodes = true := by kernel_rfl
theorem ok_ferrymanlaw06_awake : okFun Go.Proofs.Try.prog 18 m_ferrymanlaw06_awake = true := by kernel_rfl
theorem ok_schema_Encode : okFun Go.Proofs.Try.prog 19 m_schema_Encode = true := by kernel_rfl
theorem ok_schema_Fits : okFun Go.Proofs.Try.prog 23 m_schema_Fits = true := by kernel_rfl
theorem ok_ferrymanref06_Fits : okFun Go.Proofs.Try.prog 24 m_ferrymanref06_Fits = true := by kernel_rfl
theorem ok_schema_Decode : okFun Go.Proofs.Try.prog 37 m_schema_Decode = true := by kernel_rfl
theorem ok_ferrymanref06_Decode : okFun Go.Proofs.Try.prog 38 m_ferrymanref06_Decode = true := by kernel_rfl
theorem ok_schema_fields : okFun Go.Proofs.Try.prog 39 m_schema_fields = true := by kernel_rfl
theorem ok_num_Put : okFun Go.Proofs.Try.prog 40 m_num_Put = true := by kernel_rfl
theorem ok_schema_put : okFun Go.Proofs.Try.prog 41 m_schema_put = true := by kernel_rfl
theorem ok_ferrymanref06_has : okFun Go.Proofs.Try.prog 43 m_ferrymanref06_has = true := by kernel_rfl
theorem ok_objs_Fits : okFun Go.Proofs.Try.prog 47 m_objs_Fits = true := by kernel_rfl
theorem ok_ferrymanref04_Fits : okFun Go.Proofs.Try.prog 48 m_ferrymanref04_Fits = true := by kernel_rfl
theorem ok_num_Get : okFun Go.Proofs.Try.prog 55 m_num_Get = true := by kernel_rfl
theorem ok_ferrymanref01_Get : okFun Go.Proofs.Try.prog 59 m_ferrymanref01_Get = true := by kernel_rfl
theorem ok_schema_read : okFun Go.Proofs.Try.prog 62 m_schema_read = true := by kernel_rfl
theorem ok_ferrymanref06_value : okFun Go.Proofs.Try.prog 63 m_ferrymanref06_value = true := by kernel_rfl
theorem ok_num_groups : okFun Go.Proofs.Try.prog 64 m_num_groups = true := by kernel_rfl
theorem ok_codec_PutOp : okFun Go.Proofs.Try.prog 65 m_codec_PutOp = true := by kernel_rfl
theorem ok_num_PutSigned : okFun Go.Proofs.Try.prog 66 m_num_PutSigned = true := by kernel_rfl
theorem ok_slices_Index_int_int : okFun Go.Proofs.Try.prog 69 m_slices_Index_int_int = true := by kernel_rfl
theorem ok_objs_cut : okFun Go.Proofs.Try.prog 70 m_objs_cut = true := by kernel_rfl
theorem ok_ferrymanref04_cut : okFun Go.Proofs.Try.prog 71 m_ferrymanref04_cut = true := by kernel_rfl
theorem ok_num_read : okFun Go.Proofs.Try.prog 79 m_num_read = true := by kernel_rfl
theorem ok_ferrymanref01_read : okFun Go.Proofs.Try.prog 80 m_ferrymanref01_read = true := by kernel_rfl
theorem ok_slices_Clone_int_int : okFun Go.Proofs.Try.prog 81 m_slices_Clone_int_int = true := by kernel_rfl
theorem ok_slices_Delete_int_int : okFun Go.Proofs.Try.prog 82 m_slices_Delete_int_int = true := by kernel_rfl
theorem ok_schema_get : okFun Go.Proofs.Try.prog 83 m_schema_get = true := by kernel_rfl
theorem ok_schema_pass : okFun Go.Proofs.Try.prog 84 m_schema_pass = true := by kernel_rfl
theorem ok_ferrymanref05_GetOp : okFun Go.Proofs.Try.prog 85 m_ferrymanref05_GetOp = true := by kernel_rfl
theorem ok_ferrymanref01_GetSigned : okFun Go.Proofs.Try.prog 86 m_ferrymanref01_GetSigned = true := by kernel_rfl
theorem ok_num_Zig : okFun Go.Proofs.Try.prog 87 m_num_Zig = true := by kernel_rfl
theorem ok_codec_GetOp : okFun Go.Proofs.Try.prog 91 m_codec_GetOp = true := by kernel_rfl
theorem ok_num_GetSigned : okFun Go.Proofs.Try.prog 92 m_num_GetSigned = true := by kernel_rfl
theorem ok_ferrymanref01_Zag : okFun Go.Proofs.Try.prog 93 m_ferrymanref01_Zag = true := by kernel_rfl
theorem ok_codec_reader : okFun Go.Proofs.Try.prog 94 m_codec_reader = true := by kernel_rfl
theorem ok_num_Zag : okFun Go.Proofs.Try.prog 95 m_num_Zag = true := by kernel_rfl
theorem ok_codec_reader_1 : okFun Go.Proofs.Try.prog 96 m_codec_reader_1 = true := by kernel_rfl
theorem ok_codec_reader_2 : okFun Go.Proofs.Try.prog 97 m_codec_reader_2 = true := by kernel_rfl
theorem ok_codec_reader_3 : okFun Go.Proofs.Try.prog 98 m_codec_reader_3 = true := by kernel_rfl
theorem okAll : okTab Go.Proofs.Try.prog tab = true := by
  simp only [tab, okTab, ok_ferrymanlaw06_SchemaDecodes, ok_ferrymanlaw06_awake, ok_schema_Encode, ok_schema_Fits, ok_ferrymanref06_Fits, ok_schema_Decode, ok_ferrymanref06_Decode, ok_schema_fields, ok_num_Put, ok_schema_put, ok_ferrymanref06_has, ok_objs_Fits, ok_ferrymanref04_Fits, ok_num_Get, ok_ferrymanref01_Get, ok_schema_read, ok_ferrymanref06_value, ok_num_groups, ok_codec_PutOp, ok_num_PutSigned, ok_slices_Index_int_int, ok_objs_cut, ok_ferrymanref04_cut, ok_num_read, ok_ferrymanref01_read, ok_slices_Clone_int_int, ok_slices_Delete_int_int, ok_schema_get, ok_schema_pass, ok_ferrymanref05_GetOp, ok_ferrymanref01_GetSigned, ok_num_Zig, ok_codec_GetOp, ok_num_GetSigned, ok_ferrymanref01_Zag, ok_codec_reader, ok_num_Zag, ok_codec_reader_1, ok_codec_reader_2, ok_codec_reader_3, Bool.and_self, Bool.and_true]
theorem mixed : Go.Proofs.Try.prog.follows .mixedOrders = true := by kernel_rfl
end Go.Dvm.C
