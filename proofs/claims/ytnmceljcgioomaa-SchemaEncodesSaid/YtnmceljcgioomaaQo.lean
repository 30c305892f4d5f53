/- The code is the program's. -/
import Derived.Test.YtnmceljcgioomaaProg
import Derived.Test.YtnmceljcgioomaaQl0
import Derived.KernelRfl
set_option linter.all false
set_option maxRecDepth 100000
set_option maxHeartbeats 4000000
namespace Go.Dvm.C
open Go Go.Dvm
theorem ok_ferrymanlaw06_SchemaEncodes : okFun Go.Proofs.Try.prog 3 m_ferrymanlaw06_SchemaEncodes = true := by kernel_rfl
theorem ok_ferrymanlaw06_awake : okFun Go.Proofs.Try.prog 18 m_ferrymanlaw06_awake = true := by kernel_rfl
theorem ok_schema_Encode : okFun Go.Proofs.Try.prog 19 m_schema_Encode = true := by kernel_rfl
theorem ok_ferrymanref06_Encode : okFun Go.Proofs.Try.prog 20 m_ferrymanref06_Encode = true := by kernel_rfl
theorem ok_schema_Upgrade : okFun Go.Proofs.Try.prog 21 m_schema_Upgrade = true := by kernel_rfl
theorem ok_ferrymanref06_Upgrade : okFun Go.Proofs.Try.prog 22 m_ferrymanref06_Upgrade = true := by kernel_rfl
theorem ok_schema_Fits : okFun Go.Proofs.Try.prog 23 m_schema_Fits = true := by kernel_rfl
theorem ok_ferrymanref06_Fits : okFun Go.Proofs.Try.prog 24 m_ferrymanref06_Fits = true := by kernel_rfl
theorem ok_schema_fields : okFun Go.Proofs.Try.prog 39 m_schema_fields = true := by kernel_rfl
theorem ok_num_Put : okFun Go.Proofs.Try.prog 40 m_num_Put = true := by kernel_rfl
theorem ok_schema_put : okFun Go.Proofs.Try.prog 41 m_schema_put = true := by kernel_rfl
theorem ok_ferrymanref01_Put : okFun Go.Proofs.Try.prog 42 m_ferrymanref01_Put = true := by kernel_rfl
theorem ok_ferrymanref06_has : okFun Go.Proofs.Try.prog 43 m_ferrymanref06_has = true := by kernel_rfl
theorem ok_ferrymanref05_PutOp : okFun Go.Proofs.Try.prog 44 m_ferrymanref05_PutOp = true := by kernel_rfl
theorem ok_ferrymanref01_PutSigned : okFun Go.Proofs.Try.prog 45 m_ferrymanref01_PutSigned = true := by kernel_rfl
theorem ok_slices_Contains_int_int : okFun Go.Proofs.Try.prog 46 m_slices_Contains_int_int = true := by kernel_rfl
theorem ok_objs_Fits : okFun Go.Proofs.Try.prog 47 m_objs_Fits = true := by kernel_rfl
theorem ok_ferrymanref04_Fits : okFun Go.Proofs.Try.prog 48 m_ferrymanref04_Fits = true := by kernel_rfl
theorem ok_num_groups : okFun Go.Proofs.Try.prog 64 m_num_groups = true := by kernel_rfl
theorem ok_codec_PutOp : okFun Go.Proofs.Try.prog 65 m_codec_PutOp = true := by kernel_rfl
theorem ok_num_PutSigned : okFun Go.Proofs.Try.prog 66 m_num_PutSigned = true := by kernel_rfl
theorem ok_ferrymanref01_groups : okFun Go.Proofs.Try.prog 67 m_ferrymanref01_groups = true := by kernel_rfl
theorem ok_ferrymanref01_Zig : okFun Go.Proofs.Try.prog 68 m_ferrymanref01_Zig = true := by kernel_rfl
theorem ok_slices_Index_int_int : okFun Go.Proofs.Try.prog 69 m_slices_Index_int_int = true := by kernel_rfl
theorem ok_objs_cut : okFun Go.Proofs.Try.prog 70 m_objs_cut = true := by kernel_rfl
theorem ok_ferrymanref04_cut : okFun Go.Proofs.Try.prog 71 m_ferrymanref04_cut = true := by kernel_rfl
theorem ok_num_Zig : okFun Go.Proofs.Try.prog 87 m_num_Zig = true := by kernel_rfl
theorem okAll : okTab Go.Proofs.Try.prog tab = true := by
  simp only [tab, okTab, ok_ferrymanlaw06_SchemaEncodes, ok_ferrymanlaw06_awake, ok_schema_Encode, ok_ferrymanref06_Encode, ok_schema_Upgrade, ok_ferrymanref06_Upgrade, ok_schema_Fits, ok_ferrymanref06_Fits, ok_schema_fields, ok_num_Put, ok_schema_put, ok_ferrymanref01_Put, ok_ferrymanref06_has, ok_ferrymanref05_PutOp, ok_ferrymanref01_PutSigned, ok_slices_Contains_int_int, ok_objs_Fits, ok_ferrymanref04_Fits, ok_num_groups, ok_codec_PutOp, ok_num_PutSigned, ok_ferrymanref01_groups, ok_ferrymanref01_Zig, ok_slices_Index_int_int, ok_objs_cut, ok_ferrymanref04_cut, ok_num_Zig, Bool.and_self, Bool.and_true]
theorem mixed : Go.Proofs.Try.prog.follows .mixedOrders = true := by kernel_rfl
end Go.Dvm.C
