/- The code is the program's. -/
import Derived.Test.YtnmceljcgioomaaProg
import Derived.Test.YtnmceljcgioomaaQl0
import Derived.KernelRfl
set_option linter.all false
set_option maxRecDepth 100000
set_option maxHeartbeats 4000000
namespace Go.Dvm.C
open Go Go.Dvm
theorem ok_ferrymanlaw03_FrameDecodes : okFun Go.Proofs.Try.prog 11 m_ferrymanlaw03_FrameDecodes = true := by kernel_rfl
theorem ok_ferrymanlaw03_awake : okFun Go.Proofs.Try.prog 25 m_ferrymanlaw03_awake = true := by kernel_rfl
theorem ok_frame_Encode : okFun Go.Proofs.Try.prog 26 m_frame_Encode = true := by kernel_rfl
theorem ok_frame_Size : okFun Go.Proofs.Try.prog 28 m_frame_Size = true := by kernel_rfl
theorem ok_frame_Decode : okFun Go.Proofs.Try.prog 30 m_frame_Decode = true := by kernel_rfl
theorem ok_ferrymanref03_Decode : okFun Go.Proofs.Try.prog 31 m_ferrymanref03_Decode = true := by kernel_rfl
theorem ok_frame_All : okFun Go.Proofs.Try.prog 32 m_frame_All = true := by kernel_rfl
theorem ok_ferrymanref03_All : okFun Go.Proofs.Try.prog 33 m_ferrymanref03_All = true := by kernel_rfl
theorem ok_frame_Whole : okFun Go.Proofs.Try.prog 34 m_frame_Whole = true := by kernel_rfl
theorem ok_ferrymanref03_Whole : okFun Go.Proofs.Try.prog 35 m_ferrymanref03_Whole = true := by kernel_rfl
theorem ok_ferrymanref03_Same : okFun Go.Proofs.Try.prog 36 m_ferrymanref03_Same = true := by kernel_rfl
theorem ok_num_Put : okFun Go.Proofs.Try.prog 40 m_num_Put = true := by kernel_rfl
theorem ok_slices_Concat_byte_byte : okFun Go.Proofs.Try.prog 49 m_slices_Concat_byte_byte = true := by kernel_rfl
theorem ok_frame_sum : okFun Go.Proofs.Try.prog 50 m_frame_sum = true := by kernel_rfl
theorem ok_ferrymanref02_More : okFun Go.Proofs.Try.prog 51 m_ferrymanref02_More = true := by kernel_rfl
theorem ok_ferrymanref02_Sum : okFun Go.Proofs.Try.prog 52 m_ferrymanref02_Sum = true := by kernel_rfl
theorem ok_frame_open : okFun Go.Proofs.Try.prog 54 m_frame_open = true := by kernel_rfl
theorem ok_num_Get : okFun Go.Proofs.Try.prog 55 m_num_Get = true := by kernel_rfl
theorem ok_slices_Equal_byte_byte : okFun Go.Proofs.Try.prog 56 m_slices_Equal_byte_byte = true := by kernel_rfl
theorem ok_slices_Clone_byte_byte : okFun Go.Proofs.Try.prog 57 m_slices_Clone_byte_byte = true := by kernel_rfl
theorem ok_ferrymanref03_open : okFun Go.Proofs.Try.prog 58 m_ferrymanref03_open = true := by kernel_rfl
theorem ok_ferrymanref01_Get : okFun Go.Proofs.Try.prog 59 m_ferrymanref01_Get = true := by kernel_rfl
theorem ok_ferrymanref01_Fixed : okFun Go.Proofs.Try.prog 60 m_ferrymanref01_Fixed = true := by kernel_rfl
theorem ok_frame_walk : okFun Go.Proofs.Try.prog 61 m_frame_walk = true := by kernel_rfl
theorem ok_num_groups : okFun Go.Proofs.Try.prog 64 m_num_groups = true := by kernel_rfl
theorem ok_slices_Grow_byte_byte : okFun Go.Proofs.Try.prog 72 m_slices_Grow_byte_byte = true := by kernel_rfl
theorem ok_num_Fixed32 : okFun Go.Proofs.Try.prog 73 m_num_Fixed32 = true := by kernel_rfl
theorem ok_crc_More : okFun Go.Proofs.Try.prog 74 m_crc_More = true := by kernel_rfl
theorem ok_crc_Sum : okFun Go.Proofs.Try.prog 75 m_crc_Sum = true := by kernel_rfl
theorem ok_ferrymanref02_Entry : okFun Go.Proofs.Try.prog 76 m_ferrymanref02_Entry = true := by kernel_rfl
theorem ok_slices_ContainsFunc_byte_byte : okFun Go.Proofs.Try.prog 77 m_slices_ContainsFunc_byte_byte = true := by kernel_rfl
theorem ok_frame_open_1 : okFun Go.Proofs.Try.prog 78 m_frame_open_1 = true := by kernel_rfl
theorem ok_num_read : okFun Go.Proofs.Try.prog 79 m_num_read = true := by kernel_rfl
theorem ok_ferrymanref01_read : okFun Go.Proofs.Try.prog 80 m_ferrymanref01_read = true := by kernel_rfl
theorem ok_num_fixed : okFun Go.Proofs.Try.prog 88 m_num_fixed = true := by kernel_rfl
theorem ok_crc_Table : okFun Go.Proofs.Try.prog 89 m_crc_Table = true := by kernel_rfl
theorem ok_slices_IndexFunc_byte_byte : okFun Go.Proofs.Try.prog 90 m_slices_IndexFunc_byte_byte = true := by kernel_rfl
theorem okAll : okTab Go.Proofs.Try.prog tab = true := by
  simp only [tab, okTab, ok_ferrymanlaw03_FrameDecodes, ok_ferrymanlaw03_awake, ok_frame_Encode, ok_frame_Size, ok_frame_Decode, ok_ferrymanref03_Decode, ok_frame_All, ok_ferrymanref03_All, ok_frame_Whole, ok_ferrymanref03_Whole, ok_ferrymanref03_Same, ok_num_Put, ok_slices_Concat_byte_byte, ok_frame_sum, ok_ferrymanref02_More, ok_ferrymanref02_Sum, ok_frame_open, ok_num_Get, ok_slices_Equal_byte_byte, ok_slices_Clone_byte_byte, ok_ferrymanref03_open, ok_ferrymanref01_Get, ok_ferrymanref01_Fixed, ok_frame_walk, ok_num_groups, ok_slices_Grow_byte_byte, ok_num_Fixed32, ok_crc_More, ok_crc_Sum, ok_ferrymanref02_Entry, ok_slices_ContainsFunc_byte_byte, ok_frame_open_1, ok_num_read, ok_ferrymanref01_read, ok_num_fixed, ok_crc_Table, ok_slices_IndexFunc_byte_byte, Bool.and_self, Bool.and_true]
theorem mixed : Go.Proofs.Try.prog.follows .mixedOrders = true := by kernel_rfl
end Go.Dvm.C
