/- The code is the program's. -/
import Derived.Test.YtnmceljcgioomaaProg
import Derived.Test.YtnmceljcgioomaaQl0
import Derived.KernelRfl
set_option linter.all false
set_option maxRecDepth 100000
set_option maxHeartbeats 4000000
namespace Go.Dvm.C
open Go Go.Dvm
theorem ok_ferrymanlaw03_FrameBursts : okFun Go.Proofs.Try.prog 9 m_ferrymanlaw03_FrameBursts = true := by kernel_rfl
theorem ok_ferrymanlaw03_awake : okFun Go.Proofs.Try.prog 25 m_ferrymanlaw03_awake = true := by kernel_rfl
theorem ok_frame_Encode : okFun Go.Proofs.Try.prog 26 m_frame_Encode = true := by kernel_rfl
theorem ok_frame_Size : okFun Go.Proofs.Try.prog 28 m_frame_Size = true := by kernel_rfl
theorem ok_frame_Decode : okFun Go.Proofs.Try.prog 30 m_frame_Decode = true := by kernel_rfl
theorem ok_num_Put : okFun Go.Proofs.Try.prog 40 m_num_Put = true := by kernel_rfl
theorem ok_slices_Concat_byte_byte : okFun Go.Proofs.Try.prog 49 m_slices_Concat_byte_byte = true := by kernel_rfl
theorem ok_frame_sum : okFun Go.Proofs.Try.prog 50 m_frame_sum = true := by kernel_rfl
theorem ok_frame_open : okFun Go.Proofs.Try.prog 54 m_frame_open = true := by kernel_rfl
theorem ok_num_Get : okFun Go.Proofs.Try.prog 55 m_num_Get = true := by kernel_rfl
theorem ok_slices_Equal_byte_byte : okFun Go.Proofs.Try.prog 56 m_slices_Equal_byte_byte = true := by kernel_rfl
theorem ok_slices_Clone_byte_byte : okFun Go.Proofs.Try.prog 57 m_slices_Clone_byte_byte = true := by kernel_rfl
theorem ok_num_groups : okFun Go.Proofs.Try.prog 64 m_num_groups = true := by kernel_rfl
theorem ok_slices_Grow_byte_byte : okFun Go.Proofs.Try.prog 72 m_slices_Grow_byte_byte = true := by kernel_rfl
theorem ok_num_Fixed32 : okFun Go.Proofs.Try.prog 73 m_num_Fixed32 = true := by kernel_rfl
theorem ok_crc_More : okFun Go.Proofs.Try.prog 74 m_crc_More = true := by kernel_rfl
theorem ok_crc_Sum : okFun Go.Proofs.Try.prog 75 m_crc_Sum = true := by kernel_rfl
theorem ok_slices_ContainsFunc_byte_byte : okFun Go.Proofs.Try.prog 77 m_slices_ContainsFunc_byte_byte = true := by kernel_rfl
theorem ok_frame_open_1 : okFun Go.Proofs.Try.prog 78 m_frame_open_1 = true := by kernel_rfl
theorem ok_num_read : okFun Go.Proofs.Try.prog 79 m_num_read = true := by kernel_rfl
theorem ok_num_fixed : okFun Go.Proofs.Try.prog 88 m_num_fixed = true := by kernel_rfl
theorem ok_crc_Table : okFun Go.Proofs.Try.prog 89 m_crc_Table = true := by kernel_rfl
theorem ok_slices_IndexFunc_byte_byte : okFun Go.Proofs.Try.prog 90 m_slices_IndexFunc_byte_byte = true := by kernel_rfl
theorem okAll : okTab Go.Proofs.Try.prog tab = true := by
  simp only [tab, okTab, ok_ferrymanlaw03_FrameBursts, ok_ferrymanlaw03_awake, ok_frame_Encode, ok_frame_Size, ok_frame_Decode, ok_num_Put, ok_slices_Concat_byte_byte, ok_frame_sum, ok_frame_open, ok_num_Get, ok_slices_Equal_byte_byte, ok_slices_Clone_byte_byte, ok_num_groups, ok_slices_Grow_byte_byte, ok_num_Fixed32, ok_crc_More, ok_crc_Sum, ok_slices_ContainsFunc_byte_byte, ok_frame_open_1, ok_num_read, ok_num_fixed, ok_crc_Table, ok_slices_IndexFunc_byte_byte, Bool.and_self, Bool.and_true]
theorem mixed : Go.Proofs.Try.prog.follows .mixedOrders = true := by kernel_rfl
end Go.Dvm.C
