/- What each piece of the code comes to: part 1. -/
import Derived.Test.YtlcndafgippgjaaQc0
set_option linter.all false
set_option maxRecDepth 100000
set_option maxHeartbeats 4000000
namespace Go.Dvm.C
open Go Go.Dvm
def tab : List (Nat × MFun) := [(5, m_ferrymanlaw08_SegmentGrows), (9, m_ferrymanlaw08_awake), (10, m_segment_Encode), (12, m_segment_Head), (14, m_segment_Body), (16, m_segment_Recover), (17, m_ferrymanref08_Same), (18, m_ferrymanref08_Upgraded), (20, m_segment_fit), (21, m_segment_blocks), (22, m_slices_Concat_byte_byte), (23, m_segment_footer), (29, m_segment_known), (30, m_segment_framed), (31, m_num_Put), (34, m_frame_Whole), (35, m_segment_reader_walk), (36, m_frame_Size), (37, m_ferrymanref07_Same), (38, m_ferrymanref06_Upgrade), (40, m_schema_Fits), (41, m_segment_data), (42, m_slices_Grow_byte_byte), (47, m_frame_Encode), (48, m_num_groups), (51, m_frame_walk), (52, m_segment_reader_head), (53, m_segment_reader_block), (56, m_bytes_Equal), (57, m_objs_Fits), (58, m_block_Encode), (59, m_schema_Encode), (63, m_frame_sum), (65, m_frame_Decode), (66, m_num_Get), (67, m_block_Decode), (68, m_segment_elder), (69, m_objs_cut), (70, m_block_Fits), (71, m_num_PutSigned), (72, m_codec_PutOp), (73, m_schema_fields), (74, m_schema_put), (80, m_num_Fixed32), (81, m_crc_More), (82, m_crc_Sum), (84, m_frame_open), (85, m_slices_Equal_byte_byte), (86, m_slices_Clone_byte_byte), (87, m_num_read), (88, m_block_record), (89, m_schema_Decode), (90, m_num_Zig), (92, m_num_fixed), (93, m_crc_Table), (94, m_slices_ContainsFunc_byte_byte), (95, m_frame_open_1), (96, m_num_GetSigned), (97, m_codec_GetOp), (98, m_schema_read), (99, m_slices_IndexFunc_byte_byte), (100, m_num_Zag), (101, m_codec_reader), (102, m_slices_Clone_int_int), (103, m_slices_Index_int_int), (104, m_slices_Delete_int_int), (105, m_schema_get), (106, m_schema_pass), (107, m_codec_reader_1), (108, m_codec_reader_2), (109, m_codec_reader_3)]
abbrev T : Nat → Option MFun := look tab
theorem T_ferrymanlaw08_SegmentGrows : T F.ferrymanlaw08_SegmentGrows = some m_ferrymanlaw08_SegmentGrows := rfl
theorem T_ferrymanlaw08_awake : T F.ferrymanlaw08_awake = some m_ferrymanlaw08_awake := rfl
theorem T_segment_Encode : T F.segment_Encode = some m_segment_Encode := rfl
theorem T_segment_Head : T F.segment_Head = some m_segment_Head := rfl
theorem T_segment_Body : T F.segment_Body = some m_segment_Body := rfl
theorem T_segment_Recover : T F.segment_Recover = some m_segment_Recover := rfl
theorem T_ferrymanref08_Same : T F.ferrymanref08_Same = some m_ferrymanref08_Same := rfl
theorem T_ferrymanref08_Upgraded : T F.ferrymanref08_Upgraded = some m_ferrymanref08_Upgraded := rfl
theorem T_segment_fit : T F.segment_fit = some m_segment_fit := rfl
theorem T_segment_blocks : T F.segment_blocks = some m_segment_blocks := rfl
theorem T_slices_Concat_byte_byte : T F.slices_Concat_byte_byte = some m_slices_Concat_byte_byte := rfl
theorem T_segment_footer : T F.segment_footer = some m_segment_footer := rfl
theorem T_segment_known : T F.segment_known = some m_segment_known := rfl
theorem T_segment_framed : T F.segment_framed = some m_segment_framed := rfl
theorem T_num_Put : T F.num_Put = some m_num_Put := rfl
theorem T_frame_Whole : T F.frame_Whole = some m_frame_Whole := rfl
theorem T_segment_reader_walk : T F.segment_reader_walk = some m_segment_reader_walk := rfl
theorem T_frame_Size : T F.frame_Size = some m_frame_Size := rfl
theorem T_ferrymanref07_Same : T F.ferrymanref07_Same = some m_ferrymanref07_Same := rfl
theorem T_ferrymanref06_Upgrade : T F.ferrymanref06_Upgrade = some m_ferrymanref06_Upgrade := rfl
theorem T_schema_Fits : T F.schema_Fits = some m_schema_Fits := rfl
theorem T_segment_data : T F.segment_data = some m_segment_data := rfl
theorem T_slices_Grow_byte_byte : T F.slices_Grow_byte_byte = some m_slices_Grow_byte_byte := rfl
theorem T_frame_Encode : T F.frame_Encode = some m_frame_Encode := rfl
theorem T_num_groups : T F.num_groups = some m_num_groups := rfl
theorem T_frame_walk : T F.frame_walk = some m_frame_walk := rfl
theorem T_segment_reader_head : T F.segment_reader_head = some m_segment_reader_head := rfl
theorem T_segment_reader_block : T F.segment_reader_block = some m_segment_reader_block := rfl
theorem T_bytes_Equal : T F.bytes_Equal = some m_bytes_Equal := rfl
theorem T_objs_Fits : T F.objs_Fits = some m_objs_Fits := rfl
theorem T_block_Encode : T F.block_Encode = some m_block_Encode := rfl
theorem T_schema_Encode : T F.schema_Encode = some m_schema_Encode := rfl
theorem T_frame_sum : T F.frame_sum = some m_frame_sum := rfl
theorem T_frame_Decode : T F.frame_Decode = some m_frame_Decode := rfl
theorem T_num_Get : T F.num_Get = some m_num_Get := rfl
theorem T_block_Decode : T F.block_Decode = some m_block_Decode := rfl
theorem T_segment_elder : T F.segment_elder = some m_segment_elder := rfl
theorem T_objs_cut : T F.objs_cut = some m_objs_cut := rfl
theorem T_block_Fits : T F.block_Fits = some m_block_Fits := rfl
theorem T_num_PutSigned : T F.num_PutSigned = some m_num_PutSigned := rfl
theorem T_codec_PutOp : T F.codec_PutOp = some m_codec_PutOp := rfl
theorem T_schema_fields : T F.schema_fields = some m_schema_fields := rfl
theorem T_schema_put : T F.schema_put = some m_schema_put := rfl
theorem T_num_Fixed32 : T F.num_Fixed32 = some m_num_Fixed32 := rfl
theorem T_crc_More : T F.crc_More = some m_crc_More := rfl
theorem T_crc_Sum : T F.crc_Sum = some m_crc_Sum := rfl
theorem T_frame_open : T F.frame_open = some m_frame_open := rfl
theorem T_slices_Equal_byte_byte : T F.slices_Equal_byte_byte = some m_slices_Equal_byte_byte := rfl
theorem T_slices_Clone_byte_byte : T F.slices_Clone_byte_byte = some m_slices_Clone_byte_byte := rfl
theorem T_num_read : T F.num_read = some m_num_read := rfl
theorem T_block_record : T F.block_record = some m_block_record := rfl
theorem T_schema_Decode : T F.schema_Decode = some m_schema_Decode := rfl
theorem T_num_Zig : T F.num_Zig = some m_num_Zig := rfl
theorem T_num_fixed : T F.num_fixed = some m_num_fixed := rfl
theorem T_crc_Table : T F.crc_Table = some m_crc_Table := rfl
theorem T_slices_ContainsFunc_byte_byte : T F.slices_ContainsFunc_byte_byte = some m_slices_ContainsFunc_byte_byte := rfl
theorem T_frame_open_1 : T F.frame_open_1 = some m_frame_open_1 := rfl
theorem T_num_GetSigned : T F.num_GetSigned = some m_num_GetSigned := rfl
theorem T_codec_GetOp : T F.codec_GetOp = some m_codec_GetOp := rfl
theorem T_schema_read : T F.schema_read = some m_schema_read := rfl
theorem T_slices_IndexFunc_byte_byte : T F.slices_IndexFunc_byte_byte = some m_slices_IndexFunc_byte_byte := rfl
theorem T_num_Zag : T F.num_Zag = some m_num_Zag := rfl
theorem T_codec_reader : T F.codec_reader = some m_codec_reader := rfl
theorem T_slices_Clone_int_int : T F.slices_Clone_int_int = some m_slices_Clone_int_int := rfl
theorem T_slices_Index_int_int : T F.slices_Index_int_int = some m_slices_Index_int_int := rfl
theorem T_slices_Delete_int_int : T F.slices_Delete_int_int = some m_slices_Delete_int_int := rfl
theorem T_schema_get : T F.schema_get = some m_schema_get := rfl
theorem T_schema_pass : T F.schema_pass = some m_schema_pass := rfl
theorem T_codec_reader_1 : T F.codec_reader_1 = some m_codec_reader_1 := rfl
theorem T_codec_reader_2 : T F.codec_reader_2 = some m_codec_reader_2 := rfl
theorem T_codec_reader_3 : T F.codec_reader_3 = some m_codec_reader_3 := rfl
def L_ferrymanlaw08_SegmentGrows := And.intro (@ru_of T _ _ o_5_1.eq_1) <| And.intro (@ru_of T _ _ o_5_2.eq_1) <| And.intro (@ru_of T _ _ o_5_3.eq_1) <| And.intro (@ru_of T _ _ o_5_4.eq_1) <| And.intro (@ru_of T _ _ o_5_5.eq_1) <| And.intro (@ex_of T _ _ c_5_6.eq_1) <| And.intro (@ru_of T _ _ o_5_7.eq_1) <| And.intro (@ru_of T _ _ o_5_8.eq_1) <| And.intro (@ru_of T _ _ o_5_9.eq_1) <| And.intro (@ex_of T _ _ c_5_10.eq_1) <| And.intro (@ru_of T _ _ o_5_11.eq_1) <| And.intro (@ru_of T _ _ o_5_12.eq_1) <| And.intro (@ru_of T _ _ o_5_13.eq_1) <| And.intro (@ru_of T _ _ o_5_14.eq_1) <| And.intro (@ru_of T _ _ o_5_15.eq_1) <| And.intro (@ex_of T _ _ c_5_16.eq_1) <| And.intro (@ru_of T _ _ o_5_17.eq_1) <| And.intro (@ru_of T _ _ o_5_18.eq_1) <| And.intro (@ru_of T _ _ o_5_19.eq_1) <| And.intro (@df_of T _ _ [(1, 9), (3, 9), (5, 9), (7, 9)] o_5_19.eq_1) <| And.intro (@ru_of T _ _ o_5_20.eq_1) <| And.intro (@dr_of T _ _ [(0, 3)] o_5_20.eq_1 (by decide)) <| And.intro (@ru_of T _ _ o_5_21.eq_1) <| And.intro (@dr_of T _ _ [(0, 3)] o_5_21.eq_1 (by decide)) <| And.intro (@ru_of T _ _ o_5_22.eq_1) <| And.intro (@ex_of T _ _ c_5_23.eq_1) <| And.intro (@ex_of T _ _ c_5_24.eq_1) <| And.intro (@ex_of T _ _ c_5_25.eq_1) <| And.intro (@ex_of T _ _ c_5_26.eq_1) <| And.intro (@ex_of T _ _ c_5_27.eq_1) <| And.intro (@ex_of T _ _ c_5_28.eq_1) <| And.intro (@ex_of T _ _ c_5_29.eq_1) <| And.intro (@ex_of T _ _ c_5_30.eq_1) <| And.intro (@ex_of T _ _ c_5_31.eq_1) <| And.intro (@ex_of T _ _ c_5_32.eq_1) <| And.intro (@ex_of T _ _ c_5_33.eq_1) <| And.intro (@ex_of T _ _ c_5_34.eq_1) <| And.intro (@ex_of T _ _ c_5_35.eq_1) <| And.intro (@ex_of T _ _ c_5_36.eq_1) <| @ex_of T _ _ c_5_37.eq_1
theorem v_ferrymanlaw08_SegmentGrows {O : Orc} {H : Hp} {vs : List V} : vcall T O F.ferrymanlaw08_SegmentGrows vs H = (args H [0, 0, 0] vs).bind fun p => vk H p.2 [0, 0, 0] vs (O.deep F.ferrymanlaw08_SegmentGrows p.1) := vcall_deep T_ferrymanlaw08_SegmentGrows rfl
theorem rr_ferrymanlaw08_SegmentGrows : m_ferrymanlaw08_SegmentGrows.res = [.tmp 6] := rfl
theorem ro_ferrymanlaw08_SegmentGrows : m_ferrymanlaw08_SegmentGrows.rets = [[]] := rfl
theorem b0_ferrymanlaw08_SegmentGrows : m_ferrymanlaw08_SegmentGrows.body = (.seq (.reg o_5_1) c_5_37) := rfl
def L_ferrymanlaw08_awake := And.intro (@ru_of T _ _ o_9_1.eq_1) <| And.intro (@ru_of T _ _ o_9_2.eq_1) <| And.intro (@ru_of T _ _ o_9_3.eq_1) <| And.intro (@ex_of T _ _ c_9_4.eq_1) <| @ex_of T _ _ c_9_5.eq_1
theorem v_ferrymanlaw08_awake {O : Orc} {H : Hp} {vs : List V} : vcall T O F.ferrymanlaw08_awake vs H = (args H [] vs).bind fun p => vk H p.2 [] vs (O.deep F.ferrymanlaw08_awake p.1) := vcall_deep T_ferrymanlaw08_awake rfl
theorem rr_ferrymanlaw08_awake : m_ferrymanlaw08_awake.res = [.tmp 0] := rfl
theorem ro_ferrymanlaw08_awake : m_ferrymanlaw08_awake.rets = [[]] := rfl
theorem b0_ferrymanlaw08_awake : m_ferrymanlaw08_awake.body = (.seq (.reg o_9_1) c_9_5) := rfl
def L_segment_Encode := And.intro (@ru_of T _ _ o_10_1.eq_1) <| And.intro (@ru_of T _ _ o_10_2.eq_1) <| And.intro (@ru_of T _ _ o_10_3.eq_1) <| And.intro (@ru_of T _ _ o_10_4.eq_1) <| And.intro (@ru_of T _ _ o_10_5.eq_1) <| And.intro (@ru_of T _ _ o_10_6.eq_1) <| And.intro (@ex_of T _ _ c_10_7.eq_1) <| And.intro (@ex_of T _ _ c_10_8.eq_1) <| And.intro (@ru_of T _ _ o_10_9.eq_1) <| And.intro (@ru_of T _ _ o_10_10.eq_1) <| And.intro (@ex_of T _ _ c_10_11.eq_1) <| And.intro (@ex_of T _ _ c_10_12.eq_1) <| And.intro (@ex_of T _ _ c_10_13.eq_1) <| @ex_of T _ _ c_10_14.eq_1
theorem v_segment_Encode {O : Orc} {H : Hp} {vs : List V} : vcall T O F.segment_Encode vs H = (args H [0, 0] vs).bind fun p => vk H p.2 [0, 0] vs (O.deep F.segment_Encode p.1) := vcall_deep T_segment_Encode rfl
theorem rr_segment_Encode : m_segment_Encode.res = [.tmp 4, .tmp 5] := rfl
theorem ro_segment_Encode : m_segment_Encode.rets = [[2], []] := rfl
theorem b0_segment_Encode : m_segment_Encode.body = (.seq (.reg o_10_1) c_10_14) := rfl
def L_segment_Head := And.intro (@ru_of T _ _ o_12_1.eq_1) <| And.intro (@ru_of T _ _ o_12_2.eq_1) <| And.intro (@ru_of T _ _ o_12_3.eq_1) <| And.intro (@ru_of T _ _ o_12_4.eq_1) <| And.intro (@ru_of T _ _ o_12_5.eq_1) <| And.intro (@ex_of T _ _ c_12_6.eq_1) <| And.intro (@ex_of T _ _ c_12_7.eq_1) <| And.intro (@ru_of T _ _ o_12_8.eq_1) <| And.intro (@ex_of T _ _ c_12_9.eq_1) <| @ex_of T _ _ c_12_10.eq_1
theorem v_segment_Head {O : Orc} {H : Hp} {vs : List V} : vcall T O F.segment_Head vs H = (args H [0, 0, 0] vs).bind fun p => vk H p.2 [0, 0, 0] vs (O.deep F.segment_Head p.1) := vcall_deep T_segment_Head rfl
theorem rr_segment_Head : m_segment_Head.res = [.tmp 6, .tmp 7] := rfl
theorem ro_segment_Head : m_segment_Head.rets = [[2], []] := rfl
theorem b0_segment_Head : m_segment_Head.body = (.seq (.reg o_12_1) c_12_10) := rfl
def L_segment_Body := And.intro (@ru_of T _ _ o_14_1.eq_1) <| And.intro (@ru_of T _ _ o_14_2.eq_1) <| And.intro (@ru_of T _ _ o_14_3.eq_1) <| And.intro (@ru_of T _ _ o_14_4.eq_1) <| And.intro (@ru_of T _ _ o_14_5.eq_1) <| And.intro (@ex_of T _ _ c_14_6.eq_1) <| And.intro (@ex_of T _ _ c_14_7.eq_1) <| And.intro (@ru_of T _ _ o_14_8.eq_1) <| And.intro (@ex_of T _ _ c_14_9.eq_1) <| @ex_of T _ _ c_14_10.eq_1
theorem v_segment_Body {O : Orc} {H : Hp} {vs : List V} : vcall T O F.segment_Body vs H = (args H [0, 0] vs).bind fun p => vk H p.2 [0, 0] vs (O.deep F.segment_Body p.1) := vcall_deep T_segment_Body rfl
theorem rr_segment_Body : m_segment_Body.res = [.tmp 4, .tmp 5] := rfl
theorem ro_segment_Body : m_segment_Body.rets = [[2], []] := rfl
theorem b0_segment_Body : m_segment_Body.body = (.seq (.reg o_14_1) c_14_10) := rfl
def L_segment_Recover := And.intro (@ru_of T _ _ o_16_1.eq_1) <| And.intro (@ru_of T _ _ o_16_2.eq_1) <| And.intro (@ru_of T _ _ o_16_3.eq_1) <| And.intro (@ru_of T _ _ o_16_4.eq_1) <| And.intro (@ex_of T _ _ c_16_5.eq_1) <| And.intro (@ru_of T _ _ o_16_6.eq_1) <| And.intro (@ru_of T _ _ o_16_7.eq_1) <| And.intro (@ru_of T _ _ o_16_8.eq_1) <| And.intro (@ru_of T _ _ o_16_9.eq_1) <| And.intro (@ex_of T _ _ c_16_10.eq_1) <| And.intro (@ru_of T _ _ o_16_11.eq_1) <| And.intro (@ru_of T _ _ o_16_12.eq_1) <| And.intro (@ru_of T _ _ o_16_13.eq_1) <| And.intro (@ru_of T _ _ o_16_14.eq_1) <| And.intro (@ru_of T _ _ o_16_15.eq_1) <| And.intro (@ex_of T _ _ c_16_16.eq_1) <| And.intro (@ru_of T _ _ o_16_17.eq_1) <| And.intro (@ex_of T _ _ c_16_18.eq_1) <| And.intro (@ex_of T _ _ c_16_19.eq_1) <| And.intro (@ex_of T _ _ c_16_20.eq_1) <| And.intro (@ex_of T _ _ c_16_21.eq_1) <| And.intro (@ex_of T _ _ c_16_22.eq_1) <| And.intro (@ru_of T _ _ o_16_23.eq_1) <| And.intro (@ex_of T _ _ c_16_24.eq_1) <| And.intro (@ex_of T _ _ c_16_25.eq_1) <| And.intro (@ex_of T _ _ c_16_26.eq_1) <| And.intro (@ex_of T _ _ c_16_27.eq_1) <| And.intro (@ex_of T _ _ c_16_28.eq_1) <| And.intro (@ex_of T _ _ c_16_29.eq_1) <| And.intro (@ex_of T _ _ c_16_30.eq_1) <| @ex_of T _ _ c_16_31.eq_1
theorem v_segment_Recover {O : Orc} {H : Hp} {vs : List V} : vcall T O F.segment_Recover vs H = (args H [0] vs).bind fun p => vk H p.2 [0] vs (O.deep F.segment_Recover p.1) := vcall_deep T_segment_Recover rfl
theorem rr_segment_Recover : m_segment_Recover.res = [.cell 2 3 true, .tmp 3, .tmp 4] := rfl
theorem ro_segment_Recover : m_segment_Recover.rets = [[], [], []] := rfl
theorem b0_segment_Recover : m_segment_Recover.body = (.seq (.reg o_16_1) c_16_31) := rfl
def L_ferrymanref08_Same := And.intro (@ru_of T _ _ o_17_1.eq_1) <| And.intro (@ru_of T _ _ o_17_2.eq_1) <| And.intro (@ru_of T _ _ o_17_3.eq_1) <| And.intro (@ex_of T _ _ c_17_4.eq_1) <| @ex_of T _ _ c_17_5.eq_1
theorem v_ferrymanref08_Same {O : Orc} {H : Hp} {vs : List V} : vcall T O F.ferrymanref08_Same vs H = (args H [0, 0] vs).bind fun p => vk H p.2 [0, 0] vs (O.deep F.ferrymanref08_Same p.1) := vcall_deep T_ferrymanref08_Same rfl
theorem rr_ferrymanref08_Same : m_ferrymanref08_Same.res = [.tmp 4] := rfl
theorem ro_ferrymanref08_Same : m_ferrymanref08_Same.rets = [[]] := rfl
theorem b0_ferrymanref08_Same : m_ferrymanref08_Same.body = (.seq (.reg o_17_1) c_17_5) := rfl
def L_ferrymanref08_Upgraded := And.intro (@ru_of T _ _ o_18_1.eq_1) <| And.intro (@ru_of T _ _ o_18_2.eq_1) <| And.intro (@ru_of T _ _ o_18_3.eq_1) <| And.intro (@ru_of T _ _ o_18_4.eq_1) <| And.intro (@ex_of T _ _ c_18_5.eq_1) <| And.intro (@ru_of T _ _ o_18_6.eq_1) <| And.intro (@ru_of T _ _ o_18_7.eq_1) <| And.intro (@ex_of T _ _ c_18_8.eq_1) <| And.intro (@ru_of T _ _ o_18_9.eq_1) <| And.intro (@ex_of T _ _ c_18_10.eq_1) <| And.intro (@ex_of T _ _ c_18_11.eq_1) <| And.intro (@ex_of T _ _ c_18_12.eq_1) <| And.intro (@ex_of T _ _ c_18_13.eq_1) <| And.intro (@ru_of T _ _ o_18_14.eq_1) <| And.intro (@ex_of T _ _ c_18_15.eq_1) <| And.intro (@ex_of T _ _ c_18_16.eq_1) <| @ex_of T _ _ c_18_17.eq_1
theorem v_ferrymanref08_Upgraded {O : Orc} {H : Hp} {vs : List V} : vcall T O F.ferrymanref08_Upgraded vs H = (args H [0, 0] vs).bind fun p => vk H p.2 [0, 0] vs (O.deep F.ferrymanref08_Upgraded p.1) := vcall_deep T_ferrymanref08_Upgraded rfl
theorem rr_ferrymanref08_Upgraded : m_ferrymanref08_Upgraded.res = [.cell 4 3 true] := rfl
theorem ro_ferrymanref08_Upgraded : m_ferrymanref08_Upgraded.rets = [[]] := rfl
theorem b0_ferrymanref08_Upgraded : m_ferrymanref08_Upgraded.body = (.seq (.reg o_18_1) c_18_17) := rfl
def L_segment_fit := And.intro (@ru_of T _ _ o_20_1.eq_1) <| And.intro (@ru_of T _ _ o_20_2.eq_1) <| And.intro (@ru_of T _ _ o_20_3.eq_1) <| And.intro (@ru_of T _ _ o_20_4.eq_1) <| And.intro (@ru_of T _ _ o_20_5.eq_1) <| And.intro (@ru_of T _ _ o_20_6.eq_1) <| And.intro (@ex_of T _ _ c_20_7.eq_1) <| And.intro (@ex_of T _ _ c_20_8.eq_1) <| And.intro (@ru_of T _ _ o_20_9.eq_1) <| And.intro (@ex_of T _ _ c_20_10.eq_1) <| And.intro (@ex_of T _ _ c_20_11.eq_1) <| And.intro (@ex_of T _ _ c_20_12.eq_1) <| And.intro (@ex_of T _ _ c_20_13.eq_1) <| And.intro (@ex_of T _ _ c_20_14.eq_1) <| And.intro (@ru_of T _ _ o_20_15.eq_1) <| And.intro (@ex_of T _ _ c_20_16.eq_1) <| @ex_of T _ _ c_20_17.eq_1
theorem v_segment_fit {O : Orc} {H : Hp} {vs : List V} : vcall T O F.segment_fit vs H = (args H [0, 0] vs).bind fun p => vk H p.2 [0, 0] vs (O.deep F.segment_fit p.1) := vcall_deep T_segment_fit rfl
theorem rr_segment_fit : m_segment_fit.res = [.tmp 4] := rfl
theorem ro_segment_fit : m_segment_fit.rets = [[]] := rfl
theorem b0_segment_fit : m_segment_fit.body = (.seq (.reg o_20_1) c_20_17) := rfl
def L_segment_blocks := And.intro (@ru_of T _ _ o_21_1.eq_1) <| And.intro (@ru_of T _ _ o_21_2.eq_1) <| And.intro (@ru_of T _ _ o_21_3.eq_1) <| And.intro (@ex_of T _ _ c_21_4.eq_1) <| And.intro (@ru_of T _ _ o_21_5.eq_1) <| And.intro (@ru_of T _ _ o_21_6.eq_1) <| And.intro (@ru_of T _ _ o_21_7.eq_1) <| And.intro (@ex_of T _ _ c_21_8.eq_1) <| And.intro (@ex_of T _ _ c_21_9.eq_1) <| And.intro (@ex_of T _ _ c_21_10.eq_1) <| And.intro (@ex_of T _ _ c_21_11.eq_1) <| And.intro (@ru_of T _ _ o_21_12.eq_1) <| And.intro (@ex_of T _ _ c_21_13.eq_1) <| And.intro (@ex_of T _ _ c_21_14.eq_1) <| @ex_of T _ _ c_21_15.eq_1
theorem v_segment_blocks {O : Orc} {H : Hp} {vs : List V} : vcall T O F.segment_blocks vs H = (args H [0, 0] vs).bind fun p => vk H p.2 [0, 0] vs (O.deep F.segment_blocks p.1) := vcall_deep T_segment_blocks rfl
theorem rr_segment_blocks : m_segment_blocks.res = [.tmp 4] := rfl
theorem ro_segment_blocks : m_segment_blocks.rets = [[2]] := rfl
theorem b0_segment_blocks : m_segment_blocks.body = (.seq (.reg o_21_1) c_21_15) := rfl
def L_slices_Concat_byte_byte := And.intro (@ru_of T _ _ o_22_1.eq_1) <| And.intro (@ru_of T _ _ o_22_2.eq_1) <| And.intro (@ru_of T _ _ o_22_3.eq_1) <| And.intro (@ru_of T _ _ o_22_4.eq_1) <| And.intro (@ru_of T _ _ o_22_5.eq_1) <| And.intro (@ru_of T _ _ o_22_6.eq_1) <| And.intro (@ru_of T _ _ o_22_7.eq_1) <| And.intro (@ex_of T _ _ c_22_8.eq_1) <| And.intro (@ex_of T _ _ c_22_9.eq_1) <| And.intro (@ex_of T _ _ c_22_10.eq_1) <| And.intro (@ru_of T _ _ o_22_11.eq_1) <| And.intro (@ex_of T _ _ c_22_12.eq_1) <| And.intro (@ex_of T _ _ c_22_13.eq_1) <| And.intro (@ex_of T _ _ c_22_14.eq_1) <| And.intro (@ex_of T _ _ c_22_15.eq_1) <| And.intro (@ex_of T _ _ c_22_16.eq_1) <| And.intro (@ru_of T _ _ o_22_17.eq_1) <| And.intro (@ru_of T _ _ o_22_18.eq_1) <| And.intro (@ru_of T _ _ o_22_19.eq_1) <| And.intro (@ru_of T _ _ o_22_20.eq_1) <| And.intro (@ru_of T _ _ o_22_21.eq_1) <| And.intro (@ex_of T _ _ c_22_22.eq_1) <| And.intro (@ru_of T _ _ o_22_23.eq_1) <| And.intro (@ex_of T _ _ c_22_24.eq_1) <| And.intro (@ex_of T _ _ c_22_25.eq_1) <| And.intro (@ex_of T _ _ c_22_26.eq_1) <| And.intro (@ex_of T _ _ c_22_27.eq_1) <| And.intro (@ex_of T _ _ c_22_28.eq_1) <| And.intro (@ru_of T _ _ o_22_29.eq_1) <| And.intro (@ex_of T _ _ c_22_30.eq_1) <| And.intro (@ex_of T _ _ c_22_31.eq_1) <| And.intro (@ex_of T _ _ c_22_32.eq_1) <| And.intro (@ex_of T _ _ c_22_33.eq_1) <| @ex_of T _ _ c_22_34.eq_1
theorem v_slices_Concat_byte_byte {O : Orc} {H : Hp} {vs : List V} : vcall T O F.slices_Concat_byte_byte vs H = (args H [0] vs).bind fun p => vk H p.2 [0] vs (O.deep F.slices_Concat_byte_byte p.1) := vcall_deep T_slices_Concat_byte_byte rfl
theorem rr_slices_Concat_byte_byte : m_slices_Concat_byte_byte.res = [.tmp 2] := rfl
theorem ro_slices_Concat_byte_byte : m_slices_Concat_byte_byte.rets = [[2]] := rfl
theorem b0_slices_Concat_byte_byte : m_slices_Concat_byte_byte.body = (.seq (.reg o_22_1) c_22_34) := rfl
def L_segment_footer := And.intro (@ru_of T _ _ o_23_1.eq_1) <| And.intro (@ru_of T _ _ o_23_2.eq_1) <| And.intro (@ru_of T _ _ o_23_3.eq_1) <| And.intro (@ru_of T _ _ o_23_4.eq_1) <| And.intro (@ru_of T _ _ o_23_5.eq_1) <| And.intro (@ru_of T _ _ o_23_6.eq_1) <| And.intro (@ex_of T _ _ c_23_7.eq_1) <| And.intro (@ru_of T _ _ o_23_8.eq_1) <| And.intro (@ex_of T _ _ c_23_9.eq_1) <| And.intro (@ex_of T _ _ c_23_10.eq_1) <| And.intro (@ex_of T _ _ c_23_11.eq_1) <| And.intro (@ex_of T _ _ c_23_12.eq_1) <| And.intro (@ex_of T _ _ c_23_13.eq_1) <| And.intro (@ru_of T _ _ o_23_14.eq_1) <| And.intro (@ex_of T _ _ c_23_15.eq_1) <| And.intro (@ex_of T _ _ c_23_16.eq_1) <| @ex_of T _ _ c_23_17.eq_1
theorem v_segment_footer {O : Orc} {H : Hp} {vs : List V} : vcall T O F.segment_footer vs H = (args H [0] vs).bind fun p => vk H p.2 [0] vs (O.deep F.segment_footer p.1) := vcall_deep T_segment_footer rfl
theorem rr_segment_footer : m_segment_footer.res = [.tmp 2] := rfl
theorem ro_segment_footer : m_segment_footer.rets = [[2]] := rfl
theorem b0_segment_footer : m_segment_footer.body = (.seq (.reg o_23_1) c_23_17) := rfl
def L_segment_known := And.intro (@ru_of T _ _ o_29_1.eq_1) <| And.intro (@ru_of T _ _ o_29_2.eq_1) <| @ex_of T _ _ c_29_3.eq_1
theorem v_segment_known {O : Orc} {H : Hp} {vs : List V} : vcall T O F.segment_known vs H = (args H [0] vs).bind fun p => vk H p.2 [0] vs (O.deep F.segment_known p.1) := vcall_deep T_segment_known rfl
theorem rr_segment_known : m_segment_known.res = [.tmp 2] := rfl
theorem ro_segment_known : m_segment_known.rets = [[]] := rfl
theorem b0_segment_known : m_segment_known.body = (.seq (.reg o_29_1) c_29_3) := rfl
def L_segment_framed := And.intro (@ru_of T _ _ o_30_1.eq_1) <| And.intro (@ru_of T _ _ o_30_2.eq_1) <| And.intro (@ru_of T _ _ o_30_3.eq_1) <| And.intro (@ex_of T _ _ c_30_4.eq_1) <| @ex_of T _ _ c_30_5.eq_1
theorem v_segment_framed {O : Orc} {H : Hp} {vs : List V} : vcall T O F.segment_framed vs H = (args H [0] vs).bind fun p => vk H p.2 [0] vs (O.deep F.segment_framed p.1) := vcall_deep T_segment_framed rfl
theorem rr_segment_framed : m_segment_framed.res = [.tmp 2] := rfl
theorem ro_segment_framed : m_segment_framed.rets = [[2]] := rfl
theorem b0_segment_framed : m_segment_framed.body = (.seq (.reg o_30_1) c_30_5) := rfl
def L_num_Put := And.intro (@ru_of T _ _ o_31_1.eq_1) <| And.intro (@ru_of T _ _ o_31_2.eq_1) <| And.intro (@ru_of T _ _ o_31_3.eq_1) <| And.intro (@ex_of T _ _ c_31_4.eq_1) <| And.intro (@ru_of T _ _ o_31_5.eq_1) <| And.intro (@ex_of T _ _ c_31_6.eq_1) <| @ex_of T _ _ c_31_7.eq_1
theorem v_num_Put {O : Orc} {H : Hp} {vs : List V} : vcall T O F.num_Put vs H = (args H [2, 0] vs).bind fun p => vk H p.2 [2, 0] vs (O.deep F.num_Put p.1) := vcall_deep T_num_Put rfl
theorem rr_num_Put : m_num_Put.res = [.tmp 4] := rfl
theorem ro_num_Put : m_num_Put.rets = [[2]] := rfl
theorem b0_num_Put : m_num_Put.body = (.seq (.reg o_31_1) c_31_7) := rfl
def L_frame_Whole := And.intro (@ru_of T _ _ o_34_1.eq_1) <| And.intro (@ru_of T _ _ o_34_2.eq_1) <| And.intro (@ru_of T _ _ o_34_3.eq_1) <| And.intro (@ex_of T _ _ c_34_4.eq_1) <| @ex_of T _ _ c_34_5.eq_1
theorem v_frame_Whole {O : Orc} {H : Hp} {vs : List V} : vcall T O F.frame_Whole vs H = (args H [0] vs).bind fun p => vk H p.2 [0] vs (O.deep F.frame_Whole p.1) := vcall_deep T_frame_Whole rfl
theorem rr_frame_Whole : m_frame_Whole.res = [.tmp 2, .tmp 3] := rfl
theorem ro_frame_Whole : m_frame_Whole.rets = [[2], []] := rfl
theorem b0_frame_Whole : m_frame_Whole.body = (.seq (.reg o_34_1) c_34_5) := rfl
def L_segment_reader_walk := And.intro (@ru_of T _ _ o_35_1.eq_1) <| And.intro (@ru_of T _ _ o_35_2.eq_1) <| And.intro (@ru_of T _ _ o_35_3.eq_1) <| And.intro (@ru_of T _ _ o_35_4.eq_1) <| And.intro (@ex_of T _ _ c_35_5.eq_1) <| And.intro (@ex_of T _ _ c_35_6.eq_1) <| And.intro (@ru_of T _ _ o_35_7.eq_1) <| And.intro (@ru_of T _ _ o_35_8.eq_1) <| And.intro (@ru_of T _ _ o_35_9.eq_1) <| And.intro (@ru_of T _ _ o_35_10.eq_1) <| And.intro (@ru_of T _ _ o_35_11.eq_1) <| And.intro (@ru_of T _ _ o_35_12.eq_1) <| And.intro (@ex_of T _ _ c_35_13.eq_1) <| And.intro (@ex_of T _ _ c_35_14.eq_1) <| And.intro (@ex_of T _ _ c_35_15.eq_1) <| And.intro (@ru_of T _ _ o_35_16.eq_1) <| And.intro (@ex_of T _ _ c_35_17.eq_1) <| And.intro (@ex_of T _ _ c_35_18.eq_1) <| And.intro (@ex_of T _ _ c_35_19.eq_1) <| And.intro (@ex_of T _ _ c_35_20.eq_1) <| And.intro (@ex_of T _ _ c_35_21.eq_1) <| And.intro (@ru_of T _ _ o_35_22.eq_1) <| And.intro (@ex_of T _ _ c_35_23.eq_1) <| And.intro (@ex_of T _ _ c_35_24.eq_1) <| @ex_of T _ _ c_35_25.eq_1
theorem v_segment_reader_walk {O : Orc} {H : Hp} {vs : List V} : vcall T O F.segment_reader_walk vs H = ik (O.inl F.segment_reader_walk vs H) := vcall_inl T_segment_reader_walk rfl
theorem i_segment_reader_walk {n : Nat} {H : Hp} {vs : List V} : (orc T (n + 1)).inl F.segment_reader_walk vs H = finI H.length false [.tmp 4, .tmp 5] (unw T (orc T n) n H.length [] (exec T (orc T n) n H.length (.seq (.reg o_35_1) c_35_25) (params 0 vs) H)) := by rw [orc_inl, T_segment_reader_walk, Option.bind_some, runInl_eq]; rfl
def L_frame_Size := And.intro (@ru_of T _ _ o_36_1.eq_1) <| And.intro (@ru_of T _ _ o_36_2.eq_1) <| And.intro (@ru_of T _ _ o_36_3.eq_1) <| And.intro (@ex_of T _ _ c_36_4.eq_1) <| And.intro (@ru_of T _ _ o_36_5.eq_1) <| And.intro (@ex_of T _ _ c_36_6.eq_1) <| @ex_of T _ _ c_36_7.eq_1
theorem v_frame_Size {O : Orc} {H : Hp} {vs : List V} : vcall T O F.frame_Size vs H = (args H [0] vs).bind fun p => vk H p.2 [0] vs (O.deep F.frame_Size p.1) := vcall_deep T_frame_Size rfl
theorem rr_frame_Size : m_frame_Size.res = [.tmp 2] := rfl
theorem ro_frame_Size : m_frame_Size.rets = [[]] := rfl
theorem b0_frame_Size : m_frame_Size.body = (.seq (.reg o_36_1) c_36_7) := rfl
def L_ferrymanref07_Same := And.intro (@ru_of T _ _ o_37_1.eq_1) <| And.intro (@ru_of T _ _ o_37_2.eq_1) <| And.intro (@ru_of T _ _ o_37_3.eq_1) <| And.intro (@ex_of T _ _ c_37_4.eq_1) <| And.intro (@ru_of T _ _ o_37_5.eq_1) <| And.intro (@ru_of T _ _ o_37_6.eq_1) <| And.intro (@ex_of T _ _ c_37_7.eq_1) <| And.intro (@ru_of T _ _ o_37_8.eq_1) <| And.intro (@ru_of T _ _ o_37_9.eq_1) <| And.intro (@ex_of T _ _ c_37_10.eq_1) <| And.intro (@ru_of T _ _ o_37_11.eq_1) <| And.intro (@ex_of T _ _ c_37_12.eq_1) <| And.intro (@ex_of T _ _ c_37_13.eq_1) <| And.intro (@ex_of T _ _ c_37_14.eq_1) <| And.intro (@ex_of T _ _ c_37_15.eq_1) <| And.intro (@ru_of T _ _ o_37_16.eq_1) <| And.intro (@ex_of T _ _ c_37_17.eq_1) <| And.intro (@ex_of T _ _ c_37_18.eq_1) <| @ex_of T _ _ c_37_19.eq_1
theorem v_ferrymanref07_Same {O : Orc} {H : Hp} {vs : List V} : vcall T O F.ferrymanref07_Same vs H = (args H [0, 0] vs).bind fun p => vk H p.2 [0, 0] vs (O.deep F.ferrymanref07_Same p.1) := vcall_deep T_ferrymanref07_Same rfl
theorem rr_ferrymanref07_Same : m_ferrymanref07_Same.res = [.tmp 4] := rfl
theorem ro_ferrymanref07_Same : m_ferrymanref07_Same.rets = [[]] := rfl
theorem b0_ferrymanref07_Same : m_ferrymanref07_Same.body = (.seq (.reg o_37_1) c_37_19) := rfl
def L_ferrymanref06_Upgrade := And.intro (@ru_of T _ _ o_38_1.eq_1) <| And.intro (@ru_of T _ _ o_38_2.eq_1) <| And.intro (@ru_of T _ _ o_38_3.eq_1) <| And.intro (@ex_of T _ _ c_38_4.eq_1) <| And.intro (@ru_of T _ _ o_38_5.eq_1) <| And.intro (@ru_of T _ _ o_38_6.eq_1) <| And.intro (@ex_of T _ _ c_38_7.eq_1) <| And.intro (@ru_of T _ _ o_38_8.eq_1) <| And.intro (@ru_of T _ _ o_38_9.eq_1) <| And.intro (@ex_of T _ _ c_38_10.eq_1) <| And.intro (@ru_of T _ _ o_38_11.eq_1) <| And.intro (@ex_of T _ _ c_38_12.eq_1) <| And.intro (@ex_of T _ _ c_38_13.eq_1) <| And.intro (@ex_of T _ _ c_38_14.eq_1) <| @ex_of T _ _ c_38_15.eq_1
theorem v_ferrymanref06_Upgrade {O : Orc} {H : Hp} {vs : List V} : vcall T O F.ferrymanref06_Upgrade vs H = (args H [0, 0] vs).bind fun p => vk H p.2 [0, 0] vs (O.deep F.ferrymanref06_Upgrade p.1) := vcall_deep T_ferrymanref06_Upgrade rfl
theorem rr_ferrymanref06_Upgrade : m_ferrymanref06_Upgrade.res = [.cell 4 7 true, .tmp 5] := rfl
theorem ro_ferrymanref06_Upgrade : m_ferrymanref06_Upgrade.rets = [[], []] := rfl
theorem b0_ferrymanref06_Upgrade : m_ferrymanref06_Upgrade.body = (.seq (.reg o_38_1) c_38_15) := rfl
def L_schema_Fits := And.intro (@ru_of T _ _ o_40_1.eq_1) <| And.intro (@ru_of T _ _ o_40_2.eq_1) <| @ex_of T _ _ c_40_3.eq_1
theorem v_schema_Fits {O : Orc} {H : Hp} {vs : List V} : vcall T O F.schema_Fits vs H = (args H [0] vs).bind fun p => vk H p.2 [0] vs (O.deep F.schema_Fits p.1) := vcall_deep T_schema_Fits rfl
theorem rr_schema_Fits : m_schema_Fits.res = [.tmp 2] := rfl
theorem ro_schema_Fits : m_schema_Fits.rets = [[]] := rfl
theorem b0_schema_Fits : m_schema_Fits.body = (.seq (.reg o_40_1) c_40_3) := rfl
def L_segment_data := And.intro (@ru_of T _ _ o_41_1.eq_1) <| And.intro (@ru_of T _ _ o_41_2.eq_1) <| And.intro (@ru_of T _ _ o_41_3.eq_1) <| And.intro (@ru_of T _ _ o_41_4.eq_1) <| And.intro (@ex_of T _ _ c_41_5.eq_1) <| And.intro (@ex_of T _ _ c_41_6.eq_1) <| And.intro (@ru_of T _ _ o_41_7.eq_1) <| And.intro (@ru_of T _ _ o_41_8.eq_1) <| And.intro (@ru_of T _ _ o_41_9.eq_1) <| And.intro (@ru_of T _ _ o_41_10.eq_1) <| And.intro (@ru_of T _ _ o_41_11.eq_1) <| And.intro (@ru_of T _ _ o_41_12.eq_1) <| And.intro (@ex_of T _ _ c_41_13.eq_1) <| And.intro (@ex_of T _ _ c_41_14.eq_1) <| And.intro (@ru_of T _ _ o_41_15.eq_1) <| And.intro (@ex_of T _ _ c_41_16.eq_1) <| And.intro (@ex_of T _ _ c_41_17.eq_1) <| And.intro (@ex_of T _ _ c_41_18.eq_1) <| And.intro (@ex_of T _ _ c_41_19.eq_1) <| And.intro (@ex_of T _ _ c_41_20.eq_1) <| And.intro (@ru_of T _ _ o_41_21.eq_1) <| And.intro (@ex_of T _ _ c_41_22.eq_1) <| And.intro (@ex_of T _ _ c_41_23.eq_1) <| And.intro (@ex_of T _ _ c_41_24.eq_1) <| @ex_of T _ _ c_41_25.eq_1
theorem v_segment_data {O : Orc} {H : Hp} {vs : List V} : vcall T O F.segment_data vs H = (args H [0, 0] vs).bind fun p => vk H p.2 [0, 0] vs (O.deep F.segment_data p.1) := vcall_deep T_segment_data rfl
theorem rr_segment_data : m_segment_data.res = [.tmp 4] := rfl
theorem ro_segment_data : m_segment_data.rets = [[2]] := rfl
theorem b0_segment_data : m_segment_data.body = (.seq (.reg o_41_1) c_41_25) := rfl
def L_slices_Grow_byte_byte := And.intro (@ru_of T _ _ o_42_1.eq_1) <| And.intro (@ru_of T _ _ o_42_2.eq_1) <| And.intro (@ex_of T _ _ c_42_3.eq_1) <| And.intro (@ru_of T _ _ o_42_4.eq_1) <| And.intro (@ru_of T _ _ o_42_5.eq_1) <| And.intro (@ru_of T _ _ o_42_6.eq_1) <| And.intro (@ex_of T _ _ c_42_7.eq_1) <| And.intro (@ex_of T _ _ c_42_8.eq_1) <| And.intro (@ru_of T _ _ o_42_9.eq_1) <| And.intro (@ex_of T _ _ c_42_10.eq_1) <| And.intro (@ex_of T _ _ c_42_11.eq_1) <| @ex_of T _ _ c_42_12.eq_1
theorem v_slices_Grow_byte_byte {O : Orc} {H : Hp} {vs : List V} : vcall T O F.slices_Grow_byte_byte vs H = ik (O.inl F.slices_Grow_byte_byte vs H) := vcall_inl T_slices_Grow_byte_byte rfl
theorem i_slices_Grow_byte_byte {n : Nat} {H : Hp} {vs : List V} : (orc T (n + 1)).inl F.slices_Grow_byte_byte vs H = finI H.length false [.tmp 4] (unw T (orc T n) n H.length [] (exec T (orc T n) n H.length (.seq (.reg o_42_1) c_42_12) (params 0 vs) H)) := by rw [orc_inl, T_slices_Grow_byte_byte, Option.bind_some, runInl_eq]; rfl
def L_frame_Encode := And.intro (@ru_of T _ _ o_47_1.eq_1) <| And.intro (@ru_of T _ _ o_47_2.eq_1) <| And.intro (@ru_of T _ _ o_47_3.eq_1) <| And.intro (@ex_of T _ _ c_47_4.eq_1) <| And.intro (@ru_of T _ _ o_47_5.eq_1) <| And.intro (@ru_of T _ _ o_47_6.eq_1) <| And.intro (@ex_of T _ _ c_47_7.eq_1) <| And.intro (@ex_of T _ _ c_47_8.eq_1) <| @ex_of T _ _ c_47_9.eq_1
theorem v_frame_Encode {O : Orc} {H : Hp} {vs : List V} : vcall T O F.frame_Encode vs H = (args H [0] vs).bind fun p => vk H p.2 [0] vs (O.deep F.frame_Encode p.1) := vcall_deep T_frame_Encode rfl
theorem rr_frame_Encode : m_frame_Encode.res = [.tmp 2, .tmp 3] := rfl
theorem ro_frame_Encode : m_frame_Encode.rets = [[2], []] := rfl
theorem b0_frame_Encode : m_frame_Encode.body = (.seq (.reg o_47_1) c_47_9) := rfl
def L_num_groups := And.intro (@ru_of T _ _ o_48_1.eq_1) <| And.intro (@ru_of T _ _ o_48_2.eq_1) <| And.intro (@ex_of T _ _ c_48_3.eq_1) <| And.intro (@ru_of T _ _ o_48_4.eq_1) <| And.intro (@ru_of T _ _ o_48_5.eq_1) <| And.intro (@ex_of T _ _ c_48_6.eq_1) <| And.intro (@ex_of T _ _ c_48_7.eq_1) <| And.intro (@ex_of T _ _ c_48_8.eq_1) <| And.intro (@ru_of T _ _ o_48_9.eq_1) <| And.intro (@ex_of T _ _ c_48_10.eq_1) <| @ex_of T _ _ c_48_11.eq_1
theorem v_num_groups {O : Orc} {H : Hp} {vs : List V} : vcall T O F.num_groups vs H = (args H [2, 0] vs).bind fun p => vk H p.2 [2, 0] vs (O.deep F.num_groups p.1) := vcall_deep T_num_groups rfl
theorem rr_num_groups : m_num_groups.res = [.tmp 4] := rfl
theorem ro_num_groups : m_num_groups.rets = [[2]] := rfl
theorem b0_num_groups : m_num_groups.body = (.seq (.reg o_48_1) c_48_11) := rfl
def L_frame_walk := And.intro (@ru_of T _ _ o_51_1.eq_1) <| And.intro (@ru_of T _ _ o_51_2.eq_1) <| And.intro (@ex_of T _ _ c_51_3.eq_1) <| And.intro (@ru_of T _ _ o_51_4.eq_1) <| And.intro (@ru_of T _ _ o_51_5.eq_1) <| And.intro (@ru_of T _ _ o_51_6.eq_1) <| And.intro (@ex_of T _ _ c_51_7.eq_1) <| And.intro (@ru_of T _ _ o_51_8.eq_1) <| And.intro (@ru_of T _ _ o_51_9.eq_1) <| And.intro (@ex_of T _ _ c_51_10.eq_1) <| And.intro (@ex_of T _ _ c_51_11.eq_1) <| And.intro (@ex_of T _ _ c_51_12.eq_1) <| And.intro (@ex_of T _ _ c_51_13.eq_1) <| And.intro (@ex_of T _ _ c_51_14.eq_1) <| And.intro (@ru_of T _ _ o_51_15.eq_1) <| And.intro (@ex_of T _ _ c_51_16.eq_1) <| @ex_of T _ _ c_51_17.eq_1
theorem v_frame_walk {O : Orc} {H : Hp} {vs : List V} : vcall T O F.frame_walk vs H = (args H [0] vs).bind fun p => vk H p.2 [0] vs (O.deep F.frame_walk p.1) := vcall_deep T_frame_walk rfl
theorem rr_frame_walk : m_frame_walk.res = [.tmp 2, .tmp 3, .tmp 4] := rfl
theorem ro_frame_walk : m_frame_walk.rets = [[2], [], []] := rfl
theorem b0_frame_walk : m_frame_walk.body = (.seq (.reg o_51_1) c_51_17) := rfl
def L_segment_reader_head := And.intro (@ru_of T _ _ o_52_1.eq_1) <| And.intro (@ru_of T _ _ o_52_2.eq_1) <| And.intro (@ru_of T _ _ o_52_3.eq_1) <| And.intro (@ex_of T _ _ c_52_4.eq_1) <| And.intro (@ru_of T _ _ o_52_5.eq_1) <| And.intro (@ru_of T _ _ o_52_6.eq_1) <| And.intro (@ru_of T _ _ o_52_7.eq_1) <| And.intro (@ru_of T _ _ o_52_8.eq_1) <| And.intro (@ru_of T _ _ o_52_9.eq_1) <| And.intro (@ru_of T _ _ o_52_10.eq_1) <| And.intro (@ru_of T _ _ o_52_11.eq_1) <| And.intro (@ru_of T _ _ o_52_12.eq_1) <| And.intro (@ru_of T _ _ o_52_13.eq_1) <| And.intro (@ex_of T _ _ c_52_14.eq_1) <| And.intro (@ex_of T _ _ c_52_15.eq_1) <| And.intro (@ru_of T _ _ o_52_16.eq_1) <| And.intro (@ex_of T _ _ c_52_17.eq_1) <| And.intro (@ex_of T _ _ c_52_18.eq_1) <| And.intro (@ex_of T _ _ c_52_19.eq_1) <| And.intro (@ru_of T _ _ o_52_20.eq_1) <| And.intro (@ex_of T _ _ c_52_21.eq_1) <| And.intro (@ex_of T _ _ c_52_22.eq_1) <| And.intro (@ex_of T _ _ c_52_23.eq_1) <| And.intro (@ex_of T _ _ c_52_24.eq_1) <| And.intro (@ex_of T _ _ c_52_25.eq_1) <| And.intro (@ru_of T _ _ o_52_26.eq_1) <| And.intro (@ru_of T _ _ o_52_27.eq_1) <| And.intro (@ru_of T _ _ o_52_28.eq_1) <| And.intro (@ru_of T _ _ o_52_29.eq_1) <| And.intro (@ru_of T _ _ o_52_30.eq_1) <| And.intro (@ru_of T _ _ o_52_31.eq_1) <| And.intro (@ex_of T _ _ c_52_32.eq_1) <| And.intro (@ex_of T _ _ c_52_33.eq_1) <| And.intro (@ex_of T _ _ c_52_34.eq_1) <| And.intro (@ru_of T _ _ o_52_35.eq_1) <| And.intro (@df_of T _ _ [(6, 12), (8, 12)] o_52_35.eq_1) <| And.intro (@ru_of T _ _ o_52_36.eq_1) <| And.intro (@ex_of T _ _ c_52_37.eq_1) <| And.intro (@ex_of T _ _ c_52_38.eq_1) <| And.intro (@ex_of T _ _ c_52_39.eq_1) <| And.intro (@ex_of T _ _ c_52_40.eq_1) <| And.intro (@ex_of T _ _ c_52_41.eq_1) <| And.intro (@ex_of T _ _ c_52_42.eq_1) <| @ex_of T _ _ c_52_43.eq_1
theorem v_segment_reader_head {O : Orc} {H : Hp} {vs : List V} : vcall T O F.segment_reader_head vs H = ik (O.inl F.segment_reader_head vs H) := vcall_inl T_segment_reader_head rfl
theorem i_segment_reader_head {n : Nat} {H : Hp} {vs : List V} : (orc T (n + 1)).inl F.segment_reader_head vs H = finI H.length false [.tmp 4] (unw T (orc T n) n H.length [] (exec T (orc T n) n H.length (.seq (.reg o_52_1) c_52_43) (params 0 vs) H)) := by rw [orc_inl, T_segment_reader_head, Option.bind_some, runInl_eq]; rfl
def L_segment_reader_block := And.intro (@ru_of T _ _ o_53_1.eq_1) <| And.intro (@ru_of T _ _ o_53_2.eq_1) <| And.intro (@ru_of T _ _ o_53_3.eq_1) <| And.intro (@ru_of T _ _ o_53_4.eq_1) <| And.intro (@ru_of T _ _ o_53_5.eq_1) <| And.intro (@ru_of T _ _ o_53_6.eq_1) <| And.intro (@ex_of T _ _ c_53_7.eq_1) <| And.intro (@ru_of T _ _ o_53_8.eq_1) <| And.intro (@ex_of T _ _ c_53_9.eq_1) <| And.intro (@ru_of T _ _ o_53_10.eq_1) <| And.intro (@ru_of T _ _ o_53_11.eq_1) <| And.intro (@ru_of T _ _ o_53_12.eq_1) <| And.intro (@ru_of T _ _ o_53_13.eq_1) <| And.intro (@ru_of T _ _ o_53_14.eq_1) <| And.intro (@ex_of T _ _ c_53_15.eq_1) <| And.intro (@ex_of T _ _ c_53_16.eq_1) <| And.intro (@ru_of T _ _ o_53_17.eq_1) <| And.intro (@ru_of T _ _ o_53_18.eq_1) <| And.intro (@ex_of T _ _ c_53_19.eq_1) <| And.intro (@ex_of T _ _ c_53_20.eq_1) <| And.intro (@ex_of T _ _ c_53_21.eq_1) <| And.intro (@ex_of T _ _ c_53_22.eq_1) <| And.intro (@ex_of T _ _ c_53_23.eq_1) <| And.intro (@ex_of T _ _ c_53_24.eq_1) <| @ex_of T _ _ c_53_25.eq_1
theorem v_segment_reader_block {O : Orc} {H : Hp} {vs : List V} : vcall T O F.segment_reader_block vs H = ik (O.inl F.segment_reader_block vs H) := vcall_inl T_segment_reader_block rfl
theorem i_segment_reader_block {n : Nat} {H : Hp} {vs : List V} : (orc T (n + 1)).inl F.segment_reader_block vs H = finI H.length false [.tmp 4] (unw T (orc T n) n H.length [] (exec T (orc T n) n H.length (.seq (.reg o_53_1) c_53_25) (params 0 vs) H)) := by rw [orc_inl, T_segment_reader_block, Option.bind_some, runInl_eq]; rfl
def L_bytes_Equal := And.intro (@ru_of T _ _ o_56_1.eq_1) <| And.intro (@ru_of T _ _ o_56_2.eq_1) <| @ex_of T _ _ c_56_3.eq_1
theorem v_bytes_Equal {O : Orc} {H : Hp} {vs : List V} : vcall T O F.bytes_Equal vs H = (args H [0, 0] vs).bind fun p => vk H p.2 [0, 0] vs (O.deep F.bytes_Equal p.1) := vcall_deep T_bytes_Equal rfl
theorem rr_bytes_Equal : m_bytes_Equal.res = [.tmp 4] := rfl
theorem ro_bytes_Equal : m_bytes_Equal.rets = [[]] := rfl
theorem b0_bytes_Equal : m_bytes_Equal.body = (.seq (.reg o_56_1) c_56_3) := rfl
def L_objs_Fits := And.intro (@ru_of T _ _ o_57_1.eq_1) <| And.intro (@ru_of T _ _ o_57_2.eq_1) <| And.intro (@dr_of T _ _ [(10, 13), (18, 21)] o_57_2.eq_1 (by decide)) <| @ex_of T _ _ c_57_3.eq_1
theorem v_objs_Fits {O : Orc} {H : Hp} {vs : List V} : vcall T O F.objs_Fits vs H = (args H [0] vs).bind fun p => vk H p.2 [0] vs (O.deep F.objs_Fits p.1) := vcall_deep T_objs_Fits rfl
theorem rr_objs_Fits : m_objs_Fits.res = [.tmp 2] := rfl
theorem ro_objs_Fits : m_objs_Fits.rets = [[]] := rfl
theorem b0_objs_Fits : m_objs_Fits.body = (.seq (.reg o_57_1) c_57_3) := rfl
def L_block_Encode := And.intro (@ru_of T _ _ o_58_1.eq_1) <| And.intro (@ru_of T _ _ o_58_2.eq_1) <| And.intro (@ru_of T _ _ o_58_3.eq_1) <| And.intro (@ex_of T _ _ c_58_4.eq_1) <| And.intro (@ru_of T _ _ o_58_5.eq_1) <| And.intro (@ru_of T _ _ o_58_6.eq_1) <| And.intro (@ru_of T _ _ o_58_7.eq_1) <| And.intro (@ru_of T _ _ o_58_8.eq_1) <| And.intro (@ru_of T _ _ o_58_9.eq_1) <| And.intro (@ru_of T _ _ o_58_10.eq_1) <| And.intro (@df_of T _ _ [(5, 3), (8, 3), (9, 3)] o_58_10.eq_1) <| And.intro (@ru_of T _ _ o_58_11.eq_1) <| And.intro (@ru_of T _ _ o_58_12.eq_1) <| And.intro (@ru_of T _ _ o_58_13.eq_1) <| And.intro (@ex_of T _ _ c_58_14.eq_1) <| And.intro (@ex_of T _ _ c_58_15.eq_1) <| And.intro (@ex_of T _ _ c_58_16.eq_1) <| And.intro (@ex_of T _ _ c_58_17.eq_1) <| And.intro (@ru_of T _ _ o_58_18.eq_1) <| And.intro (@ex_of T _ _ c_58_19.eq_1) <| And.intro (@ex_of T _ _ c_58_20.eq_1) <| And.intro (@ex_of T _ _ c_58_21.eq_1) <| And.intro (@ex_of T _ _ c_58_22.eq_1) <| And.intro (@ex_of T _ _ c_58_23.eq_1) <| And.intro (@ru_of T _ _ o_58_24.eq_1) <| And.intro (@ex_of T _ _ c_58_25.eq_1) <| And.intro (@ex_of T _ _ c_58_26.eq_1) <| And.intro (@ex_of T _ _ c_58_27.eq_1) <| And.intro (@ex_of T _ _ c_58_28.eq_1) <| @ex_of T _ _ c_58_29.eq_1
theorem v_block_Encode {O : Orc} {H : Hp} {vs : List V} : vcall T O F.block_Encode vs H = (args H [0] vs).bind fun p => vk H p.2 [0] vs (O.deep F.block_Encode p.1) := vcall_deep T_block_Encode rfl
theorem rr_block_Encode : m_block_Encode.res = [.tmp 2, .tmp 3] := rfl
theorem ro_block_Encode : m_block_Encode.rets = [[2], []] := rfl
theorem b0_block_Encode : m_block_Encode.body = (.seq (.reg o_58_1) c_58_29) := rfl
def L_schema_Encode := And.intro (@ru_of T _ _ o_59_1.eq_1) <| And.intro (@ru_of T _ _ o_59_2.eq_1) <| And.intro (@ru_of T _ _ o_59_3.eq_1) <| And.intro (@ru_of T _ _ o_59_4.eq_1) <| And.intro (@ru_of T _ _ o_59_5.eq_1) <| And.intro (@ru_of T _ _ o_59_6.eq_1) <| And.intro (@ex_of T _ _ c_59_7.eq_1) <| And.intro (@ex_of T _ _ c_59_8.eq_1) <| And.intro (@ru_of T _ _ o_59_9.eq_1) <| And.intro (@ru_of T _ _ o_59_10.eq_1) <| And.intro (@ru_of T _ _ o_59_11.eq_1) <| And.intro (@ru_of T _ _ o_59_12.eq_1) <| And.intro (@ru_of T _ _ o_59_13.eq_1) <| And.intro (@ex_of T _ _ c_59_14.eq_1) <| And.intro (@ru_of T _ _ o_59_15.eq_1) <| And.intro (@ex_of T _ _ c_59_16.eq_1) <| And.intro (@ex_of T _ _ c_59_17.eq_1) <| And.intro (@ex_of T _ _ c_59_18.eq_1) <| And.intro (@ex_of T _ _ c_59_19.eq_1) <| And.intro (@ex_of T _ _ c_59_20.eq_1) <| And.intro (@ru_of T _ _ o_59_21.eq_1) <| And.intro (@ex_of T _ _ c_59_22.eq_1) <| And.intro (@ex_of T _ _ c_59_23.eq_1) <| And.intro (@ex_of T _ _ c_59_24.eq_1) <| And.intro (@ex_of T _ _ c_59_25.eq_1) <| @ex_of T _ _ c_59_26.eq_1
theorem v_schema_Encode {O : Orc} {H : Hp} {vs : List V} : vcall T O F.schema_Encode vs H = (args H [0, 0] vs).bind fun p => vk H p.2 [0, 0] vs (O.deep F.schema_Encode p.1) := vcall_deep T_schema_Encode rfl
theorem rr_schema_Encode : m_schema_Encode.res = [.tmp 4, .tmp 5] := rfl
theorem ro_schema_Encode : m_schema_Encode.rets = [[2], []] := rfl
theorem b0_schema_Encode : m_schema_Encode.body = (.seq (.reg o_59_1) c_59_26) := rfl
def L_frame_sum := And.intro (@ru_of T _ _ o_63_1.eq_1) <| And.intro (@ru_of T _ _ o_63_2.eq_1) <| @ex_of T _ _ c_63_3.eq_1
theorem v_frame_sum {O : Orc} {H : Hp} {vs : List V} : vcall T O F.frame_sum vs H = (args H [0, 0] vs).bind fun p => vk H p.2 [0, 0] vs (O.deep F.frame_sum p.1) := vcall_deep T_frame_sum rfl
theorem rr_frame_sum : m_frame_sum.res = [.tmp 4] := rfl
theorem ro_frame_sum : m_frame_sum.rets = [[2]] := rfl
theorem b0_frame_sum : m_frame_sum.body = (.seq (.reg o_63_1) c_63_3) := rfl
def L_frame_Decode := And.intro (@ru_of T _ _ o_65_1.eq_1) <| And.intro (@ru_of T _ _ o_65_2.eq_1) <| And.intro (@ru_of T _ _ o_65_3.eq_1) <| And.intro (@ex_of T _ _ c_65_4.eq_1) <| And.intro (@ru_of T _ _ o_65_5.eq_1) <| And.intro (@ru_of T _ _ o_65_6.eq_1) <| And.intro (@ru_of T _ _ o_65_7.eq_1) <| And.intro (@ru_of T _ _ o_65_8.eq_1) <| And.intro (@ru_of T _ _ o_65_9.eq_1) <| And.intro (@ru_of T _ _ o_65_10.eq_1) <| And.intro (@ru_of T _ _ o_65_11.eq_1) <| And.intro (@ex_of T _ _ c_65_12.eq_1) <| And.intro (@ex_of T _ _ c_65_13.eq_1) <| And.intro (@ex_of T _ _ c_65_14.eq_1) <| And.intro (@ru_of T _ _ o_65_15.eq_1) <| And.intro (@ru_of T _ _ o_65_16.eq_1) <| And.intro (@df_of T _ _ [(5, 8)] o_65_16.eq_1) <| And.intro (@ru_of T _ _ o_65_17.eq_1) <| And.intro (@ex_of T _ _ c_65_18.eq_1) <| And.intro (@ru_of T _ _ o_65_19.eq_1) <| And.intro (@ex_of T _ _ c_65_20.eq_1) <| And.intro (@ex_of T _ _ c_65_21.eq_1) <| And.intro (@ex_of T _ _ c_65_22.eq_1) <| And.intro (@ex_of T _ _ c_65_23.eq_1) <| And.intro (@ex_of T _ _ c_65_24.eq_1) <| @ex_of T _ _ c_65_25.eq_1
theorem v_frame_Decode {O : Orc} {H : Hp} {vs : List V} : vcall T O F.frame_Decode vs H = (args H [0] vs).bind fun p => vk H p.2 [0] vs (O.deep F.frame_Decode p.1) := vcall_deep T_frame_Decode rfl
theorem rr_frame_Decode : m_frame_Decode.res = [.tmp 2, .tmp 3, .tmp 4] := rfl
theorem ro_frame_Decode : m_frame_Decode.rets = [[2], [], []] := rfl
theorem b0_frame_Decode : m_frame_Decode.body = (.seq (.reg o_65_1) c_65_25) := rfl
def L_num_Get := And.intro (@ru_of T _ _ o_66_1.eq_1) <| And.intro (@ru_of T _ _ o_66_2.eq_1) <| And.intro (@ru_of T _ _ o_66_3.eq_1) <| And.intro (@ru_of T _ _ o_66_4.eq_1) <| And.intro (@ex_of T _ _ c_66_5.eq_1) <| And.intro (@ru_of T _ _ o_66_6.eq_1) <| And.intro (@ex_of T _ _ c_66_7.eq_1) <| And.intro (@ex_of T _ _ c_66_8.eq_1) <| @ex_of T _ _ c_66_9.eq_1
theorem v_num_Get {O : Orc} {H : Hp} {vs : List V} : vcall T O F.num_Get vs H = (args H [0] vs).bind fun p => vk H p.2 [0] vs (O.deep F.num_Get p.1) := vcall_deep T_num_Get rfl
theorem rr_num_Get : m_num_Get.res = [.tmp 2, .tmp 3] := rfl
theorem ro_num_Get : m_num_Get.rets = [[], []] := rfl
theorem b0_num_Get : m_num_Get.body = (.seq (.reg o_66_1) c_66_9) := rfl
def L_block_Decode := And.intro (@ru_of T _ _ o_67_1.eq_1) <| And.intro (@ru_of T _ _ o_67_2.eq_1) <| And.intro (@ru_of T _ _ o_67_3.eq_1) <| And.intro (@ru_of T _ _ o_67_4.eq_1) <| And.intro (@ru_of T _ _ o_67_5.eq_1) <| And.intro (@ex_of T _ _ c_67_6.eq_1) <| And.intro (@ru_of T _ _ o_67_7.eq_1) <| And.intro (@ru_of T _ _ o_67_8.eq_1) <| And.intro (@ru_of T _ _ o_67_9.eq_1) <| And.intro (@ru_of T _ _ o_67_10.eq_1) <| And.intro (@ru_of T _ _ o_67_11.eq_1) <| And.intro (@ru_of T _ _ o_67_12.eq_1) <| And.intro (@ru_of T _ _ o_67_13.eq_1) <| And.intro (@ru_of T _ _ o_67_14.eq_1) <| And.intro (@ru_of T _ _ o_67_15.eq_1) <| And.intro (@ex_of T _ _ c_67_16.eq_1) <| And.intro (@ru_of T _ _ o_67_17.eq_1) <| And.intro (@ru_of T _ _ o_67_18.eq_1) <| And.intro (@ru_of T _ _ o_67_19.eq_1) <| And.intro (@ru_of T _ _ o_67_20.eq_1) <| And.intro (@df_of T _ _ [(6, 2), (6, 3)] o_67_20.eq_1) <| And.intro (@ex_of T _ _ c_67_21.eq_1) <| And.intro (@ex_of T _ _ c_67_22.eq_1) <| And.intro (@ex_of T _ _ c_67_23.eq_1) <| And.intro (@ex_of T _ _ c_67_24.eq_1) <| And.intro (@ex_of T _ _ c_67_25.eq_1) <| And.intro (@ex_of T _ _ c_67_26.eq_1) <| And.intro (@ru_of T _ _ o_67_27.eq_1) <| And.intro (@ex_of T _ _ c_67_28.eq_1) <| And.intro (@ex_of T _ _ c_67_29.eq_1) <| And.intro (@ex_of T _ _ c_67_30.eq_1) <| And.intro (@ex_of T _ _ c_67_31.eq_1) <| And.intro (@ex_of T _ _ c_67_32.eq_1) <| And.intro (@ru_of T _ _ o_67_33.eq_1) <| And.intro (@ru_of T _ _ o_67_34.eq_1) <| And.intro (@ru_of T _ _ o_67_35.eq_1) <| And.intro (@ex_of T _ _ c_67_36.eq_1) <| And.intro (@ex_of T _ _ c_67_37.eq_1) <| And.intro (@ru_of T _ _ o_67_38.eq_1) <| And.intro (@ex_of T _ _ c_67_39.eq_1) <| And.intro (@ex_of T _ _ c_67_40.eq_1) <| And.intro (@ex_of T _ _ c_67_41.eq_1) <| And.intro (@ex_of T _ _ c_67_42.eq_1) <| And.intro (@ex_of T _ _ c_67_43.eq_1) <| And.intro (@ex_of T _ _ c_67_44.eq_1) <| And.intro (@ex_of T _ _ c_67_45.eq_1) <| And.intro (@ex_of T _ _ c_67_46.eq_1) <| @ex_of T _ _ c_67_47.eq_1
theorem v_block_Decode {O : Orc} {H : Hp} {vs : List V} : vcall T O F.block_Decode vs H = (args H [0] vs).bind fun p => vk H p.2 [0] vs (O.deep F.block_Decode p.1) := vcall_deep T_block_Decode rfl
theorem rr_block_Decode : m_block_Decode.res = [.tmp 2, .tmp 3] := rfl
theorem ro_block_Decode : m_block_Decode.rets = [[8], []] := rfl
theorem b0_block_Decode : m_block_Decode.body = (.seq (.reg o_67_1) c_67_47) := rfl
def L_segment_elder := And.intro (@ru_of T _ _ o_68_1.eq_1) <| And.intro (@ru_of T _ _ o_68_2.eq_1) <| And.intro (@ru_of T _ _ o_68_3.eq_1) <| And.intro (@ex_of T _ _ c_68_4.eq_1) <| And.intro (@ru_of T _ _ o_68_5.eq_1) <| And.intro (@ru_of T _ _ o_68_6.eq_1) <| And.intro (@ru_of T _ _ o_68_7.eq_1) <| And.intro (@ex_of T _ _ c_68_8.eq_1) <| And.intro (@ru_of T _ _ o_68_9.eq_1) <| And.intro (@ru_of T _ _ o_68_10.eq_1) <| And.intro (@ru_of T _ _ o_68_11.eq_1) <| And.intro (@ex_of T _ _ c_68_12.eq_1) <| And.intro (@ru_of T _ _ o_68_13.eq_1) <| And.intro (@df_of T _ _ [(8, 2), (8, 3)] o_68_13.eq_1) <| And.intro (@ex_of T _ _ c_68_14.eq_1) <| And.intro (@ex_of T _ _ c_68_15.eq_1) <| And.intro (@ex_of T _ _ c_68_16.eq_1) <| And.intro (@ex_of T _ _ c_68_17.eq_1) <| And.intro (@ex_of T _ _ c_68_18.eq_1) <| And.intro (@ex_of T _ _ c_68_19.eq_1) <| And.intro (@ru_of T _ _ o_68_20.eq_1) <| And.intro (@ex_of T _ _ c_68_21.eq_1) <| And.intro (@ex_of T _ _ c_68_22.eq_1) <| @ex_of T _ _ c_68_23.eq_1
theorem v_segment_elder {O : Orc} {H : Hp} {vs : List V} : vcall T O F.segment_elder vs H = (args H [0, 0] vs).bind fun p => vk H p.2 [0, 0] vs (O.deep F.segment_elder p.1) := vcall_deep T_segment_elder rfl
theorem rr_segment_elder : m_segment_elder.res = [.tmp 4, .tmp 5] := rfl
theorem ro_segment_elder : m_segment_elder.rets = [[8], []] := rfl
theorem b0_segment_elder : m_segment_elder.body = (.seq (.reg o_68_1) c_68_23) := rfl
def L_objs_cut := And.intro (@ru_of T _ _ o_69_1.eq_1) <| And.intro (@ru_of T _ _ o_69_2.eq_1) <| @ex_of T _ _ c_69_3.eq_1
theorem v_objs_cut {O : Orc} {H : Hp} {vs : List V} : vcall T O F.objs_cut vs H = (args H [0] vs).bind fun p => vk H p.2 [0] vs (O.deep F.objs_cut p.1) := vcall_deep T_objs_cut rfl
theorem rr_objs_cut : m_objs_cut.res = [.tmp 2] := rfl
theorem ro_objs_cut : m_objs_cut.rets = [[]] := rfl
theorem b0_objs_cut : m_objs_cut.body = (.seq (.reg o_69_1) c_69_3) := rfl
def L_block_Fits := And.intro (@ru_of T _ _ o_70_1.eq_1) <| And.intro (@ru_of T _ _ o_70_2.eq_1) <| And.intro (@ru_of T _ _ o_70_3.eq_1) <| And.intro (@ru_of T _ _ o_70_4.eq_1) <| And.intro (@ru_of T _ _ o_70_5.eq_1) <| And.intro (@ru_of T _ _ o_70_6.eq_1) <| And.intro (@ex_of T _ _ c_70_7.eq_1) <| And.intro (@ex_of T _ _ c_70_8.eq_1) <| And.intro (@ru_of T _ _ o_70_9.eq_1) <| And.intro (@ex_of T _ _ c_70_10.eq_1) <| And.intro (@ex_of T _ _ c_70_11.eq_1) <| And.intro (@ex_of T _ _ c_70_12.eq_1) <| And.intro (@ex_of T _ _ c_70_13.eq_1) <| And.intro (@ex_of T _ _ c_70_14.eq_1) <| And.intro (@ru_of T _ _ o_70_15.eq_1) <| And.intro (@ex_of T _ _ c_70_16.eq_1) <| @ex_of T _ _ c_70_17.eq_1
theorem v_block_Fits {O : Orc} {H : Hp} {vs : List V} : vcall T O F.block_Fits vs H = (args H [0] vs).bind fun p => vk H p.2 [0] vs (O.deep F.block_Fits p.1) := vcall_deep T_block_Fits rfl
theorem rr_block_Fits : m_block_Fits.res = [.tmp 2] := rfl
theorem ro_block_Fits : m_block_Fits.rets = [[]] := rfl
theorem b0_block_Fits : m_block_Fits.body = (.seq (.reg o_70_1) c_70_17) := rfl
def L_num_PutSigned := And.intro (@ru_of T _ _ o_71_1.eq_1) <| And.intro (@ru_of T _ _ o_71_2.eq_1) <| @ex_of T _ _ c_71_3.eq_1
theorem v_num_PutSigned {O : Orc} {H : Hp} {vs : List V} : vcall T O F.num_PutSigned vs H = (args H [2, 0] vs).bind fun p => vk H p.2 [2, 0] vs (O.deep F.num_PutSigned p.1) := vcall_deep T_num_PutSigned rfl
theorem rr_num_PutSigned : m_num_PutSigned.res = [.tmp 4] := rfl
theorem ro_num_PutSigned : m_num_PutSigned.rets = [[2]] := rfl
theorem b0_num_PutSigned : m_num_PutSigned.body = (.seq (.reg o_71_1) c_71_3) := rfl
def L_codec_PutOp := And.intro (@ru_of T _ _ o_72_1.eq_1) <| And.intro (@ru_of T _ _ o_72_2.eq_1) <| And.intro (@ru_of T _ _ o_72_3.eq_1) <| And.intro (@ex_of T _ _ c_72_4.eq_1) <| And.intro (@ru_of T _ _ o_72_5.eq_1) <| And.intro (@df_of T _ _ [(5, 3), (8, 3), (8, 6)] o_72_5.eq_1) <| And.intro (@ex_of T _ _ c_72_6.eq_1) <| @ex_of T _ _ c_72_7.eq_1
theorem v_codec_PutOp {O : Orc} {H : Hp} {vs : List V} : vcall T O F.codec_PutOp vs H = (args H [2, 0] vs).bind fun p => vk H p.2 [2, 0] vs (O.deep F.codec_PutOp p.1) := vcall_deep T_codec_PutOp rfl
theorem rr_codec_PutOp : m_codec_PutOp.res = [.tmp 4, .tmp 5] := rfl
theorem ro_codec_PutOp : m_codec_PutOp.rets = [[2], []] := rfl
theorem b0_codec_PutOp : m_codec_PutOp.body = (.seq (.reg o_72_1) c_72_7) := rfl
def L_schema_fields := And.intro (@ru_of T _ _ o_73_1.eq_1) <| And.intro (@ru_of T _ _ o_73_2.eq_1) <| And.intro (@ru_of T _ _ o_73_3.eq_1) <| And.intro (@ru_of T _ _ o_73_4.eq_1) <| And.intro (@ex_of T _ _ c_73_5.eq_1) <| And.intro (@ru_of T _ _ o_73_6.eq_1) <| And.intro (@ex_of T _ _ c_73_7.eq_1) <| And.intro (@ex_of T _ _ c_73_8.eq_1) <| @ex_of T _ _ c_73_9.eq_1
theorem v_schema_fields {O : Orc} {H : Hp} {vs : List V} : vcall T O F.schema_fields vs H = (args H [0] vs).bind fun p => vk H p.2 [0] vs (O.deep F.schema_fields p.1) := vcall_deep T_schema_fields rfl
theorem rr_schema_fields : m_schema_fields.res = [.tmp 2] := rfl
theorem ro_schema_fields : m_schema_fields.rets = [[2]] := rfl
theorem b0_schema_fields : m_schema_fields.body = (.seq (.reg o_73_1) c_73_9) := rfl
def L_schema_put := And.intro (@ru_of T _ _ o_74_1.eq_1) <| And.intro (@ru_of T _ _ o_74_2.eq_1) <| And.intro (@ru_of T _ _ o_74_3.eq_1) <| And.intro (@ru_of T _ _ o_74_4.eq_1) <| And.intro (@ru_of T _ _ o_74_5.eq_1) <| And.intro (@ru_of T _ _ o_74_6.eq_1) <| And.intro (@ru_of T _ _ o_74_7.eq_1) <| And.intro (@ru_of T _ _ o_74_8.eq_1) <| And.intro (@ru_of T _ _ o_74_9.eq_1) <| And.intro (@ru_of T _ _ o_74_10.eq_1) <| And.intro (@ru_of T _ _ o_74_11.eq_1) <| And.intro (@ru_of T _ _ o_74_12.eq_1) <| And.intro (@ex_of T _ _ c_74_13.eq_1) <| And.intro (@ex_of T _ _ c_74_14.eq_1) <| And.intro (@ex_of T _ _ c_74_15.eq_1) <| And.intro (@ex_of T _ _ c_74_16.eq_1) <| And.intro (@ex_of T _ _ c_74_17.eq_1) <| And.intro (@ex_of T _ _ c_74_18.eq_1) <| And.intro (@ru_of T _ _ o_74_19.eq_1) <| And.intro (@ex_of T _ _ c_74_20.eq_1) <| And.intro (@ex_of T _ _ c_74_21.eq_1) <| @ex_of T _ _ c_74_22.eq_1
theorem v_schema_put {O : Orc} {H : Hp} {vs : List V} : vcall T O F.schema_put vs H = (args H [2, 0, 0] vs).bind fun p => vk H p.2 [2, 0, 0] vs (O.deep F.schema_put p.1) := vcall_deep T_schema_put rfl
theorem rr_schema_put : m_schema_put.res = [.tmp 6] := rfl
theorem ro_schema_put : m_schema_put.rets = [[2]] := rfl
theorem b0_schema_put : m_schema_put.body = (.seq (.reg o_74_1) c_74_22) := rfl
def L_num_Fixed32 := And.intro (@ru_of T _ _ o_80_1.eq_1) <| And.intro (@ru_of T _ _ o_80_2.eq_1) <| @ex_of T _ _ c_80_3.eq_1
theorem v_num_Fixed32 {O : Orc} {H : Hp} {vs : List V} : vcall T O F.num_Fixed32 vs H = (args H [0] vs).bind fun p => vk H p.2 [0] vs (O.deep F.num_Fixed32 p.1) := vcall_deep T_num_Fixed32 rfl
theorem rr_num_Fixed32 : m_num_Fixed32.res = [.tmp 2] := rfl
theorem ro_num_Fixed32 : m_num_Fixed32.rets = [[2]] := rfl
theorem b0_num_Fixed32 : m_num_Fixed32.body = (.seq (.reg o_80_1) c_80_3) := rfl
def L_crc_More := And.intro (@ru_of T _ _ o_81_1.eq_1) <| And.intro (@ru_of T _ _ o_81_2.eq_1) <| And.intro (@ru_of T _ _ o_81_3.eq_1) <| And.intro (@ru_of T _ _ o_81_4.eq_1) <| And.intro (@ru_of T _ _ o_81_5.eq_1) <| And.intro (@ru_of T _ _ o_81_6.eq_1) <| And.intro (@ru_of T _ _ o_81_7.eq_1) <| And.intro (@ex_of T _ _ c_81_8.eq_1) <| And.intro (@ru_of T _ _ o_81_9.eq_1) <| And.intro (@ex_of T _ _ c_81_10.eq_1) <| And.intro (@ex_of T _ _ c_81_11.eq_1) <| And.intro (@ex_of T _ _ c_81_12.eq_1) <| And.intro (@ex_of T _ _ c_81_13.eq_1) <| And.intro (@ex_of T _ _ c_81_14.eq_1) <| And.intro (@ru_of T _ _ o_81_15.eq_1) <| And.intro (@ex_of T _ _ c_81_16.eq_1) <| And.intro (@ex_of T _ _ c_81_17.eq_1) <| And.intro (@ex_of T _ _ c_81_18.eq_1) <| @ex_of T _ _ c_81_19.eq_1
theorem v_crc_More {O : Orc} {H : Hp} {vs : List V} : vcall T O F.crc_More vs H = (args H [0, 0] vs).bind fun p => vk H p.2 [0, 0] vs (O.deep F.crc_More p.1) := vcall_deep T_crc_More rfl
theorem rr_crc_More : m_crc_More.res = [.tmp 4] := rfl
theorem ro_crc_More : m_crc_More.rets = [[]] := rfl
theorem b0_crc_More : m_crc_More.body = (.seq (.reg o_81_1) c_81_19) := rfl
def L_crc_Sum := And.intro (@ru_of T _ _ o_82_1.eq_1) <| And.intro (@ru_of T _ _ o_82_2.eq_1) <| @ex_of T _ _ c_82_3.eq_1
theorem v_crc_Sum {O : Orc} {H : Hp} {vs : List V} : vcall T O F.crc_Sum vs H = (args H [0] vs).bind fun p => vk H p.2 [0] vs (O.deep F.crc_Sum p.1) := vcall_deep T_crc_Sum rfl
theorem rr_crc_Sum : m_crc_Sum.res = [.tmp 2] := rfl
theorem ro_crc_Sum : m_crc_Sum.rets = [[]] := rfl
theorem b0_crc_Sum : m_crc_Sum.body = (.seq (.reg o_82_1) c_82_3) := rfl
def L_frame_open := And.intro (@ru_of T _ _ o_84_1.eq_1) <| And.intro (@ru_of T _ _ o_84_2.eq_1) <| @ex_of T _ _ c_84_3.eq_1
theorem v_frame_open {O : Orc} {H : Hp} {vs : List V} : vcall T O F.frame_open vs H = (args H [0] vs).bind fun p => vk H p.2 [0] vs (O.deep F.frame_open p.1) := vcall_deep T_frame_open rfl
theorem rr_frame_open : m_frame_open.res = [.tmp 2] := rfl
theorem ro_frame_open : m_frame_open.rets = [[]] := rfl
theorem b0_frame_open : m_frame_open.body = (.seq (.reg o_84_1) c_84_3) := rfl
def L_slices_Equal_byte_byte := And.intro (@ru_of T _ _ o_85_1.eq_1) <| And.intro (@ru_of T _ _ o_85_2.eq_1) <| And.intro (@ru_of T _ _ o_85_3.eq_1) <| And.intro (@ex_of T _ _ c_85_4.eq_1) <| And.intro (@ru_of T _ _ o_85_5.eq_1) <| And.intro (@ru_of T _ _ o_85_6.eq_1) <| And.intro (@ru_of T _ _ o_85_7.eq_1) <| And.intro (@ru_of T _ _ o_85_8.eq_1) <| And.intro (@ru_of T _ _ o_85_9.eq_1) <| And.intro (@ex_of T _ _ c_85_10.eq_1) <| And.intro (@ex_of T _ _ c_85_11.eq_1) <| And.intro (@ru_of T _ _ o_85_12.eq_1) <| And.intro (@ex_of T _ _ c_85_13.eq_1) <| And.intro (@ex_of T _ _ c_85_14.eq_1) <| And.intro (@ex_of T _ _ c_85_15.eq_1) <| And.intro (@ex_of T _ _ c_85_16.eq_1) <| And.intro (@ex_of T _ _ c_85_17.eq_1) <| And.intro (@ru_of T _ _ o_85_18.eq_1) <| And.intro (@ex_of T _ _ c_85_19.eq_1) <| And.intro (@ex_of T _ _ c_85_20.eq_1) <| @ex_of T _ _ c_85_21.eq_1
theorem v_slices_Equal_byte_byte {O : Orc} {H : Hp} {vs : List V} : vcall T O F.slices_Equal_byte_byte vs H = (args H [0, 0] vs).bind fun p => vk H p.2 [0, 0] vs (O.deep F.slices_Equal_byte_byte p.1) := vcall_deep T_slices_Equal_byte_byte rfl
theorem rr_slices_Equal_byte_byte : m_slices_Equal_byte_byte.res = [.tmp 4] := rfl
theorem ro_slices_Equal_byte_byte : m_slices_Equal_byte_byte.rets = [[]] := rfl
theorem b0_slices_Equal_byte_byte : m_slices_Equal_byte_byte.body = (.seq (.reg o_85_1) c_85_21) := rfl
def L_slices_Clone_byte_byte := And.intro (@ru_of T _ _ o_86_1.eq_1) <| And.intro (@ru_of T _ _ o_86_2.eq_1) <| And.intro (@ru_of T _ _ o_86_3.eq_1) <| And.intro (@ex_of T _ _ c_86_4.eq_1) <| And.intro (@ru_of T _ _ o_86_5.eq_1) <| And.intro (@ex_of T _ _ c_86_6.eq_1) <| @ex_of T _ _ c_86_7.eq_1
theorem v_slices_Clone_byte_byte {O : Orc} {H : Hp} {vs : List V} : vcall T O F.slices_Clone_byte_byte vs H = (args H [0] vs).bind fun p => vk H p.2 [0] vs (O.deep F.slices_Clone_byte_byte p.1) := vcall_deep T_slices_Clone_byte_byte rfl
theorem rr_slices_Clone_byte_byte : m_slices_Clone_byte_byte.res = [.tmp 2] := rfl
theorem ro_slices_Clone_byte_byte : m_slices_Clone_byte_byte.rets = [[2]] := rfl
theorem b0_slices_Clone_byte_byte : m_slices_Clone_byte_byte.body = (.seq (.reg o_86_1) c_86_7) := rfl
def L_num_read := And.intro (@ru_of T _ _ o_87_1.eq_1) <| And.intro (@ru_of T _ _ o_87_2.eq_1) <| And.intro (@ru_of T _ _ o_87_3.eq_1) <| And.intro (@ru_of T _ _ o_87_4.eq_1) <| And.intro (@ru_of T _ _ o_87_5.eq_1) <| And.intro (@ru_of T _ _ o_87_6.eq_1) <| And.intro (@ru_of T _ _ o_87_7.eq_1) <| And.intro (@ru_of T _ _ o_87_8.eq_1) <| And.intro (@ex_of T _ _ c_87_9.eq_1) <| And.intro (@ru_of T _ _ o_87_10.eq_1) <| And.intro (@ex_of T _ _ c_87_11.eq_1) <| And.intro (@ru_of T _ _ o_87_12.eq_1) <| And.intro (@ex_of T _ _ c_87_13.eq_1) <| And.intro (@ex_of T _ _ c_87_14.eq_1) <| And.intro (@ex_of T _ _ c_87_15.eq_1) <| And.intro (@ru_of T _ _ o_87_16.eq_1) <| And.intro (@ex_of T _ _ c_87_17.eq_1) <| And.intro (@ru_of T _ _ o_87_18.eq_1) <| And.intro (@ex_of T _ _ c_87_19.eq_1) <| And.intro (@ex_of T _ _ c_87_20.eq_1) <| And.intro (@ex_of T _ _ c_87_21.eq_1) <| And.intro (@ex_of T _ _ c_87_22.eq_1) <| And.intro (@ru_of T _ _ o_87_23.eq_1) <| And.intro (@ex_of T _ _ c_87_24.eq_1) <| And.intro (@ex_of T _ _ c_87_25.eq_1) <| And.intro (@ex_of T _ _ c_87_26.eq_1) <| And.intro (@ex_of T _ _ c_87_27.eq_1) <| And.intro (@ex_of T _ _ c_87_28.eq_1) <| And.intro (@ru_of T _ _ o_87_29.eq_1) <| And.intro (@ex_of T _ _ c_87_30.eq_1) <| And.intro (@ex_of T _ _ c_87_31.eq_1) <| @ex_of T _ _ c_87_32.eq_1
theorem v_num_read {O : Orc} {H : Hp} {vs : List V} : vcall T O F.num_read vs H = (args H [0] vs).bind fun p => vk H p.2 [0] vs (O.deep F.num_read p.1) := vcall_deep T_num_read rfl
theorem rr_num_read : m_num_read.res = [.tmp 2, .tmp 3] := rfl
theorem ro_num_read : m_num_read.rets = [[], []] := rfl
theorem b0_num_read : m_num_read.body = (.seq (.reg o_87_1) c_87_32) := rfl
def L_block_record := And.intro (@ru_of T _ _ o_88_1.eq_1) <| And.intro (@ru_of T _ _ o_88_2.eq_1) <| And.intro (@ru_of T _ _ o_88_3.eq_1) <| And.intro (@ru_of T _ _ o_88_4.eq_1) <| And.intro (@ru_of T _ _ o_88_5.eq_1) <| And.intro (@ru_of T _ _ o_88_6.eq_1) <| And.intro (@ru_of T _ _ o_88_7.eq_1) <| And.intro (@ru_of T _ _ o_88_8.eq_1) <| And.intro (@ru_of T _ _ o_88_9.eq_1) <| And.intro (@ru_of T _ _ o_88_10.eq_1) <| And.intro (@ru_of T _ _ o_88_11.eq_1) <| And.intro (@ru_of T _ _ o_88_12.eq_1) <| And.intro (@ru_of T _ _ o_88_13.eq_1) <| And.intro (@ru_of T _ _ o_88_14.eq_1) <| And.intro (@ex_of T _ _ c_88_15.eq_1) <| And.intro (@ru_of T _ _ o_88_16.eq_1) <| And.intro (@ex_of T _ _ c_88_17.eq_1) <| And.intro (@ex_of T _ _ c_88_18.eq_1) <| And.intro (@ru_of T _ _ o_88_19.eq_1) <| And.intro (@ex_of T _ _ c_88_20.eq_1) <| And.intro (@ex_of T _ _ c_88_21.eq_1) <| And.intro (@ex_of T _ _ c_88_22.eq_1) <| And.intro (@ex_of T _ _ c_88_23.eq_1) <| And.intro (@ex_of T _ _ c_88_24.eq_1) <| And.intro (@ru_of T _ _ o_88_25.eq_1) <| And.intro (@ex_of T _ _ c_88_26.eq_1) <| And.intro (@ex_of T _ _ c_88_27.eq_1) <| And.intro (@ex_of T _ _ c_88_28.eq_1) <| And.intro (@ex_of T _ _ c_88_29.eq_1) <| And.intro (@ex_of T _ _ c_88_30.eq_1) <| And.intro (@ex_of T _ _ c_88_31.eq_1) <| And.intro (@ex_of T _ _ c_88_32.eq_1) <| And.intro (@ex_of T _ _ c_88_33.eq_1) <| And.intro (@ex_of T _ _ c_88_34.eq_1) <| @ex_of T _ _ c_88_35.eq_1
theorem v_block_record {O : Orc} {H : Hp} {vs : List V} : vcall T O F.block_record vs H = (args H [0] vs).bind fun p => vk H p.2 [0] vs (O.deep F.block_record p.1) := vcall_deep T_block_record rfl
theorem rr_block_record : m_block_record.res = [.cell 2 7 true, .tmp 3] := rfl
theorem ro_block_record : m_block_record.rets = [[], []] := rfl
theorem b0_block_record : m_block_record.body = (.seq (.reg o_88_1) c_88_35) := rfl
def L_schema_Decode := And.intro (@ru_of T _ _ o_89_1.eq_1) <| And.intro (@ru_of T _ _ o_89_2.eq_1) <| And.intro (@ru_of T _ _ o_89_3.eq_1) <| And.intro (@ex_of T _ _ c_89_4.eq_1) <| And.intro (@ru_of T _ _ o_89_5.eq_1) <| And.intro (@ru_of T _ _ o_89_6.eq_1) <| And.intro (@ru_of T _ _ o_89_7.eq_1) <| And.intro (@ru_of T _ _ o_89_8.eq_1) <| And.intro (@ru_of T _ _ o_89_9.eq_1) <| And.intro (@ex_of T _ _ c_89_10.eq_1) <| And.intro (@ex_of T _ _ c_89_11.eq_1) <| And.intro (@ru_of T _ _ o_89_12.eq_1) <| And.intro (@ru_of T _ _ o_89_13.eq_1) <| And.intro (@ru_of T _ _ o_89_14.eq_1) <| And.intro (@ex_of T _ _ c_89_15.eq_1) <| And.intro (@ru_of T _ _ o_89_16.eq_1) <| And.intro (@ex_of T _ _ c_89_17.eq_1) <| And.intro (@ex_of T _ _ c_89_18.eq_1) <| And.intro (@ex_of T _ _ c_89_19.eq_1) <| And.intro (@ex_of T _ _ c_89_20.eq_1) <| And.intro (@ex_of T _ _ c_89_21.eq_1) <| @ex_of T _ _ c_89_22.eq_1
theorem v_schema_Decode {O : Orc} {H : Hp} {vs : List V} : vcall T O F.schema_Decode vs H = (args H [0] vs).bind fun p => vk H p.2 [0] vs (O.deep F.schema_Decode p.1) := vcall_deep T_schema_Decode rfl
theorem rr_schema_Decode : m_schema_Decode.res = [.cell 2 7 true, .tmp 3] := rfl
theorem ro_schema_Decode : m_schema_Decode.rets = [[], []] := rfl
theorem b0_schema_Decode : m_schema_Decode.body = (.seq (.reg o_89_1) c_89_22) := rfl
def L_num_Zig := And.intro (@ru_of T _ _ o_90_1.eq_1) <| And.intro (@ru_of T _ _ o_90_2.eq_1) <| @ex_of T _ _ c_90_3.eq_1
theorem v_num_Zig {O : Orc} {H : Hp} {vs : List V} : vcall T O F.num_Zig vs H = (args H [0] vs).bind fun p => vk H p.2 [0] vs (O.deep F.num_Zig p.1) := vcall_deep T_num_Zig rfl
theorem rr_num_Zig : m_num_Zig.res = [.tmp 2] := rfl
theorem ro_num_Zig : m_num_Zig.rets = [[]] := rfl
theorem b0_num_Zig : m_num_Zig.body = (.seq (.reg o_90_1) c_90_3) := rfl
def L_num_fixed := And.intro (@ru_of T _ _ o_92_1.eq_1) <| And.intro (@ru_of T _ _ o_92_2.eq_1) <| And.intro (@ru_of T _ _ o_92_3.eq_1) <| And.intro (@ru_of T _ _ o_92_4.eq_1) <| And.intro (@ru_of T _ _ o_92_5.eq_1) <| And.intro (@ru_of T _ _ o_92_6.eq_1) <| And.intro (@ex_of T _ _ c_92_7.eq_1) <| And.intro (@ru_of T _ _ o_92_8.eq_1) <| And.intro (@ex_of T _ _ c_92_9.eq_1) <| And.intro (@ex_of T _ _ c_92_10.eq_1) <| And.intro (@ex_of T _ _ c_92_11.eq_1) <| And.intro (@ex_of T _ _ c_92_12.eq_1) <| And.intro (@ex_of T _ _ c_92_13.eq_1) <| And.intro (@ru_of T _ _ o_92_14.eq_1) <| And.intro (@ex_of T _ _ c_92_15.eq_1) <| And.intro (@ex_of T _ _ c_92_16.eq_1) <| @ex_of T _ _ c_92_17.eq_1
theorem v_num_fixed {O : Orc} {H : Hp} {vs : List V} : vcall T O F.num_fixed vs H = (args H [0, 0] vs).bind fun p => vk H p.2 [0, 0] vs (O.deep F.num_fixed p.1) := vcall_deep T_num_fixed rfl
theorem rr_num_fixed : m_num_fixed.res = [.tmp 4] := rfl
theorem ro_num_fixed : m_num_fixed.rets = [[2]] := rfl
theorem b0_num_fixed : m_num_fixed.body = (.seq (.reg o_92_1) c_92_17) := rfl
def L_crc_Table := And.intro (@ru_of T _ _ o_93_1.eq_1) <| And.intro (@ru_of T _ _ o_93_2.eq_1) <| And.intro (@ru_of T _ _ o_93_3.eq_1) <| And.intro (@ru_of T _ _ o_93_4.eq_1) <| And.intro (@ru_of T _ _ o_93_5.eq_1) <| And.intro (@ru_of T _ _ o_93_6.eq_1) <| And.intro (@ru_of T _ _ o_93_7.eq_1) <| And.intro (@ru_of T _ _ o_93_8.eq_1) <| And.intro (@ru_of T _ _ o_93_9.eq_1) <| And.intro (@ru_of T _ _ o_93_10.eq_1) <| And.intro (@ex_of T _ _ c_93_11.eq_1) <| And.intro (@ru_of T _ _ o_93_12.eq_1) <| And.intro (@ex_of T _ _ c_93_13.eq_1) <| And.intro (@ex_of T _ _ c_93_14.eq_1) <| And.intro (@ex_of T _ _ c_93_15.eq_1) <| And.intro (@ex_of T _ _ c_93_16.eq_1) <| And.intro (@ex_of T _ _ c_93_17.eq_1) <| And.intro (@ru_of T _ _ o_93_18.eq_1) <| And.intro (@ex_of T _ _ c_93_19.eq_1) <| And.intro (@ex_of T _ _ c_93_20.eq_1) <| And.intro (@ex_of T _ _ c_93_21.eq_1) <| And.intro (@ru_of T _ _ o_93_22.eq_1) <| And.intro (@ex_of T _ _ c_93_23.eq_1) <| And.intro (@ex_of T _ _ c_93_24.eq_1) <| And.intro (@ex_of T _ _ c_93_25.eq_1) <| And.intro (@ex_of T _ _ c_93_26.eq_1) <| And.intro (@ex_of T _ _ c_93_27.eq_1) <| And.intro (@ru_of T _ _ o_93_28.eq_1) <| And.intro (@ex_of T _ _ c_93_29.eq_1) <| And.intro (@ex_of T _ _ c_93_30.eq_1) <| @ex_of T _ _ c_93_31.eq_1
theorem v_crc_Table {O : Orc} {H : Hp} {vs : List V} : vcall T O F.crc_Table vs H = (args H [] vs).bind fun p => vk H p.2 [] vs (O.deep F.crc_Table p.1) := vcall_deep T_crc_Table rfl
theorem rr_crc_Table : m_crc_Table.res = [.cell 0 256 true] := rfl
theorem ro_crc_Table : m_crc_Table.rets = [[]] := rfl
theorem b0_crc_Table : m_crc_Table.body = (.seq (.reg o_93_1) c_93_31) := rfl
def L_slices_ContainsFunc_byte_byte := And.intro (@ru_of T _ _ o_94_1.eq_1) <| And.intro (@ru_of T _ _ o_94_2.eq_1) <| @ex_of T _ _ c_94_3.eq_1
theorem v_slices_ContainsFunc_byte_byte {O : Orc} {H : Hp} {vs : List V} : vcall T O F.slices_ContainsFunc_byte_byte vs H = ik (O.inl F.slices_ContainsFunc_byte_byte vs H) := vcall_inl T_slices_ContainsFunc_byte_byte rfl
theorem i_slices_ContainsFunc_byte_byte {n : Nat} {H : Hp} {vs : List V} : (orc T (n + 1)).inl F.slices_ContainsFunc_byte_byte vs H = finI H.length false [.tmp 4] (unw T (orc T n) n H.length [] (exec T (orc T n) n H.length (.seq (.reg o_94_1) c_94_3) (params 0 vs) H)) := by rw [orc_inl, T_slices_ContainsFunc_byte_byte, Option.bind_some, runInl_eq]; rfl
def L_frame_open_1 := And.intro (@ru_of T _ _ o_95_1.eq_1) <| And.intro (@ru_of T _ _ o_95_2.eq_1) <| @ex_of T _ _ c_95_3.eq_1
theorem v_frame_open_1 {O : Orc} {H : Hp} {vs : List V} : vcall T O F.frame_open_1 vs H = (args H [0] vs).bind fun p => vk H p.2 [0] vs (O.deep F.frame_open_1 p.1) := vcall_deep T_frame_open_1 rfl
theorem rr_frame_open_1 : m_frame_open_1.res = [.tmp 2] := rfl
theorem ro_frame_open_1 : m_frame_open_1.rets = [[]] := rfl
theorem b0_frame_open_1 : m_frame_open_1.body = (.seq (.reg o_95_1) c_95_3) := rfl
def L_num_GetSigned := And.intro (@ru_of T _ _ o_96_1.eq_1) <| And.intro (@ru_of T _ _ o_96_2.eq_1) <| And.intro (@ru_of T _ _ o_96_3.eq_1) <| And.intro (@ru_of T _ _ o_96_4.eq_1) <| And.intro (@ex_of T _ _ c_96_5.eq_1) <| And.intro (@ru_of T _ _ o_96_6.eq_1) <| And.intro (@ex_of T _ _ c_96_7.eq_1) <| And.intro (@ex_of T _ _ c_96_8.eq_1) <| @ex_of T _ _ c_96_9.eq_1
theorem v_num_GetSigned {O : Orc} {H : Hp} {vs : List V} : vcall T O F.num_GetSigned vs H = (args H [0] vs).bind fun p => vk H p.2 [0] vs (O.deep F.num_GetSigned p.1) := vcall_deep T_num_GetSigned rfl
theorem rr_num_GetSigned : m_num_GetSigned.res = [.tmp 2, .tmp 3] := rfl
theorem ro_num_GetSigned : m_num_GetSigned.rets = [[], []] := rfl
theorem b0_num_GetSigned : m_num_GetSigned.body = (.seq (.reg o_96_1) c_96_9) := rfl
def L_codec_GetOp := And.intro (@ru_of T _ _ o_97_1.eq_1) <| And.intro (@ru_of T _ _ o_97_2.eq_1) <| And.intro (@ru_of T _ _ o_97_3.eq_1) <| And.intro (@ru_of T _ _ o_97_4.eq_1) <| And.intro (@ru_of T _ _ o_97_5.eq_1) <| And.intro (@ru_of T _ _ o_97_6.eq_1) <| And.intro (@ru_of T _ _ o_97_7.eq_1) <| And.intro (@ru_of T _ _ o_97_8.eq_1) <| And.intro (@ex_of T _ _ c_97_9.eq_1) <| And.intro (@ru_of T _ _ o_97_10.eq_1) <| And.intro (@df_of T _ _ [(0, 4), (2, 4), (2, 6)] o_97_10.eq_1) <| And.intro (@ex_of T _ _ c_97_11.eq_1) <| And.intro (@ex_of T _ _ c_97_12.eq_1) <| And.intro (@ex_of T _ _ c_97_13.eq_1) <| And.intro (@ex_of T _ _ c_97_14.eq_1) <| And.intro (@ex_of T _ _ c_97_15.eq_1) <| And.intro (@ex_of T _ _ c_97_16.eq_1) <| @ex_of T _ _ c_97_17.eq_1
theorem v_codec_GetOp {O : Orc} {H : Hp} {vs : List V} : vcall T O F.codec_GetOp vs H = (args H [0] vs).bind fun p => vk H p.2 [0] vs (O.deep F.codec_GetOp p.1) := vcall_deep T_codec_GetOp rfl
theorem rr_codec_GetOp : m_codec_GetOp.res = [.cell 2 3 true, .tmp 3] := rfl
theorem ro_codec_GetOp : m_codec_GetOp.rets = [[], []] := rfl
theorem b0_codec_GetOp : m_codec_GetOp.body = (.seq (.reg o_97_1) c_97_17) := rfl
def L_schema_read := And.intro (@ru_of T _ _ o_98_1.eq_1) <| And.intro (@ru_of T _ _ o_98_2.eq_1) <| And.intro (@ru_of T _ _ o_98_3.eq_1) <| And.intro (@ru_of T _ _ o_98_4.eq_1) <| And.intro (@ex_of T _ _ c_98_5.eq_1) <| And.intro (@ru_of T _ _ o_98_6.eq_1) <| And.intro (@ru_of T _ _ o_98_7.eq_1) <| And.intro (@ru_of T _ _ o_98_8.eq_1) <| And.intro (@ex_of T _ _ c_98_9.eq_1) <| And.intro (@ru_of T _ _ o_98_10.eq_1) <| And.intro (@ru_of T _ _ o_98_11.eq_1) <| And.intro (@ru_of T _ _ o_98_12.eq_1) <| And.intro (@ru_of T _ _ o_98_13.eq_1) <| And.intro (@ru_of T _ _ o_98_14.eq_1) <| And.intro (@ru_of T _ _ o_98_15.eq_1) <| And.intro (@ex_of T _ _ c_98_16.eq_1) <| And.intro (@ru_of T _ _ o_98_17.eq_1) <| And.intro (@ru_of T _ _ o_98_18.eq_1) <| And.intro (@ru_of T _ _ o_98_19.eq_1) <| And.intro (@ex_of T _ _ c_98_20.eq_1) <| And.intro (@ex_of T _ _ c_98_21.eq_1) <| And.intro (@ex_of T _ _ c_98_22.eq_1) <| And.intro (@ru_of T _ _ o_98_23.eq_1) <| And.intro (@ru_of T _ _ o_98_24.eq_1) <| And.intro (@ex_of T _ _ c_98_25.eq_1) <| And.intro (@ru_of T _ _ o_98_26.eq_1) <| And.intro (@ex_of T _ _ c_98_27.eq_1) <| And.intro (@ex_of T _ _ c_98_28.eq_1) <| And.intro (@ex_of T _ _ c_98_29.eq_1) <| And.intro (@ex_of T _ _ c_98_30.eq_1) <| And.intro (@ex_of T _ _ c_98_31.eq_1) <| And.intro (@ex_of T _ _ c_98_32.eq_1) <| And.intro (@ex_of T _ _ c_98_33.eq_1) <| And.intro (@ex_of T _ _ c_98_34.eq_1) <| And.intro (@ex_of T _ _ c_98_35.eq_1) <| And.intro (@ru_of T _ _ o_98_36.eq_1) <| And.intro (@ru_of T _ _ o_98_37.eq_1) <| And.intro (@ru_of T _ _ o_98_38.eq_1) <| And.intro (@ru_of T _ _ o_98_39.eq_1) <| And.intro (@ex_of T _ _ c_98_40.eq_1) <| And.intro (@ex_of T _ _ c_98_41.eq_1) <| And.intro (@ru_of T _ _ o_98_42.eq_1) <| And.intro (@ex_of T _ _ c_98_43.eq_1) <| And.intro (@ex_of T _ _ c_98_44.eq_1) <| And.intro (@ex_of T _ _ c_98_45.eq_1) <| @ex_of T _ _ c_98_46.eq_1
theorem v_schema_read {O : Orc} {H : Hp} {vs : List V} : vcall T O F.schema_read vs H = (args H [0, 0] vs).bind fun p => vk H p.2 [0, 0] vs (O.deep F.schema_read p.1) := vcall_deep T_schema_read rfl
theorem rr_schema_read : m_schema_read.res = [.cell 4 7 true, .tmp 5] := rfl
theorem ro_schema_read : m_schema_read.rets = [[], []] := rfl
theorem b0_schema_read : m_schema_read.body = (.seq (.reg o_98_1) c_98_46) := rfl
def L_slices_IndexFunc_byte_byte := And.intro (@ru_of T _ _ o_99_1.eq_1) <| And.intro (@ru_of T _ _ o_99_2.eq_1) <| And.intro (@ru_of T _ _ o_99_3.eq_1) <| And.intro (@ru_of T _ _ o_99_4.eq_1) <| And.intro (@ru_of T _ _ o_99_5.eq_1) <| And.intro (@ru_of T _ _ o_99_6.eq_1) <| And.intro (@ex_of T _ _ c_99_7.eq_1) <| And.intro (@ex_of T _ _ c_99_8.eq_1) <| And.intro (@ru_of T _ _ o_99_9.eq_1) <| And.intro (@ex_of T _ _ c_99_10.eq_1) <| And.intro (@ex_of T _ _ c_99_11.eq_1) <| And.intro (@ex_of T _ _ c_99_12.eq_1) <| And.intro (@ex_of T _ _ c_99_13.eq_1) <| And.intro (@ex_of T _ _ c_99_14.eq_1) <| And.intro (@ru_of T _ _ o_99_15.eq_1) <| And.intro (@ex_of T _ _ c_99_16.eq_1) <| @ex_of T _ _ c_99_17.eq_1
theorem v_slices_IndexFunc_byte_byte {O : Orc} {H : Hp} {vs : List V} : vcall T O F.slices_IndexFunc_byte_byte vs H = ik (O.inl F.slices_IndexFunc_byte_byte vs H) := vcall_inl T_slices_IndexFunc_byte_byte rfl
theorem i_slices_IndexFunc_byte_byte {n : Nat} {H : Hp} {vs : List V} : (orc T (n + 1)).inl F.slices_IndexFunc_byte_byte vs H = finI H.length false [.tmp 4] (unw T (orc T n) n H.length [] (exec T (orc T n) n H.length (.seq (.reg o_99_1) c_99_17) (params 0 vs) H)) := by rw [orc_inl, T_slices_IndexFunc_byte_byte, Option.bind_some, runInl_eq]; rfl
def L_num_Zag := And.intro (@ru_of T _ _ o_100_1.eq_1) <| And.intro (@ru_of T _ _ o_100_2.eq_1) <| @ex_of T _ _ c_100_3.eq_1
theorem v_num_Zag {O : Orc} {H : Hp} {vs : List V} : vcall T O F.num_Zag vs H = (args H [0] vs).bind fun p => vk H p.2 [0] vs (O.deep F.num_Zag p.1) := vcall_deep T_num_Zag rfl
theorem rr_num_Zag : m_num_Zag.res = [.tmp 2] := rfl
theorem ro_num_Zag : m_num_Zag.rets = [[]] := rfl
theorem b0_num_Zag : m_num_Zag.body = (.seq (.reg o_100_1) c_100_3) := rfl
def L_codec_reader := And.intro (@ru_of T _ _ o_101_1.eq_1) <| And.intro (@ru_of T _ _ o_101_2.eq_1) <| And.intro (@ru_of T _ _ o_101_3.eq_1) <| And.intro (@ru_of T _ _ o_101_4.eq_1) <| And.intro (@ex_of T _ _ c_101_5.eq_1) <| And.intro (@ex_of T _ _ c_101_6.eq_1) <| @ex_of T _ _ c_101_7.eq_1
theorem v_codec_reader {O : Orc} {H : Hp} {vs : List V} : vcall T O F.codec_reader vs H = ik (O.inl F.codec_reader vs H) := vcall_inl T_codec_reader rfl
theorem i_codec_reader {n : Nat} {H : Hp} {vs : List V} : (orc T (n + 1)).inl F.codec_reader vs H = finI H.length false [.tmp 2, .tmp 3, .tmp 4] (unw T (orc T n) n H.length [] (exec T (orc T n) n H.length (.seq (.reg o_101_1) c_101_7) (params 0 vs) H)) := by rw [orc_inl, T_codec_reader, Option.bind_some, runInl_eq]; rfl
def L_slices_Clone_int_int := And.intro (@ru_of T _ _ o_102_1.eq_1) <| And.intro (@ru_of T _ _ o_102_2.eq_1) <| And.intro (@ru_of T _ _ o_102_3.eq_1) <| And.intro (@ex_of T _ _ c_102_4.eq_1) <| And.intro (@ru_of T _ _ o_102_5.eq_1) <| And.intro (@ex_of T _ _ c_102_6.eq_1) <| @ex_of T _ _ c_102_7.eq_1
theorem v_slices_Clone_int_int {O : Orc} {H : Hp} {vs : List V} : vcall T O F.slices_Clone_int_int vs H = (args H [0] vs).bind fun p => vk H p.2 [0] vs (O.deep F.slices_Clone_int_int p.1) := vcall_deep T_slices_Clone_int_int rfl
theorem rr_slices_Clone_int_int : m_slices_Clone_int_int.res = [.tmp 2] := rfl
theorem ro_slices_Clone_int_int : m_slices_Clone_int_int.rets = [[2]] := rfl
theorem b0_slices_Clone_int_int : m_slices_Clone_int_int.body = (.seq (.reg o_102_1) c_102_7) := rfl
def L_slices_Index_int_int := And.intro (@ru_of T _ _ o_103_1.eq_1) <| And.intro (@ru_of T _ _ o_103_2.eq_1) <| And.intro (@ru_of T _ _ o_103_3.eq_1) <| And.intro (@ru_of T _ _ o_103_4.eq_1) <| And.intro (@ru_of T _ _ o_103_5.eq_1) <| And.intro (@ru_of T _ _ o_103_6.eq_1) <| And.intro (@ex_of T _ _ c_103_7.eq_1) <| And.intro (@ex_of T _ _ c_103_8.eq_1) <| And.intro (@ru_of T _ _ o_103_9.eq_1) <| And.intro (@ex_of T _ _ c_103_10.eq_1) <| And.intro (@ex_of T _ _ c_103_11.eq_1) <| And.intro (@ex_of T _ _ c_103_12.eq_1) <| And.intro (@ex_of T _ _ c_103_13.eq_1) <| And.intro (@ex_of T _ _ c_103_14.eq_1) <| And.intro (@ru_of T _ _ o_103_15.eq_1) <| And.intro (@ex_of T _ _ c_103_16.eq_1) <| @ex_of T _ _ c_103_17.eq_1
theorem v_slices_Index_int_int {O : Orc} {H : Hp} {vs : List V} : vcall T O F.slices_Index_int_int vs H = (args H [0, 0] vs).bind fun p => vk H p.2 [0, 0] vs (O.deep F.slices_Index_int_int p.1) := vcall_deep T_slices_Index_int_int rfl
theorem rr_slices_Index_int_int : m_slices_Index_int_int.res = [.tmp 4] := rfl
theorem ro_slices_Index_int_int : m_slices_Index_int_int.rets = [[]] := rfl
theorem b0_slices_Index_int_int : m_slices_Index_int_int.body = (.seq (.reg o_103_1) c_103_17) := rfl
def L_slices_Delete_int_int := And.intro (@ru_of T _ _ o_104_1.eq_1) <| And.intro (@ru_of T _ _ o_104_2.eq_1) <| And.intro (@ru_of T _ _ o_104_3.eq_1) <| And.intro (@ru_of T _ _ o_104_4.eq_1) <| And.intro (@ex_of T _ _ c_104_5.eq_1) <| And.intro (@ru_of T _ _ o_104_6.eq_1) <| And.intro (@ru_of T _ _ o_104_7.eq_1) <| And.intro (@ru_of T _ _ o_104_8.eq_1) <| And.intro (@ru_of T _ _ o_104_9.eq_1) <| And.intro (@ex_of T _ _ c_104_10.eq_1) <| And.intro (@ex_of T _ _ c_104_11.eq_1) <| And.intro (@ex_of T _ _ c_104_12.eq_1) <| And.intro (@ex_of T _ _ c_104_13.eq_1) <| And.intro (@ex_of T _ _ c_104_14.eq_1) <| @ex_of T _ _ c_104_15.eq_1
theorem v_slices_Delete_int_int {O : Orc} {H : Hp} {vs : List V} : vcall T O F.slices_Delete_int_int vs H = (args H [2, 0, 0] vs).bind fun p => vk H p.2 [2, 0, 0] vs (O.deep F.slices_Delete_int_int p.1) := vcall_deep T_slices_Delete_int_int rfl
theorem rr_slices_Delete_int_int : m_slices_Delete_int_int.res = [.tmp 6] := rfl
theorem ro_slices_Delete_int_int : m_slices_Delete_int_int.rets = [[2]] := rfl
theorem b0_slices_Delete_int_int : m_slices_Delete_int_int.body = (.seq (.reg o_104_1) c_104_15) := rfl
def L_schema_get := And.intro (@ru_of T _ _ o_105_1.eq_1) <| And.intro (@ru_of T _ _ o_105_2.eq_1) <| And.intro (@ru_of T _ _ o_105_3.eq_1) <| And.intro (@ru_of T _ _ o_105_4.eq_1) <| And.intro (@ru_of T _ _ o_105_5.eq_1) <| And.intro (@ru_of T _ _ o_105_6.eq_1) <| And.intro (@ru_of T _ _ o_105_7.eq_1) <| And.intro (@ru_of T _ _ o_105_8.eq_1) <| And.intro (@ru_of T _ _ o_105_9.eq_1) <| And.intro (@ru_of T _ _ o_105_10.eq_1) <| And.intro (@ru_of T _ _ o_105_11.eq_1) <| And.intro (@ru_of T _ _ o_105_12.eq_1) <| And.intro (@ex_of T _ _ c_105_13.eq_1) <| And.intro (@ex_of T _ _ c_105_14.eq_1) <| And.intro (@ex_of T _ _ c_105_15.eq_1) <| And.intro (@ex_of T _ _ c_105_16.eq_1) <| And.intro (@ex_of T _ _ c_105_17.eq_1) <| And.intro (@ex_of T _ _ c_105_18.eq_1) <| And.intro (@ru_of T _ _ o_105_19.eq_1) <| And.intro (@ex_of T _ _ c_105_20.eq_1) <| @ex_of T _ _ c_105_21.eq_1
theorem v_schema_get {O : Orc} {H : Hp} {vs : List V} : vcall T O F.schema_get vs H = ik (O.inl F.schema_get vs H) := vcall_inl T_schema_get rfl
theorem i_schema_get {n : Nat} {H : Hp} {vs : List V} : (orc T (n + 1)).inl F.schema_get vs H = finI H.length false [.tmp 6] (unw T (orc T n) n H.length [] (exec T (orc T n) n H.length (.seq (.reg o_105_1) c_105_21) (params 0 vs) H)) := by rw [orc_inl, T_schema_get, Option.bind_some, runInl_eq]; rfl
def L_schema_pass := And.intro (@ru_of T _ _ o_106_1.eq_1) <| And.intro (@ru_of T _ _ o_106_2.eq_1) <| And.intro (@ru_of T _ _ o_106_3.eq_1) <| And.intro (@ru_of T _ _ o_106_4.eq_1) <| And.intro (@ex_of T _ _ c_106_5.eq_1) <| And.intro (@ru_of T _ _ o_106_6.eq_1) <| And.intro (@ex_of T _ _ c_106_7.eq_1) <| And.intro (@ex_of T _ _ c_106_8.eq_1) <| @ex_of T _ _ c_106_9.eq_1
theorem v_schema_pass {O : Orc} {H : Hp} {vs : List V} : vcall T O F.schema_pass vs H = (args H [0] vs).bind fun p => vk H p.2 [0] vs (O.deep F.schema_pass p.1) := vcall_deep T_schema_pass rfl
theorem rr_schema_pass : m_schema_pass.res = [.tmp 2] := rfl
theorem ro_schema_pass : m_schema_pass.rets = [[]] := rfl
theorem b0_schema_pass : m_schema_pass.body = (.seq (.reg o_106_1) c_106_9) := rfl
def L_codec_reader_1 := And.intro (@ru_of T _ _ o_107_1.eq_1) <| And.intro (@ru_of T _ _ o_107_2.eq_1) <| And.intro (@ru_of T _ _ o_107_3.eq_1) <| And.intro (@ru_of T _ _ o_107_4.eq_1) <| And.intro (@ru_of T _ _ o_107_5.eq_1) <| And.intro (@ex_of T _ _ c_107_6.eq_1) <| And.intro (@ex_of T _ _ c_107_7.eq_1) <| And.intro (@ex_of T _ _ c_107_8.eq_1) <| @ex_of T _ _ c_107_9.eq_1
theorem v_codec_reader_1 {O : Orc} {H : Hp} {vs : List V} : vcall T O F.codec_reader_1 vs H = ik (O.inl F.codec_reader_1 vs H) := vcall_inl T_codec_reader_1 rfl
theorem i_codec_reader_1 {n : Nat} {H : Hp} {vs : List V} : (orc T (n + 1)).inl F.codec_reader_1 vs H = finI H.length false [.tmp 4] (unw T (orc T n) n H.length [] (exec T (orc T n) n H.length (.seq (.reg o_107_1) c_107_9) (params 0 vs) H)) := by rw [orc_inl, T_codec_reader_1, Option.bind_some, runInl_eq]; rfl
def L_codec_reader_2 := And.intro (@ru_of T _ _ o_108_1.eq_1) <| And.intro (@ru_of T _ _ o_108_2.eq_1) <| @ex_of T _ _ c_108_3.eq_1
theorem v_codec_reader_2 {O : Orc} {H : Hp} {vs : List V} : vcall T O F.codec_reader_2 vs H = ik (O.inl F.codec_reader_2 vs H) := vcall_inl T_codec_reader_2 rfl
theorem i_codec_reader_2 {n : Nat} {H : Hp} {vs : List V} : (orc T (n + 1)).inl F.codec_reader_2 vs H = finI H.length false [.tmp 1] (unw T (orc T n) n H.length [] (exec T (orc T n) n H.length (.seq (.reg o_108_1) c_108_3) (params 0 vs) H)) := by rw [orc_inl, T_codec_reader_2, Option.bind_some, runInl_eq]; rfl
def L_codec_reader_3 := And.intro (@ru_of T _ _ o_109_1.eq_1) <| And.intro (@ru_of T _ _ o_109_2.eq_1) <| @ex_of T _ _ c_109_3.eq_1
theorem v_codec_reader_3 {O : Orc} {H : Hp} {vs : List V} : vcall T O F.codec_reader_3 vs H = ik (O.inl F.codec_reader_3 vs H) := vcall_inl T_codec_reader_3 rfl
theorem i_codec_reader_3 {n : Nat} {H : Hp} {vs : List V} : (orc T (n + 1)).inl F.codec_reader_3 vs H = finI H.length false [.tmp 1] (unw T (orc T n) n H.length [] (exec T (orc T n) n H.length (.seq (.reg o_109_1) c_109_3) (params 0 vs) H)) := by rw [orc_inl, T_codec_reader_3, Option.bind_some, runInl_eq]; rfl
end Go.Dvm.C
