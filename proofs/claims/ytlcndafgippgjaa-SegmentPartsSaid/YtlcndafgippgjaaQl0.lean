/- What each piece of the code comes to: part 1. -/
import Derived.Test.YtlcndafgippgjaaQc0
set_option linter.all false
set_option maxRecDepth 100000
set_option maxHeartbeats 4000000
namespace Go.Dvm.C
open Go Go.Dvm
def tab : List (Nat × MFun) := [(4, m_ferrymanlaw08_SegmentParts), (9, m_ferrymanlaw08_awake), (10, m_segment_Encode), (12, m_segment_Head), (14, m_segment_Body), (20, m_segment_fit), (21, m_segment_blocks), (22, m_slices_Concat_byte_byte), (23, m_segment_footer), (29, m_segment_known), (30, m_segment_framed), (31, m_num_Put), (40, m_schema_Fits), (41, m_segment_data), (42, m_slices_Grow_byte_byte), (47, m_frame_Encode), (48, m_num_groups), (57, m_objs_Fits), (58, m_block_Encode), (59, m_schema_Encode), (63, m_frame_sum), (69, m_objs_cut), (70, m_block_Fits), (71, m_num_PutSigned), (72, m_codec_PutOp), (73, m_schema_fields), (74, m_schema_put), (80, m_num_Fixed32), (81, m_crc_More), (82, m_crc_Sum), (90, m_num_Zig), (92, m_num_fixed), (93, m_crc_Table)]
abbrev T : Nat → Option MFun := look tab
theorem T_ferrymanlaw08_SegmentParts : T F.ferrymanlaw08_SegmentParts = some m_ferrymanlaw08_SegmentParts := rfl
theorem T_ferrymanlaw08_awake : T F.ferrymanlaw08_awake = some m_ferrymanlaw08_awake := rfl
theorem T_segment_Encode : T F.segment_Encode = some m_segment_Encode := rfl
theorem T_segment_Head : T F.segment_Head = some m_segment_Head := rfl
theorem T_segment_Body : T F.segment_Body = some m_segment_Body := rfl
theorem T_segment_fit : T F.segment_fit = some m_segment_fit := rfl
theorem T_segment_blocks : T F.segment_blocks = some m_segment_blocks := rfl
theorem T_slices_Concat_byte_byte : T F.slices_Concat_byte_byte = some m_slices_Concat_byte_byte := rfl
theorem T_segment_footer : T F.segment_footer = some m_segment_footer := rfl
theorem T_segment_known : T F.segment_known = some m_segment_known := rfl
theorem T_segment_framed : T F.segment_framed = some m_segment_framed := rfl
theorem T_num_Put : T F.num_Put = some m_num_Put := rfl
theorem T_schema_Fits : T F.schema_Fits = some m_schema_Fits := rfl
theorem T_segment_data : T F.segment_data = some m_segment_data := rfl
theorem T_slices_Grow_byte_byte : T F.slices_Grow_byte_byte = some m_slices_Grow_byte_byte := rfl
theorem T_frame_Encode : T F.frame_Encode = some m_frame_Encode := rfl
theorem T_num_groups : T F.num_groups = some m_num_groups := rfl
theorem T_objs_Fits : T F.objs_Fits = some m_objs_Fits := rfl
theorem T_block_Encode : T F.block_Encode = some m_block_Encode := rfl
theorem T_schema_Encode : T F.schema_Encode = some m_schema_Encode := rfl
theorem T_frame_sum : T F.frame_sum = some m_frame_sum := rfl
theorem T_objs_cut : T F.objs_cut = some m_objs_cut := rfl
theorem T_block_Fits : T F.block_Fits = some m_block_Fits := rfl
theorem T_num_PutSigned : T F.num_PutSigned = some m_num_PutSigned := rfl
theorem T_codec_PutOp : T F.codec_PutOp = some m_codec_PutOp := rfl
theorem T_schema_fields : T F.schema_fields = some m_schema_fields := rfl
theorem T_schema_put : T F.schema_put = some m_schema_put := rfl
theorem T_num_Fixed32 : T F.num_Fixed32 = some m_num_Fixed32 := rfl
theorem T_crc_More : T F.crc_More = some m_crc_More := rfl
theorem T_crc_Sum : T F.crc_Sum = some m_crc_Sum := rfl
theorem T_num_Zig : T F.num_Zig = some m_num_Zig := rfl
theorem T_num_fixed : T F.num_fixed = some m_num_fixed := rfl
theorem T_crc_Table : T F.crc_Table = some m_crc_Table := rfl
def L_ferrymanlaw08_SegmentParts := And.intro (@ru_of T _ _ o_ferrymanlaw08_SegmentParts_1.eq_1) <| And.intro (@ru_of T _ _ o_ferrymanlaw08_SegmentParts_2.eq_1) <| And.intro (@ru_of T _ _ o_ferrymanlaw08_SegmentParts_3.eq_1) <| And.intro (@ru_of T _ _ o_ferrymanlaw08_SegmentParts_4.eq_1) <| And.intro (@ru_of T _ _ o_ferrymanlaw08_SegmentParts_5.eq_1) <| And.intro (@ex_of T _ _ c_ferrymanlaw08_SegmentParts_6.eq_1) <| And.intro (@ru_of T _ _ o_ferrymanlaw08_SegmentParts_7.eq_1) <| And.intro (@ru_of T _ _ o_ferrymanlaw08_SegmentParts_8.eq_1) <| And.intro (@ru_of T _ _ o_ferrymanlaw08_SegmentParts_9.eq_1) <| And.intro (@ru_of T _ _ o_ferrymanlaw08_SegmentParts_10.eq_1) <| And.intro (@ru_of T _ _ o_ferrymanlaw08_SegmentParts_11.eq_1) <| And.intro (@ex_of T _ _ c_ferrymanlaw08_SegmentParts_12.eq_1) <| And.intro (@ru_of T _ _ o_ferrymanlaw08_SegmentParts_13.eq_1) <| And.intro (@ex_of T _ _ c_ferrymanlaw08_SegmentParts_14.eq_1) <| And.intro (@ex_of T _ _ c_ferrymanlaw08_SegmentParts_15.eq_1) <| And.intro (@ex_of T _ _ c_ferrymanlaw08_SegmentParts_16.eq_1) <| And.intro (@ex_of T _ _ c_ferrymanlaw08_SegmentParts_17.eq_1) <| And.intro (@ex_of T _ _ c_ferrymanlaw08_SegmentParts_18.eq_1) <| And.intro (@ex_of T _ _ c_ferrymanlaw08_SegmentParts_19.eq_1) <| And.intro (@ex_of T _ _ c_ferrymanlaw08_SegmentParts_20.eq_1) <| @ex_of T _ _ c_ferrymanlaw08_SegmentParts_21.eq_1
theorem v_ferrymanlaw08_SegmentParts {O : Orc} {H : Hp} {vs : List V} : vcall T O F.ferrymanlaw08_SegmentParts vs H = (args H [0, 0, 0] vs).bind fun p => vk H p.2 [0, 0, 0] vs (O.deep F.ferrymanlaw08_SegmentParts p.1) := vcall_deep T_ferrymanlaw08_SegmentParts rfl
theorem rr_ferrymanlaw08_SegmentParts : m_ferrymanlaw08_SegmentParts.res = [.tmp 6] := rfl
theorem ro_ferrymanlaw08_SegmentParts : m_ferrymanlaw08_SegmentParts.rets = [[]] := rfl
theorem b0_ferrymanlaw08_SegmentParts : m_ferrymanlaw08_SegmentParts.body = (.seq (.reg o_ferrymanlaw08_SegmentParts_1) c_ferrymanlaw08_SegmentParts_21) := rfl
def L_ferrymanlaw08_awake := And.intro (@ru_of T _ _ o_ferrymanlaw08_awake_1.eq_1) <| And.intro (@ru_of T _ _ o_ferrymanlaw08_awake_2.eq_1) <| And.intro (@ru_of T _ _ o_ferrymanlaw08_awake_3.eq_1) <| And.intro (@ex_of T _ _ c_ferrymanlaw08_awake_4.eq_1) <| @ex_of T _ _ c_ferrymanlaw08_awake_5.eq_1
theorem v_ferrymanlaw08_awake {O : Orc} {H : Hp} {vs : List V} : vcall T O F.ferrymanlaw08_awake vs H = (args H [] vs).bind fun p => vk H p.2 [] vs (O.deep F.ferrymanlaw08_awake p.1) := vcall_deep T_ferrymanlaw08_awake rfl
theorem rr_ferrymanlaw08_awake : m_ferrymanlaw08_awake.res = [.tmp 0] := rfl
theorem ro_ferrymanlaw08_awake : m_ferrymanlaw08_awake.rets = [[]] := rfl
theorem b0_ferrymanlaw08_awake : m_ferrymanlaw08_awake.body = (.seq (.reg o_ferrymanlaw08_awake_1) c_ferrymanlaw08_awake_5) := rfl
def L_segment_Encode := And.intro (@ru_of T _ _ o_segment_Encode_1.eq_1) <| And.intro (@ru_of T _ _ o_segment_Encode_2.eq_1) <| And.intro (@ru_of T _ _ o_segment_Encode_3.eq_1) <| And.intro (@ru_of T _ _ o_segment_Encode_4.eq_1) <| And.intro (@ru_of T _ _ o_segment_Encode_5.eq_1) <| And.intro (@ru_of T _ _ o_segment_Encode_6.eq_1) <| And.intro (@ex_of T _ _ c_segment_Encode_7.eq_1) <| And.intro (@ex_of T _ _ c_segment_Encode_8.eq_1) <| And.intro (@ru_of T _ _ o_segment_Encode_9.eq_1) <| And.intro (@ru_of T _ _ o_segment_Encode_10.eq_1) <| And.intro (@ex_of T _ _ c_segment_Encode_11.eq_1) <| And.intro (@ex_of T _ _ c_segment_Encode_12.eq_1) <| And.intro (@ex_of T _ _ c_segment_Encode_13.eq_1) <| @ex_of T _ _ c_segment_Encode_14.eq_1
theorem v_segment_Encode {O : Orc} {H : Hp} {vs : List V} : vcall T O F.segment_Encode vs H = (args H [0, 0] vs).bind fun p => vk H p.2 [0, 0] vs (O.deep F.segment_Encode p.1) := vcall_deep T_segment_Encode rfl
theorem rr_segment_Encode : m_segment_Encode.res = [.tmp 4, .tmp 5] := rfl
theorem ro_segment_Encode : m_segment_Encode.rets = [[2], []] := rfl
theorem b0_segment_Encode : m_segment_Encode.body = (.seq (.reg o_segment_Encode_1) c_segment_Encode_14) := rfl
def L_segment_Head := And.intro (@ru_of T _ _ o_segment_Head_1.eq_1) <| And.intro (@ru_of T _ _ o_segment_Head_2.eq_1) <| And.intro (@ru_of T _ _ o_segment_Head_3.eq_1) <| And.intro (@ru_of T _ _ o_segment_Head_4.eq_1) <| And.intro (@ru_of T _ _ o_segment_Head_5.eq_1) <| And.intro (@ex_of T _ _ c_segment_Head_6.eq_1) <| And.intro (@ex_of T _ _ c_segment_Head_7.eq_1) <| And.intro (@ru_of T _ _ o_segment_Head_8.eq_1) <| And.intro (@ex_of T _ _ c_segment_Head_9.eq_1) <| @ex_of T _ _ c_segment_Head_10.eq_1
theorem v_segment_Head {O : Orc} {H : Hp} {vs : List V} : vcall T O F.segment_Head vs H = (args H [0, 0, 0] vs).bind fun p => vk H p.2 [0, 0, 0] vs (O.deep F.segment_Head p.1) := vcall_deep T_segment_Head rfl
theorem rr_segment_Head : m_segment_Head.res = [.tmp 6, .tmp 7] := rfl
theorem ro_segment_Head : m_segment_Head.rets = [[2], []] := rfl
theorem b0_segment_Head : m_segment_Head.body = (.seq (.reg o_segment_Head_1) c_segment_Head_10) := rfl
def L_segment_Body := And.intro (@ru_of T _ _ o_segment_Body_1.eq_1) <| And.intro (@ru_of T _ _ o_segment_Body_2.eq_1) <| And.intro (@ru_of T _ _ o_segment_Body_3.eq_1) <| And.intro (@ru_of T _ _ o_segment_Body_4.eq_1) <| And.intro (@ru_of T _ _ o_segment_Body_5.eq_1) <| And.intro (@ex_of T _ _ c_segment_Body_6.eq_1) <| And.intro (@ex_of T _ _ c_segment_Body_7.eq_1) <| And.intro (@ru_of T _ _ o_segment_Body_8.eq_1) <| And.intro (@ex_of T _ _ c_segment_Body_9.eq_1) <| @ex_of T _ _ c_segment_Body_10.eq_1
theorem v_segment_Body {O : Orc} {H : Hp} {vs : List V} : vcall T O F.segment_Body vs H = (args H [0, 0] vs).bind fun p => vk H p.2 [0, 0] vs (O.deep F.segment_Body p.1) := vcall_deep T_segment_Body rfl
theorem rr_segment_Body : m_segment_Body.res = [.tmp 4, .tmp 5] := rfl
theorem ro_segment_Body : m_segment_Body.rets = [[2], []] := rfl
theorem b0_segment_Body : m_segment_Body.body = (.seq (.reg o_segment_Body_1) c_segment_Body_10) := rfl
def L_segment_fit := And.intro (@ru_of T _ _ o_segment_fit_1.eq_1) <| And.intro (@ru_of T _ _ o_segment_fit_2.eq_1) <| And.intro (@ru_of T _ _ o_segment_fit_3.eq_1) <| And.intro (@ru_of T _ _ o_segment_fit_4.eq_1) <| And.intro (@ru_of T _ _ o_segment_fit_5.eq_1) <| And.intro (@ru_of T _ _ o_segment_fit_6.eq_1) <| And.intro (@ex_of T _ _ c_segment_fit_7.eq_1) <| And.intro (@ex_of T _ _ c_segment_fit_8.eq_1) <| And.intro (@ru_of T _ _ o_segment_fit_9.eq_1) <| And.intro (@ex_of T _ _ c_segment_fit_10.eq_1) <| And.intro (@ex_of T _ _ c_segment_fit_11.eq_1) <| And.intro (@ex_of T _ _ c_segment_fit_12.eq_1) <| And.intro (@ex_of T _ _ c_segment_fit_13.eq_1) <| And.intro (@ex_of T _ _ c_segment_fit_14.eq_1) <| And.intro (@ru_of T _ _ o_segment_fit_15.eq_1) <| And.intro (@ex_of T _ _ c_segment_fit_16.eq_1) <| @ex_of T _ _ c_segment_fit_17.eq_1
theorem v_segment_fit {O : Orc} {H : Hp} {vs : List V} : vcall T O F.segment_fit vs H = (args H [0, 0] vs).bind fun p => vk H p.2 [0, 0] vs (O.deep F.segment_fit p.1) := vcall_deep T_segment_fit rfl
theorem rr_segment_fit : m_segment_fit.res = [.tmp 4] := rfl
theorem ro_segment_fit : m_segment_fit.rets = [[]] := rfl
theorem b0_segment_fit : m_segment_fit.body = (.seq (.reg o_segment_fit_1) c_segment_fit_17) := rfl
def L_segment_blocks := And.intro (@ru_of T _ _ o_segment_blocks_1.eq_1) <| And.intro (@ru_of T _ _ o_segment_blocks_2.eq_1) <| And.intro (@ru_of T _ _ o_segment_blocks_3.eq_1) <| And.intro (@ex_of T _ _ c_segment_blocks_4.eq_1) <| And.intro (@ru_of T _ _ o_segment_blocks_5.eq_1) <| And.intro (@ru_of T _ _ o_segment_blocks_6.eq_1) <| And.intro (@ru_of T _ _ o_segment_blocks_7.eq_1) <| And.intro (@ex_of T _ _ c_segment_blocks_8.eq_1) <| And.intro (@ex_of T _ _ c_segment_blocks_9.eq_1) <| And.intro (@ex_of T _ _ c_segment_blocks_10.eq_1) <| And.intro (@ex_of T _ _ c_segment_blocks_11.eq_1) <| And.intro (@ru_of T _ _ o_segment_blocks_12.eq_1) <| And.intro (@ex_of T _ _ c_segment_blocks_13.eq_1) <| And.intro (@ex_of T _ _ c_segment_blocks_14.eq_1) <| @ex_of T _ _ c_segment_blocks_15.eq_1
theorem v_segment_blocks {O : Orc} {H : Hp} {vs : List V} : vcall T O F.segment_blocks vs H = (args H [0, 0] vs).bind fun p => vk H p.2 [0, 0] vs (O.deep F.segment_blocks p.1) := vcall_deep T_segment_blocks rfl
theorem rr_segment_blocks : m_segment_blocks.res = [.tmp 4] := rfl
theorem ro_segment_blocks : m_segment_blocks.rets = [[2]] := rfl
theorem b0_segment_blocks : m_segment_blocks.body = (.seq (.reg o_segment_blocks_1) c_segment_blocks_15) := rfl
def L_slices_Concat_byte_byte := And.intro (@ru_of T _ _ o_slices_Concat_byte_byte_1.eq_1) <| And.intro (@ru_of T _ _ o_slices_Concat_byte_byte_2.eq_1) <| And.intro (@ru_of T _ _ o_slices_Concat_byte_byte_3.eq_1) <| And.intro (@ru_of T _ _ o_slices_Concat_byte_byte_4.eq_1) <| And.intro (@ru_of T _ _ o_slices_Concat_byte_byte_5.eq_1) <| And.intro (@ru_of T _ _ o_slices_Concat_byte_byte_6.eq_1) <| And.intro (@ru_of T _ _ o_slices_Concat_byte_byte_7.eq_1) <| And.intro (@ex_of T _ _ c_slices_Concat_byte_byte_8.eq_1) <| And.intro (@ex_of T _ _ c_slices_Concat_byte_byte_9.eq_1) <| And.intro (@ex_of T _ _ c_slices_Concat_byte_byte_10.eq_1) <| And.intro (@ru_of T _ _ o_slices_Concat_byte_byte_11.eq_1) <| And.intro (@ex_of T _ _ c_slices_Concat_byte_byte_12.eq_1) <| And.intro (@ex_of T _ _ c_slices_Concat_byte_byte_13.eq_1) <| And.intro (@ex_of T _ _ c_slices_Concat_byte_byte_14.eq_1) <| And.intro (@ex_of T _ _ c_slices_Concat_byte_byte_15.eq_1) <| And.intro (@ex_of T _ _ c_slices_Concat_byte_byte_16.eq_1) <| And.intro (@ru_of T _ _ o_slices_Concat_byte_byte_17.eq_1) <| And.intro (@ru_of T _ _ o_slices_Concat_byte_byte_18.eq_1) <| And.intro (@ru_of T _ _ o_slices_Concat_byte_byte_19.eq_1) <| And.intro (@ru_of T _ _ o_slices_Concat_byte_byte_20.eq_1) <| And.intro (@ru_of T _ _ o_slices_Concat_byte_byte_21.eq_1) <| And.intro (@ex_of T _ _ c_slices_Concat_byte_byte_22.eq_1) <| And.intro (@ru_of T _ _ o_slices_Concat_byte_byte_23.eq_1) <| And.intro (@ex_of T _ _ c_slices_Concat_byte_byte_24.eq_1) <| And.intro (@ex_of T _ _ c_slices_Concat_byte_byte_25.eq_1) <| And.intro (@ex_of T _ _ c_slices_Concat_byte_byte_26.eq_1) <| And.intro (@ex_of T _ _ c_slices_Concat_byte_byte_27.eq_1) <| And.intro (@ex_of T _ _ c_slices_Concat_byte_byte_28.eq_1) <| And.intro (@ru_of T _ _ o_slices_Concat_byte_byte_29.eq_1) <| And.intro (@ex_of T _ _ c_slices_Concat_byte_byte_30.eq_1) <| And.intro (@ex_of T _ _ c_slices_Concat_byte_byte_31.eq_1) <| And.intro (@ex_of T _ _ c_slices_Concat_byte_byte_32.eq_1) <| And.intro (@ex_of T _ _ c_slices_Concat_byte_byte_33.eq_1) <| @ex_of T _ _ c_slices_Concat_byte_byte_34.eq_1
theorem v_slices_Concat_byte_byte {O : Orc} {H : Hp} {vs : List V} : vcall T O F.slices_Concat_byte_byte vs H = (args H [0] vs).bind fun p => vk H p.2 [0] vs (O.deep F.slices_Concat_byte_byte p.1) := vcall_deep T_slices_Concat_byte_byte rfl
theorem rr_slices_Concat_byte_byte : m_slices_Concat_byte_byte.res = [.tmp 2] := rfl
theorem ro_slices_Concat_byte_byte : m_slices_Concat_byte_byte.rets = [[2]] := rfl
theorem b0_slices_Concat_byte_byte : m_slices_Concat_byte_byte.body = (.seq (.reg o_slices_Concat_byte_byte_1) c_slices_Concat_byte_byte_34) := rfl
def L_segment_footer := And.intro (@ru_of T _ _ o_segment_footer_1.eq_1) <| And.intro (@ru_of T _ _ o_segment_footer_2.eq_1) <| And.intro (@ru_of T _ _ o_segment_footer_3.eq_1) <| And.intro (@ru_of T _ _ o_segment_footer_4.eq_1) <| And.intro (@ru_of T _ _ o_segment_footer_5.eq_1) <| And.intro (@ru_of T _ _ o_segment_footer_6.eq_1) <| And.intro (@ex_of T _ _ c_segment_footer_7.eq_1) <| And.intro (@ru_of T _ _ o_segment_footer_8.eq_1) <| And.intro (@ex_of T _ _ c_segment_footer_9.eq_1) <| And.intro (@ex_of T _ _ c_segment_footer_10.eq_1) <| And.intro (@ex_of T _ _ c_segment_footer_11.eq_1) <| And.intro (@ex_of T _ _ c_segment_footer_12.eq_1) <| And.intro (@ex_of T _ _ c_segment_footer_13.eq_1) <| And.intro (@ru_of T _ _ o_segment_footer_14.eq_1) <| And.intro (@ex_of T _ _ c_segment_footer_15.eq_1) <| And.intro (@ex_of T _ _ c_segment_footer_16.eq_1) <| @ex_of T _ _ c_segment_footer_17.eq_1
theorem v_segment_footer {O : Orc} {H : Hp} {vs : List V} : vcall T O F.segment_footer vs H = (args H [0] vs).bind fun p => vk H p.2 [0] vs (O.deep F.segment_footer p.1) := vcall_deep T_segment_footer rfl
theorem rr_segment_footer : m_segment_footer.res = [.tmp 2] := rfl
theorem ro_segment_footer : m_segment_footer.rets = [[2]] := rfl
theorem b0_segment_footer : m_segment_footer.body = (.seq (.reg o_segment_footer_1) c_segment_footer_17) := rfl
def L_segment_known := And.intro (@ru_of T _ _ o_segment_known_1.eq_1) <| And.intro (@ru_of T _ _ o_segment_known_2.eq_1) <| @ex_of T _ _ c_segment_known_3.eq_1
theorem v_segment_known {O : Orc} {H : Hp} {vs : List V} : vcall T O F.segment_known vs H = (args H [0] vs).bind fun p => vk H p.2 [0] vs (O.deep F.segment_known p.1) := vcall_deep T_segment_known rfl
theorem rr_segment_known : m_segment_known.res = [.tmp 2] := rfl
theorem ro_segment_known : m_segment_known.rets = [[]] := rfl
theorem b0_segment_known : m_segment_known.body = (.seq (.reg o_segment_known_1) c_segment_known_3) := rfl
def L_segment_framed := And.intro (@ru_of T _ _ o_segment_framed_1.eq_1) <| And.intro (@ru_of T _ _ o_segment_framed_2.eq_1) <| And.intro (@ru_of T _ _ o_segment_framed_3.eq_1) <| And.intro (@ex_of T _ _ c_segment_framed_4.eq_1) <| @ex_of T _ _ c_segment_framed_5.eq_1
theorem v_segment_framed {O : Orc} {H : Hp} {vs : List V} : vcall T O F.segment_framed vs H = (args H [0] vs).bind fun p => vk H p.2 [0] vs (O.deep F.segment_framed p.1) := vcall_deep T_segment_framed rfl
theorem rr_segment_framed : m_segment_framed.res = [.tmp 2] := rfl
theorem ro_segment_framed : m_segment_framed.rets = [[2]] := rfl
theorem b0_segment_framed : m_segment_framed.body = (.seq (.reg o_segment_framed_1) c_segment_framed_5) := rfl
def L_num_Put := And.intro (@ru_of T _ _ o_num_Put_1.eq_1) <| And.intro (@ru_of T _ _ o_num_Put_2.eq_1) <| And.intro (@ru_of T _ _ o_num_Put_3.eq_1) <| And.intro (@ex_of T _ _ c_num_Put_4.eq_1) <| And.intro (@ru_of T _ _ o_num_Put_5.eq_1) <| And.intro (@ex_of T _ _ c_num_Put_6.eq_1) <| @ex_of T _ _ c_num_Put_7.eq_1
theorem v_num_Put {O : Orc} {H : Hp} {vs : List V} : vcall T O F.num_Put vs H = (args H [2, 0] vs).bind fun p => vk H p.2 [2, 0] vs (O.deep F.num_Put p.1) := vcall_deep T_num_Put rfl
theorem rr_num_Put : m_num_Put.res = [.tmp 4] := rfl
theorem ro_num_Put : m_num_Put.rets = [[2]] := rfl
theorem b0_num_Put : m_num_Put.body = (.seq (.reg o_num_Put_1) c_num_Put_7) := rfl
def L_schema_Fits := And.intro (@ru_of T _ _ o_schema_Fits_1.eq_1) <| And.intro (@ru_of T _ _ o_schema_Fits_2.eq_1) <| @ex_of T _ _ c_schema_Fits_3.eq_1
theorem v_schema_Fits {O : Orc} {H : Hp} {vs : List V} : vcall T O F.schema_Fits vs H = (args H [0] vs).bind fun p => vk H p.2 [0] vs (O.deep F.schema_Fits p.1) := vcall_deep T_schema_Fits rfl
theorem rr_schema_Fits : m_schema_Fits.res = [.tmp 2] := rfl
theorem ro_schema_Fits : m_schema_Fits.rets = [[]] := rfl
theorem b0_schema_Fits : m_schema_Fits.body = (.seq (.reg o_schema_Fits_1) c_schema_Fits_3) := rfl
def L_segment_data := And.intro (@ru_of T _ _ o_segment_data_1.eq_1) <| And.intro (@ru_of T _ _ o_segment_data_2.eq_1) <| And.intro (@ru_of T _ _ o_segment_data_3.eq_1) <| And.intro (@ru_of T _ _ o_segment_data_4.eq_1) <| And.intro (@ex_of T _ _ c_segment_data_5.eq_1) <| And.intro (@ex_of T _ _ c_segment_data_6.eq_1) <| And.intro (@ru_of T _ _ o_segment_data_7.eq_1) <| And.intro (@ru_of T _ _ o_segment_data_8.eq_1) <| And.intro (@ru_of T _ _ o_segment_data_9.eq_1) <| And.intro (@ru_of T _ _ o_segment_data_10.eq_1) <| And.intro (@ru_of T _ _ o_segment_data_11.eq_1) <| And.intro (@ru_of T _ _ o_segment_data_12.eq_1) <| And.intro (@ex_of T _ _ c_segment_data_13.eq_1) <| And.intro (@ex_of T _ _ c_segment_data_14.eq_1) <| And.intro (@ru_of T _ _ o_segment_data_15.eq_1) <| And.intro (@ex_of T _ _ c_segment_data_16.eq_1) <| And.intro (@ex_of T _ _ c_segment_data_17.eq_1) <| And.intro (@ex_of T _ _ c_segment_data_18.eq_1) <| And.intro (@ex_of T _ _ c_segment_data_19.eq_1) <| And.intro (@ex_of T _ _ c_segment_data_20.eq_1) <| And.intro (@ru_of T _ _ o_segment_data_21.eq_1) <| And.intro (@ex_of T _ _ c_segment_data_22.eq_1) <| And.intro (@ex_of T _ _ c_segment_data_23.eq_1) <| And.intro (@ex_of T _ _ c_segment_data_24.eq_1) <| @ex_of T _ _ c_segment_data_25.eq_1
theorem v_segment_data {O : Orc} {H : Hp} {vs : List V} : vcall T O F.segment_data vs H = (args H [0, 0] vs).bind fun p => vk H p.2 [0, 0] vs (O.deep F.segment_data p.1) := vcall_deep T_segment_data rfl
theorem rr_segment_data : m_segment_data.res = [.tmp 4] := rfl
theorem ro_segment_data : m_segment_data.rets = [[2]] := rfl
theorem b0_segment_data : m_segment_data.body = (.seq (.reg o_segment_data_1) c_segment_data_25) := rfl
def L_slices_Grow_byte_byte := And.intro (@ru_of T _ _ o_slices_Grow_byte_byte_1.eq_1) <| And.intro (@ru_of T _ _ o_slices_Grow_byte_byte_2.eq_1) <| And.intro (@ex_of T _ _ c_slices_Grow_byte_byte_3.eq_1) <| And.intro (@ru_of T _ _ o_slices_Grow_byte_byte_4.eq_1) <| And.intro (@ru_of T _ _ o_slices_Grow_byte_byte_5.eq_1) <| And.intro (@ru_of T _ _ o_slices_Grow_byte_byte_6.eq_1) <| And.intro (@ex_of T _ _ c_slices_Grow_byte_byte_7.eq_1) <| And.intro (@ex_of T _ _ c_slices_Grow_byte_byte_8.eq_1) <| And.intro (@ru_of T _ _ o_slices_Grow_byte_byte_9.eq_1) <| And.intro (@ex_of T _ _ c_slices_Grow_byte_byte_10.eq_1) <| And.intro (@ex_of T _ _ c_slices_Grow_byte_byte_11.eq_1) <| @ex_of T _ _ c_slices_Grow_byte_byte_12.eq_1
theorem v_slices_Grow_byte_byte {O : Orc} {H : Hp} {vs : List V} : vcall T O F.slices_Grow_byte_byte vs H = ik (O.inl F.slices_Grow_byte_byte vs H) := vcall_inl T_slices_Grow_byte_byte rfl
theorem i_slices_Grow_byte_byte {n : Nat} {H : Hp} {vs : List V} : (orc T (n + 1)).inl F.slices_Grow_byte_byte vs H = finI H.length false [.tmp 4] (unw T (orc T n) n H.length [] (exec T (orc T n) n H.length (.seq (.reg o_slices_Grow_byte_byte_1) c_slices_Grow_byte_byte_12) (params 0 vs) H)) := by rw [orc_inl, T_slices_Grow_byte_byte, Option.bind_some, runInl_eq]; rfl
def L_frame_Encode := And.intro (@ru_of T _ _ o_frame_Encode_1.eq_1) <| And.intro (@ru_of T _ _ o_frame_Encode_2.eq_1) <| And.intro (@ru_of T _ _ o_frame_Encode_3.eq_1) <| And.intro (@ex_of T _ _ c_frame_Encode_4.eq_1) <| And.intro (@ru_of T _ _ o_frame_Encode_5.eq_1) <| And.intro (@ru_of T _ _ o_frame_Encode_6.eq_1) <| And.intro (@ex_of T _ _ c_frame_Encode_7.eq_1) <| And.intro (@ex_of T _ _ c_frame_Encode_8.eq_1) <| @ex_of T _ _ c_frame_Encode_9.eq_1
theorem v_frame_Encode {O : Orc} {H : Hp} {vs : List V} : vcall T O F.frame_Encode vs H = (args H [0] vs).bind fun p => vk H p.2 [0] vs (O.deep F.frame_Encode p.1) := vcall_deep T_frame_Encode rfl
theorem rr_frame_Encode : m_frame_Encode.res = [.tmp 2, .tmp 3] := rfl
theorem ro_frame_Encode : m_frame_Encode.rets = [[2], []] := rfl
theorem b0_frame_Encode : m_frame_Encode.body = (.seq (.reg o_frame_Encode_1) c_frame_Encode_9) := rfl
def L_num_groups := And.intro (@ru_of T _ _ o_num_groups_1.eq_1) <| And.intro (@ru_of T _ _ o_num_groups_2.eq_1) <| And.intro (@ex_of T _ _ c_num_groups_3.eq_1) <| And.intro (@ru_of T _ _ o_num_groups_4.eq_1) <| And.intro (@ru_of T _ _ o_num_groups_5.eq_1) <| And.intro (@ex_of T _ _ c_num_groups_6.eq_1) <| And.intro (@ex_of T _ _ c_num_groups_7.eq_1) <| And.intro (@ex_of T _ _ c_num_groups_8.eq_1) <| And.intro (@ru_of T _ _ o_num_groups_9.eq_1) <| And.intro (@ex_of T _ _ c_num_groups_10.eq_1) <| @ex_of T _ _ c_num_groups_11.eq_1
theorem v_num_groups {O : Orc} {H : Hp} {vs : List V} : vcall T O F.num_groups vs H = (args H [2, 0] vs).bind fun p => vk H p.2 [2, 0] vs (O.deep F.num_groups p.1) := vcall_deep T_num_groups rfl
theorem rr_num_groups : m_num_groups.res = [.tmp 4] := rfl
theorem ro_num_groups : m_num_groups.rets = [[2]] := rfl
theorem b0_num_groups : m_num_groups.body = (.seq (.reg o_num_groups_1) c_num_groups_11) := rfl
def L_objs_Fits := And.intro (@ru_of T _ _ o_objs_Fits_1.eq_1) <| And.intro (@ru_of T _ _ o_objs_Fits_2.eq_1) <| And.intro (@dr_of T _ _ [(10, 13), (18, 21)] o_objs_Fits_2.eq_1 (by decide)) <| @ex_of T _ _ c_objs_Fits_3.eq_1
theorem v_objs_Fits {O : Orc} {H : Hp} {vs : List V} : vcall T O F.objs_Fits vs H = (args H [0] vs).bind fun p => vk H p.2 [0] vs (O.deep F.objs_Fits p.1) := vcall_deep T_objs_Fits rfl
theorem rr_objs_Fits : m_objs_Fits.res = [.tmp 2] := rfl
theorem ro_objs_Fits : m_objs_Fits.rets = [[]] := rfl
theorem b0_objs_Fits : m_objs_Fits.body = (.seq (.reg o_objs_Fits_1) c_objs_Fits_3) := rfl
def L_block_Encode := And.intro (@ru_of T _ _ o_block_Encode_1.eq_1) <| And.intro (@ru_of T _ _ o_block_Encode_2.eq_1) <| And.intro (@ru_of T _ _ o_block_Encode_3.eq_1) <| And.intro (@ex_of T _ _ c_block_Encode_4.eq_1) <| And.intro (@ru_of T _ _ o_block_Encode_5.eq_1) <| And.intro (@ru_of T _ _ o_block_Encode_6.eq_1) <| And.intro (@ru_of T _ _ o_block_Encode_7.eq_1) <| And.intro (@ru_of T _ _ o_block_Encode_8.eq_1) <| And.intro (@ru_of T _ _ o_block_Encode_9.eq_1) <| And.intro (@ru_of T _ _ o_block_Encode_10.eq_1) <| And.intro (@df_of T _ _ [(5, 3), (8, 3), (9, 3)] o_block_Encode_10.eq_1) <| And.intro (@ru_of T _ _ o_block_Encode_11.eq_1) <| And.intro (@ru_of T _ _ o_block_Encode_12.eq_1) <| And.intro (@ru_of T _ _ o_block_Encode_13.eq_1) <| And.intro (@ex_of T _ _ c_block_Encode_14.eq_1) <| And.intro (@ex_of T _ _ c_block_Encode_15.eq_1) <| And.intro (@ex_of T _ _ c_block_Encode_16.eq_1) <| And.intro (@ex_of T _ _ c_block_Encode_17.eq_1) <| And.intro (@ru_of T _ _ o_block_Encode_18.eq_1) <| And.intro (@ex_of T _ _ c_block_Encode_19.eq_1) <| And.intro (@ex_of T _ _ c_block_Encode_20.eq_1) <| And.intro (@ex_of T _ _ c_block_Encode_21.eq_1) <| And.intro (@ex_of T _ _ c_block_Encode_22.eq_1) <| And.intro (@ex_of T _ _ c_block_Encode_23.eq_1) <| And.intro (@ru_of T _ _ o_block_Encode_24.eq_1) <| And.intro (@ex_of T _ _ c_block_Encode_25.eq_1) <| And.intro (@ex_of T _ _ c_block_Encode_26.eq_1) <| And.intro (@ex_of T _ _ c_block_Encode_27.eq_1) <| And.intro (@ex_of T _ _ c_block_Encode_28.eq_1) <| @ex_of T _ _ c_block_Encode_29.eq_1
theorem v_block_Encode {O : Orc} {H : Hp} {vs : List V} : vcall T O F.block_Encode vs H = (args H [0] vs).bind fun p => vk H p.2 [0] vs (O.deep F.block_Encode p.1) := vcall_deep T_block_Encode rfl
theorem rr_block_Encode : m_block_Encode.res = [.tmp 2, .tmp 3] := rfl
theorem ro_block_Encode : m_block_Encode.rets = [[2], []] := rfl
theorem b0_block_Encode : m_block_Encode.body = (.seq (.reg o_block_Encode_1) c_block_Encode_29) := rfl
def L_schema_Encode := And.intro (@ru_of T _ _ o_schema_Encode_1.eq_1) <| And.intro (@ru_of T _ _ o_schema_Encode_2.eq_1) <| And.intro (@ru_of T _ _ o_schema_Encode_3.eq_1) <| And.intro (@ru_of T _ _ o_schema_Encode_4.eq_1) <| And.intro (@ru_of T _ _ o_schema_Encode_5.eq_1) <| And.intro (@ru_of T _ _ o_schema_Encode_6.eq_1) <| And.intro (@ex_of T _ _ c_schema_Encode_7.eq_1) <| And.intro (@ex_of T _ _ c_schema_Encode_8.eq_1) <| And.intro (@ru_of T _ _ o_schema_Encode_9.eq_1) <| And.intro (@ru_of T _ _ o_schema_Encode_10.eq_1) <| And.intro (@ru_of T _ _ o_schema_Encode_11.eq_1) <| And.intro (@ru_of T _ _ o_schema_Encode_12.eq_1) <| And.intro (@ru_of T _ _ o_schema_Encode_13.eq_1) <| And.intro (@ex_of T _ _ c_schema_Encode_14.eq_1) <| And.intro (@ru_of T _ _ o_schema_Encode_15.eq_1) <| And.intro (@ex_of T _ _ c_schema_Encode_16.eq_1) <| And.intro (@ex_of T _ _ c_schema_Encode_17.eq_1) <| And.intro (@ex_of T _ _ c_schema_Encode_18.eq_1) <| And.intro (@ex_of T _ _ c_schema_Encode_19.eq_1) <| And.intro (@ex_of T _ _ c_schema_Encode_20.eq_1) <| And.intro (@ru_of T _ _ o_schema_Encode_21.eq_1) <| And.intro (@ex_of T _ _ c_schema_Encode_22.eq_1) <| And.intro (@ex_of T _ _ c_schema_Encode_23.eq_1) <| And.intro (@ex_of T _ _ c_schema_Encode_24.eq_1) <| And.intro (@ex_of T _ _ c_schema_Encode_25.eq_1) <| @ex_of T _ _ c_schema_Encode_26.eq_1
theorem v_schema_Encode {O : Orc} {H : Hp} {vs : List V} : vcall T O F.schema_Encode vs H = (args H [0, 0] vs).bind fun p => vk H p.2 [0, 0] vs (O.deep F.schema_Encode p.1) := vcall_deep T_schema_Encode rfl
theorem rr_schema_Encode : m_schema_Encode.res = [.tmp 4, .tmp 5] := rfl
theorem ro_schema_Encode : m_schema_Encode.rets = [[2], []] := rfl
theorem b0_schema_Encode : m_schema_Encode.body = (.seq (.reg o_schema_Encode_1) c_schema_Encode_26) := rfl
def L_frame_sum := And.intro (@ru_of T _ _ o_frame_sum_1.eq_1) <| And.intro (@ru_of T _ _ o_frame_sum_2.eq_1) <| @ex_of T _ _ c_frame_sum_3.eq_1
theorem v_frame_sum {O : Orc} {H : Hp} {vs : List V} : vcall T O F.frame_sum vs H = (args H [0, 0] vs).bind fun p => vk H p.2 [0, 0] vs (O.deep F.frame_sum p.1) := vcall_deep T_frame_sum rfl
theorem rr_frame_sum : m_frame_sum.res = [.tmp 4] := rfl
theorem ro_frame_sum : m_frame_sum.rets = [[2]] := rfl
theorem b0_frame_sum : m_frame_sum.body = (.seq (.reg o_frame_sum_1) c_frame_sum_3) := rfl
def L_objs_cut := And.intro (@ru_of T _ _ o_objs_cut_1.eq_1) <| And.intro (@ru_of T _ _ o_objs_cut_2.eq_1) <| @ex_of T _ _ c_objs_cut_3.eq_1
theorem v_objs_cut {O : Orc} {H : Hp} {vs : List V} : vcall T O F.objs_cut vs H = (args H [0] vs).bind fun p => vk H p.2 [0] vs (O.deep F.objs_cut p.1) := vcall_deep T_objs_cut rfl
theorem rr_objs_cut : m_objs_cut.res = [.tmp 2] := rfl
theorem ro_objs_cut : m_objs_cut.rets = [[]] := rfl
theorem b0_objs_cut : m_objs_cut.body = (.seq (.reg o_objs_cut_1) c_objs_cut_3) := rfl
def L_block_Fits := And.intro (@ru_of T _ _ o_block_Fits_1.eq_1) <| And.intro (@ru_of T _ _ o_block_Fits_2.eq_1) <| And.intro (@ru_of T _ _ o_block_Fits_3.eq_1) <| And.intro (@ru_of T _ _ o_block_Fits_4.eq_1) <| And.intro (@ru_of T _ _ o_block_Fits_5.eq_1) <| And.intro (@ru_of T _ _ o_block_Fits_6.eq_1) <| And.intro (@ex_of T _ _ c_block_Fits_7.eq_1) <| And.intro (@ex_of T _ _ c_block_Fits_8.eq_1) <| And.intro (@ru_of T _ _ o_block_Fits_9.eq_1) <| And.intro (@ex_of T _ _ c_block_Fits_10.eq_1) <| And.intro (@ex_of T _ _ c_block_Fits_11.eq_1) <| And.intro (@ex_of T _ _ c_block_Fits_12.eq_1) <| And.intro (@ex_of T _ _ c_block_Fits_13.eq_1) <| And.intro (@ex_of T _ _ c_block_Fits_14.eq_1) <| And.intro (@ru_of T _ _ o_block_Fits_15.eq_1) <| And.intro (@ex_of T _ _ c_block_Fits_16.eq_1) <| @ex_of T _ _ c_block_Fits_17.eq_1
theorem v_block_Fits {O : Orc} {H : Hp} {vs : List V} : vcall T O F.block_Fits vs H = (args H [0] vs).bind fun p => vk H p.2 [0] vs (O.deep F.block_Fits p.1) := vcall_deep T_block_Fits rfl
theorem rr_block_Fits : m_block_Fits.res = [.tmp 2] := rfl
theorem ro_block_Fits : m_block_Fits.rets = [[]] := rfl
theorem b0_block_Fits : m_block_Fits.body = (.seq (.reg o_block_Fits_1) c_block_Fits_17) := rfl
def L_num_PutSigned := And.intro (@ru_of T _ _ o_num_PutSigned_1.eq_1) <| And.intro (@ru_of T _ _ o_num_PutSigned_2.eq_1) <| @ex_of T _ _ c_num_PutSigned_3.eq_1
theorem v_num_PutSigned {O : Orc} {H : Hp} {vs : List V} : vcall T O F.num_PutSigned vs H = (args H [2, 0] vs).bind fun p => vk H p.2 [2, 0] vs (O.deep F.num_PutSigned p.1) := vcall_deep T_num_PutSigned rfl
theorem rr_num_PutSigned : m_num_PutSigned.res = [.tmp 4] := rfl
theorem ro_num_PutSigned : m_num_PutSigned.rets = [[2]] := rfl
theorem b0_num_PutSigned : m_num_PutSigned.body = (.seq (.reg o_num_PutSigned_1) c_num_PutSigned_3) := rfl
def L_codec_PutOp := And.intro (@ru_of T _ _ o_codec_PutOp_1.eq_1) <| And.intro (@ru_of T _ _ o_codec_PutOp_2.eq_1) <| And.intro (@ru_of T _ _ o_codec_PutOp_3.eq_1) <| And.intro (@ex_of T _ _ c_codec_PutOp_4.eq_1) <| And.intro (@ru_of T _ _ o_codec_PutOp_5.eq_1) <| And.intro (@df_of T _ _ [(5, 3), (8, 3), (8, 6)] o_codec_PutOp_5.eq_1) <| And.intro (@ex_of T _ _ c_codec_PutOp_6.eq_1) <| @ex_of T _ _ c_codec_PutOp_7.eq_1
theorem v_codec_PutOp {O : Orc} {H : Hp} {vs : List V} : vcall T O F.codec_PutOp vs H = (args H [2, 0] vs).bind fun p => vk H p.2 [2, 0] vs (O.deep F.codec_PutOp p.1) := vcall_deep T_codec_PutOp rfl
theorem rr_codec_PutOp : m_codec_PutOp.res = [.tmp 4, .tmp 5] := rfl
theorem ro_codec_PutOp : m_codec_PutOp.rets = [[2], []] := rfl
theorem b0_codec_PutOp : m_codec_PutOp.body = (.seq (.reg o_codec_PutOp_1) c_codec_PutOp_7) := rfl
def L_schema_fields := And.intro (@ru_of T _ _ o_schema_fields_1.eq_1) <| And.intro (@ru_of T _ _ o_schema_fields_2.eq_1) <| And.intro (@ru_of T _ _ o_schema_fields_3.eq_1) <| And.intro (@ru_of T _ _ o_schema_fields_4.eq_1) <| And.intro (@ex_of T _ _ c_schema_fields_5.eq_1) <| And.intro (@ru_of T _ _ o_schema_fields_6.eq_1) <| And.intro (@ex_of T _ _ c_schema_fields_7.eq_1) <| And.intro (@ex_of T _ _ c_schema_fields_8.eq_1) <| @ex_of T _ _ c_schema_fields_9.eq_1
theorem v_schema_fields {O : Orc} {H : Hp} {vs : List V} : vcall T O F.schema_fields vs H = (args H [0] vs).bind fun p => vk H p.2 [0] vs (O.deep F.schema_fields p.1) := vcall_deep T_schema_fields rfl
theorem rr_schema_fields : m_schema_fields.res = [.tmp 2] := rfl
theorem ro_schema_fields : m_schema_fields.rets = [[2]] := rfl
theorem b0_schema_fields : m_schema_fields.body = (.seq (.reg o_schema_fields_1) c_schema_fields_9) := rfl
def L_schema_put := And.intro (@ru_of T _ _ o_schema_put_1.eq_1) <| And.intro (@ru_of T _ _ o_schema_put_2.eq_1) <| And.intro (@ru_of T _ _ o_schema_put_3.eq_1) <| And.intro (@ru_of T _ _ o_schema_put_4.eq_1) <| And.intro (@ru_of T _ _ o_schema_put_5.eq_1) <| And.intro (@ru_of T _ _ o_schema_put_6.eq_1) <| And.intro (@ru_of T _ _ o_schema_put_7.eq_1) <| And.intro (@ru_of T _ _ o_schema_put_8.eq_1) <| And.intro (@ru_of T _ _ o_schema_put_9.eq_1) <| And.intro (@ru_of T _ _ o_schema_put_10.eq_1) <| And.intro (@ru_of T _ _ o_schema_put_11.eq_1) <| And.intro (@ru_of T _ _ o_schema_put_12.eq_1) <| And.intro (@ex_of T _ _ c_schema_put_13.eq_1) <| And.intro (@ex_of T _ _ c_schema_put_14.eq_1) <| And.intro (@ex_of T _ _ c_schema_put_15.eq_1) <| And.intro (@ex_of T _ _ c_schema_put_16.eq_1) <| And.intro (@ex_of T _ _ c_schema_put_17.eq_1) <| And.intro (@ex_of T _ _ c_schema_put_18.eq_1) <| And.intro (@ru_of T _ _ o_schema_put_19.eq_1) <| And.intro (@ex_of T _ _ c_schema_put_20.eq_1) <| And.intro (@ex_of T _ _ c_schema_put_21.eq_1) <| @ex_of T _ _ c_schema_put_22.eq_1
theorem v_schema_put {O : Orc} {H : Hp} {vs : List V} : vcall T O F.schema_put vs H = (args H [2, 0, 0] vs).bind fun p => vk H p.2 [2, 0, 0] vs (O.deep F.schema_put p.1) := vcall_deep T_schema_put rfl
theorem rr_schema_put : m_schema_put.res = [.tmp 6] := rfl
theorem ro_schema_put : m_schema_put.rets = [[2]] := rfl
theorem b0_schema_put : m_schema_put.body = (.seq (.reg o_schema_put_1) c_schema_put_22) := rfl
def L_num_Fixed32 := And.intro (@ru_of T _ _ o_num_Fixed32_1.eq_1) <| And.intro (@ru_of T _ _ o_num_Fixed32_2.eq_1) <| @ex_of T _ _ c_num_Fixed32_3.eq_1
theorem v_num_Fixed32 {O : Orc} {H : Hp} {vs : List V} : vcall T O F.num_Fixed32 vs H = (args H [0] vs).bind fun p => vk H p.2 [0] vs (O.deep F.num_Fixed32 p.1) := vcall_deep T_num_Fixed32 rfl
theorem rr_num_Fixed32 : m_num_Fixed32.res = [.tmp 2] := rfl
theorem ro_num_Fixed32 : m_num_Fixed32.rets = [[2]] := rfl
theorem b0_num_Fixed32 : m_num_Fixed32.body = (.seq (.reg o_num_Fixed32_1) c_num_Fixed32_3) := rfl
def L_crc_More := And.intro (@ru_of T _ _ o_crc_More_1.eq_1) <| And.intro (@ru_of T _ _ o_crc_More_2.eq_1) <| And.intro (@ru_of T _ _ o_crc_More_3.eq_1) <| And.intro (@ru_of T _ _ o_crc_More_4.eq_1) <| And.intro (@ru_of T _ _ o_crc_More_5.eq_1) <| And.intro (@ru_of T _ _ o_crc_More_6.eq_1) <| And.intro (@ru_of T _ _ o_crc_More_7.eq_1) <| And.intro (@ex_of T _ _ c_crc_More_8.eq_1) <| And.intro (@ru_of T _ _ o_crc_More_9.eq_1) <| And.intro (@ex_of T _ _ c_crc_More_10.eq_1) <| And.intro (@ex_of T _ _ c_crc_More_11.eq_1) <| And.intro (@ex_of T _ _ c_crc_More_12.eq_1) <| And.intro (@ex_of T _ _ c_crc_More_13.eq_1) <| And.intro (@ex_of T _ _ c_crc_More_14.eq_1) <| And.intro (@ru_of T _ _ o_crc_More_15.eq_1) <| And.intro (@ex_of T _ _ c_crc_More_16.eq_1) <| And.intro (@ex_of T _ _ c_crc_More_17.eq_1) <| And.intro (@ex_of T _ _ c_crc_More_18.eq_1) <| @ex_of T _ _ c_crc_More_19.eq_1
theorem v_crc_More {O : Orc} {H : Hp} {vs : List V} : vcall T O F.crc_More vs H = (args H [0, 0] vs).bind fun p => vk H p.2 [0, 0] vs (O.deep F.crc_More p.1) := vcall_deep T_crc_More rfl
theorem rr_crc_More : m_crc_More.res = [.tmp 4] := rfl
theorem ro_crc_More : m_crc_More.rets = [[]] := rfl
theorem b0_crc_More : m_crc_More.body = (.seq (.reg o_crc_More_1) c_crc_More_19) := rfl
def L_crc_Sum := And.intro (@ru_of T _ _ o_crc_Sum_1.eq_1) <| And.intro (@ru_of T _ _ o_crc_Sum_2.eq_1) <| @ex_of T _ _ c_crc_Sum_3.eq_1
theorem v_crc_Sum {O : Orc} {H : Hp} {vs : List V} : vcall T O F.crc_Sum vs H = (args H [0] vs).bind fun p => vk H p.2 [0] vs (O.deep F.crc_Sum p.1) := vcall_deep T_crc_Sum rfl
theorem rr_crc_Sum : m_crc_Sum.res = [.tmp 2] := rfl
theorem ro_crc_Sum : m_crc_Sum.rets = [[]] := rfl
theorem b0_crc_Sum : m_crc_Sum.body = (.seq (.reg o_crc_Sum_1) c_crc_Sum_3) := rfl
def L_num_Zig := And.intro (@ru_of T _ _ o_num_Zig_1.eq_1) <| And.intro (@ru_of T _ _ o_num_Zig_2.eq_1) <| @ex_of T _ _ c_num_Zig_3.eq_1
theorem v_num_Zig {O : Orc} {H : Hp} {vs : List V} : vcall T O F.num_Zig vs H = (args H [0] vs).bind fun p => vk H p.2 [0] vs (O.deep F.num_Zig p.1) := vcall_deep T_num_Zig rfl
theorem rr_num_Zig : m_num_Zig.res = [.tmp 2] := rfl
theorem ro_num_Zig : m_num_Zig.rets = [[]] := rfl
theorem b0_num_Zig : m_num_Zig.body = (.seq (.reg o_num_Zig_1) c_num_Zig_3) := rfl
def L_num_fixed := And.intro (@ru_of T _ _ o_num_fixed_1.eq_1) <| And.intro (@ru_of T _ _ o_num_fixed_2.eq_1) <| And.intro (@ru_of T _ _ o_num_fixed_3.eq_1) <| And.intro (@ru_of T _ _ o_num_fixed_4.eq_1) <| And.intro (@ru_of T _ _ o_num_fixed_5.eq_1) <| And.intro (@ru_of T _ _ o_num_fixed_6.eq_1) <| And.intro (@ex_of T _ _ c_num_fixed_7.eq_1) <| And.intro (@ru_of T _ _ o_num_fixed_8.eq_1) <| And.intro (@ex_of T _ _ c_num_fixed_9.eq_1) <| And.intro (@ex_of T _ _ c_num_fixed_10.eq_1) <| And.intro (@ex_of T _ _ c_num_fixed_11.eq_1) <| And.intro (@ex_of T _ _ c_num_fixed_12.eq_1) <| And.intro (@ex_of T _ _ c_num_fixed_13.eq_1) <| And.intro (@ru_of T _ _ o_num_fixed_14.eq_1) <| And.intro (@ex_of T _ _ c_num_fixed_15.eq_1) <| And.intro (@ex_of T _ _ c_num_fixed_16.eq_1) <| @ex_of T _ _ c_num_fixed_17.eq_1
theorem v_num_fixed {O : Orc} {H : Hp} {vs : List V} : vcall T O F.num_fixed vs H = (args H [0, 0] vs).bind fun p => vk H p.2 [0, 0] vs (O.deep F.num_fixed p.1) := vcall_deep T_num_fixed rfl
theorem rr_num_fixed : m_num_fixed.res = [.tmp 4] := rfl
theorem ro_num_fixed : m_num_fixed.rets = [[2]] := rfl
theorem b0_num_fixed : m_num_fixed.body = (.seq (.reg o_num_fixed_1) c_num_fixed_17) := rfl
def L_crc_Table := And.intro (@ru_of T _ _ o_crc_Table_1.eq_1) <| And.intro (@ru_of T _ _ o_crc_Table_2.eq_1) <| And.intro (@ru_of T _ _ o_crc_Table_3.eq_1) <| And.intro (@ru_of T _ _ o_crc_Table_4.eq_1) <| And.intro (@ru_of T _ _ o_crc_Table_5.eq_1) <| And.intro (@ru_of T _ _ o_crc_Table_6.eq_1) <| And.intro (@ru_of T _ _ o_crc_Table_7.eq_1) <| And.intro (@ru_of T _ _ o_crc_Table_8.eq_1) <| And.intro (@ru_of T _ _ o_crc_Table_9.eq_1) <| And.intro (@ru_of T _ _ o_crc_Table_10.eq_1) <| And.intro (@ex_of T _ _ c_crc_Table_11.eq_1) <| And.intro (@ru_of T _ _ o_crc_Table_12.eq_1) <| And.intro (@ex_of T _ _ c_crc_Table_13.eq_1) <| And.intro (@ex_of T _ _ c_crc_Table_14.eq_1) <| And.intro (@ex_of T _ _ c_crc_Table_15.eq_1) <| And.intro (@ex_of T _ _ c_crc_Table_16.eq_1) <| And.intro (@ex_of T _ _ c_crc_Table_17.eq_1) <| And.intro (@ru_of T _ _ o_crc_Table_18.eq_1) <| And.intro (@ex_of T _ _ c_crc_Table_19.eq_1) <| And.intro (@ex_of T _ _ c_crc_Table_20.eq_1) <| And.intro (@ex_of T _ _ c_crc_Table_21.eq_1) <| And.intro (@ru_of T _ _ o_crc_Table_22.eq_1) <| And.intro (@ex_of T _ _ c_crc_Table_23.eq_1) <| And.intro (@ex_of T _ _ c_crc_Table_24.eq_1) <| And.intro (@ex_of T _ _ c_crc_Table_25.eq_1) <| And.intro (@ex_of T _ _ c_crc_Table_26.eq_1) <| And.intro (@ex_of T _ _ c_crc_Table_27.eq_1) <| And.intro (@ru_of T _ _ o_crc_Table_28.eq_1) <| And.intro (@ex_of T _ _ c_crc_Table_29.eq_1) <| And.intro (@ex_of T _ _ c_crc_Table_30.eq_1) <| @ex_of T _ _ c_crc_Table_31.eq_1
theorem v_crc_Table {O : Orc} {H : Hp} {vs : List V} : vcall T O F.crc_Table vs H = (args H [] vs).bind fun p => vk H p.2 [] vs (O.deep F.crc_Table p.1) := vcall_deep T_crc_Table rfl
theorem rr_crc_Table : m_crc_Table.res = [.cell 0 256 true] := rfl
theorem ro_crc_Table : m_crc_Table.rets = [[]] := rfl
theorem b0_crc_Table : m_crc_Table.body = (.seq (.reg o_crc_Table_1) c_crc_Table_31) := rfl
end Go.Dvm.C
