/- The functions of the law in the small machine's code: part 1. -/
import Derived.Test.YtnmceljcgioomaaQi
set_option linter.all false
set_option maxRecDepth 100000
set_option maxHeartbeats 4000000
namespace Go.Dvm.C
open Go Go.Dvm
namespace F
abbrev ferrymanlaw06_SchemaAgain : Nat := 5
abbrev ferrymanlaw06_awake : Nat := 18
abbrev schema_Encode : Nat := 19
abbrev schema_Upgrade : Nat := 21
abbrev schema_Fits : Nat := 23
abbrev schema_fields : Nat := 39
abbrev num_Put : Nat := 40
abbrev schema_put : Nat := 41
abbrev slices_Contains_int_int : Nat := 46
abbrev objs_Fits : Nat := 47
abbrev num_groups : Nat := 64
abbrev codec_PutOp : Nat := 65
abbrev num_PutSigned : Nat := 66
abbrev slices_Index_int_int : Nat := 69
abbrev objs_cut : Nat := 70
abbrev num_Zig : Nat := 87
end F
def o_ferrymanlaw06_SchemaAgain_1 : List MO := [⟨(some 3), (.box (.t 1)), none⟩, ⟨(some 4), (.mv (.c (.bool false))), none⟩]
def o_ferrymanlaw06_SchemaAgain_2 : List MO := [⟨(some 16), (.call F.ferrymanlaw06_awake []), none⟩, ⟨(some 5), (.mv (.t 16)), none⟩]
def o_ferrymanlaw06_SchemaAgain_3 : List MO := [⟨(some 18), (.mv (.t 0)), none⟩, ⟨(some 19), (.load (.t 3) 7 true), none⟩, ⟨(some 20), (.call F.schema_Upgrade [(.t 18), (.t 19)]), none⟩, ⟨(some 17), (.mv (.t 20)), none⟩, ⟨(some 21), (.ext (.t 17) 0), none⟩, ⟨(some 22), (.ext (.t 17) 1), none⟩, ⟨(some 6), (.alloc [(.int .i64 0), (.int .i64 0), (.int .i64 0), (.int .i64 0), (.int .i64 0), (.int .i64 0), (.int .i64 0)]), none⟩, ⟨none, (.store (.t 6) (.t 21) 7), none⟩, ⟨(some 7), (.mv (.t 22)), none⟩]
def o_ferrymanlaw06_SchemaAgain_4 : List MO := [⟨(some 23), (.mv (.t 5)), none⟩, ⟨(some 24), (.un .not (.t 23)), none⟩, ⟨(some 25), (.mv (.t 24)), none⟩, ⟨(some 26), (.mv (.t 7)), (some (25, false))⟩, ⟨(some 27), (.bin .neq (.t 26) (.c (.int .i64 0))), (some (25, false))⟩, ⟨(some 28), (.pick (.t 25) (.c (.bool true)) (.t 27)), none⟩]
def o_ferrymanlaw06_SchemaAgain_5 : List MO := [⟨(some 29), (.mv (.t 5)), none⟩, ⟨(some 4), (.mv (.t 29)), none⟩]
def c_ferrymanlaw06_SchemaAgain_6 : MC := (.cond (.t 28) (.seq (.reg o_ferrymanlaw06_SchemaAgain_5) .ret) .skip)
def o_ferrymanlaw06_SchemaAgain_7 : List MO := [⟨(some 31), (.mv (.t 0)), none⟩, ⟨(some 32), (.load (.t 3) 7 true), none⟩, ⟨(some 33), (.call F.schema_Encode [(.t 31), (.t 32)]), none⟩, ⟨(some 30), (.mv (.t 33)), none⟩, ⟨(some 34), (.ext (.t 30) 0), none⟩, ⟨(some 35), (.ext (.t 30) 1), none⟩, ⟨(some 8), (.mv (.t 34)), none⟩, ⟨(some 9), (.mv (.t 35)), none⟩]
def o_ferrymanlaw06_SchemaAgain_8 : List MO := [⟨(some 37), (.mv (.t 0)), none⟩, ⟨(some 38), (.load (.t 6) 7 true), none⟩, ⟨(some 39), (.call F.schema_Encode [(.t 37), (.t 38)]), none⟩, ⟨(some 36), (.mv (.t 39)), none⟩, ⟨(some 40), (.ext (.t 36) 0), none⟩, ⟨(some 41), (.ext (.t 36) 1), none⟩, ⟨(some 10), (.mv (.t 40)), none⟩, ⟨(some 11), (.mv (.t 41)), none⟩]
def o_ferrymanlaw06_SchemaAgain_9 : List MO := [⟨(some 43), (.mv (.t 0)), none⟩, ⟨(some 44), (.load (.t 6) 7 true), none⟩, ⟨(some 45), (.call F.schema_Upgrade [(.t 43), (.t 44)]), none⟩, ⟨(some 42), (.mv (.t 45)), none⟩, ⟨(some 46), (.ext (.t 42) 0), none⟩, ⟨(some 47), (.ext (.t 42) 1), none⟩, ⟨(some 12), (.alloc [(.int .i64 0), (.int .i64 0), (.int .i64 0), (.int .i64 0), (.int .i64 0), (.int .i64 0), (.int .i64 0)]), none⟩, ⟨none, (.store (.t 12) (.t 46) 7), none⟩, ⟨(some 13), (.mv (.t 47)), none⟩]
def o_ferrymanlaw06_SchemaAgain_10 : List MO := [⟨(some 49), (.load (.t 6) 7 true), none⟩, ⟨(some 50), (.call F.schema_Upgrade [(.c (.int .i64 3)), (.t 49)]), none⟩, ⟨(some 48), (.mv (.t 50)), none⟩, ⟨(some 51), (.ext (.t 48) 0), none⟩, ⟨(some 52), (.ext (.t 48) 1), none⟩, ⟨(some 14), (.alloc [(.int .i64 0), (.int .i64 0), (.int .i64 0), (.int .i64 0), (.int .i64 0), (.int .i64 0), (.int .i64 0)]), none⟩, ⟨none, (.store (.t 14) (.t 51) 7), none⟩, ⟨(some 15), (.mv (.t 52)), none⟩]
def o_ferrymanlaw06_SchemaAgain_11 : List MO := [⟨(some 53), (.mv (.t 13)), none⟩, ⟨(some 54), (.bin .neq (.t 53) (.c (.int .i64 0))), none⟩, ⟨(some 55), (.mv (.t 54)), none⟩, ⟨(some 56), (.mv (.t 15)), (some (55, false))⟩, ⟨(some 57), (.bin .neq (.t 56) (.c (.int .i64 0))), (some (55, false))⟩, ⟨(some 58), (.pick (.t 55) (.c (.bool true)) (.t 57)), none⟩, ⟨(some 59), (.mv (.t 58)), none⟩, ⟨(some 60), (.load (.t 12) 7 true), (some (59, false))⟩, ⟨(some 61), (.load (.t 6) 7 true), (some (59, false))⟩, ⟨(some 62), (.eqn true [1, 1, 1, 1, 1, 1, 1] (.t 60) (.t 61)), (some (59, false))⟩, ⟨(some 63), (.pick (.t 59) (.c (.bool true)) (.t 62)), none⟩, ⟨(some 64), (.mv (.t 63)), none⟩, ⟨(some 65), (.load (.t 14) 7 true), (some (64, false))⟩, ⟨(some 66), (.load (.t 6) 7 true), (some (64, false))⟩, ⟨(some 67), (.eqn true [1, 1, 1, 1, 1, 1, 1] (.t 65) (.t 66)), (some (64, false))⟩, ⟨(some 68), (.pick (.t 64) (.c (.bool true)) (.t 67)), none⟩]
def o_ferrymanlaw06_SchemaAgain_12 : List MO := [⟨(some 4), (.mv (.c (.bool false))), none⟩]
def c_ferrymanlaw06_SchemaAgain_13 : MC := (.cond (.t 68) (.seq (.reg o_ferrymanlaw06_SchemaAgain_12) .ret) .skip)
def o_ferrymanlaw06_SchemaAgain_14 : List MO := [⟨(some 69), (.mv (.t 9)), none⟩, ⟨(some 70), (.bin .neq (.t 69) (.c (.int .i64 0))), none⟩, ⟨(some 71), (.mv (.t 70)), none⟩, ⟨(some 72), (.mv (.t 11)), (some (71, false))⟩, ⟨(some 73), (.bin .eql (.t 72) (.c (.int .i64 0))), (some (71, false))⟩, ⟨(some 74), (.mv (.t 73)), (some (71, false))⟩, ⟨(some 75), (.mv (.t 8)), (some (74, true))⟩, ⟨(some 76), (.b2s (.t 75)), (some (74, true))⟩, ⟨(some 77), (.mv (.t 10)), (some (74, true))⟩, ⟨(some 78), (.b2s (.t 77)), (some (74, true))⟩, ⟨(some 79), (.bin .eql (.t 76) (.t 78)), (some (74, true))⟩, ⟨(some 80), (.pick (.t 74) (.t 79) (.c (.bool false))), (some (71, false))⟩, ⟨(some 81), (.pick (.t 71) (.c (.bool true)) (.t 80)), none⟩, ⟨(some 4), (.mv (.t 81)), none⟩]
def c_ferrymanlaw06_SchemaAgain_15 : MC := (.seq (.reg o_ferrymanlaw06_SchemaAgain_14) .ret)
def c_ferrymanlaw06_SchemaAgain_16 : MC := (.seq (.seq (.reg o_ferrymanlaw06_SchemaAgain_11) c_ferrymanlaw06_SchemaAgain_13) c_ferrymanlaw06_SchemaAgain_15)
def c_ferrymanlaw06_SchemaAgain_17 : MC := (.seq (.reg o_ferrymanlaw06_SchemaAgain_10) c_ferrymanlaw06_SchemaAgain_16)
def c_ferrymanlaw06_SchemaAgain_18 : MC := (.seq (.reg o_ferrymanlaw06_SchemaAgain_9) c_ferrymanlaw06_SchemaAgain_17)
def c_ferrymanlaw06_SchemaAgain_19 : MC := (.seq (.reg o_ferrymanlaw06_SchemaAgain_8) c_ferrymanlaw06_SchemaAgain_18)
def c_ferrymanlaw06_SchemaAgain_20 : MC := (.seq (.reg o_ferrymanlaw06_SchemaAgain_7) c_ferrymanlaw06_SchemaAgain_19)
def c_ferrymanlaw06_SchemaAgain_21 : MC := (.seq (.seq (.reg o_ferrymanlaw06_SchemaAgain_4) c_ferrymanlaw06_SchemaAgain_6) c_ferrymanlaw06_SchemaAgain_20)
def c_ferrymanlaw06_SchemaAgain_22 : MC := (.seq (.reg o_ferrymanlaw06_SchemaAgain_3) c_ferrymanlaw06_SchemaAgain_21)
def c_ferrymanlaw06_SchemaAgain_23 : MC := (.seq (.reg o_ferrymanlaw06_SchemaAgain_2) c_ferrymanlaw06_SchemaAgain_22)
def b_ferrymanlaw06_SchemaAgain : MC := (.seq (.reg o_ferrymanlaw06_SchemaAgain_1) c_ferrymanlaw06_SchemaAgain_23)
def m_ferrymanlaw06_SchemaAgain : MFun := { np := 2, body := b_ferrymanlaw06_SchemaAgain, res := [.tmp 4], inline := false, modes := [0, 0], rets := [[]] }
def o_ferrymanlaw06_awake_1 : List MO := [⟨(some 0), (.mv (.c (.bool false))), none⟩]
def o_ferrymanlaw06_awake_2 : List MO := [⟨(some 4), (.bld [(.int .i64 0), (.int .i64 0), (.int .i64 0), (.int .i64 0), (.int .i64 0), (.int .i64 0), (.int .i64 0)] [(0, 1, (.c (.int .i64 5))), (1, 1, (.c (.int .i64 2)))]), none⟩, ⟨(some 5), (.call F.schema_Encode [(.c (.int .i64 1)), (.t 4)]), none⟩, ⟨(some 3), (.mv (.t 5)), none⟩, ⟨(some 6), (.ext (.t 3) 0), none⟩, ⟨(some 7), (.ext (.t 3) 1), none⟩, ⟨(some 1), (.mv (.t 6)), none⟩, ⟨(some 2), (.mv (.t 7)), none⟩]
def o_ferrymanlaw06_awake_3 : List MO := [⟨(some 8), (.mv (.t 2)), none⟩, ⟨(some 9), (.bin .eql (.t 8) (.c (.int .i64 0))), none⟩, ⟨(some 10), (.mv (.t 9)), none⟩, ⟨(some 11), (.mv (.t 1)), (some (10, true))⟩, ⟨(some 12), (.b2s (.t 11)), (some (10, true))⟩, ⟨(some 13), (.bin .eql (.t 12) (.c (.str [1, 1, 5, 2, 2, 4, 0, 0, 0]))), (some (10, true))⟩, ⟨(some 14), (.pick (.t 10) (.t 13) (.c (.bool false))), none⟩, ⟨(some 0), (.mv (.t 14)), none⟩]
def c_ferrymanlaw06_awake_4 : MC := (.seq (.reg o_ferrymanlaw06_awake_3) .ret)
def c_ferrymanlaw06_awake_5 : MC := (.seq (.reg o_ferrymanlaw06_awake_2) c_ferrymanlaw06_awake_4)
def b_ferrymanlaw06_awake : MC := (.seq (.reg o_ferrymanlaw06_awake_1) c_ferrymanlaw06_awake_5)
def m_ferrymanlaw06_awake : MFun := { np := 0, body := b_ferrymanlaw06_awake, res := [.tmp 0], inline := false, modes := [], rets := [[]] }
def o_schema_Encode_1 : List MO := [⟨(some 3), (.box (.t 1)), none⟩, ⟨(some 4), (.mv (.c (.sl true []))), none⟩, ⟨(some 5), (.mv (.c (.int .i64 0))), none⟩]
def o_schema_Encode_2 : List MO := [⟨(some 10), (.mv (.t 0)), none⟩, ⟨(some 11), (.call F.schema_fields [(.t 10)]), none⟩, ⟨(some 6), (.mv (.t 11)), none⟩]
def o_schema_Encode_3 : List MO := [⟨(some 13), (.mv (.t 6)), none⟩, ⟨(some 14), (.isnil false 0 (.t 13)), none⟩, ⟨(some 12), (.mv (.t 14)), none⟩]
def o_schema_Encode_4 : List MO := [⟨(some 4), (.mv (.c (.sl true []))), none⟩, ⟨(some 5), (.mv (.c (.int .i64 6))), none⟩]
def o_schema_Encode_5 : List MO := [⟨(some 16), (.load (.t 3) 7 true), none⟩, ⟨(some 17), (.call F.schema_Fits [(.t 16)]), none⟩, ⟨(some 18), (.un .not (.t 17)), none⟩, ⟨(some 15), (.mv (.t 18)), none⟩]
def o_schema_Encode_6 : List MO := [⟨(some 4), (.mv (.c (.sl true []))), none⟩, ⟨(some 5), (.mv (.c (.int .i64 1))), none⟩]
def c_schema_Encode_7 : MC := (.cond (.t 15) (.seq (.reg o_schema_Encode_6) .ret) .skip)
def c_schema_Encode_8 : MC := (.cond (.t 12) (.seq (.reg o_schema_Encode_4) .ret) (.seq (.reg o_schema_Encode_5) c_schema_Encode_7))
def o_schema_Encode_9 : List MO := [⟨(some 19), (.mv (.t 0)), none⟩, ⟨(some 20), (.call F.num_Put [(.c (.sl true [])), (.t 19)]), none⟩, ⟨(some 7), (.mv (.t 20)), none⟩]
def o_schema_Encode_10 : List MO := [⟨(some 21), (.mv (.t 6)), none⟩, ⟨(some 22), (.len false (.t 21)), none⟩, ⟨(some 23), (.mv (.c (.int .i64 0))), none⟩]
def o_schema_Encode_11 : List MO := [⟨(some 24), (.bin .lss (.t 23) (.t 22)), none⟩]
def o_schema_Encode_12 : List MO := [⟨(some 25), (.iaddr (.t 21) (.t 23) 1), none⟩, ⟨(some 26), (.load (.t 25) 1 false), none⟩, ⟨(some 9), (.mv (.t 26)), none⟩]
def o_schema_Encode_13 : List MO := [⟨(some 27), (.mv (.t 7)), none⟩, ⟨(some 28), (.mv (.t 9)), none⟩, ⟨(some 29), (.load (.t 3) 7 true), none⟩, ⟨(some 30), (.call F.schema_put [(.t 27), (.t 28), (.t 29)]), none⟩, ⟨(some 7), (.mv (.t 30)), none⟩]
def c_schema_Encode_14 : MC := (.reg o_schema_Encode_13)
def o_schema_Encode_15 : List MO := [⟨(some 31), (.bin .add (.t 23) (.c (.int .i64 1))), none⟩, ⟨(some 23), (.mv (.t 31)), none⟩]
def c_schema_Encode_16 : MC := (.reg o_schema_Encode_15)
def c_schema_Encode_17 : MC := (.seq (.blk 2 (.seq (.reg o_schema_Encode_12) c_schema_Encode_14)) c_schema_Encode_16)
def c_schema_Encode_18 : MC := (.seq (.cond (.t 24) .skip (.exit 1)) c_schema_Encode_17)
def c_schema_Encode_19 : MC := (.seq (.reg o_schema_Encode_11) c_schema_Encode_18)
def c_schema_Encode_20 : MC := (.blk 1 (.loop [3, 7, 21, 22, 23] c_schema_Encode_19))
def o_schema_Encode_21 : List MO := [⟨(some 32), (.mv (.t 7)), none⟩, ⟨(some 4), (.mv (.t 32)), none⟩, ⟨(some 5), (.mv (.c (.int .i64 0))), none⟩]
def c_schema_Encode_22 : MC := (.seq (.reg o_schema_Encode_21) .ret)
def c_schema_Encode_23 : MC := (.seq (.seq (.reg o_schema_Encode_10) c_schema_Encode_20) c_schema_Encode_22)
def c_schema_Encode_24 : MC := (.seq (.reg o_schema_Encode_9) c_schema_Encode_23)
def c_schema_Encode_25 : MC := (.seq (.blk 0 (.seq (.reg o_schema_Encode_3) c_schema_Encode_8)) c_schema_Encode_24)
def c_schema_Encode_26 : MC := (.seq (.reg o_schema_Encode_2) c_schema_Encode_25)
def b_schema_Encode : MC := (.seq (.reg o_schema_Encode_1) c_schema_Encode_26)
def m_schema_Encode : MFun := { np := 2, body := b_schema_Encode, res := [.tmp 4, .tmp 5], inline := false, modes := [0, 0], rets := [[2], []] }
def o_schema_Upgrade_1 : List MO := [⟨(some 3), (.box (.t 1)), none⟩, ⟨(some 4), (.alloc [(.int .i64 0), (.int .i64 0), (.int .i64 0), (.int .i64 0), (.int .i64 0), (.int .i64 0), (.int .i64 0)]), none⟩, ⟨(some 5), (.mv (.c (.int .i64 0))), none⟩]
def o_schema_Upgrade_2 : List MO := [⟨(some 7), (.mv (.t 0)), none⟩, ⟨(some 8), (.call F.schema_fields [(.t 7)]), none⟩, ⟨(some 6), (.mv (.t 8)), none⟩]
def o_schema_Upgrade_3 : List MO := [⟨(some 9), (.mv (.t 6)), none⟩, ⟨(some 10), (.isnil false 0 (.t 9)), none⟩]
def o_schema_Upgrade_4 : List MO := [⟨(some 11), (.bld [(.int .i64 0), (.int .i64 0), (.int .i64 0), (.int .i64 0), (.int .i64 0), (.int .i64 0), (.int .i64 0)] []), none⟩, ⟨none, (.store (.t 4) (.t 11) 7), none⟩, ⟨(some 5), (.mv (.c (.int .i64 6))), none⟩]
def c_schema_Upgrade_5 : MC := (.cond (.t 10) (.seq (.reg o_schema_Upgrade_4) .ret) .skip)
def o_schema_Upgrade_6 : List MO := [⟨(some 12), (.mv (.t 6)), none⟩, ⟨(some 13), (.call F.slices_Contains_int_int [(.t 12), (.c (.int .i64 3))]), none⟩, ⟨(some 14), (.un .not (.t 13)), none⟩]
def o_schema_Upgrade_7 : List MO := [⟨(some 15), (.faddr (.t 3) 2), none⟩, ⟨none, (.store (.t 15) (.c (.int .i64 0)) 1), none⟩]
def c_schema_Upgrade_8 : MC := (.cond (.t 14) (.reg o_schema_Upgrade_7) .skip)
def o_schema_Upgrade_9 : List MO := [⟨(some 16), (.mv (.t 6)), none⟩, ⟨(some 17), (.call F.slices_Contains_int_int [(.t 16), (.c (.int .i64 5))]), none⟩, ⟨(some 18), (.un .not (.t 17)), none⟩]
def o_schema_Upgrade_10 : List MO := [⟨(some 19), (.faddr (.t 3) 6), none⟩, ⟨none, (.store (.t 19) (.c (.int .i64 0)) 1), none⟩]
def c_schema_Upgrade_11 : MC := (.cond (.t 18) (.reg o_schema_Upgrade_10) .skip)
def o_schema_Upgrade_12 : List MO := [⟨(some 20), (.load (.t 3) 7 true), none⟩, ⟨none, (.store (.t 4) (.t 20) 7), none⟩, ⟨(some 5), (.mv (.c (.int .i64 0))), none⟩]
def c_schema_Upgrade_13 : MC := (.seq (.reg o_schema_Upgrade_12) .ret)
def c_schema_Upgrade_14 : MC := (.seq (.seq (.reg o_schema_Upgrade_9) c_schema_Upgrade_11) c_schema_Upgrade_13)
def c_schema_Upgrade_15 : MC := (.seq (.seq (.reg o_schema_Upgrade_6) c_schema_Upgrade_8) c_schema_Upgrade_14)
def c_schema_Upgrade_16 : MC := (.seq (.seq (.reg o_schema_Upgrade_3) c_schema_Upgrade_5) c_schema_Upgrade_15)
def c_schema_Upgrade_17 : MC := (.seq (.reg o_schema_Upgrade_2) c_schema_Upgrade_16)
def b_schema_Upgrade : MC := (.seq (.reg o_schema_Upgrade_1) c_schema_Upgrade_17)
def m_schema_Upgrade : MFun := { np := 2, body := b_schema_Upgrade, res := [.cell 4 7 true, .tmp 5], inline := false, modes := [0, 0], rets := [[], []] }
def o_schema_Fits_1 : List MO := [⟨(some 1), (.box (.t 0)), none⟩, ⟨(some 2), (.mv (.c (.bool false))), none⟩]
def o_schema_Fits_2 : List MO := [⟨(some 3), (.faddr (.t 1) 0), none⟩, ⟨(some 4), (.load (.t 3) 1 false), none⟩, ⟨(some 5), (.bin .geq (.t 4) (.c (.int .i64 0))), none⟩, ⟨(some 6), (.mv (.t 5)), none⟩, ⟨(some 7), (.faddr (.t 1) 0), (some (6, true))⟩, ⟨(some 8), (.load (.t 7) 1 false), (some (6, true))⟩, ⟨(some 9), (.bin .lss (.t 8) (.c (.int .i64 4611686018427387904))), (some (6, true))⟩, ⟨(some 10), (.pick (.t 6) (.t 9) (.c (.bool false))), none⟩, ⟨(some 11), (.mv (.t 10)), none⟩, ⟨(some 12), (.faddr (.t 1) 1), (some (11, true))⟩, ⟨(some 13), (.load (.t 12) 1 false), (some (11, true))⟩, ⟨(some 14), (.bin .geq (.t 13) (.c (.int .i64 0))), (some (11, true))⟩, ⟨(some 15), (.pick (.t 11) (.t 14) (.c (.bool false))), none⟩, ⟨(some 16), (.mv (.t 15)), none⟩, ⟨(some 17), (.faddr (.t 1) 1), (some (16, true))⟩, ⟨(some 18), (.load (.t 17) 1 false), (some (16, true))⟩, ⟨(some 19), (.bin .leq (.t 18) (.c (.int .i64 64))), (some (16, true))⟩, ⟨(some 20), (.pick (.t 16) (.t 19) (.c (.bool false))), none⟩, ⟨(some 21), (.mv (.t 20)), none⟩, ⟨(some 22), (.faddr (.t 1) 2), (some (21, true))⟩, ⟨(some 23), (.load (.t 22) 1 false), (some (21, true))⟩, ⟨(some 24), (.bin .geq (.t 23) (.c (.int .i64 0))), (some (21, true))⟩, ⟨(some 25), (.pick (.t 21) (.t 24) (.c (.bool false))), none⟩, ⟨(some 26), (.mv (.t 25)), none⟩, ⟨(some 27), (.faddr (.t 1) 2), (some (26, true))⟩, ⟨(some 28), (.load (.t 27) 1 false), (some (26, true))⟩, ⟨(some 29), (.bin .lss (.t 28) (.c (.int .i64 4611686018427387904))), (some (26, true))⟩, ⟨(some 30), (.pick (.t 26) (.t 29) (.c (.bool false))), none⟩, ⟨(some 31), (.mv (.t 30)), none⟩, ⟨(some 32), (.faddr (.t 1) 3), (some (31, true))⟩, ⟨(some 33), (.load (.t 32) 3 true), (some (31, true))⟩, ⟨(some 34), (.call F.objs_Fits [(.t 33)]), (some (31, true))⟩, ⟨(some 35), (.pick (.t 31) (.t 34) (.c (.bool false))), none⟩, ⟨(some 36), (.mv (.t 35)), none⟩, ⟨(some 37), (.faddr (.t 1) 6), (some (36, true))⟩, ⟨(some 38), (.load (.t 37) 1 false), (some (36, true))⟩, ⟨(some 39), (.bin .geq (.t 38) (.c (.int .i64 (-1125899906842624)))), (some (36, true))⟩, ⟨(some 40), (.pick (.t 36) (.t 39) (.c (.bool false))), none⟩, ⟨(some 41), (.mv (.t 40)), none⟩, ⟨(some 42), (.faddr (.t 1) 6), (some (41, true))⟩, ⟨(some 43), (.load (.t 42) 1 false), (some (41, true))⟩, ⟨(some 44), (.bin .leq (.t 43) (.c (.int .i64 1125899906842624))), (some (41, true))⟩, ⟨(some 45), (.pick (.t 41) (.t 44) (.c (.bool false))), none⟩, ⟨(some 2), (.mv (.t 45)), none⟩]
def c_schema_Fits_3 : MC := (.seq (.reg o_schema_Fits_2) .ret)
def b_schema_Fits : MC := (.seq (.reg o_schema_Fits_1) c_schema_Fits_3)
def m_schema_Fits : MFun := { np := 1, body := b_schema_Fits, res := [.tmp 2], inline := false, modes := [0], rets := [[]] }
def o_schema_fields_1 : List MO := [⟨(some 2), (.mv (.c (.sl true []))), none⟩]
def o_schema_fields_2 : List MO := [⟨(some 4), (.bsl 1 [] 1), none⟩, ⟨(some 5), (.bsl 1 [(.c (.int .i64 1)), (.c (.int .i64 2)), (.c (.int .i64 4))] 1), none⟩, ⟨(some 6), (.bsl 1 [(.c (.int .i64 1)), (.c (.int .i64 2)), (.c (.int .i64 3)), (.c (.int .i64 4))] 1), none⟩, ⟨(some 7), (.bsl 1 [(.c (.int .i64 1)), (.c (.int .i64 2)), (.c (.int .i64 3)), (.c (.int .i64 4)), (.c (.int .i64 5))] 1), none⟩, ⟨(some 8), (.bld [(.sl true []), (.sl true []), (.sl true []), (.sl true [])] [(0, 1, (.t 4)), (1, 1, (.t 5)), (2, 1, (.t 6)), (3, 1, (.t 7))]), none⟩, ⟨(some 3), (.alloc [(.sl true []), (.sl true []), (.sl true []), (.sl true [])]), none⟩, ⟨none, (.store (.t 3) (.t 8) 4), none⟩]
def o_schema_fields_3 : List MO := [⟨(some 9), (.mv (.t 0)), none⟩, ⟨(some 10), (.bin .lss (.t 9) (.c (.int .i64 1))), none⟩, ⟨(some 11), (.mv (.t 10)), none⟩, ⟨(some 12), (.mv (.t 0)), (some (11, false))⟩, ⟨(some 13), (.bin .geq (.t 12) (.c (.int .i64 4))), (some (11, false))⟩, ⟨(some 14), (.pick (.t 11) (.c (.bool true)) (.t 13)), none⟩]
def o_schema_fields_4 : List MO := [⟨(some 2), (.mv (.c (.sl true []))), none⟩]
def c_schema_fields_5 : MC := (.cond (.t 14) (.seq (.reg o_schema_fields_4) .ret) .skip)
def o_schema_fields_6 : List MO := [⟨(some 15), (.mv (.t 0)), none⟩, ⟨(some 16), (.aaddr (.t 3) (.t 15) 4 1), none⟩, ⟨(some 17), (.load (.t 16) 1 false), none⟩, ⟨(some 2), (.mv (.t 17)), none⟩]
def c_schema_fields_7 : MC := (.seq (.reg o_schema_fields_6) .ret)
def c_schema_fields_8 : MC := (.seq (.seq (.reg o_schema_fields_3) c_schema_fields_5) c_schema_fields_7)
def c_schema_fields_9 : MC := (.seq (.reg o_schema_fields_2) c_schema_fields_8)
def b_schema_fields : MC := (.seq (.reg o_schema_fields_1) c_schema_fields_9)
def m_schema_fields : MFun := { np := 1, body := b_schema_fields, res := [.tmp 2], inline := false, modes := [0], rets := [[2]] }
def o_num_Put_1 : List MO := [⟨(some 4), (.mv (.c (.sl true []))), none⟩]
def o_num_Put_2 : List MO := [⟨(some 5), (.mv (.t 1)), none⟩, ⟨(some 6), (.bin .lss (.t 5) (.c (.int .i64 0))), none⟩, ⟨(some 7), (.mv (.t 6)), none⟩, ⟨(some 8), (.mv (.t 1)), (some (7, false))⟩, ⟨(some 9), (.bin .geq (.t 8) (.c (.int .i64 4611686018427387904))), (some (7, false))⟩, ⟨(some 10), (.pick (.t 7) (.c (.bool true)) (.t 9)), none⟩]
def o_num_Put_3 : List MO := [⟨(some 11), (.mv (.t 0)), none⟩, ⟨(some 4), (.mv (.t 11)), none⟩]
def c_num_Put_4 : MC := (.cond (.t 10) (.seq (.reg o_num_Put_3) .ret) .skip)
def o_num_Put_5 : List MO := [⟨(some 12), (.mv (.t 0)), none⟩, ⟨(some 13), (.mv (.t 1)), none⟩, ⟨(some 14), (.conv .u64 (.t 13)), none⟩, ⟨(some 15), (.call F.num_groups [(.t 12), (.t 14)]), none⟩, ⟨(some 4), (.mv (.t 15)), none⟩]
def c_num_Put_6 : MC := (.seq (.reg o_num_Put_5) .ret)
def c_num_Put_7 : MC := (.seq (.seq (.reg o_num_Put_2) c_num_Put_4) c_num_Put_6)
def b_num_Put : MC := (.seq (.reg o_num_Put_1) c_num_Put_7)
def m_num_Put : MFun := { np := 2, body := b_num_Put, res := [.tmp 4], inline := false, modes := [2, 0], rets := [[2]] }
def o_schema_put_1 : List MO := [⟨(some 5), (.box (.t 2)), none⟩, ⟨(some 6), (.mv (.c (.sl true []))), none⟩]
def o_schema_put_2 : List MO := [⟨(some 7), (.mv (.t 0)), none⟩, ⟨(some 8), (.mv (.t 1)), none⟩, ⟨(some 9), (.call F.num_Put [(.t 7), (.t 8)]), none⟩, ⟨(some 0), (.mv (.t 9)), none⟩]
def o_schema_put_3 : List MO := [⟨(some 10), (.mv (.t 1)), none⟩]
def o_schema_put_4 : List MO := [⟨(some 12), (.bin .eql (.t 10) (.c (.int .i64 1))), none⟩, ⟨(some 11), (.mv (.t 12)), none⟩]
def o_schema_put_5 : List MO := [⟨(some 13), (.mv (.t 0)), none⟩, ⟨(some 14), (.faddr (.t 5) 0), none⟩, ⟨(some 15), (.load (.t 14) 1 false), none⟩, ⟨(some 16), (.call F.num_Put [(.t 13), (.t 15)]), none⟩, ⟨(some 6), (.mv (.t 16)), none⟩]
def o_schema_put_6 : List MO := [⟨(some 18), (.bin .eql (.t 10) (.c (.int .i64 2))), none⟩, ⟨(some 17), (.mv (.t 18)), none⟩]
def o_schema_put_7 : List MO := [⟨(some 19), (.mv (.t 0)), none⟩, ⟨(some 20), (.faddr (.t 5) 1), none⟩, ⟨(some 21), (.load (.t 20) 1 false), none⟩, ⟨(some 22), (.call F.num_Put [(.t 19), (.t 21)]), none⟩, ⟨(some 6), (.mv (.t 22)), none⟩]
def o_schema_put_8 : List MO := [⟨(some 24), (.bin .eql (.t 10) (.c (.int .i64 3))), none⟩, ⟨(some 23), (.mv (.t 24)), none⟩]
def o_schema_put_9 : List MO := [⟨(some 25), (.mv (.t 0)), none⟩, ⟨(some 26), (.faddr (.t 5) 2), none⟩, ⟨(some 27), (.load (.t 26) 1 false), none⟩, ⟨(some 28), (.call F.num_Put [(.t 25), (.t 27)]), none⟩, ⟨(some 6), (.mv (.t 28)), none⟩]
def o_schema_put_10 : List MO := [⟨(some 30), (.bin .eql (.t 10) (.c (.int .i64 4))), none⟩, ⟨(some 29), (.mv (.t 30)), none⟩]
def o_schema_put_11 : List MO := [⟨(some 32), (.mv (.t 0)), none⟩, ⟨(some 33), (.faddr (.t 5) 3), none⟩, ⟨(some 34), (.load (.t 33) 3 true), none⟩, ⟨(some 35), (.call F.codec_PutOp [(.t 32), (.t 34)]), none⟩, ⟨(some 31), (.mv (.t 35)), none⟩, ⟨(some 36), (.ext (.t 31) 0), none⟩, ⟨(some 37), (.ext (.t 31) 1), none⟩, ⟨(some 0), (.mv (.t 36)), none⟩]
def o_schema_put_12 : List MO := [⟨(some 38), (.mv (.t 0)), none⟩, ⟨(some 6), (.mv (.t 38)), none⟩]
def c_schema_put_13 : MC := (.seq (.reg o_schema_put_12) .ret)
def c_schema_put_14 : MC := (.cond (.t 29) (.seq (.reg o_schema_put_11) c_schema_put_13) .skip)
def c_schema_put_15 : MC := (.cond (.t 23) (.seq (.reg o_schema_put_9) .ret) (.seq (.reg o_schema_put_10) c_schema_put_14))
def c_schema_put_16 : MC := (.cond (.t 17) (.seq (.reg o_schema_put_7) .ret) (.seq (.reg o_schema_put_8) c_schema_put_15))
def c_schema_put_17 : MC := (.cond (.t 11) (.seq (.reg o_schema_put_5) .ret) (.seq (.reg o_schema_put_6) c_schema_put_16))
def c_schema_put_18 : MC := (.blk 0 (.seq (.reg o_schema_put_4) c_schema_put_17))
def o_schema_put_19 : List MO := [⟨(some 39), (.mv (.t 0)), none⟩, ⟨(some 40), (.faddr (.t 5) 6), none⟩, ⟨(some 41), (.load (.t 40) 1 false), none⟩, ⟨(some 42), (.call F.num_PutSigned [(.t 39), (.t 41)]), none⟩, ⟨(some 6), (.mv (.t 42)), none⟩]
def c_schema_put_20 : MC := (.seq (.reg o_schema_put_19) .ret)
def c_schema_put_21 : MC := (.seq (.seq (.reg o_schema_put_3) c_schema_put_18) c_schema_put_20)
def c_schema_put_22 : MC := (.seq (.reg o_schema_put_2) c_schema_put_21)
def b_schema_put : MC := (.seq (.reg o_schema_put_1) c_schema_put_22)
def m_schema_put : MFun := { np := 3, body := b_schema_put, res := [.tmp 6], inline := false, modes := [2, 0, 0], rets := [[2]] }
def o_slices_Contains_int_int_1 : List MO := [⟨(some 4), (.mv (.c (.bool false))), none⟩]
def o_slices_Contains_int_int_2 : List MO := [⟨(some 5), (.mv (.t 0)), none⟩, ⟨(some 6), (.mv (.t 1)), none⟩, ⟨(some 7), (.call F.slices_Index_int_int [(.t 5), (.t 6)]), none⟩, ⟨(some 8), (.bin .geq (.t 7) (.c (.int .i64 0))), none⟩, ⟨(some 4), (.mv (.t 8)), none⟩]
def c_slices_Contains_int_int_3 : MC := (.seq (.reg o_slices_Contains_int_int_2) .ret)
def b_slices_Contains_int_int : MC := (.seq (.reg o_slices_Contains_int_int_1) c_slices_Contains_int_int_3)
def m_slices_Contains_int_int : MFun := { np := 2, body := b_slices_Contains_int_int, res := [.tmp 4], inline := false, modes := [0, 0], rets := [[]] }
def o_objs_Fits_1 : List MO := [⟨(some 1), (.box (.t 0)), none⟩, ⟨(some 2), (.mv (.c (.bool false))), none⟩]
def o_objs_Fits_2 : List MO := [⟨(some 3), (.faddr (.t 1) 0), none⟩, ⟨(some 4), (.load (.t 3) 1 false), none⟩, ⟨(some 5), (.bin .geq (.t 4) (.c (.int .i64 0))), none⟩, ⟨(some 6), (.mv (.t 5)), none⟩, ⟨(some 7), (.faddr (.t 1) 0), (some (6, true))⟩, ⟨(some 8), (.load (.t 7) 1 false), (some (6, true))⟩, ⟨(some 9), (.bin .leq (.t 8) (.c (.int .i64 10))), (some (6, true))⟩, ⟨(some 10), (.pick (.t 6) (.t 9) (.c (.bool false))), none⟩, ⟨(some 11), (.mv (.t 10)), none⟩, ⟨(some 12), (.faddr (.t 1) 1), (some (11, true))⟩, ⟨(some 13), (.load (.t 12) 1 false), (some (11, true))⟩, ⟨(some 14), (.faddr (.t 1) 1), (some (11, true))⟩, ⟨(some 15), (.load (.t 14) 1 false), (some (11, true))⟩, ⟨(some 16), (.call F.objs_cut [(.t 15)]), (some (11, true))⟩, ⟨(some 17), (.bin .eql (.t 13) (.t 16)), (some (11, true))⟩, ⟨(some 18), (.pick (.t 11) (.t 17) (.c (.bool false))), none⟩, ⟨(some 19), (.mv (.t 18)), none⟩, ⟨(some 20), (.faddr (.t 1) 2), (some (19, true))⟩, ⟨(some 21), (.load (.t 20) 1 false), (some (19, true))⟩, ⟨(some 22), (.faddr (.t 1) 2), (some (19, true))⟩, ⟨(some 23), (.load (.t 22) 1 false), (some (19, true))⟩, ⟨(some 24), (.call F.objs_cut [(.t 23)]), (some (19, true))⟩, ⟨(some 25), (.bin .eql (.t 21) (.t 24)), (some (19, true))⟩, ⟨(some 26), (.pick (.t 19) (.t 25) (.c (.bool false))), none⟩, ⟨(some 2), (.mv (.t 26)), none⟩]
def c_objs_Fits_3 : MC := (.seq (.dreg o_objs_Fits_2 [(10, 13), (18, 21)]) .ret)
def b_objs_Fits : MC := (.seq (.reg o_objs_Fits_1) c_objs_Fits_3)
def m_objs_Fits : MFun := { np := 1, body := b_objs_Fits, res := [.tmp 2], inline := false, modes := [0], rets := [[]] }
def o_num_groups_1 : List MO := [⟨(some 4), (.mv (.c (.sl true []))), none⟩]
def o_num_groups_2 : List MO := [⟨(some 5), (.mv (.t 1)), none⟩, ⟨(some 6), (.bin .geq (.t 5) (.c (.int .u64 128))), none⟩]
def c_num_groups_3 : MC := (.cond (.t 6) .skip (.exit 0))
def o_num_groups_4 : List MO := [⟨(some 7), (.mv (.t 0)), none⟩, ⟨(some 8), (.mv (.t 1)), none⟩, ⟨(some 9), (.conv .u8 (.t 8)), none⟩, ⟨(some 10), (.bin .or (.t 9) (.c (.int .u8 128))), none⟩, ⟨(some 11), (.bsl 1 [(.t 10)] 0), none⟩, ⟨(some 12), (.app (.t 7) (.t 11) 1), none⟩, ⟨(some 0), (.mv (.t 12)), none⟩]
def o_num_groups_5 : List MO := [⟨(some 13), (.mv (.t 1)), none⟩, ⟨(some 14), (.bin .shr (.t 13) (.c (.int .u64 7))), none⟩, ⟨(some 1), (.mv (.t 14)), none⟩]
def c_num_groups_6 : MC := (.reg o_num_groups_5)
def c_num_groups_7 : MC := (.blk 1 (.seq (.reg o_num_groups_4) c_num_groups_6))
def c_num_groups_8 : MC := (.seq (.seq (.reg o_num_groups_2) c_num_groups_3) c_num_groups_7)
def o_num_groups_9 : List MO := [⟨(some 15), (.mv (.t 0)), none⟩, ⟨(some 16), (.mv (.t 1)), none⟩, ⟨(some 17), (.conv .u8 (.t 16)), none⟩, ⟨(some 18), (.bsl 1 [(.t 17)] 0), none⟩, ⟨(some 19), (.app (.t 15) (.t 18) 1), none⟩, ⟨(some 4), (.mv (.t 19)), none⟩]
def c_num_groups_10 : MC := (.seq (.reg o_num_groups_9) .ret)
def c_num_groups_11 : MC := (.seq (.blk 0 (.loop [0, 1] c_num_groups_8)) c_num_groups_10)
def b_num_groups : MC := (.seq (.reg o_num_groups_1) c_num_groups_11)
def m_num_groups : MFun := { np := 2, body := b_num_groups, res := [.tmp 4], inline := false, modes := [2, 0], rets := [[2]] }
def o_codec_PutOp_1 : List MO := [⟨(some 3), (.box (.t 1)), none⟩, ⟨(some 4), (.mv (.c (.sl true []))), none⟩, ⟨(some 5), (.mv (.c (.int .i64 0))), none⟩]
def o_codec_PutOp_2 : List MO := [⟨(some 6), (.load (.t 3) 3 true), none⟩, ⟨(some 7), (.call F.objs_Fits [(.t 6)]), none⟩, ⟨(some 8), (.un .not (.t 7)), none⟩]
def o_codec_PutOp_3 : List MO := [⟨(some 9), (.mv (.t 0)), none⟩, ⟨(some 4), (.mv (.t 9)), none⟩, ⟨(some 5), (.mv (.c (.int .i64 1))), none⟩]
def c_codec_PutOp_4 : MC := (.cond (.t 8) (.seq (.reg o_codec_PutOp_3) .ret) .skip)
def o_codec_PutOp_5 : List MO := [⟨(some 10), (.mv (.t 0)), none⟩, ⟨(some 11), (.faddr (.t 3) 0), none⟩, ⟨(some 12), (.load (.t 11) 1 false), none⟩, ⟨(some 13), (.call F.num_Put [(.t 10), (.t 12)]), none⟩, ⟨(some 14), (.faddr (.t 3) 1), none⟩, ⟨(some 15), (.load (.t 14) 1 false), none⟩, ⟨(some 16), (.call F.num_PutSigned [(.t 13), (.t 15)]), none⟩, ⟨(some 17), (.faddr (.t 3) 2), none⟩, ⟨(some 18), (.load (.t 17) 1 false), none⟩, ⟨(some 19), (.call F.num_PutSigned [(.t 16), (.t 18)]), none⟩, ⟨(some 4), (.mv (.t 19)), none⟩, ⟨(some 5), (.mv (.c (.int .i64 0))), none⟩]
def c_codec_PutOp_6 : MC := (.seq (.dreg o_codec_PutOp_5 [(5, 3), (8, 3), (8, 6)]) .ret)
def c_codec_PutOp_7 : MC := (.seq (.seq (.reg o_codec_PutOp_2) c_codec_PutOp_4) c_codec_PutOp_6)
def b_codec_PutOp : MC := (.seq (.reg o_codec_PutOp_1) c_codec_PutOp_7)
def m_codec_PutOp : MFun := { np := 2, body := b_codec_PutOp, res := [.tmp 4, .tmp 5], inline := false, modes := [2, 0], rets := [[2], []] }
def o_num_PutSigned_1 : List MO := [⟨(some 4), (.mv (.c (.sl true []))), none⟩]
def o_num_PutSigned_2 : List MO := [⟨(some 5), (.mv (.t 0)), none⟩, ⟨(some 6), (.mv (.t 1)), none⟩, ⟨(some 7), (.call F.num_Zig [(.t 6)]), none⟩, ⟨(some 8), (.call F.num_groups [(.t 5), (.t 7)]), none⟩, ⟨(some 4), (.mv (.t 8)), none⟩]
def c_num_PutSigned_3 : MC := (.seq (.reg o_num_PutSigned_2) .ret)
def b_num_PutSigned : MC := (.seq (.reg o_num_PutSigned_1) c_num_PutSigned_3)
def m_num_PutSigned : MFun := { np := 2, body := b_num_PutSigned, res := [.tmp 4], inline := false, modes := [2, 0], rets := [[2]] }
def o_slices_Index_int_int_1 : List MO := [⟨(some 4), (.mv (.c (.int .i64 0))), none⟩]
def o_slices_Index_int_int_2 : List MO := [⟨(some 6), (.mv (.t 0)), none⟩, ⟨(some 7), (.len false (.t 6)), none⟩, ⟨(some 8), (.mv (.c (.int .i64 0))), none⟩]
def o_slices_Index_int_int_3 : List MO := [⟨(some 9), (.bin .lss (.t 8) (.t 7)), none⟩]
def o_slices_Index_int_int_4 : List MO := [⟨(some 10), (.mv (.t 8)), none⟩, ⟨(some 5), (.mv (.t 10)), none⟩]
def o_slices_Index_int_int_5 : List MO := [⟨(some 11), (.mv (.t 1)), none⟩, ⟨(some 12), (.mv (.t 0)), none⟩, ⟨(some 13), (.mv (.t 5)), none⟩, ⟨(some 14), (.iaddr (.t 12) (.t 13) 1), none⟩, ⟨(some 15), (.load (.t 14) 1 false), none⟩, ⟨(some 16), (.bin .eql (.t 11) (.t 15)), none⟩]
def o_slices_Index_int_int_6 : List MO := [⟨(some 17), (.mv (.t 5)), none⟩, ⟨(some 4), (.mv (.t 17)), none⟩]
def c_slices_Index_int_int_7 : MC := (.cond (.t 16) (.seq (.reg o_slices_Index_int_int_6) .ret) .skip)
def c_slices_Index_int_int_8 : MC := (.seq (.reg o_slices_Index_int_int_5) c_slices_Index_int_int_7)
def o_slices_Index_int_int_9 : List MO := [⟨(some 18), (.bin .add (.t 8) (.c (.int .i64 1))), none⟩, ⟨(some 8), (.mv (.t 18)), none⟩]
def c_slices_Index_int_int_10 : MC := (.reg o_slices_Index_int_int_9)
def c_slices_Index_int_int_11 : MC := (.seq (.blk 1 (.seq (.reg o_slices_Index_int_int_4) c_slices_Index_int_int_8)) c_slices_Index_int_int_10)
def c_slices_Index_int_int_12 : MC := (.seq (.cond (.t 9) .skip (.exit 0)) c_slices_Index_int_int_11)
def c_slices_Index_int_int_13 : MC := (.seq (.reg o_slices_Index_int_int_3) c_slices_Index_int_int_12)
def c_slices_Index_int_int_14 : MC := (.blk 0 (.loop [0, 1, 7, 8] c_slices_Index_int_int_13))
def o_slices_Index_int_int_15 : List MO := [⟨(some 4), (.mv (.c (.int .i64 (-1)))), none⟩]
def c_slices_Index_int_int_16 : MC := (.seq (.reg o_slices_Index_int_int_15) .ret)
def c_slices_Index_int_int_17 : MC := (.seq (.seq (.reg o_slices_Index_int_int_2) c_slices_Index_int_int_14) c_slices_Index_int_int_16)
def b_slices_Index_int_int : MC := (.seq (.reg o_slices_Index_int_int_1) c_slices_Index_int_int_17)
def m_slices_Index_int_int : MFun := { np := 2, body := b_slices_Index_int_int, res := [.tmp 4], inline := false, modes := [0, 0], rets := [[]] }
def o_objs_cut_1 : List MO := [⟨(some 2), (.mv (.c (.int .i64 0))), none⟩]
def o_objs_cut_2 : List MO := [⟨(some 3), (.mv (.t 0)), none⟩, ⟨(some 4), (.mm false [(.t 3), (.c (.int .i64 1099511627776))]), none⟩, ⟨(some 5), (.mm true [(.c (.int .i64 (-1099511627776))), (.t 4)]), none⟩, ⟨(some 2), (.mv (.t 5)), none⟩]
def c_objs_cut_3 : MC := (.seq (.reg o_objs_cut_2) .ret)
def b_objs_cut : MC := (.seq (.reg o_objs_cut_1) c_objs_cut_3)
def m_objs_cut : MFun := { np := 1, body := b_objs_cut, res := [.tmp 2], inline := false, modes := [0], rets := [[]] }
def o_num_Zig_1 : List MO := [⟨(some 2), (.mv (.c (.int .u64 0))), none⟩]
def o_num_Zig_2 : List MO := [⟨(some 3), (.mv (.t 0)), none⟩, ⟨(some 4), (.conv .u64 (.t 3)), none⟩, ⟨(some 5), (.bin .shl (.t 4) (.c (.int .u64 1))), none⟩, ⟨(some 6), (.mv (.t 0)), none⟩, ⟨(some 7), (.bin .shr (.t 6) (.c (.int .u64 63))), none⟩, ⟨(some 8), (.conv .u64 (.t 7)), none⟩, ⟨(some 9), (.bin .xor (.t 5) (.t 8)), none⟩, ⟨(some 2), (.mv (.t 9)), none⟩]
def c_num_Zig_3 : MC := (.seq (.reg o_num_Zig_2) .ret)
def b_num_Zig : MC := (.seq (.reg o_num_Zig_1) c_num_Zig_3)
def m_num_Zig : MFun := { np := 1, body := b_num_Zig, res := [.tmp 2], inline := false, modes := [0], rets := [[]] }
end Go.Dvm.C
