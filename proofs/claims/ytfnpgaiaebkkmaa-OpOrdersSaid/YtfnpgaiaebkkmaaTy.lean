/- What the types of the program say, as printed walks name it. No conditions. -/
import Derived.Test.YtfnpgaiaebkkmaaProg
import Derived.Test.YtfnpgaiaebkkmaaAz
namespace Go.Proofs.Ytfnpgaiaebkkmaa
set_option linter.unusedSimpArgs false
set_option linter.unusedVariables false
theorem ag_2 : agN Try.prog 2 = some none := by kernel_rfl
theorem ik_2 : intK Try.prog 2 = some .i64 := by kernel_rfl
theorem sz_2 : szT Try.prog 2 = some 1 := by kernel_rfl
theorem ze_2 : zeroC Try.prog 2 = some [.int .i64 0] := by kernel_rfl
theorem iss_2 : (Try.prog.underlying 2).isSome = true := by kernel_rfl
theorem ag_3 : agN Try.prog 3 = some none := by kernel_rfl
theorem ik_3 : intK Try.prog 3 = some .i64 := by kernel_rfl
theorem sz_3 : szT Try.prog 3 = some 1 := by kernel_rfl
theorem ze_3 : zeroC Try.prog 3 = some [.int .i64 0] := by kernel_rfl
theorem iss_3 : (Try.prog.underlying 3).isSome = true := by kernel_rfl
theorem ag_4 : agN Try.prog 4 = some none := by kernel_rfl
theorem bo_4 : isBo Try.prog 4 = true := by kernel_rfl
theorem sz_4 : szT Try.prog 4 = some 1 := by kernel_rfl
theorem ze_4 : zeroC Try.prog 4 = some [.bool false] := by kernel_rfl
theorem ag_5 : agN Try.prog 5 = some none := by kernel_rfl
theorem ik_5 : intK Try.prog 5 = some .u8 := by kernel_rfl
theorem sz_5 : szT Try.prog 5 = some 1 := by kernel_rfl
theorem ze_5 : zeroC Try.prog 5 = some [.int .u8 0] := by kernel_rfl
theorem iss_5 : (Try.prog.underlying 5).isSome = true := by kernel_rfl
theorem ag_6 : agN Try.prog 6 = some none := by kernel_rfl
theorem ik_6 : intK Try.prog 6 = some .u8 := by kernel_rfl
theorem sz_6 : szT Try.prog 6 = some 1 := by kernel_rfl
theorem ze_6 : zeroC Try.prog 6 = some [.int .u8 0] := by kernel_rfl
theorem iss_6 : (Try.prog.underlying 6).isSome = true := by kernel_rfl
theorem fo_7_0 : fOff Try.prog 7 0 = some 0 := by kernel_rfl
theorem fo_7_1 : fOff Try.prog 7 1 = some 1 := by kernel_rfl
theorem fo_7_2 : fOff Try.prog 7 2 = some 2 := by kernel_rfl
theorem fo_7_3 : fOff Try.prog 7 3 = some 3 := by kernel_rfl
theorem ag_7 : agN Try.prog 7 = some (some 4) := by kernel_rfl
theorem pl_7 : plI Try.prog 7 = some [(0, 1), (1, 1), (2, 1), (3, 1)] := by kernel_rfl
theorem sz_7 : szT Try.prog 7 = some 4 := by kernel_rfl
theorem ze_7 : zeroC Try.prog 7 = some [.int .i64 0, .int .i64 0, .bool false, .int .u8 0] := by kernel_rfl
theorem fo_8_0 : fOff Try.prog 8 0 = some 0 := by kernel_rfl
theorem fo_8_1 : fOff Try.prog 8 1 = some 1 := by kernel_rfl
theorem fo_8_2 : fOff Try.prog 8 2 = some 2 := by kernel_rfl
theorem fo_8_3 : fOff Try.prog 8 3 = some 3 := by kernel_rfl
theorem ag_8 : agN Try.prog 8 = some (some 4) := by kernel_rfl
theorem pl_8 : plI Try.prog 8 = some [(0, 1), (1, 1), (2, 1), (3, 1)] := by kernel_rfl
theorem sz_8 : szT Try.prog 8 = some 4 := by kernel_rfl
theorem ze_8 : zeroC Try.prog 8 = some [.int .i64 0, .int .i64 0, .bool false, .int .u8 0] := by kernel_rfl
theorem ag_9 : agN Try.prog 9 = some none := by kernel_rfl
theorem str_9 : isStr Try.prog 9 = true := by kernel_rfl
theorem sz_9 : szT Try.prog 9 = some 1 := by kernel_rfl
theorem ze_9 : zeroC Try.prog 9 = some [sv []] := by kernel_rfl
theorem iss_9 : (Try.prog.underlying 9).isSome = true := by kernel_rfl
theorem ag_10 : agN Try.prog 10 = some none := by kernel_rfl
theorem str_10 : isStr Try.prog 10 = true := by kernel_rfl
theorem sz_10 : szT Try.prog 10 = some 1 := by kernel_rfl
theorem ze_10 : zeroC Try.prog 10 = some [sv []] := by kernel_rfl
theorem iss_10 : (Try.prog.underlying 10).isSome = true := by kernel_rfl
theorem ag_11 : agN Try.prog 11 = some none := by kernel_rfl
theorem str_11 : isStr Try.prog 11 = true := by kernel_rfl
theorem sz_11 : szT Try.prog 11 = some 1 := by kernel_rfl
theorem ze_11 : zeroC Try.prog 11 = some [sv []] := by kernel_rfl
theorem iss_11 : (Try.prog.underlying 11).isSome = true := by kernel_rfl
theorem ag_12 : agN Try.prog 12 = some none := by kernel_rfl
theorem ik_12 : intK Try.prog 12 = some .u64 := by kernel_rfl
theorem sz_12 : szT Try.prog 12 = some 1 := by kernel_rfl
theorem ze_12 : zeroC Try.prog 12 = some [.int .u64 0] := by kernel_rfl
theorem iss_12 : (Try.prog.underlying 12).isSome = true := by kernel_rfl
theorem fo_13_0 : fOff Try.prog 13 0 = some 0 := by kernel_rfl
theorem fo_13_1 : fOff Try.prog 13 1 = some 1 := by kernel_rfl
theorem ag_13 : agN Try.prog 13 = some (some 2) := by kernel_rfl
theorem pl_13 : plI Try.prog 13 = some [(0, 1), (1, 1)] := by kernel_rfl
theorem sz_13 : szT Try.prog 13 = some 2 := by kernel_rfl
theorem ze_13 : zeroC Try.prog 13 = some [sv [], .int .u64 0] := by kernel_rfl
theorem fo_14_0 : fOff Try.prog 14 0 = some 0 := by kernel_rfl
theorem fo_14_1 : fOff Try.prog 14 1 = some 1 := by kernel_rfl
theorem ag_14 : agN Try.prog 14 = some (some 2) := by kernel_rfl
theorem pl_14 : plI Try.prog 14 = some [(0, 1), (1, 1)] := by kernel_rfl
theorem sz_14 : szT Try.prog 14 = some 2 := by kernel_rfl
theorem ze_14 : zeroC Try.prog 14 = some [sv [], .int .u64 0] := by kernel_rfl
theorem ag_15 : agN Try.prog 15 = some none := by kernel_rfl
theorem sz_15 : szT Try.prog 15 = some 1 := by kernel_rfl
theorem ze_15 : zeroC Try.prog 15 = some [.pointer none] := by kernel_rfl
theorem ag_16 : agN Try.prog 16 = some none := by kernel_rfl
theorem sz_16 : szT Try.prog 16 = some 1 := by kernel_rfl
theorem ze_16 : zeroC Try.prog 16 = some [.pointer none] := by kernel_rfl
theorem ag_17 : agN Try.prog 17 = some none := by kernel_rfl
theorem sz_17 : szT Try.prog 17 = some 1 := by kernel_rfl
theorem ze_17 : zeroC Try.prog 17 = some [.pointer none] := by kernel_rfl
theorem fo_18_0 : fOff Try.prog 18 0 = some 0 := by kernel_rfl
theorem ag_18 : agN Try.prog 18 = some (some 1) := by kernel_rfl
theorem pl_18 : plI Try.prog 18 = some [(0, 1)] := by kernel_rfl
theorem sz_18 : szT Try.prog 18 = some 1 := by kernel_rfl
theorem ze_18 : zeroC Try.prog 18 = some [.pointer none] := by kernel_rfl
theorem fo_19_0 : fOff Try.prog 19 0 = some 0 := by kernel_rfl
theorem ag_19 : agN Try.prog 19 = some (some 1) := by kernel_rfl
theorem pl_19 : plI Try.prog 19 = some [(0, 1)] := by kernel_rfl
theorem sz_19 : szT Try.prog 19 = some 1 := by kernel_rfl
theorem ze_19 : zeroC Try.prog 19 = some [.pointer none] := by kernel_rfl
theorem ag_21 : agN Try.prog 21 = some none := by kernel_rfl
theorem ik_21 : intK Try.prog 21 = some .i32 := by kernel_rfl
theorem sz_21 : szT Try.prog 21 = some 1 := by kernel_rfl
theorem ze_21 : zeroC Try.prog 21 = some [.int .i32 0] := by kernel_rfl
theorem iss_21 : (Try.prog.underlying 21).isSome = true := by kernel_rfl
theorem ag_23 : agN Try.prog 23 = some none := by kernel_rfl
theorem el_23 : elT Try.prog 23 = some (30, 7) := by kernel_rfl
theorem ap_23 : apI Try.prog 23 = some (30, 7, 96) := by kernel_rfl
theorem sz_23 : szT Try.prog 23 = some 1 := by kernel_rfl
theorem ze_23 : zeroC Try.prog 23 = some [.slice none 0 0] := by kernel_rfl
theorem fo_26_0 : fOff Try.prog 26 0 = some 0 := by kernel_rfl
theorem fo_26_1 : fOff Try.prog 26 1 = some 1 := by kernel_rfl
theorem fo_26_2 : fOff Try.prog 26 2 = some 2 := by kernel_rfl
theorem ag_26 : agN Try.prog 26 = some (some 3) := by kernel_rfl
theorem pl_26 : plI Try.prog 26 = some [(0, 1), (1, 1), (2, 1)] := by kernel_rfl
theorem sz_26 : szT Try.prog 26 = some 3 := by kernel_rfl
theorem ze_26 : zeroC Try.prog 26 = some [.int .i64 0, sv [], sv []] := by kernel_rfl
theorem fo_27_0 : fOff Try.prog 27 0 = some 0 := by kernel_rfl
theorem fo_27_1 : fOff Try.prog 27 1 = some 1 := by kernel_rfl
theorem fo_27_2 : fOff Try.prog 27 2 = some 2 := by kernel_rfl
theorem ag_27 : agN Try.prog 27 = some (some 3) := by kernel_rfl
theorem pl_27 : plI Try.prog 27 = some [(0, 1), (1, 1), (2, 1)] := by kernel_rfl
theorem sz_27 : szT Try.prog 27 = some 3 := by kernel_rfl
theorem ze_27 : zeroC Try.prog 27 = some [.int .i64 0, sv [], sv []] := by kernel_rfl
theorem ag_28 : agN Try.prog 28 = some none := by kernel_rfl
theorem el_28 : elT Try.prog 28 = some (9, 1) := by kernel_rfl
theorem ap_28 : apI Try.prog 28 = some (9, 1, 16) := by kernel_rfl
theorem sz_28 : szT Try.prog 28 = some 1 := by kernel_rfl
theorem ze_28 : zeroC Try.prog 28 = some [.slice none 0 0] := by kernel_rfl
theorem fo_29_0 : fOff Try.prog 29 0 = some 0 := by kernel_rfl
theorem fo_29_1 : fOff Try.prog 29 1 = some 3 := by kernel_rfl
theorem fo_29_2 : fOff Try.prog 29 2 = some 4 := by kernel_rfl
theorem fo_29_3 : fOff Try.prog 29 3 = some 5 := by kernel_rfl
theorem fo_29_4 : fOff Try.prog 29 4 = some 6 := by kernel_rfl
theorem ag_29 : agN Try.prog 29 = some (some 7) := by kernel_rfl
theorem pl_29 : plI Try.prog 29 = some [(0, 3), (3, 1), (4, 1), (5, 1), (6, 1)] := by kernel_rfl
theorem sz_29 : szT Try.prog 29 = some 7 := by kernel_rfl
theorem ze_29 : zeroC Try.prog 29 = some [.int .i64 0, sv [], sv [], .int .i64 0, sv [], .slice none 0 0, .int .i64 0] := by kernel_rfl
theorem fo_30_0 : fOff Try.prog 30 0 = some 0 := by kernel_rfl
theorem fo_30_1 : fOff Try.prog 30 1 = some 3 := by kernel_rfl
theorem fo_30_2 : fOff Try.prog 30 2 = some 4 := by kernel_rfl
theorem fo_30_3 : fOff Try.prog 30 3 = some 5 := by kernel_rfl
theorem fo_30_4 : fOff Try.prog 30 4 = some 6 := by kernel_rfl
theorem ag_30 : agN Try.prog 30 = some (some 7) := by kernel_rfl
theorem pl_30 : plI Try.prog 30 = some [(0, 3), (3, 1), (4, 1), (5, 1), (6, 1)] := by kernel_rfl
theorem sz_30 : szT Try.prog 30 = some 7 := by kernel_rfl
theorem ze_30 : zeroC Try.prog 30 = some [.int .i64 0, sv [], sv [], .int .i64 0, sv [], .slice none 0 0, .int .i64 0] := by kernel_rfl
theorem ag_34 : agN Try.prog 34 = some none := by kernel_rfl
theorem ik_34 : intK Try.prog 34 = some .i64 := by kernel_rfl
theorem sz_34 : szT Try.prog 34 = some 1 := by kernel_rfl
theorem ze_34 : zeroC Try.prog 34 = some [.int .i64 0] := by kernel_rfl
theorem iss_34 : (Try.prog.underlying 34).isSome = true := by kernel_rfl
theorem ag_39 : agN Try.prog 39 = some none := by kernel_rfl
theorem el_39 : elT Try.prog 39 = some (23, 1) := by kernel_rfl
theorem ap_39 : apI Try.prog 39 = some (23, 1, 24) := by kernel_rfl
theorem sz_39 : szT Try.prog 39 = some 1 := by kernel_rfl
theorem ze_39 : zeroC Try.prog 39 = some [.slice none 0 0] := by kernel_rfl
theorem ag_47 : agN Try.prog 47 = some none := by kernel_rfl
theorem el_47 : elT Try.prog 47 = some (5, 1) := by kernel_rfl
theorem ap_47 : apI Try.prog 47 = some (5, 1, 1) := by kernel_rfl
theorem sz_47 : szT Try.prog 47 = some 1 := by kernel_rfl
theorem ze_47 : zeroC Try.prog 47 = some [.slice none 0 0] := by kernel_rfl
theorem ag_50 : agN Try.prog 50 = some none := by kernel_rfl
theorem sz_50 : szT Try.prog 50 = some 1 := by kernel_rfl
theorem ze_50 : zeroC Try.prog 50 = some [.pointer none] := by kernel_rfl
theorem fo_58_0 : fOff Try.prog 58 0 = some 0 := by kernel_rfl
theorem fo_58_1 : fOff Try.prog 58 1 = some 1 := by kernel_rfl
theorem ag_58 : agN Try.prog 58 = some (some 2) := by kernel_rfl
theorem pl_58 : plI Try.prog 58 = some [(0, 1), (1, 1)] := by kernel_rfl
theorem sz_58 : szT Try.prog 58 = some 2 := by kernel_rfl
theorem ze_58 : zeroC Try.prog 58 = some [.int .i64 0, .int .i64 0] := by kernel_rfl
theorem fo_59_0 : fOff Try.prog 59 0 = some 0 := by kernel_rfl
theorem fo_59_1 : fOff Try.prog 59 1 = some 1 := by kernel_rfl
theorem ag_59 : agN Try.prog 59 = some (some 2) := by kernel_rfl
theorem pl_59 : plI Try.prog 59 = some [(0, 1), (1, 1)] := by kernel_rfl
theorem sz_59 : szT Try.prog 59 = some 2 := by kernel_rfl
theorem ze_59 : zeroC Try.prog 59 = some [.int .i64 0, .int .i64 0] := by kernel_rfl
theorem ag_60 : agN Try.prog 60 = some (some 6) := by kernel_rfl
theorem sz_60 : szT Try.prog 60 = some 6 := by kernel_rfl
theorem ze_60 : zeroC Try.prog 60 = some [.int .i64 0, .int .i64 0, .int .i64 0, .int .i64 0, .int .i64 0, .int .i64 0] := by kernel_rfl
theorem ag_61 : agN Try.prog 61 = some (some 6) := by kernel_rfl
theorem sz_61 : szT Try.prog 61 = some 6 := by kernel_rfl
theorem ze_61 : zeroC Try.prog 61 = some [.int .i64 0, .int .i64 0, .int .i64 0, .int .i64 0, .int .i64 0, .int .i64 0] := by kernel_rfl
theorem fo_62_0 : fOff Try.prog 62 0 = some 0 := by kernel_rfl
theorem fo_62_1 : fOff Try.prog 62 1 = some 1 := by kernel_rfl
theorem fo_62_2 : fOff Try.prog 62 2 = some 2 := by kernel_rfl
theorem fo_62_3 : fOff Try.prog 62 3 = some 3 := by kernel_rfl
theorem fo_62_4 : fOff Try.prog 62 4 = some 4 := by kernel_rfl
theorem fo_62_5 : fOff Try.prog 62 5 = some 6 := by kernel_rfl
theorem fo_62_6 : fOff Try.prog 62 6 = some 12 := by kernel_rfl
theorem fo_62_7 : fOff Try.prog 62 7 = some 15 := by kernel_rfl
theorem ag_62 : agN Try.prog 62 = some (some 16) := by kernel_rfl
theorem pl_62 : plI Try.prog 62 = some [(0, 1), (1, 1), (2, 1), (3, 1), (4, 2), (6, 6), (12, 3), (15, 1)] := by kernel_rfl
theorem sz_62 : szT Try.prog 62 = some 16 := by kernel_rfl
theorem ze_62 : zeroC Try.prog 62 = some [.int .i64 0, .int .i64 0, sv [], .bool false, .int .i64 0, .int .i64 0, .int .i64 0, .int .i64 0, .int .i64 0, .int .i64 0, .int .i64 0, .int .i64 0, .int .i64 0, sv [], sv [], .int .i64 0] := by kernel_rfl
theorem fo_63_0 : fOff Try.prog 63 0 = some 0 := by kernel_rfl
theorem fo_63_1 : fOff Try.prog 63 1 = some 1 := by kernel_rfl
theorem fo_63_2 : fOff Try.prog 63 2 = some 2 := by kernel_rfl
theorem fo_63_3 : fOff Try.prog 63 3 = some 3 := by kernel_rfl
theorem fo_63_4 : fOff Try.prog 63 4 = some 4 := by kernel_rfl
theorem fo_63_5 : fOff Try.prog 63 5 = some 6 := by kernel_rfl
theorem fo_63_6 : fOff Try.prog 63 6 = some 12 := by kernel_rfl
theorem fo_63_7 : fOff Try.prog 63 7 = some 15 := by kernel_rfl
theorem ag_63 : agN Try.prog 63 = some (some 16) := by kernel_rfl
theorem pl_63 : plI Try.prog 63 = some [(0, 1), (1, 1), (2, 1), (3, 1), (4, 2), (6, 6), (12, 3), (15, 1)] := by kernel_rfl
theorem sz_63 : szT Try.prog 63 = some 16 := by kernel_rfl
theorem ze_63 : zeroC Try.prog 63 = some [.int .i64 0, .int .i64 0, sv [], .bool false, .int .i64 0, .int .i64 0, .int .i64 0, .int .i64 0, .int .i64 0, .int .i64 0, .int .i64 0, .int .i64 0, .int .i64 0, sv [], sv [], .int .i64 0] := by kernel_rfl
theorem ag_68 : agN Try.prog 68 = some none := by kernel_rfl
theorem el_68 : elT Try.prog 68 = some (59, 2) := by kernel_rfl
theorem ap_68 : apI Try.prog 68 = some (59, 2, 16) := by kernel_rfl
theorem sz_68 : szT Try.prog 68 = some 1 := by kernel_rfl
theorem ze_68 : zeroC Try.prog 68 = some [.slice none 0 0] := by kernel_rfl
theorem fo_69_0 : fOff Try.prog 69 0 = some 0 := by kernel_rfl
theorem fo_69_1 : fOff Try.prog 69 1 = some 2 := by kernel_rfl
theorem fo_69_2 : fOff Try.prog 69 2 = some 4 := by kernel_rfl
theorem fo_69_3 : fOff Try.prog 69 3 = some 5 := by kernel_rfl
theorem fo_69_4 : fOff Try.prog 69 4 = some 6 := by kernel_rfl
theorem fo_69_5 : fOff Try.prog 69 5 = some 7 := by kernel_rfl
theorem fo_69_6 : fOff Try.prog 69 6 = some 8 := by kernel_rfl
theorem fo_69_7 : fOff Try.prog 69 7 = some 11 := by kernel_rfl
theorem fo_69_8 : fOff Try.prog 69 8 = some 12 := by kernel_rfl
theorem fo_69_9 : fOff Try.prog 69 9 = some 13 := by kernel_rfl
theorem fo_69_10 : fOff Try.prog 69 10 = some 14 := by kernel_rfl
theorem ag_69 : agN Try.prog 69 = some (some 15) := by kernel_rfl
theorem pl_69 : plI Try.prog 69 = some [(0, 2), (2, 2), (4, 1), (5, 1), (6, 1), (7, 1), (8, 3), (11, 1), (12, 1), (13, 1), (14, 1)] := by kernel_rfl
theorem sz_69 : szT Try.prog 69 = some 15 := by kernel_rfl
theorem ze_69 : zeroC Try.prog 69 = some [.int .i64 0, .int .i64 0, .int .i64 0, .int .i64 0, .int .i64 0, sv [], .int .i64 0, sv [], .int .i64 0, sv [], sv [], .int .i64 0, .bool false, sv [], .slice none 0 0] := by kernel_rfl
theorem fo_70_0 : fOff Try.prog 70 0 = some 0 := by kernel_rfl
theorem fo_70_1 : fOff Try.prog 70 1 = some 2 := by kernel_rfl
theorem fo_70_2 : fOff Try.prog 70 2 = some 4 := by kernel_rfl
theorem fo_70_3 : fOff Try.prog 70 3 = some 5 := by kernel_rfl
theorem fo_70_4 : fOff Try.prog 70 4 = some 6 := by kernel_rfl
theorem fo_70_5 : fOff Try.prog 70 5 = some 7 := by kernel_rfl
theorem fo_70_6 : fOff Try.prog 70 6 = some 8 := by kernel_rfl
theorem fo_70_7 : fOff Try.prog 70 7 = some 11 := by kernel_rfl
theorem fo_70_8 : fOff Try.prog 70 8 = some 12 := by kernel_rfl
theorem fo_70_9 : fOff Try.prog 70 9 = some 13 := by kernel_rfl
theorem fo_70_10 : fOff Try.prog 70 10 = some 14 := by kernel_rfl
theorem ag_70 : agN Try.prog 70 = some (some 15) := by kernel_rfl
theorem pl_70 : plI Try.prog 70 = some [(0, 2), (2, 2), (4, 1), (5, 1), (6, 1), (7, 1), (8, 3), (11, 1), (12, 1), (13, 1), (14, 1)] := by kernel_rfl
theorem sz_70 : szT Try.prog 70 = some 15 := by kernel_rfl
theorem ze_70 : zeroC Try.prog 70 = some [.int .i64 0, .int .i64 0, .int .i64 0, .int .i64 0, .int .i64 0, sv [], .int .i64 0, sv [], .int .i64 0, sv [], sv [], .int .i64 0, .bool false, sv [], .slice none 0 0] := by kernel_rfl
theorem ag_74 : agN Try.prog 74 = some none := by kernel_rfl
theorem el_74 : elT Try.prog 74 = some (130, 2) := by kernel_rfl
theorem ap_74 : apI Try.prog 74 = some (130, 2, 32) := by kernel_rfl
theorem sz_74 : szT Try.prog 74 = some 1 := by kernel_rfl
theorem ze_74 : zeroC Try.prog 74 = some [.slice none 0 0] := by kernel_rfl
theorem fo_75_0 : fOff Try.prog 75 0 = some 0 := by kernel_rfl
theorem fo_75_1 : fOff Try.prog 75 1 = some 1 := by kernel_rfl
theorem fo_75_2 : fOff Try.prog 75 2 = some 4 := by kernel_rfl
theorem fo_75_3 : fOff Try.prog 75 3 = some 5 := by kernel_rfl
theorem fo_75_4 : fOff Try.prog 75 4 = some 6 := by kernel_rfl
theorem fo_75_5 : fOff Try.prog 75 5 = some 7 := by kernel_rfl
theorem fo_75_6 : fOff Try.prog 75 6 = some 14 := by kernel_rfl
theorem fo_75_7 : fOff Try.prog 75 7 = some 15 := by kernel_rfl
theorem ag_75 : agN Try.prog 75 = some (some 16) := by kernel_rfl
theorem pl_75 : plI Try.prog 75 = some [(0, 1), (1, 3), (4, 1), (5, 1), (6, 1), (7, 7), (14, 1), (15, 1)] := by kernel_rfl
theorem sz_75 : szT Try.prog 75 = some 16 := by kernel_rfl
theorem ze_75 : zeroC Try.prog 75 = some [.int .i64 0, .int .i64 0, sv [], sv [], sv [], sv [], .int .i64 0, .int .i64 0, sv [], sv [], .int .i64 0, sv [], .slice none 0 0, .int .i64 0, .slice none 0 0, .slice none 0 0] := by kernel_rfl
theorem fo_76_0 : fOff Try.prog 76 0 = some 0 := by kernel_rfl
theorem fo_76_1 : fOff Try.prog 76 1 = some 1 := by kernel_rfl
theorem fo_76_2 : fOff Try.prog 76 2 = some 4 := by kernel_rfl
theorem fo_76_3 : fOff Try.prog 76 3 = some 5 := by kernel_rfl
theorem fo_76_4 : fOff Try.prog 76 4 = some 6 := by kernel_rfl
theorem fo_76_5 : fOff Try.prog 76 5 = some 7 := by kernel_rfl
theorem fo_76_6 : fOff Try.prog 76 6 = some 14 := by kernel_rfl
theorem fo_76_7 : fOff Try.prog 76 7 = some 15 := by kernel_rfl
theorem ag_76 : agN Try.prog 76 = some (some 16) := by kernel_rfl
theorem pl_76 : plI Try.prog 76 = some [(0, 1), (1, 3), (4, 1), (5, 1), (6, 1), (7, 7), (14, 1), (15, 1)] := by kernel_rfl
theorem sz_76 : szT Try.prog 76 = some 16 := by kernel_rfl
theorem ze_76 : zeroC Try.prog 76 = some [.int .i64 0, .int .i64 0, sv [], sv [], sv [], sv [], .int .i64 0, .int .i64 0, sv [], sv [], .int .i64 0, sv [], .slice none 0 0, .int .i64 0, .slice none 0 0, .slice none 0 0] := by kernel_rfl
theorem fo_90_0 : fOff Try.prog 90 0 = some 0 := by kernel_rfl
theorem fo_90_1 : fOff Try.prog 90 1 = some 1 := by kernel_rfl
theorem fo_90_2 : fOff Try.prog 90 2 = some 2 := by kernel_rfl
theorem fo_90_3 : fOff Try.prog 90 3 = some 3 := by kernel_rfl
theorem ag_90 : agN Try.prog 90 = some (some 4) := by kernel_rfl
theorem pl_90 : plI Try.prog 90 = some [(0, 1), (1, 1), (2, 1), (3, 1)] := by kernel_rfl
theorem sz_90 : szT Try.prog 90 = some 4 := by kernel_rfl
theorem ze_90 : zeroC Try.prog 90 = some [.slice none 0 0, .int .i64 0, .int .i64 0, .bool false] := by kernel_rfl
theorem fo_91_0 : fOff Try.prog 91 0 = some 0 := by kernel_rfl
theorem fo_91_1 : fOff Try.prog 91 1 = some 1 := by kernel_rfl
theorem fo_91_2 : fOff Try.prog 91 2 = some 2 := by kernel_rfl
theorem fo_91_3 : fOff Try.prog 91 3 = some 3 := by kernel_rfl
theorem ag_91 : agN Try.prog 91 = some (some 4) := by kernel_rfl
theorem pl_91 : plI Try.prog 91 = some [(0, 1), (1, 1), (2, 1), (3, 1)] := by kernel_rfl
theorem sz_91 : szT Try.prog 91 = some 4 := by kernel_rfl
theorem ze_91 : zeroC Try.prog 91 = some [.slice none 0 0, .int .i64 0, .int .i64 0, .bool false] := by kernel_rfl
theorem ag_103 : agN Try.prog 103 = some none := by kernel_rfl
theorem ik_103 : intK Try.prog 103 = some .u64 := by kernel_rfl
theorem sz_103 : szT Try.prog 103 = some 1 := by kernel_rfl
theorem ze_103 : zeroC Try.prog 103 = some [.int .u64 0] := by kernel_rfl
theorem iss_103 : (Try.prog.underlying 103).isSome = true := by kernel_rfl
theorem fo_129_0 : fOff Try.prog 129 0 = some 0 := by kernel_rfl
theorem fo_129_1 : fOff Try.prog 129 1 = some 1 := by kernel_rfl
theorem ag_129 : agN Try.prog 129 = some (some 2) := by kernel_rfl
theorem pl_129 : plI Try.prog 129 = some [(0, 1), (1, 1)] := by kernel_rfl
theorem sz_129 : szT Try.prog 129 = some 2 := by kernel_rfl
theorem ze_129 : zeroC Try.prog 129 = some [sv [], sv []] := by kernel_rfl
theorem fo_130_0 : fOff Try.prog 130 0 = some 0 := by kernel_rfl
theorem fo_130_1 : fOff Try.prog 130 1 = some 1 := by kernel_rfl
theorem ag_130 : agN Try.prog 130 = some (some 2) := by kernel_rfl
theorem pl_130 : plI Try.prog 130 = some [(0, 1), (1, 1)] := by kernel_rfl
theorem sz_130 : szT Try.prog 130 = some 2 := by kernel_rfl
theorem ze_130 : zeroC Try.prog 130 = some [sv [], sv []] := by kernel_rfl
theorem ag_135 : agN Try.prog 135 = some none := by kernel_rfl
theorem ik_135 : intK Try.prog 135 = some .u64 := by kernel_rfl
theorem sz_135 : szT Try.prog 135 = some 1 := by kernel_rfl
theorem ze_135 : zeroC Try.prog 135 = some [.int .u64 0] := by kernel_rfl
theorem iss_135 : (Try.prog.underlying 135).isSome = true := by kernel_rfl
theorem fo_140_0 : fOff Try.prog 140 0 = some 0 := by kernel_rfl
theorem fo_140_1 : fOff Try.prog 140 1 = some 1 := by kernel_rfl
theorem fo_140_2 : fOff Try.prog 140 2 = some 2 := by kernel_rfl
theorem fo_140_3 : fOff Try.prog 140 3 = some 3 := by kernel_rfl
theorem ag_140 : agN Try.prog 140 = some (some 4) := by kernel_rfl
theorem pl_140 : plI Try.prog 140 = some [(0, 1), (1, 1), (2, 1), (3, 1)] := by kernel_rfl
theorem sz_140 : szT Try.prog 140 = some 4 := by kernel_rfl
theorem ze_140 : zeroC Try.prog 140 = some [.pointer none, .pointer none, .pointer none, sv []] := by kernel_rfl
theorem fo_141_0 : fOff Try.prog 141 0 = some 0 := by kernel_rfl
theorem fo_141_1 : fOff Try.prog 141 1 = some 1 := by kernel_rfl
theorem fo_141_2 : fOff Try.prog 141 2 = some 2 := by kernel_rfl
theorem fo_141_3 : fOff Try.prog 141 3 = some 3 := by kernel_rfl
theorem ag_141 : agN Try.prog 141 = some (some 4) := by kernel_rfl
theorem pl_141 : plI Try.prog 141 = some [(0, 1), (1, 1), (2, 1), (3, 1)] := by kernel_rfl
theorem sz_141 : szT Try.prog 141 = some 4 := by kernel_rfl
theorem ze_141 : zeroC Try.prog 141 = some [.pointer none, .pointer none, .pointer none, sv []] := by kernel_rfl
theorem ag_142 : agN Try.prog 142 = some (some 0) := by kernel_rfl
theorem sz_142 : szT Try.prog 142 = some 0 := by kernel_rfl
theorem ag_143 : agN Try.prog 143 = some (some 0) := by kernel_rfl
theorem pl_143 : plI Try.prog 143 = some [(0, 0)] := by kernel_rfl
theorem sz_143 : szT Try.prog 143 = some 0 := by kernel_rfl
theorem ag_144 : agN Try.prog 144 = some (some 0) := by kernel_rfl
theorem pl_144 : plI Try.prog 144 = some [(0, 0)] := by kernel_rfl
theorem sz_144 : szT Try.prog 144 = some 0 := by kernel_rfl
theorem ag_145 : agN Try.prog 145 = some none := by kernel_rfl
theorem ik_145 : intK Try.prog 145 = some .u32 := by kernel_rfl
theorem sz_145 : szT Try.prog 145 = some 1 := by kernel_rfl
theorem ze_145 : zeroC Try.prog 145 = some [.int .u32 0] := by kernel_rfl
theorem iss_145 : (Try.prog.underlying 145).isSome = true := by kernel_rfl
theorem ag_146 : agN Try.prog 146 = some none := by kernel_rfl
theorem ik_146 : intK Try.prog 146 = some .u8 := by kernel_rfl
theorem sz_146 : szT Try.prog 146 = some 1 := by kernel_rfl
theorem ze_146 : zeroC Try.prog 146 = some [.int .u8 0] := by kernel_rfl
theorem iss_146 : (Try.prog.underlying 146).isSome = true := by kernel_rfl
theorem ag_147 : agN Try.prog 147 = some none := by kernel_rfl
theorem ik_147 : intK Try.prog 147 = some .u8 := by kernel_rfl
theorem sz_147 : szT Try.prog 147 = some 1 := by kernel_rfl
theorem ze_147 : zeroC Try.prog 147 = some [.int .u8 0] := by kernel_rfl
theorem iss_147 : (Try.prog.underlying 147).isSome = true := by kernel_rfl
theorem ag_149 : agN Try.prog 149 = some none := by kernel_rfl
theorem sz_149 : szT Try.prog 149 = some 1 := by kernel_rfl
theorem ze_149 : zeroC Try.prog 149 = some [.pointer none] := by kernel_rfl
theorem ag_150 : agN Try.prog 150 = some none := by kernel_rfl
theorem ik_150 : intK Try.prog 150 = some .i32 := by kernel_rfl
theorem sz_150 : szT Try.prog 150 = some 1 := by kernel_rfl
theorem ze_150 : zeroC Try.prog 150 = some [.int .i32 0] := by kernel_rfl
theorem iss_150 : (Try.prog.underlying 150).isSome = true := by kernel_rfl
theorem ag_151 : agN Try.prog 151 = some none := by kernel_rfl
theorem ik_151 : intK Try.prog 151 = some .i32 := by kernel_rfl
theorem sz_151 : szT Try.prog 151 = some 1 := by kernel_rfl
theorem ze_151 : zeroC Try.prog 151 = some [.int .i32 0] := by kernel_rfl
theorem iss_151 : (Try.prog.underlying 151).isSome = true := by kernel_rfl
theorem fo_152_0 : fOff Try.prog 152 0 = some 0 := by kernel_rfl
theorem fo_152_1 : fOff Try.prog 152 1 = some 1 := by kernel_rfl
theorem fo_152_2 : fOff Try.prog 152 2 = some 2 := by kernel_rfl
theorem fo_152_3 : fOff Try.prog 152 3 = some 3 := by kernel_rfl
theorem fo_152_4 : fOff Try.prog 152 4 = some 4 := by kernel_rfl
theorem fo_152_5 : fOff Try.prog 152 5 = some 5 := by kernel_rfl
theorem fo_152_6 : fOff Try.prog 152 6 = some 6 := by kernel_rfl
theorem fo_152_7 : fOff Try.prog 152 7 = some 7 := by kernel_rfl
theorem fo_152_8 : fOff Try.prog 152 8 = some 8 := by kernel_rfl
theorem fo_152_9 : fOff Try.prog 152 9 = some 9 := by kernel_rfl
theorem fo_152_10 : fOff Try.prog 152 10 = some 10 := by kernel_rfl
theorem ag_152 : agN Try.prog 152 = some (some 11) := by kernel_rfl
theorem pl_152 : plI Try.prog 152 = some [(0, 1), (1, 1), (2, 1), (3, 1), (4, 1), (5, 1), (6, 1), (7, 1), (8, 1), (9, 1), (10, 1)] := by kernel_rfl
theorem sz_152 : szT Try.prog 152 = some 11 := by kernel_rfl
theorem fo_153_0 : fOff Try.prog 153 0 = some 0 := by kernel_rfl
theorem fo_153_1 : fOff Try.prog 153 1 = some 1 := by kernel_rfl
theorem fo_153_2 : fOff Try.prog 153 2 = some 2 := by kernel_rfl
theorem fo_153_3 : fOff Try.prog 153 3 = some 3 := by kernel_rfl
theorem fo_153_4 : fOff Try.prog 153 4 = some 4 := by kernel_rfl
theorem fo_153_5 : fOff Try.prog 153 5 = some 5 := by kernel_rfl
theorem fo_153_6 : fOff Try.prog 153 6 = some 6 := by kernel_rfl
theorem fo_153_7 : fOff Try.prog 153 7 = some 7 := by kernel_rfl
theorem fo_153_8 : fOff Try.prog 153 8 = some 8 := by kernel_rfl
theorem fo_153_9 : fOff Try.prog 153 9 = some 9 := by kernel_rfl
theorem fo_153_10 : fOff Try.prog 153 10 = some 10 := by kernel_rfl
theorem ag_153 : agN Try.prog 153 = some (some 11) := by kernel_rfl
theorem pl_153 : plI Try.prog 153 = some [(0, 1), (1, 1), (2, 1), (3, 1), (4, 1), (5, 1), (6, 1), (7, 1), (8, 1), (9, 1), (10, 1)] := by kernel_rfl
theorem sz_153 : szT Try.prog 153 = some 11 := by kernel_rfl
end Go.Proofs.Ytfnpgaiaebkkmaa
