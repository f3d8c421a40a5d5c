/- What the types of the program say, as printed walks name it. No conditions. -/
import Derived.Test.YtfjnkhanndkpfaaProg
import Derived.Test.YtfjnkhanndkpfaaSh
namespace Go.Proofs.Ytfjnkhanndkpfaa
set_option linter.unusedSimpArgs false
set_option linter.unusedVariables false
theorem ag_2 : agN Try.prog 2 = some none := by kernel_rfl
theorem ik_2 : intK Try.prog 2 = some .i64 := by kernel_rfl
theorem sz_2 : szT Try.prog 2 = some 1 := by kernel_rfl
theorem ze_2 : zeroC Try.prog 2 = some [.int .i64 0] := by kernel_rfl
theorem iss_2 : (Try.prog.underlying 2).isSome = true := by kernel_rfl
theorem ag_3 : agN Try.prog 3 = some none := by kernel_rfl
theorem ik_3 : intK Try.prog 3 = some .i64 := by kernel_rfl
theorem sz_3 : szT Try.prog 3 = some 1 := by kernel_rfl
theorem ze_3 : zeroC Try.prog 3 = some [.int .i64 0] := by kernel_rfl
theorem iss_3 : (Try.prog.underlying 3).isSome = true := by kernel_rfl
theorem ag_4 : agN Try.prog 4 = some none := by kernel_rfl
theorem bo_4 : isBo Try.prog 4 = true := by kernel_rfl
theorem sz_4 : szT Try.prog 4 = some 1 := by kernel_rfl
theorem ze_4 : zeroC Try.prog 4 = some [.bool false] := by kernel_rfl
theorem ag_5 : agN Try.prog 5 = some none := by kernel_rfl
theorem ik_5 : intK Try.prog 5 = some .u8 := by kernel_rfl
theorem sz_5 : szT Try.prog 5 = some 1 := by kernel_rfl
theorem ze_5 : zeroC Try.prog 5 = some [.int .u8 0] := by kernel_rfl
theorem iss_5 : (Try.prog.underlying 5).isSome = true := by kernel_rfl
theorem ag_6 : agN Try.prog 6 = some none := by kernel_rfl
theorem ik_6 : intK Try.prog 6 = some .u8 := by kernel_rfl
theorem sz_6 : szT Try.prog 6 = some 1 := by kernel_rfl
theorem ze_6 : zeroC Try.prog 6 = some [.int .u8 0] := by kernel_rfl
theorem iss_6 : (Try.prog.underlying 6).isSome = true := by kernel_rfl
theorem fo_7_0 : fOff Try.prog 7 0 = some 0 := by kernel_rfl
theorem fo_7_1 : fOff Try.prog 7 1 = some 1 := by kernel_rfl
theorem fo_7_2 : fOff Try.prog 7 2 = some 2 := by kernel_rfl
theorem fo_7_3 : fOff Try.prog 7 3 = some 3 := by kernel_rfl
theorem ag_7 : agN Try.prog 7 = some (some 4) := by kernel_rfl
theorem pl_7 : plI Try.prog 7 = some [(0, 1), (1, 1), (2, 1), (3, 1)] := by kernel_rfl
theorem sz_7 : szT Try.prog 7 = some 4 := by kernel_rfl
theorem ze_7 : zeroC Try.prog 7 = some [.int .i64 0, .int .i64 0, .bool false, .int .u8 0] := by kernel_rfl
theorem fo_8_0 : fOff Try.prog 8 0 = some 0 := by kernel_rfl
theorem fo_8_1 : fOff Try.prog 8 1 = some 1 := by kernel_rfl
theorem fo_8_2 : fOff Try.prog 8 2 = some 2 := by kernel_rfl
theorem fo_8_3 : fOff Try.prog 8 3 = some 3 := by kernel_rfl
theorem ag_8 : agN Try.prog 8 = some (some 4) := by kernel_rfl
theorem pl_8 : plI Try.prog 8 = some [(0, 1), (1, 1), (2, 1), (3, 1)] := by kernel_rfl
theorem sz_8 : szT Try.prog 8 = some 4 := by kernel_rfl
theorem ze_8 : zeroC Try.prog 8 = some [.int .i64 0, .int .i64 0, .bool false, .int .u8 0] := by kernel_rfl
theorem ag_9 : agN Try.prog 9 = some none := by kernel_rfl
theorem str_9 : isStr Try.prog 9 = true := by kernel_rfl
theorem sz_9 : szT Try.prog 9 = some 1 := by kernel_rfl
theorem ze_9 : zeroC Try.prog 9 = some [sv []] := by kernel_rfl
theorem iss_9 : (Try.prog.underlying 9).isSome = true := by kernel_rfl
theorem ag_10 : agN Try.prog 10 = some none := by kernel_rfl
theorem str_10 : isStr Try.prog 10 = true := by kernel_rfl
theorem sz_10 : szT Try.prog 10 = some 1 := by kernel_rfl
theorem ze_10 : zeroC Try.prog 10 = some [sv []] := by kernel_rfl
theorem iss_10 : (Try.prog.underlying 10).isSome = true := by kernel_rfl
theorem ag_11 : agN Try.prog 11 = some none := by kernel_rfl
theorem str_11 : isStr Try.prog 11 = true := by kernel_rfl
theorem sz_11 : szT Try.prog 11 = some 1 := by kernel_rfl
theorem ze_11 : zeroC Try.prog 11 = some [sv []] := by kernel_rfl
theorem iss_11 : (Try.prog.underlying 11).isSome = true := by kernel_rfl
theorem ag_12 : agN Try.prog 12 = some none := by kernel_rfl
theorem ik_12 : intK Try.prog 12 = some .u64 := by kernel_rfl
theorem sz_12 : szT Try.prog 12 = some 1 := by kernel_rfl
theorem ze_12 : zeroC Try.prog 12 = some [.int .u64 0] := by kernel_rfl
theorem iss_12 : (Try.prog.underlying 12).isSome = true := by kernel_rfl
theorem fo_13_0 : fOff Try.prog 13 0 = some 0 := by kernel_rfl
theorem fo_13_1 : fOff Try.prog 13 1 = some 1 := by kernel_rfl
theorem ag_13 : agN Try.prog 13 = some (some 2) := by kernel_rfl
theorem pl_13 : plI Try.prog 13 = some [(0, 1), (1, 1)] := by kernel_rfl
theorem sz_13 : szT Try.prog 13 = some 2 := by kernel_rfl
theorem ze_13 : zeroC Try.prog 13 = some [sv [], .int .u64 0] := by kernel_rfl
theorem fo_14_0 : fOff Try.prog 14 0 = some 0 := by kernel_rfl
theorem fo_14_1 : fOff Try.prog 14 1 = some 1 := by kernel_rfl
theorem ag_14 : agN Try.prog 14 = some (some 2) := by kernel_rfl
theorem pl_14 : plI Try.prog 14 = some [(0, 1), (1, 1)] := by kernel_rfl
theorem sz_14 : szT Try.prog 14 = some 2 := by kernel_rfl
theorem ze_14 : zeroC Try.prog 14 = some [sv [], .int .u64 0] := by kernel_rfl
theorem ag_15 : agN Try.prog 15 = some none := by kernel_rfl
theorem pt_15 : isPt Try.prog 15 = true := by kernel_rfl
theorem sz_15 : szT Try.prog 15 = some 1 := by kernel_rfl
theorem ze_15 : zeroC Try.prog 15 = some [.pointer none] := by kernel_rfl
theorem ag_16 : agN Try.prog 16 = some none := by kernel_rfl
theorem pt_16 : isPt Try.prog 16 = true := by kernel_rfl
theorem sz_16 : szT Try.prog 16 = some 1 := by kernel_rfl
theorem ze_16 : zeroC Try.prog 16 = some [.pointer none] := by kernel_rfl
theorem ag_17 : agN Try.prog 17 = some none := by kernel_rfl
theorem pt_17 : isPt Try.prog 17 = true := by kernel_rfl
theorem sz_17 : szT Try.prog 17 = some 1 := by kernel_rfl
theorem ze_17 : zeroC Try.prog 17 = some [.pointer none] := by kernel_rfl
theorem fo_18_0 : fOff Try.prog 18 0 = some 0 := by kernel_rfl
theorem ag_18 : agN Try.prog 18 = some (some 1) := by kernel_rfl
theorem pl_18 : plI Try.prog 18 = some [(0, 1)] := by kernel_rfl
theorem sz_18 : szT Try.prog 18 = some 1 := by kernel_rfl
theorem ze_18 : zeroC Try.prog 18 = some [.pointer none] := by kernel_rfl
theorem fo_19_0 : fOff Try.prog 19 0 = some 0 := by kernel_rfl
theorem ag_19 : agN Try.prog 19 = some (some 1) := by kernel_rfl
theorem pl_19 : plI Try.prog 19 = some [(0, 1)] := by kernel_rfl
theorem sz_19 : szT Try.prog 19 = some 1 := by kernel_rfl
theorem ze_19 : zeroC Try.prog 19 = some [.pointer none] := by kernel_rfl
theorem ag_21 : agN Try.prog 21 = some none := by kernel_rfl
theorem ik_21 : intK Try.prog 21 = some .i32 := by kernel_rfl
theorem sz_21 : szT Try.prog 21 = some 1 := by kernel_rfl
theorem ze_21 : zeroC Try.prog 21 = some [.int .i32 0] := by kernel_rfl
theorem iss_21 : (Try.prog.underlying 21).isSome = true := by kernel_rfl
theorem ag_23 : agN Try.prog 23 = some none := by kernel_rfl
theorem el_23 : elT Try.prog 23 = some (30, 7) := by kernel_rfl
theorem ap_23 : apI Try.prog 23 = some (30, 7, 96) := by kernel_rfl
theorem sz_23 : szT Try.prog 23 = some 1 := by kernel_rfl
theorem ze_23 : zeroC Try.prog 23 = some [.slice none 0 0] := by kernel_rfl
theorem fo_26_0 : fOff Try.prog 26 0 = some 0 := by kernel_rfl
theorem fo_26_1 : fOff Try.prog 26 1 = some 1 := by kernel_rfl
theorem fo_26_2 : fOff Try.prog 26 2 = some 2 := by kernel_rfl
theorem ag_26 : agN Try.prog 26 = some (some 3) := by kernel_rfl
theorem pl_26 : plI Try.prog 26 = some [(0, 1), (1, 1), (2, 1)] := by kernel_rfl
theorem sz_26 : szT Try.prog 26 = some 3 := by kernel_rfl
theorem ze_26 : zeroC Try.prog 26 = some [.int .i64 0, sv [], sv []] := by kernel_rfl
theorem fo_27_0 : fOff Try.prog 27 0 = some 0 := by kernel_rfl
theorem fo_27_1 : fOff Try.prog 27 1 = some 1 := by kernel_rfl
theorem fo_27_2 : fOff Try.prog 27 2 = some 2 := by kernel_rfl
theorem ag_27 : agN Try.prog 27 = some (some 3) := by kernel_rfl
theorem pl_27 : plI Try.prog 27 = some [(0, 1), (1, 1), (2, 1)] := by kernel_rfl
theorem sz_27 : szT Try.prog 27 = some 3 := by kernel_rfl
theorem ze_27 : zeroC Try.prog 27 = some [.int .i64 0, sv [], sv []] := by kernel_rfl
theorem ag_28 : agN Try.prog 28 = some none := by kernel_rfl
theorem el_28 : elT Try.prog 28 = some (9, 1) := by kernel_rfl
theorem ap_28 : apI Try.prog 28 = some (9, 1, 16) := by kernel_rfl
theorem sz_28 : szT Try.prog 28 = some 1 := by kernel_rfl
theorem ze_28 : zeroC Try.prog 28 = some [.slice none 0 0] := by kernel_rfl
theorem fo_29_0 : fOff Try.prog 29 0 = some 0 := by kernel_rfl
theorem fo_29_1 : fOff Try.prog 29 1 = some 3 := by kernel_rfl
theorem fo_29_2 : fOff Try.prog 29 2 = some 4 := by kernel_rfl
theorem fo_29_3 : fOff Try.prog 29 3 = some 5 := by kernel_rfl
theorem fo_29_4 : fOff Try.prog 29 4 = some 6 := by kernel_rfl
theorem ag_29 : agN Try.prog 29 = some (some 7) := by kernel_rfl
theorem pl_29 : plI Try.prog 29 = some [(0, 3), (3, 1), (4, 1), (5, 1), (6, 1)] := by kernel_rfl
theorem sz_29 : szT Try.prog 29 = some 7 := by kernel_rfl
theorem ze_29 : zeroC Try.prog 29 = some [.int .i64 0, sv [], sv [], .int .i64 0, sv [], .slice none 0 0, .int .i64 0] := by kernel_rfl
theorem fo_30_0 : fOff Try.prog 30 0 = some 0 := by kernel_rfl
theorem fo_30_1 : fOff Try.prog 30 1 = some 3 := by kernel_rfl
theorem fo_30_2 : fOff Try.prog 30 2 = some 4 := by kernel_rfl
theorem fo_30_3 : fOff Try.prog 30 3 = some 5 := by kernel_rfl
theorem fo_30_4 : fOff Try.prog 30 4 = some 6 := by kernel_rfl
theorem ag_30 : agN Try.prog 30 = some (some 7) := by kernel_rfl
theorem pl_30 : plI Try.prog 30 = some [(0, 3), (3, 1), (4, 1), (5, 1), (6, 1)] := by kernel_rfl
theorem sz_30 : szT Try.prog 30 = some 7 := by kernel_rfl
theorem ze_30 : zeroC Try.prog 30 = some [.int .i64 0, sv [], sv [], .int .i64 0, sv [], .slice none 0 0, .int .i64 0] := by kernel_rfl
theorem ag_34 : agN Try.prog 34 = some none := by kernel_rfl
theorem ik_34 : intK Try.prog 34 = some .i64 := by kernel_rfl
theorem sz_34 : szT Try.prog 34 = some 1 := by kernel_rfl
theorem ze_34 : zeroC Try.prog 34 = some [.int .i64 0] := by kernel_rfl
theorem iss_34 : (Try.prog.underlying 34).isSome = true := by kernel_rfl
theorem ag_39 : agN Try.prog 39 = some none := by kernel_rfl
theorem el_39 : elT Try.prog 39 = some (23, 1) := by kernel_rfl
theorem ap_39 : apI Try.prog 39 = some (23, 1, 24) := by kernel_rfl
theorem sz_39 : szT Try.prog 39 = some 1 := by kernel_rfl
theorem ze_39 : zeroC Try.prog 39 = some [.slice none 0 0] := by kernel_rfl
theorem ag_41 : agN Try.prog 41 = some none := by kernel_rfl
theorem pt_41 : isPt Try.prog 41 = true := by kernel_rfl
theorem sz_41 : szT Try.prog 41 = some 1 := by kernel_rfl
theorem ze_41 : zeroC Try.prog 41 = some [.pointer none] := by kernel_rfl
theorem fo_43_0 : fOff Try.prog 43 0 = some 0 := by kernel_rfl
theorem fo_43_1 : fOff Try.prog 43 1 = some 1 := by kernel_rfl
theorem ag_43 : agN Try.prog 43 = some (some 2) := by kernel_rfl
theorem pl_43 : plI Try.prog 43 = some [(0, 1), (1, 1)] := by kernel_rfl
theorem sz_43 : szT Try.prog 43 = some 2 := by kernel_rfl
theorem ze_43 : zeroC Try.prog 43 = some [.int .i64 0, .int .i64 0] := by kernel_rfl
theorem fo_44_0 : fOff Try.prog 44 0 = some 0 := by kernel_rfl
theorem fo_44_1 : fOff Try.prog 44 1 = some 1 := by kernel_rfl
theorem ag_44 : agN Try.prog 44 = some (some 2) := by kernel_rfl
theorem pl_44 : plI Try.prog 44 = some [(0, 1), (1, 1)] := by kernel_rfl
theorem sz_44 : szT Try.prog 44 = some 2 := by kernel_rfl
theorem ze_44 : zeroC Try.prog 44 = some [.int .i64 0, .int .i64 0] := by kernel_rfl
theorem ag_45 : agN Try.prog 45 = some none := by kernel_rfl
theorem el_45 : elT Try.prog 45 = some (44, 2) := by kernel_rfl
theorem ap_45 : apI Try.prog 45 = some (44, 2, 16) := by kernel_rfl
theorem sz_45 : szT Try.prog 45 = some 1 := by kernel_rfl
theorem ze_45 : zeroC Try.prog 45 = some [.slice none 0 0] := by kernel_rfl
theorem fo_46_0 : fOff Try.prog 46 0 = some 0 := by kernel_rfl
theorem fo_46_1 : fOff Try.prog 46 1 = some 2 := by kernel_rfl
theorem fo_46_2 : fOff Try.prog 46 2 = some 4 := by kernel_rfl
theorem fo_46_3 : fOff Try.prog 46 3 = some 5 := by kernel_rfl
theorem fo_46_4 : fOff Try.prog 46 4 = some 6 := by kernel_rfl
theorem fo_46_5 : fOff Try.prog 46 5 = some 7 := by kernel_rfl
theorem fo_46_6 : fOff Try.prog 46 6 = some 8 := by kernel_rfl
theorem fo_46_7 : fOff Try.prog 46 7 = some 11 := by kernel_rfl
theorem fo_46_8 : fOff Try.prog 46 8 = some 12 := by kernel_rfl
theorem fo_46_9 : fOff Try.prog 46 9 = some 13 := by kernel_rfl
theorem fo_46_10 : fOff Try.prog 46 10 = some 14 := by kernel_rfl
theorem ag_46 : agN Try.prog 46 = some (some 15) := by kernel_rfl
theorem pl_46 : plI Try.prog 46 = some [(0, 2), (2, 2), (4, 1), (5, 1), (6, 1), (7, 1), (8, 3), (11, 1), (12, 1), (13, 1), (14, 1)] := by kernel_rfl
theorem sz_46 : szT Try.prog 46 = some 15 := by kernel_rfl
theorem ze_46 : zeroC Try.prog 46 = some [.int .i64 0, .int .i64 0, .int .i64 0, .int .i64 0, .int .i64 0, sv [], .int .i64 0, sv [], .int .i64 0, sv [], sv [], .int .i64 0, .bool false, sv [], .slice none 0 0] := by kernel_rfl
theorem fo_47_0 : fOff Try.prog 47 0 = some 0 := by kernel_rfl
theorem fo_47_1 : fOff Try.prog 47 1 = some 2 := by kernel_rfl
theorem fo_47_2 : fOff Try.prog 47 2 = some 4 := by kernel_rfl
theorem fo_47_3 : fOff Try.prog 47 3 = some 5 := by kernel_rfl
theorem fo_47_4 : fOff Try.prog 47 4 = some 6 := by kernel_rfl
theorem fo_47_5 : fOff Try.prog 47 5 = some 7 := by kernel_rfl
theorem fo_47_6 : fOff Try.prog 47 6 = some 8 := by kernel_rfl
theorem fo_47_7 : fOff Try.prog 47 7 = some 11 := by kernel_rfl
theorem fo_47_8 : fOff Try.prog 47 8 = some 12 := by kernel_rfl
theorem fo_47_9 : fOff Try.prog 47 9 = some 13 := by kernel_rfl
theorem fo_47_10 : fOff Try.prog 47 10 = some 14 := by kernel_rfl
theorem ag_47 : agN Try.prog 47 = some (some 15) := by kernel_rfl
theorem pl_47 : plI Try.prog 47 = some [(0, 2), (2, 2), (4, 1), (5, 1), (6, 1), (7, 1), (8, 3), (11, 1), (12, 1), (13, 1), (14, 1)] := by kernel_rfl
theorem sz_47 : szT Try.prog 47 = some 15 := by kernel_rfl
theorem ze_47 : zeroC Try.prog 47 = some [.int .i64 0, .int .i64 0, .int .i64 0, .int .i64 0, .int .i64 0, sv [], .int .i64 0, sv [], .int .i64 0, sv [], sv [], .int .i64 0, .bool false, sv [], .slice none 0 0] := by kernel_rfl
theorem ag_50 : agN Try.prog 50 = some none := by kernel_rfl
theorem el_50 : elT Try.prog 50 = some (47, 15) := by kernel_rfl
theorem ap_50 : apI Try.prog 50 = some (47, 15, 176) := by kernel_rfl
theorem sz_50 : szT Try.prog 50 = some 1 := by kernel_rfl
theorem ze_50 : zeroC Try.prog 50 = some [.slice none 0 0] := by kernel_rfl
theorem ag_53 : agN Try.prog 53 = some none := by kernel_rfl
theorem ik_53 : intK Try.prog 53 = some .u64 := by kernel_rfl
theorem sz_53 : szT Try.prog 53 = some 1 := by kernel_rfl
theorem ze_53 : zeroC Try.prog 53 = some [.int .u64 0] := by kernel_rfl
theorem iss_53 : (Try.prog.underlying 53).isSome = true := by kernel_rfl
theorem ag_55 : agN Try.prog 55 = some none := by kernel_rfl
theorem ik_55 : intK Try.prog 55 = some .u64 := by kernel_rfl
theorem sz_55 : szT Try.prog 55 = some 1 := by kernel_rfl
theorem ze_55 : zeroC Try.prog 55 = some [.int .u64 0] := by kernel_rfl
theorem iss_55 : (Try.prog.underlying 55).isSome = true := by kernel_rfl
theorem ag_57 : agN Try.prog 57 = some (some 6) := by kernel_rfl
theorem ar_57 : arT Try.prog 57 = some (6, 3, 1) := by kernel_rfl
theorem sz_57 : szT Try.prog 57 = some 6 := by kernel_rfl
theorem ze_57 : zeroC Try.prog 57 = some [.int .i64 0, .int .i64 0, .int .i64 0, .int .i64 0, .int .i64 0, .int .i64 0] := by kernel_rfl
theorem ag_58 : agN Try.prog 58 = some (some 6) := by kernel_rfl
theorem ar_58 : arT Try.prog 58 = some (6, 3, 1) := by kernel_rfl
theorem sz_58 : szT Try.prog 58 = some 6 := by kernel_rfl
theorem ze_58 : zeroC Try.prog 58 = some [.int .i64 0, .int .i64 0, .int .i64 0, .int .i64 0, .int .i64 0, .int .i64 0] := by kernel_rfl
theorem fo_78_0 : fOff Try.prog 78 0 = some 0 := by kernel_rfl
theorem fo_78_1 : fOff Try.prog 78 1 = some 1 := by kernel_rfl
theorem fo_78_2 : fOff Try.prog 78 2 = some 2 := by kernel_rfl
theorem fo_78_3 : fOff Try.prog 78 3 = some 3 := by kernel_rfl
theorem fo_78_4 : fOff Try.prog 78 4 = some 4 := by kernel_rfl
theorem fo_78_5 : fOff Try.prog 78 5 = some 6 := by kernel_rfl
theorem fo_78_6 : fOff Try.prog 78 6 = some 12 := by kernel_rfl
theorem fo_78_7 : fOff Try.prog 78 7 = some 15 := by kernel_rfl
theorem ag_78 : agN Try.prog 78 = some (some 16) := by kernel_rfl
theorem pl_78 : plI Try.prog 78 = some [(0, 1), (1, 1), (2, 1), (3, 1), (4, 2), (6, 6), (12, 3), (15, 1)] := by kernel_rfl
theorem sz_78 : szT Try.prog 78 = some 16 := by kernel_rfl
theorem ze_78 : zeroC Try.prog 78 = some [.int .i64 0, .int .i64 0, sv [], .bool false, .int .i64 0, .int .i64 0, .int .i64 0, .int .i64 0, .int .i64 0, .int .i64 0, .int .i64 0, .int .i64 0, .int .i64 0, sv [], sv [], .int .i64 0] := by kernel_rfl
theorem fo_79_0 : fOff Try.prog 79 0 = some 0 := by kernel_rfl
theorem fo_79_1 : fOff Try.prog 79 1 = some 1 := by kernel_rfl
theorem fo_79_2 : fOff Try.prog 79 2 = some 2 := by kernel_rfl
theorem fo_79_3 : fOff Try.prog 79 3 = some 3 := by kernel_rfl
theorem fo_79_4 : fOff Try.prog 79 4 = some 4 := by kernel_rfl
theorem fo_79_5 : fOff Try.prog 79 5 = some 6 := by kernel_rfl
theorem fo_79_6 : fOff Try.prog 79 6 = some 12 := by kernel_rfl
theorem fo_79_7 : fOff Try.prog 79 7 = some 15 := by kernel_rfl
theorem ag_79 : agN Try.prog 79 = some (some 16) := by kernel_rfl
theorem pl_79 : plI Try.prog 79 = some [(0, 1), (1, 1), (2, 1), (3, 1), (4, 2), (6, 6), (12, 3), (15, 1)] := by kernel_rfl
theorem sz_79 : szT Try.prog 79 = some 16 := by kernel_rfl
theorem ze_79 : zeroC Try.prog 79 = some [.int .i64 0, .int .i64 0, sv [], .bool false, .int .i64 0, .int .i64 0, .int .i64 0, .int .i64 0, .int .i64 0, .int .i64 0, .int .i64 0, .int .i64 0, .int .i64 0, sv [], sv [], .int .i64 0] := by kernel_rfl
theorem ag_80 : agN Try.prog 80 = some none := by kernel_rfl
theorem pt_80 : isPt Try.prog 80 = true := by kernel_rfl
theorem sz_80 : szT Try.prog 80 = some 1 := by kernel_rfl
theorem ze_80 : zeroC Try.prog 80 = some [.pointer none] := by kernel_rfl
theorem ag_83 : agN Try.prog 83 = some none := by kernel_rfl
theorem el_83 : elT Try.prog 83 = some (5, 1) := by kernel_rfl
theorem ap_83 : apI Try.prog 83 = some (5, 1, 1) := by kernel_rfl
theorem by_83 : byT Try.prog 83 = true := by kernel_rfl
theorem sz_83 : szT Try.prog 83 = some 1 := by kernel_rfl
theorem ze_83 : zeroC Try.prog 83 = some [.slice none 0 0] := by kernel_rfl
theorem ag_93 : agN Try.prog 93 = some none := by kernel_rfl
theorem el_93 : elT Try.prog 93 = some (165, 2) := by kernel_rfl
theorem ap_93 : apI Try.prog 93 = some (165, 2, 32) := by kernel_rfl
theorem sz_93 : szT Try.prog 93 = some 1 := by kernel_rfl
theorem ze_93 : zeroC Try.prog 93 = some [.slice none 0 0] := by kernel_rfl
theorem fo_94_0 : fOff Try.prog 94 0 = some 0 := by kernel_rfl
theorem fo_94_1 : fOff Try.prog 94 1 = some 1 := by kernel_rfl
theorem fo_94_2 : fOff Try.prog 94 2 = some 4 := by kernel_rfl
theorem fo_94_3 : fOff Try.prog 94 3 = some 5 := by kernel_rfl
theorem fo_94_4 : fOff Try.prog 94 4 = some 6 := by kernel_rfl
theorem fo_94_5 : fOff Try.prog 94 5 = some 7 := by kernel_rfl
theorem fo_94_6 : fOff Try.prog 94 6 = some 14 := by kernel_rfl
theorem fo_94_7 : fOff Try.prog 94 7 = some 15 := by kernel_rfl
theorem ag_94 : agN Try.prog 94 = some (some 16) := by kernel_rfl
theorem pl_94 : plI Try.prog 94 = some [(0, 1), (1, 3), (4, 1), (5, 1), (6, 1), (7, 7), (14, 1), (15, 1)] := by kernel_rfl
theorem sz_94 : szT Try.prog 94 = some 16 := by kernel_rfl
theorem ze_94 : zeroC Try.prog 94 = some [.int .i64 0, .int .i64 0, sv [], sv [], sv [], sv [], .int .i64 0, .int .i64 0, sv [], sv [], .int .i64 0, sv [], .slice none 0 0, .int .i64 0, .slice none 0 0, .slice none 0 0] := by kernel_rfl
theorem fo_95_0 : fOff Try.prog 95 0 = some 0 := by kernel_rfl
theorem fo_95_1 : fOff Try.prog 95 1 = some 1 := by kernel_rfl
theorem fo_95_2 : fOff Try.prog 95 2 = some 4 := by kernel_rfl
theorem fo_95_3 : fOff Try.prog 95 3 = some 5 := by kernel_rfl
theorem fo_95_4 : fOff Try.prog 95 4 = some 6 := by kernel_rfl
theorem fo_95_5 : fOff Try.prog 95 5 = some 7 := by kernel_rfl
theorem fo_95_6 : fOff Try.prog 95 6 = some 14 := by kernel_rfl
theorem fo_95_7 : fOff Try.prog 95 7 = some 15 := by kernel_rfl
theorem ag_95 : agN Try.prog 95 = some (some 16) := by kernel_rfl
theorem pl_95 : plI Try.prog 95 = some [(0, 1), (1, 3), (4, 1), (5, 1), (6, 1), (7, 7), (14, 1), (15, 1)] := by kernel_rfl
theorem sz_95 : szT Try.prog 95 = some 16 := by kernel_rfl
theorem ze_95 : zeroC Try.prog 95 = some [.int .i64 0, .int .i64 0, sv [], sv [], sv [], sv [], .int .i64 0, .int .i64 0, sv [], sv [], .int .i64 0, sv [], .slice none 0 0, .int .i64 0, .slice none 0 0, .slice none 0 0] := by kernel_rfl
theorem ag_103 : agN Try.prog 103 = some none := by kernel_rfl
theorem el_103 : elT Try.prog 103 = some (83, 1) := by kernel_rfl
theorem ap_103 : apI Try.prog 103 = some (83, 1, 24) := by kernel_rfl
theorem sz_103 : szT Try.prog 103 = some 1 := by kernel_rfl
theorem ze_103 : zeroC Try.prog 103 = some [.slice none 0 0] := by kernel_rfl
theorem ag_112 : agN Try.prog 112 = some (some 6) := by kernel_rfl
theorem ar_112 : arT Try.prog 112 = some (6, 50, 1) := by kernel_rfl
theorem sz_112 : szT Try.prog 112 = some 6 := by kernel_rfl
theorem ze_112 : zeroC Try.prog 112 = some [.slice none 0 0, .slice none 0 0, .slice none 0 0, .slice none 0 0, .slice none 0 0, .slice none 0 0] := by kernel_rfl
theorem fo_113_0 : fOff Try.prog 113 0 = some 0 := by kernel_rfl
theorem ag_113 : agN Try.prog 113 = some (some 6) := by kernel_rfl
theorem pl_113 : plI Try.prog 113 = some [(0, 6)] := by kernel_rfl
theorem sz_113 : szT Try.prog 113 = some 6 := by kernel_rfl
theorem ze_113 : zeroC Try.prog 113 = some [.slice none 0 0, .slice none 0 0, .slice none 0 0, .slice none 0 0, .slice none 0 0, .slice none 0 0] := by kernel_rfl
theorem fo_114_0 : fOff Try.prog 114 0 = some 0 := by kernel_rfl
theorem ag_114 : agN Try.prog 114 = some (some 6) := by kernel_rfl
theorem pl_114 : plI Try.prog 114 = some [(0, 6)] := by kernel_rfl
theorem sz_114 : szT Try.prog 114 = some 6 := by kernel_rfl
theorem ze_114 : zeroC Try.prog 114 = some [.slice none 0 0, .slice none 0 0, .slice none 0 0, .slice none 0 0, .slice none 0 0, .slice none 0 0] := by kernel_rfl
theorem fo_127_0 : fOff Try.prog 127 0 = some 0 := by kernel_rfl
theorem fo_127_1 : fOff Try.prog 127 1 = some 1 := by kernel_rfl
theorem fo_127_2 : fOff Try.prog 127 2 = some 2 := by kernel_rfl
theorem fo_127_3 : fOff Try.prog 127 3 = some 3 := by kernel_rfl
theorem ag_127 : agN Try.prog 127 = some (some 4) := by kernel_rfl
theorem pl_127 : plI Try.prog 127 = some [(0, 1), (1, 1), (2, 1), (3, 1)] := by kernel_rfl
theorem sz_127 : szT Try.prog 127 = some 4 := by kernel_rfl
theorem ze_127 : zeroC Try.prog 127 = some [.slice none 0 0, .int .i64 0, .int .i64 0, .bool false] := by kernel_rfl
theorem fo_128_0 : fOff Try.prog 128 0 = some 0 := by kernel_rfl
theorem fo_128_1 : fOff Try.prog 128 1 = some 1 := by kernel_rfl
theorem fo_128_2 : fOff Try.prog 128 2 = some 2 := by kernel_rfl
theorem fo_128_3 : fOff Try.prog 128 3 = some 3 := by kernel_rfl
theorem ag_128 : agN Try.prog 128 = some (some 4) := by kernel_rfl
theorem pl_128 : plI Try.prog 128 = some [(0, 1), (1, 1), (2, 1), (3, 1)] := by kernel_rfl
theorem sz_128 : szT Try.prog 128 = some 4 := by kernel_rfl
theorem ze_128 : zeroC Try.prog 128 = some [.slice none 0 0, .int .i64 0, .int .i64 0, .bool false] := by kernel_rfl
theorem ag_158 : agN Try.prog 158 = some none := by kernel_rfl
theorem el_158 : elT Try.prog 158 = some (79, 16) := by kernel_rfl
theorem ap_158 : apI Try.prog 158 = some (79, 16, 152) := by kernel_rfl
theorem sz_158 : szT Try.prog 158 = some 1 := by kernel_rfl
theorem ze_158 : zeroC Try.prog 158 = some [.slice none 0 0] := by kernel_rfl
theorem fo_164_0 : fOff Try.prog 164 0 = some 0 := by kernel_rfl
theorem fo_164_1 : fOff Try.prog 164 1 = some 1 := by kernel_rfl
theorem ag_164 : agN Try.prog 164 = some (some 2) := by kernel_rfl
theorem pl_164 : plI Try.prog 164 = some [(0, 1), (1, 1)] := by kernel_rfl
theorem sz_164 : szT Try.prog 164 = some 2 := by kernel_rfl
theorem ze_164 : zeroC Try.prog 164 = some [sv [], sv []] := by kernel_rfl
theorem fo_165_0 : fOff Try.prog 165 0 = some 0 := by kernel_rfl
theorem fo_165_1 : fOff Try.prog 165 1 = some 1 := by kernel_rfl
theorem ag_165 : agN Try.prog 165 = some (some 2) := by kernel_rfl
theorem pl_165 : plI Try.prog 165 = some [(0, 1), (1, 1)] := by kernel_rfl
theorem sz_165 : szT Try.prog 165 = some 2 := by kernel_rfl
theorem ze_165 : zeroC Try.prog 165 = some [sv [], sv []] := by kernel_rfl
theorem fo_175_0 : fOff Try.prog 175 0 = some 0 := by kernel_rfl
theorem fo_175_1 : fOff Try.prog 175 1 = some 1 := by kernel_rfl
theorem fo_175_2 : fOff Try.prog 175 2 = some 2 := by kernel_rfl
theorem fo_175_3 : fOff Try.prog 175 3 = some 3 := by kernel_rfl
theorem ag_175 : agN Try.prog 175 = some (some 4) := by kernel_rfl
theorem pl_175 : plI Try.prog 175 = some [(0, 1), (1, 1), (2, 1), (3, 1)] := by kernel_rfl
theorem sz_175 : szT Try.prog 175 = some 4 := by kernel_rfl
theorem ze_175 : zeroC Try.prog 175 = some [.pointer none, .pointer none, .pointer none, sv []] := by kernel_rfl
theorem fo_176_0 : fOff Try.prog 176 0 = some 0 := by kernel_rfl
theorem fo_176_1 : fOff Try.prog 176 1 = some 1 := by kernel_rfl
theorem fo_176_2 : fOff Try.prog 176 2 = some 2 := by kernel_rfl
theorem fo_176_3 : fOff Try.prog 176 3 = some 3 := by kernel_rfl
theorem ag_176 : agN Try.prog 176 = some (some 4) := by kernel_rfl
theorem pl_176 : plI Try.prog 176 = some [(0, 1), (1, 1), (2, 1), (3, 1)] := by kernel_rfl
theorem sz_176 : szT Try.prog 176 = some 4 := by kernel_rfl
theorem ze_176 : zeroC Try.prog 176 = some [.pointer none, .pointer none, .pointer none, sv []] := by kernel_rfl
theorem ag_177 : agN Try.prog 177 = some (some 0) := by kernel_rfl
theorem ar_177 : arT Try.prog 177 = some (0, 16, 1) := by kernel_rfl
theorem sz_177 : szT Try.prog 177 = some 0 := by kernel_rfl
theorem ag_178 : agN Try.prog 178 = some (some 0) := by kernel_rfl
theorem pl_178 : plI Try.prog 178 = some [(0, 0)] := by kernel_rfl
theorem sz_178 : szT Try.prog 178 = some 0 := by kernel_rfl
theorem ag_179 : agN Try.prog 179 = some (some 0) := by kernel_rfl
theorem pl_179 : plI Try.prog 179 = some [(0, 0)] := by kernel_rfl
theorem sz_179 : szT Try.prog 179 = some 0 := by kernel_rfl
theorem ag_180 : agN Try.prog 180 = some none := by kernel_rfl
theorem ik_180 : intK Try.prog 180 = some .u32 := by kernel_rfl
theorem sz_180 : szT Try.prog 180 = some 1 := by kernel_rfl
theorem ze_180 : zeroC Try.prog 180 = some [.int .u32 0] := by kernel_rfl
theorem iss_180 : (Try.prog.underlying 180).isSome = true := by kernel_rfl
theorem ag_181 : agN Try.prog 181 = some none := by kernel_rfl
theorem ik_181 : intK Try.prog 181 = some .u8 := by kernel_rfl
theorem sz_181 : szT Try.prog 181 = some 1 := by kernel_rfl
theorem ze_181 : zeroC Try.prog 181 = some [.int .u8 0] := by kernel_rfl
theorem iss_181 : (Try.prog.underlying 181).isSome = true := by kernel_rfl
theorem ag_182 : agN Try.prog 182 = some none := by kernel_rfl
theorem ik_182 : intK Try.prog 182 = some .u8 := by kernel_rfl
theorem sz_182 : szT Try.prog 182 = some 1 := by kernel_rfl
theorem ze_182 : zeroC Try.prog 182 = some [.int .u8 0] := by kernel_rfl
theorem iss_182 : (Try.prog.underlying 182).isSome = true := by kernel_rfl
theorem ag_184 : agN Try.prog 184 = some none := by kernel_rfl
theorem pt_184 : isPt Try.prog 184 = true := by kernel_rfl
theorem sz_184 : szT Try.prog 184 = some 1 := by kernel_rfl
theorem ze_184 : zeroC Try.prog 184 = some [.pointer none] := by kernel_rfl
theorem ag_185 : agN Try.prog 185 = some none := by kernel_rfl
theorem ik_185 : intK Try.prog 185 = some .i32 := by kernel_rfl
theorem sz_185 : szT Try.prog 185 = some 1 := by kernel_rfl
theorem ze_185 : zeroC Try.prog 185 = some [.int .i32 0] := by kernel_rfl
theorem iss_185 : (Try.prog.underlying 185).isSome = true := by kernel_rfl
theorem ag_186 : agN Try.prog 186 = some none := by kernel_rfl
theorem ik_186 : intK Try.prog 186 = some .i32 := by kernel_rfl
theorem sz_186 : szT Try.prog 186 = some 1 := by kernel_rfl
theorem ze_186 : zeroC Try.prog 186 = some [.int .i32 0] := by kernel_rfl
theorem iss_186 : (Try.prog.underlying 186).isSome = true := by kernel_rfl
theorem fo_187_0 : fOff Try.prog 187 0 = some 0 := by kernel_rfl
theorem fo_187_1 : fOff Try.prog 187 1 = some 1 := by kernel_rfl
theorem fo_187_2 : fOff Try.prog 187 2 = some 2 := by kernel_rfl
theorem fo_187_3 : fOff Try.prog 187 3 = some 3 := by kernel_rfl
theorem fo_187_4 : fOff Try.prog 187 4 = some 4 := by kernel_rfl
theorem fo_187_5 : fOff Try.prog 187 5 = some 5 := by kernel_rfl
theorem fo_187_6 : fOff Try.prog 187 6 = some 6 := by kernel_rfl
theorem fo_187_7 : fOff Try.prog 187 7 = some 7 := by kernel_rfl
theorem fo_187_8 : fOff Try.prog 187 8 = some 8 := by kernel_rfl
theorem fo_187_9 : fOff Try.prog 187 9 = some 9 := by kernel_rfl
theorem fo_187_10 : fOff Try.prog 187 10 = some 10 := by kernel_rfl
theorem ag_187 : agN Try.prog 187 = some (some 11) := by kernel_rfl
theorem pl_187 : plI Try.prog 187 = some [(0, 1), (1, 1), (2, 1), (3, 1), (4, 1), (5, 1), (6, 1), (7, 1), (8, 1), (9, 1), (10, 1)] := by kernel_rfl
theorem sz_187 : szT Try.prog 187 = some 11 := by kernel_rfl
theorem fo_188_0 : fOff Try.prog 188 0 = some 0 := by kernel_rfl
theorem fo_188_1 : fOff Try.prog 188 1 = some 1 := by kernel_rfl
theorem fo_188_2 : fOff Try.prog 188 2 = some 2 := by kernel_rfl
theorem fo_188_3 : fOff Try.prog 188 3 = some 3 := by kernel_rfl
theorem fo_188_4 : fOff Try.prog 188 4 = some 4 := by kernel_rfl
theorem fo_188_5 : fOff Try.prog 188 5 = some 5 := by kernel_rfl
theorem fo_188_6 : fOff Try.prog 188 6 = some 6 := by kernel_rfl
theorem fo_188_7 : fOff Try.prog 188 7 = some 7 := by kernel_rfl
theorem fo_188_8 : fOff Try.prog 188 8 = some 8 := by kernel_rfl
theorem fo_188_9 : fOff Try.prog 188 9 = some 9 := by kernel_rfl
theorem fo_188_10 : fOff Try.prog 188 10 = some 10 := by kernel_rfl
theorem ag_188 : agN Try.prog 188 = some (some 11) := by kernel_rfl
theorem pl_188 : plI Try.prog 188 = some [(0, 1), (1, 1), (2, 1), (3, 1), (4, 1), (5, 1), (6, 1), (7, 1), (8, 1), (9, 1), (10, 1)] := by kernel_rfl
theorem sz_188 : szT Try.prog 188 = some 11 := by kernel_rfl
end Go.Proofs.Ytfjnkhanndkpfaa
