/- What the types of the program say, as printed walks name it. No conditions. -/
import Derived.Test.YtgjpeldgjpgbcaaProg
import Derived.Test.YtgjpeldgjpgbcaaSh
namespace Go.Proofs.Ytgjpeldgjpgbcaa
set_option linter.unusedSimpArgs false
set_option linter.unusedVariables false
theorem ag_2 : agN Try.prog 2 = some none := by kernel_rfl
theorem ik_2 : intK Try.prog 2 = some .i64 := by kernel_rfl
theorem sz_2 : szT Try.prog 2 = some 1 := by kernel_rfl
theorem ze_2 : zeroC Try.prog 2 = some [.int .i64 0] := by kernel_rfl
theorem iss_2 : (Try.prog.underlying 2).isSome = true := by kernel_rfl
theorem ag_3 : agN Try.prog 3 = some none := by kernel_rfl
theorem ik_3 : intK Try.prog 3 = some .i64 := by kernel_rfl
theorem sz_3 : szT Try.prog 3 = some 1 := by kernel_rfl
theorem ze_3 : zeroC Try.prog 3 = some [.int .i64 0] := by kernel_rfl
theorem iss_3 : (Try.prog.underlying 3).isSome = true := by kernel_rfl
theorem ag_4 : agN Try.prog 4 = some none := by kernel_rfl
theorem bo_4 : isBo Try.prog 4 = true := by kernel_rfl
theorem sz_4 : szT Try.prog 4 = some 1 := by kernel_rfl
theorem ze_4 : zeroC Try.prog 4 = some [.bool false] := by kernel_rfl
theorem ag_5 : agN Try.prog 5 = some none := by kernel_rfl
theorem ik_5 : intK Try.prog 5 = some .u8 := by kernel_rfl
theorem sz_5 : szT Try.prog 5 = some 1 := by kernel_rfl
theorem ze_5 : zeroC Try.prog 5 = some [.int .u8 0] := by kernel_rfl
theorem iss_5 : (Try.prog.underlying 5).isSome = true := by kernel_rfl
theorem ag_6 : agN Try.prog 6 = some none := by kernel_rfl
theorem ik_6 : intK Try.prog 6 = some .u8 := by kernel_rfl
theorem sz_6 : szT Try.prog 6 = some 1 := by kernel_rfl
theorem ze_6 : zeroC Try.prog 6 = some [.int .u8 0] := by kernel_rfl
theorem iss_6 : (Try.prog.underlying 6).isSome = true := by kernel_rfl
theorem fo_7_0 : fOff Try.prog 7 0 = some 0 := by kernel_rfl
theorem fo_7_1 : fOff Try.prog 7 1 = some 1 := by kernel_rfl
theorem fo_7_2 : fOff Try.prog 7 2 = some 2 := by kernel_rfl
theorem fo_7_3 : fOff Try.prog 7 3 = some 3 := by kernel_rfl
theorem ag_7 : agN Try.prog 7 = some (some 4) := by kernel_rfl
theorem pl_7 : plI Try.prog 7 = some [(0, 1), (1, 1), (2, 1), (3, 1)] := by kernel_rfl
theorem sz_7 : szT Try.prog 7 = some 4 := by kernel_rfl
theorem ze_7 : zeroC Try.prog 7 = some [.int .i64 0, .int .i64 0, .bool false, .int .u8 0] := by kernel_rfl
theorem fo_8_0 : fOff Try.prog 8 0 = some 0 := by kernel_rfl
theorem fo_8_1 : fOff Try.prog 8 1 = some 1 := by kernel_rfl
theorem fo_8_2 : fOff Try.prog 8 2 = some 2 := by kernel_rfl
theorem fo_8_3 : fOff Try.prog 8 3 = some 3 := by kernel_rfl
theorem ag_8 : agN Try.prog 8 = some (some 4) := by kernel_rfl
theorem pl_8 : plI Try.prog 8 = some [(0, 1), (1, 1), (2, 1), (3, 1)] := by kernel_rfl
theorem sz_8 : szT Try.prog 8 = some 4 := by kernel_rfl
theorem ze_8 : zeroC Try.prog 8 = some [.int .i64 0, .int .i64 0, .bool false, .int .u8 0] := by kernel_rfl
theorem ag_9 : agN Try.prog 9 = some none := by kernel_rfl
theorem str_9 : isStr Try.prog 9 = true := by kernel_rfl
theorem sz_9 : szT Try.prog 9 = some 1 := by kernel_rfl
theorem ze_9 : zeroC Try.prog 9 = some [sv []] := by kernel_rfl
theorem iss_9 : (Try.prog.underlying 9).isSome = true := by kernel_rfl
theorem ag_10 : agN Try.prog 10 = some none := by kernel_rfl
theorem str_10 : isStr Try.prog 10 = true := by kernel_rfl
theorem sz_10 : szT Try.prog 10 = some 1 := by kernel_rfl
theorem ze_10 : zeroC Try.prog 10 = some [sv []] := by kernel_rfl
theorem iss_10 : (Try.prog.underlying 10).isSome = true := by kernel_rfl
theorem ag_11 : agN Try.prog 11 = some none := by kernel_rfl
theorem str_11 : isStr Try.prog 11 = true := by kernel_rfl
theorem sz_11 : szT Try.prog 11 = some 1 := by kernel_rfl
theorem ze_11 : zeroC Try.prog 11 = some [sv []] := by kernel_rfl
theorem iss_11 : (Try.prog.underlying 11).isSome = true := by kernel_rfl
theorem ag_12 : agN Try.prog 12 = some none := by kernel_rfl
theorem ik_12 : intK Try.prog 12 = some .u64 := by kernel_rfl
theorem sz_12 : szT Try.prog 12 = some 1 := by kernel_rfl
theorem ze_12 : zeroC Try.prog 12 = some [.int .u64 0] := by kernel_rfl
theorem iss_12 : (Try.prog.underlying 12).isSome = true := by kernel_rfl
theorem fo_13_0 : fOff Try.prog 13 0 = some 0 := by kernel_rfl
theorem fo_13_1 : fOff Try.prog 13 1 = some 1 := by kernel_rfl
theorem ag_13 : agN Try.prog 13 = some (some 2) := by kernel_rfl
theorem pl_13 : plI Try.prog 13 = some [(0, 1), (1, 1)] := by kernel_rfl
theorem sz_13 : szT Try.prog 13 = some 2 := by kernel_rfl
theorem ze_13 : zeroC Try.prog 13 = some [sv [], .int .u64 0] := by kernel_rfl
theorem fo_14_0 : fOff Try.prog 14 0 = some 0 := by kernel_rfl
theorem fo_14_1 : fOff Try.prog 14 1 = some 1 := by kernel_rfl
theorem ag_14 : agN Try.prog 14 = some (some 2) := by kernel_rfl
theorem pl_14 : plI Try.prog 14 = some [(0, 1), (1, 1)] := by kernel_rfl
theorem sz_14 : szT Try.prog 14 = some 2 := by kernel_rfl
theorem ze_14 : zeroC Try.prog 14 = some [sv [], .int .u64 0] := by kernel_rfl
theorem ag_15 : agN Try.prog 15 = some none := by kernel_rfl
theorem pt_15 : isPt Try.prog 15 = true := by kernel_rfl
theorem sz_15 : szT Try.prog 15 = some 1 := by kernel_rfl
theorem ze_15 : zeroC Try.prog 15 = some [.pointer none] := by kernel_rfl
theorem ag_16 : agN Try.prog 16 = some none := by kernel_rfl
theorem pt_16 : isPt Try.prog 16 = true := by kernel_rfl
theorem sz_16 : szT Try.prog 16 = some 1 := by kernel_rfl
theorem ze_16 : zeroC Try.prog 16 = some [.pointer none] := by kernel_rfl
theorem ag_17 : agN Try.prog 17 = some none := by kernel_rfl
theorem pt_17 : isPt Try.prog 17 = true := by kernel_rfl
theorem sz_17 : szT Try.prog 17 = some 1 := by kernel_rfl
theorem ze_17 : zeroC Try.prog 17 = some [.pointer none] := by kernel_rfl
theorem fo_18_0 : fOff Try.prog 18 0 = some 0 := by kernel_rfl
theorem ag_18 : agN Try.prog 18 = some (some 1) := by kernel_rfl
theorem pl_18 : plI Try.prog 18 = some [(0, 1)] := by kernel_rfl
theorem sz_18 : szT Try.prog 18 = some 1 := by kernel_rfl
theorem ze_18 : zeroC Try.prog 18 = some [.pointer none] := by kernel_rfl
theorem fo_19_0 : fOff Try.prog 19 0 = some 0 := by kernel_rfl
theorem ag_19 : agN Try.prog 19 = some (some 1) := by kernel_rfl
theorem pl_19 : plI Try.prog 19 = some [(0, 1)] := by kernel_rfl
theorem sz_19 : szT Try.prog 19 = some 1 := by kernel_rfl
theorem ze_19 : zeroC Try.prog 19 = some [.pointer none] := by kernel_rfl
theorem ag_21 : agN Try.prog 21 = some none := by kernel_rfl
theorem ik_21 : intK Try.prog 21 = some .i32 := by kernel_rfl
theorem sz_21 : szT Try.prog 21 = some 1 := by kernel_rfl
theorem ze_21 : zeroC Try.prog 21 = some [.int .i32 0] := by kernel_rfl
theorem iss_21 : (Try.prog.underlying 21).isSome = true := by kernel_rfl
theorem ag_22 : agN Try.prog 22 = some none := by kernel_rfl
theorem el_22 : elT Try.prog 22 = some (31, 4) := by kernel_rfl
theorem ap_22 : apI Try.prog 22 = some (31, 4, 48) := by kernel_rfl
theorem sz_22 : szT Try.prog 22 = some 1 := by kernel_rfl
theorem ze_22 : zeroC Try.prog 22 = some [.slice none 0 0] := by kernel_rfl
theorem ag_25 : agN Try.prog 25 = some none := by kernel_rfl
theorem pt_25 : isPt Try.prog 25 = true := by kernel_rfl
theorem sz_25 : szT Try.prog 25 = some 1 := by kernel_rfl
theorem ze_25 : zeroC Try.prog 25 = some [.pointer none] := by kernel_rfl
theorem ag_26 : agN Try.prog 26 = some none := by kernel_rfl
theorem ik_26 : intK Try.prog 26 = some .i64 := by kernel_rfl
theorem sz_26 : szT Try.prog 26 = some 1 := by kernel_rfl
theorem ze_26 : zeroC Try.prog 26 = some [.int .i64 0] := by kernel_rfl
theorem iss_26 : (Try.prog.underlying 26).isSome = true := by kernel_rfl
theorem ag_29 : agN Try.prog 29 = some none := by kernel_rfl
theorem el_29 : elT Try.prog 29 = some (5, 1) := by kernel_rfl
theorem ap_29 : apI Try.prog 29 = some (5, 1, 1) := by kernel_rfl
theorem by_29 : byT Try.prog 29 = true := by kernel_rfl
theorem sz_29 : szT Try.prog 29 = some 1 := by kernel_rfl
theorem ze_29 : zeroC Try.prog 29 = some [.slice none 0 0] := by kernel_rfl
theorem fo_30_0 : fOff Try.prog 30 0 = some 0 := by kernel_rfl
theorem fo_30_1 : fOff Try.prog 30 1 = some 1 := by kernel_rfl
theorem fo_30_2 : fOff Try.prog 30 2 = some 2 := by kernel_rfl
theorem fo_30_3 : fOff Try.prog 30 3 = some 3 := by kernel_rfl
theorem ag_30 : agN Try.prog 30 = some (some 4) := by kernel_rfl
theorem pl_30 : plI Try.prog 30 = some [(0, 1), (1, 1), (2, 1), (3, 1)] := by kernel_rfl
theorem sz_30 : szT Try.prog 30 = some 4 := by kernel_rfl
theorem ze_30 : zeroC Try.prog 30 = some [.int .i64 0, .int .i64 0, .int .i64 0, .slice none 0 0] := by kernel_rfl
theorem fo_31_0 : fOff Try.prog 31 0 = some 0 := by kernel_rfl
theorem fo_31_1 : fOff Try.prog 31 1 = some 1 := by kernel_rfl
theorem fo_31_2 : fOff Try.prog 31 2 = some 2 := by kernel_rfl
theorem fo_31_3 : fOff Try.prog 31 3 = some 3 := by kernel_rfl
theorem ag_31 : agN Try.prog 31 = some (some 4) := by kernel_rfl
theorem pl_31 : plI Try.prog 31 = some [(0, 1), (1, 1), (2, 1), (3, 1)] := by kernel_rfl
theorem sz_31 : szT Try.prog 31 = some 4 := by kernel_rfl
theorem ze_31 : zeroC Try.prog 31 = some [.int .i64 0, .int .i64 0, .int .i64 0, .slice none 0 0] := by kernel_rfl
theorem ag_34 : agN Try.prog 34 = some none := by kernel_rfl
theorem pt_34 : isPt Try.prog 34 = true := by kernel_rfl
theorem sz_34 : szT Try.prog 34 = some 1 := by kernel_rfl
theorem ze_34 : zeroC Try.prog 34 = some [.pointer none] := by kernel_rfl
theorem ag_37 : agN Try.prog 37 = some (some 4) := by kernel_rfl
theorem ar_37 : arT Try.prog 37 = some (4, 29, 1) := by kernel_rfl
theorem sz_37 : szT Try.prog 37 = some 4 := by kernel_rfl
theorem ze_37 : zeroC Try.prog 37 = some [.slice none 0 0, .slice none 0 0, .slice none 0 0, .slice none 0 0] := by kernel_rfl
theorem ag_43 : agN Try.prog 43 = some (some 4) := by kernel_rfl
theorem ar_43 : arT Try.prog 43 = some (4, 9, 1) := by kernel_rfl
theorem sz_43 : szT Try.prog 43 = some 4 := by kernel_rfl
theorem ze_43 : zeroC Try.prog 43 = some [sv [], sv [], sv [], sv []] := by kernel_rfl
theorem ag_49 : agN Try.prog 49 = some none := by kernel_rfl
theorem el_49 : elT Try.prog 49 = some (60, 2) := by kernel_rfl
theorem ap_49 : apI Try.prog 49 = some (60, 2, 32) := by kernel_rfl
theorem sz_49 : szT Try.prog 49 = some 1 := by kernel_rfl
theorem ze_49 : zeroC Try.prog 49 = some [.slice none 0 0] := by kernel_rfl
theorem ag_51 : agN Try.prog 51 = some none := by kernel_rfl
theorem ik_51 : intK Try.prog 51 = some .u32 := by kernel_rfl
theorem sz_51 : szT Try.prog 51 = some 1 := by kernel_rfl
theorem ze_51 : zeroC Try.prog 51 = some [.int .u32 0] := by kernel_rfl
theorem iss_51 : (Try.prog.underlying 51).isSome = true := by kernel_rfl
theorem ag_52 : agN Try.prog 52 = some (some 256) := by kernel_rfl
theorem ar_52 : arT Try.prog 52 = some (256, 51, 1) := by kernel_rfl
theorem ag_53 : agN Try.prog 53 = some (some 256) := by kernel_rfl
theorem ar_53 : arT Try.prog 53 = some (256, 51, 1) := by kernel_rfl
theorem ag_55 : agN Try.prog 55 = some none := by kernel_rfl
theorem pt_55 : isPt Try.prog 55 = true := by kernel_rfl
theorem sz_55 : szT Try.prog 55 = some 1 := by kernel_rfl
theorem ze_55 : zeroC Try.prog 55 = some [.pointer none] := by kernel_rfl
theorem ag_56 : agN Try.prog 56 = some none := by kernel_rfl
theorem el_56 : elT Try.prog 56 = some (29, 1) := by kernel_rfl
theorem ap_56 : apI Try.prog 56 = some (29, 1, 24) := by kernel_rfl
theorem sz_56 : szT Try.prog 56 = some 1 := by kernel_rfl
theorem ze_56 : zeroC Try.prog 56 = some [.slice none 0 0] := by kernel_rfl
theorem fo_59_0 : fOff Try.prog 59 0 = some 0 := by kernel_rfl
theorem fo_59_1 : fOff Try.prog 59 1 = some 1 := by kernel_rfl
theorem ag_59 : agN Try.prog 59 = some (some 2) := by kernel_rfl
theorem pl_59 : plI Try.prog 59 = some [(0, 1), (1, 1)] := by kernel_rfl
theorem sz_59 : szT Try.prog 59 = some 2 := by kernel_rfl
theorem ze_59 : zeroC Try.prog 59 = some [.int .i64 0, .slice none 0 0] := by kernel_rfl
theorem fo_60_0 : fOff Try.prog 60 0 = some 0 := by kernel_rfl
theorem fo_60_1 : fOff Try.prog 60 1 = some 1 := by kernel_rfl
theorem ag_60 : agN Try.prog 60 = some (some 2) := by kernel_rfl
theorem pl_60 : plI Try.prog 60 = some [(0, 1), (1, 1)] := by kernel_rfl
theorem sz_60 : szT Try.prog 60 = some 2 := by kernel_rfl
theorem ze_60 : zeroC Try.prog 60 = some [.int .i64 0, .slice none 0 0] := by kernel_rfl
theorem ag_70 : agN Try.prog 70 = some none := by kernel_rfl
theorem pt_70 : isPt Try.prog 70 = true := by kernel_rfl
theorem sz_70 : szT Try.prog 70 = some 1 := by kernel_rfl
theorem ze_70 : zeroC Try.prog 70 = some [.pointer none] := by kernel_rfl
theorem ag_81 : agN Try.prog 81 = some none := by kernel_rfl
theorem el_81 : elT Try.prog 81 = some (3, 1) := by kernel_rfl
theorem ap_81 : apI Try.prog 81 = some (3, 1, 8) := by kernel_rfl
theorem sz_81 : szT Try.prog 81 = some 1 := by kernel_rfl
theorem ze_81 : zeroC Try.prog 81 = some [.slice none 0 0] := by kernel_rfl
theorem ag_83 : agN Try.prog 83 = some none := by kernel_rfl
theorem pt_83 : isPt Try.prog 83 = true := by kernel_rfl
theorem sz_83 : szT Try.prog 83 = some 1 := by kernel_rfl
theorem ze_83 : zeroC Try.prog 83 = some [.pointer none] := by kernel_rfl
theorem fo_86_0 : fOff Try.prog 86 0 = some 0 := by kernel_rfl
theorem fo_86_1 : fOff Try.prog 86 1 = some 1 := by kernel_rfl
theorem fo_86_2 : fOff Try.prog 86 2 = some 2 := by kernel_rfl
theorem fo_86_3 : fOff Try.prog 86 3 = some 3 := by kernel_rfl
theorem ag_86 : agN Try.prog 86 = some (some 4) := by kernel_rfl
theorem pl_86 : plI Try.prog 86 = some [(0, 1), (1, 1), (2, 1), (3, 1)] := by kernel_rfl
theorem sz_86 : szT Try.prog 86 = some 4 := by kernel_rfl
theorem ze_86 : zeroC Try.prog 86 = some [.int .i64 0, .slice none 0 0, .slice none 0 0, .int .i64 0] := by kernel_rfl
theorem fo_87_0 : fOff Try.prog 87 0 = some 0 := by kernel_rfl
theorem fo_87_1 : fOff Try.prog 87 1 = some 1 := by kernel_rfl
theorem fo_87_2 : fOff Try.prog 87 2 = some 2 := by kernel_rfl
theorem fo_87_3 : fOff Try.prog 87 3 = some 3 := by kernel_rfl
theorem ag_87 : agN Try.prog 87 = some (some 4) := by kernel_rfl
theorem pl_87 : plI Try.prog 87 = some [(0, 1), (1, 1), (2, 1), (3, 1)] := by kernel_rfl
theorem sz_87 : szT Try.prog 87 = some 4 := by kernel_rfl
theorem ze_87 : zeroC Try.prog 87 = some [.int .i64 0, .slice none 0 0, .slice none 0 0, .int .i64 0] := by kernel_rfl
theorem ag_91 : agN Try.prog 91 = some none := by kernel_rfl
theorem el_91 : elT Try.prog 91 = some (93, 2) := by kernel_rfl
theorem ap_91 : apI Try.prog 91 = some (93, 2, 32) := by kernel_rfl
theorem sz_91 : szT Try.prog 91 = some 1 := by kernel_rfl
theorem ze_91 : zeroC Try.prog 91 = some [.slice none 0 0] := by kernel_rfl
theorem fo_93_0 : fOff Try.prog 93 0 = some 0 := by kernel_rfl
theorem fo_93_1 : fOff Try.prog 93 1 = some 1 := by kernel_rfl
theorem ag_93 : agN Try.prog 93 = some (some 2) := by kernel_rfl
theorem pl_93 : plI Try.prog 93 = some [(0, 1), (1, 1)] := by kernel_rfl
theorem sz_93 : szT Try.prog 93 = some 2 := by kernel_rfl
theorem ze_93 : zeroC Try.prog 93 = some [.int .i64 0, .slice none 0 0] := by kernel_rfl
theorem ag_97 : agN Try.prog 97 = some none := by kernel_rfl
theorem el_97 : elT Try.prog 97 = some (102, 4) := by kernel_rfl
theorem ap_97 : apI Try.prog 97 = some (102, 4, 48) := by kernel_rfl
theorem sz_97 : szT Try.prog 97 = some 1 := by kernel_rfl
theorem ze_97 : zeroC Try.prog 97 = some [.slice none 0 0] := by kernel_rfl
theorem fo_98_0 : fOff Try.prog 98 0 = some 0 := by kernel_rfl
theorem fo_98_1 : fOff Try.prog 98 1 = some 1 := by kernel_rfl
theorem fo_98_2 : fOff Try.prog 98 2 = some 5 := by kernel_rfl
theorem fo_98_3 : fOff Try.prog 98 3 = some 9 := by kernel_rfl
theorem fo_98_4 : fOff Try.prog 98 4 = some 10 := by kernel_rfl
theorem fo_98_5 : fOff Try.prog 98 5 = some 11 := by kernel_rfl
theorem fo_98_6 : fOff Try.prog 98 6 = some 12 := by kernel_rfl
theorem fo_98_7 : fOff Try.prog 98 7 = some 13 := by kernel_rfl
theorem fo_98_8 : fOff Try.prog 98 8 = some 14 := by kernel_rfl
theorem ag_98 : agN Try.prog 98 = some (some 15) := by kernel_rfl
theorem pl_98 : plI Try.prog 98 = some [(0, 1), (1, 4), (5, 4), (9, 1), (10, 1), (11, 1), (12, 1), (13, 1), (14, 1)] := by kernel_rfl
theorem sz_98 : szT Try.prog 98 = some 15 := by kernel_rfl
theorem ze_98 : zeroC Try.prog 98 = some [.int .i64 0, .slice none 0 0, .slice none 0 0, .slice none 0 0, .slice none 0 0, .slice none 0 0, .slice none 0 0, .slice none 0 0, .slice none 0 0, .slice none 0 0, .int .i64 0, .int .i64 0, .bool false, .int .i64 0, .bool false] := by kernel_rfl
theorem fo_99_0 : fOff Try.prog 99 0 = some 0 := by kernel_rfl
theorem fo_99_1 : fOff Try.prog 99 1 = some 1 := by kernel_rfl
theorem fo_99_2 : fOff Try.prog 99 2 = some 5 := by kernel_rfl
theorem fo_99_3 : fOff Try.prog 99 3 = some 9 := by kernel_rfl
theorem fo_99_4 : fOff Try.prog 99 4 = some 10 := by kernel_rfl
theorem fo_99_5 : fOff Try.prog 99 5 = some 11 := by kernel_rfl
theorem fo_99_6 : fOff Try.prog 99 6 = some 12 := by kernel_rfl
theorem fo_99_7 : fOff Try.prog 99 7 = some 13 := by kernel_rfl
theorem fo_99_8 : fOff Try.prog 99 8 = some 14 := by kernel_rfl
theorem ag_99 : agN Try.prog 99 = some (some 15) := by kernel_rfl
theorem pl_99 : plI Try.prog 99 = some [(0, 1), (1, 4), (5, 4), (9, 1), (10, 1), (11, 1), (12, 1), (13, 1), (14, 1)] := by kernel_rfl
theorem sz_99 : szT Try.prog 99 = some 15 := by kernel_rfl
theorem ze_99 : zeroC Try.prog 99 = some [.int .i64 0, .slice none 0 0, .slice none 0 0, .slice none 0 0, .slice none 0 0, .slice none 0 0, .slice none 0 0, .slice none 0 0, .slice none 0 0, .slice none 0 0, .int .i64 0, .int .i64 0, .bool false, .int .i64 0, .bool false] := by kernel_rfl
theorem fo_101_0 : fOff Try.prog 101 0 = some 0 := by kernel_rfl
theorem fo_101_1 : fOff Try.prog 101 1 = some 1 := by kernel_rfl
theorem fo_101_2 : fOff Try.prog 101 2 = some 2 := by kernel_rfl
theorem fo_101_3 : fOff Try.prog 101 3 = some 3 := by kernel_rfl
theorem ag_101 : agN Try.prog 101 = some (some 4) := by kernel_rfl
theorem pl_101 : plI Try.prog 101 = some [(0, 1), (1, 1), (2, 1), (3, 1)] := by kernel_rfl
theorem sz_101 : szT Try.prog 101 = some 4 := by kernel_rfl
theorem ze_101 : zeroC Try.prog 101 = some [.int .i64 0, .bool false, .int .i64 0, .slice none 0 0] := by kernel_rfl
theorem fo_102_0 : fOff Try.prog 102 0 = some 0 := by kernel_rfl
theorem fo_102_1 : fOff Try.prog 102 1 = some 1 := by kernel_rfl
theorem fo_102_2 : fOff Try.prog 102 2 = some 2 := by kernel_rfl
theorem fo_102_3 : fOff Try.prog 102 3 = some 3 := by kernel_rfl
theorem ag_102 : agN Try.prog 102 = some (some 4) := by kernel_rfl
theorem pl_102 : plI Try.prog 102 = some [(0, 1), (1, 1), (2, 1), (3, 1)] := by kernel_rfl
theorem sz_102 : szT Try.prog 102 = some 4 := by kernel_rfl
theorem ze_102 : zeroC Try.prog 102 = some [.int .i64 0, .bool false, .int .i64 0, .slice none 0 0] := by kernel_rfl
theorem ag_103 : agN Try.prog 103 = some none := by kernel_rfl
theorem el_103 : elT Try.prog 103 = some (107, 3) := by kernel_rfl
theorem ap_103 : apI Try.prog 103 = some (107, 3, 24) := by kernel_rfl
theorem sz_103 : szT Try.prog 103 = some 1 := by kernel_rfl
theorem ze_103 : zeroC Try.prog 103 = some [.slice none 0 0] := by kernel_rfl
theorem fo_104_0 : fOff Try.prog 104 0 = some 0 := by kernel_rfl
theorem fo_104_1 : fOff Try.prog 104 1 = some 4 := by kernel_rfl
theorem fo_104_2 : fOff Try.prog 104 2 = some 5 := by kernel_rfl
theorem fo_104_3 : fOff Try.prog 104 3 = some 6 := by kernel_rfl
theorem fo_104_4 : fOff Try.prog 104 4 = some 7 := by kernel_rfl
theorem fo_104_5 : fOff Try.prog 104 5 = some 8 := by kernel_rfl
theorem ag_104 : agN Try.prog 104 = some (some 9) := by kernel_rfl
theorem pl_104 : plI Try.prog 104 = some [(0, 4), (4, 1), (5, 1), (6, 1), (7, 1), (8, 1)] := by kernel_rfl
theorem sz_104 : szT Try.prog 104 = some 9 := by kernel_rfl
theorem ze_104 : zeroC Try.prog 104 = some [.slice none 0 0, .slice none 0 0, .slice none 0 0, .slice none 0 0, .slice none 0 0, .int .i64 0, .int .i64 0, .int .i64 0, .bool false] := by kernel_rfl
theorem fo_105_0 : fOff Try.prog 105 0 = some 0 := by kernel_rfl
theorem fo_105_1 : fOff Try.prog 105 1 = some 4 := by kernel_rfl
theorem fo_105_2 : fOff Try.prog 105 2 = some 5 := by kernel_rfl
theorem fo_105_3 : fOff Try.prog 105 3 = some 6 := by kernel_rfl
theorem fo_105_4 : fOff Try.prog 105 4 = some 7 := by kernel_rfl
theorem fo_105_5 : fOff Try.prog 105 5 = some 8 := by kernel_rfl
theorem ag_105 : agN Try.prog 105 = some (some 9) := by kernel_rfl
theorem pl_105 : plI Try.prog 105 = some [(0, 4), (4, 1), (5, 1), (6, 1), (7, 1), (8, 1)] := by kernel_rfl
theorem sz_105 : szT Try.prog 105 = some 9 := by kernel_rfl
theorem ze_105 : zeroC Try.prog 105 = some [.slice none 0 0, .slice none 0 0, .slice none 0 0, .slice none 0 0, .slice none 0 0, .int .i64 0, .int .i64 0, .int .i64 0, .bool false] := by kernel_rfl
theorem fo_106_0 : fOff Try.prog 106 0 = some 0 := by kernel_rfl
theorem fo_106_1 : fOff Try.prog 106 1 = some 1 := by kernel_rfl
theorem fo_106_2 : fOff Try.prog 106 2 = some 2 := by kernel_rfl
theorem ag_106 : agN Try.prog 106 = some (some 3) := by kernel_rfl
theorem pl_106 : plI Try.prog 106 = some [(0, 1), (1, 1), (2, 1)] := by kernel_rfl
theorem sz_106 : szT Try.prog 106 = some 3 := by kernel_rfl
theorem ze_106 : zeroC Try.prog 106 = some [.int .i64 0, .int .u8 0, .int .i64 0] := by kernel_rfl
theorem fo_107_0 : fOff Try.prog 107 0 = some 0 := by kernel_rfl
theorem fo_107_1 : fOff Try.prog 107 1 = some 1 := by kernel_rfl
theorem fo_107_2 : fOff Try.prog 107 2 = some 2 := by kernel_rfl
theorem ag_107 : agN Try.prog 107 = some (some 3) := by kernel_rfl
theorem pl_107 : plI Try.prog 107 = some [(0, 1), (1, 1), (2, 1)] := by kernel_rfl
theorem sz_107 : szT Try.prog 107 = some 3 := by kernel_rfl
theorem ze_107 : zeroC Try.prog 107 = some [.int .i64 0, .int .u8 0, .int .i64 0] := by kernel_rfl
theorem fo_110_0 : fOff Try.prog 110 0 = some 0 := by kernel_rfl
theorem fo_110_1 : fOff Try.prog 110 1 = some 1 := by kernel_rfl
theorem fo_110_2 : fOff Try.prog 110 2 = some 257 := by kernel_rfl
theorem fo_110_3 : fOff Try.prog 110 3 = some 258 := by kernel_rfl
theorem fo_110_4 : fOff Try.prog 110 4 = some 259 := by kernel_rfl
theorem fo_110_5 : fOff Try.prog 110 5 = some 260 := by kernel_rfl
theorem fo_110_6 : fOff Try.prog 110 6 = some 261 := by kernel_rfl
theorem ag_110 : agN Try.prog 110 = some (some 262) := by kernel_rfl
theorem pl_110 : plI Try.prog 110 = some [(0, 1), (1, 256), (257, 1), (258, 1), (259, 1), (260, 1), (261, 1)] := by kernel_rfl
theorem fo_111_0 : fOff Try.prog 111 0 = some 0 := by kernel_rfl
theorem fo_111_1 : fOff Try.prog 111 1 = some 1 := by kernel_rfl
theorem fo_111_2 : fOff Try.prog 111 2 = some 257 := by kernel_rfl
theorem fo_111_3 : fOff Try.prog 111 3 = some 258 := by kernel_rfl
theorem fo_111_4 : fOff Try.prog 111 4 = some 259 := by kernel_rfl
theorem fo_111_5 : fOff Try.prog 111 5 = some 260 := by kernel_rfl
theorem fo_111_6 : fOff Try.prog 111 6 = some 261 := by kernel_rfl
theorem ag_111 : agN Try.prog 111 = some (some 262) := by kernel_rfl
theorem pl_111 : plI Try.prog 111 = some [(0, 1), (1, 256), (257, 1), (258, 1), (259, 1), (260, 1), (261, 1)] := by kernel_rfl
theorem ag_117 : agN Try.prog 117 = some none := by kernel_rfl
theorem ik_117 : intK Try.prog 117 = some .u64 := by kernel_rfl
theorem sz_117 : szT Try.prog 117 = some 1 := by kernel_rfl
theorem ze_117 : zeroC Try.prog 117 = some [.int .u64 0] := by kernel_rfl
theorem iss_117 : (Try.prog.underlying 117).isSome = true := by kernel_rfl
theorem fo_118_0 : fOff Try.prog 118 0 = some 0 := by kernel_rfl
theorem fo_118_1 : fOff Try.prog 118 1 = some 1 := by kernel_rfl
theorem fo_118_2 : fOff Try.prog 118 2 = some 257 := by kernel_rfl
theorem fo_118_3 : fOff Try.prog 118 3 = some 258 := by kernel_rfl
theorem fo_118_4 : fOff Try.prog 118 4 = some 259 := by kernel_rfl
theorem fo_118_5 : fOff Try.prog 118 5 = some 260 := by kernel_rfl
theorem fo_118_6 : fOff Try.prog 118 6 = some 261 := by kernel_rfl
theorem ag_118 : agN Try.prog 118 = some (some 262) := by kernel_rfl
theorem pl_118 : plI Try.prog 118 = some [(0, 1), (1, 256), (257, 1), (258, 1), (259, 1), (260, 1), (261, 1)] := by kernel_rfl
theorem fo_119_0 : fOff Try.prog 119 0 = some 0 := by kernel_rfl
theorem fo_119_1 : fOff Try.prog 119 1 = some 1 := by kernel_rfl
theorem fo_119_2 : fOff Try.prog 119 2 = some 257 := by kernel_rfl
theorem fo_119_3 : fOff Try.prog 119 3 = some 258 := by kernel_rfl
theorem fo_119_4 : fOff Try.prog 119 4 = some 259 := by kernel_rfl
theorem fo_119_5 : fOff Try.prog 119 5 = some 260 := by kernel_rfl
theorem fo_119_6 : fOff Try.prog 119 6 = some 261 := by kernel_rfl
theorem ag_119 : agN Try.prog 119 = some (some 262) := by kernel_rfl
theorem pl_119 : plI Try.prog 119 = some [(0, 1), (1, 256), (257, 1), (258, 1), (259, 1), (260, 1), (261, 1)] := by kernel_rfl
theorem fo_125_0 : fOff Try.prog 125 0 = some 0 := by kernel_rfl
theorem fo_125_1 : fOff Try.prog 125 1 = some 1 := by kernel_rfl
theorem fo_125_2 : fOff Try.prog 125 2 = some 257 := by kernel_rfl
theorem fo_125_3 : fOff Try.prog 125 3 = some 258 := by kernel_rfl
theorem fo_125_4 : fOff Try.prog 125 4 = some 259 := by kernel_rfl
theorem fo_125_5 : fOff Try.prog 125 5 = some 260 := by kernel_rfl
theorem ag_125 : agN Try.prog 125 = some (some 261) := by kernel_rfl
theorem pl_125 : plI Try.prog 125 = some [(0, 1), (1, 256), (257, 1), (258, 1), (259, 1), (260, 1)] := by kernel_rfl
theorem fo_126_0 : fOff Try.prog 126 0 = some 0 := by kernel_rfl
theorem fo_126_1 : fOff Try.prog 126 1 = some 1 := by kernel_rfl
theorem fo_126_2 : fOff Try.prog 126 2 = some 257 := by kernel_rfl
theorem fo_126_3 : fOff Try.prog 126 3 = some 258 := by kernel_rfl
theorem fo_126_4 : fOff Try.prog 126 4 = some 259 := by kernel_rfl
theorem fo_126_5 : fOff Try.prog 126 5 = some 260 := by kernel_rfl
theorem ag_126 : agN Try.prog 126 = some (some 261) := by kernel_rfl
theorem pl_126 : plI Try.prog 126 = some [(0, 1), (1, 256), (257, 1), (258, 1), (259, 1), (260, 1)] := by kernel_rfl
theorem ag_134 : agN Try.prog 134 = some none := by kernel_rfl
theorem ik_134 : intK Try.prog 134 = some .u64 := by kernel_rfl
theorem sz_134 : szT Try.prog 134 = some 1 := by kernel_rfl
theorem ze_134 : zeroC Try.prog 134 = some [.int .u64 0] := by kernel_rfl
theorem iss_134 : (Try.prog.underlying 134).isSome = true := by kernel_rfl
theorem fo_136_0 : fOff Try.prog 136 0 = some 0 := by kernel_rfl
theorem fo_136_1 : fOff Try.prog 136 1 = some 1 := by kernel_rfl
theorem fo_136_2 : fOff Try.prog 136 2 = some 2 := by kernel_rfl
theorem fo_136_3 : fOff Try.prog 136 3 = some 3 := by kernel_rfl
theorem ag_136 : agN Try.prog 136 = some (some 4) := by kernel_rfl
theorem pl_136 : plI Try.prog 136 = some [(0, 1), (1, 1), (2, 1), (3, 1)] := by kernel_rfl
theorem sz_136 : szT Try.prog 136 = some 4 := by kernel_rfl
theorem ze_136 : zeroC Try.prog 136 = some [.pointer none, .pointer none, .pointer none, sv []] := by kernel_rfl
theorem fo_137_0 : fOff Try.prog 137 0 = some 0 := by kernel_rfl
theorem fo_137_1 : fOff Try.prog 137 1 = some 1 := by kernel_rfl
theorem fo_137_2 : fOff Try.prog 137 2 = some 2 := by kernel_rfl
theorem fo_137_3 : fOff Try.prog 137 3 = some 3 := by kernel_rfl
theorem ag_137 : agN Try.prog 137 = some (some 4) := by kernel_rfl
theorem pl_137 : plI Try.prog 137 = some [(0, 1), (1, 1), (2, 1), (3, 1)] := by kernel_rfl
theorem sz_137 : szT Try.prog 137 = some 4 := by kernel_rfl
theorem ze_137 : zeroC Try.prog 137 = some [.pointer none, .pointer none, .pointer none, sv []] := by kernel_rfl
theorem ag_138 : agN Try.prog 138 = some (some 0) := by kernel_rfl
theorem ar_138 : arT Try.prog 138 = some (0, 16, 1) := by kernel_rfl
theorem sz_138 : szT Try.prog 138 = some 0 := by kernel_rfl
theorem ag_139 : agN Try.prog 139 = some (some 0) := by kernel_rfl
theorem pl_139 : plI Try.prog 139 = some [(0, 0)] := by kernel_rfl
theorem sz_139 : szT Try.prog 139 = some 0 := by kernel_rfl
theorem ag_140 : agN Try.prog 140 = some (some 0) := by kernel_rfl
theorem pl_140 : plI Try.prog 140 = some [(0, 0)] := by kernel_rfl
theorem sz_140 : szT Try.prog 140 = some 0 := by kernel_rfl
theorem ag_141 : agN Try.prog 141 = some none := by kernel_rfl
theorem ik_141 : intK Try.prog 141 = some .u8 := by kernel_rfl
theorem sz_141 : szT Try.prog 141 = some 1 := by kernel_rfl
theorem ze_141 : zeroC Try.prog 141 = some [.int .u8 0] := by kernel_rfl
theorem iss_141 : (Try.prog.underlying 141).isSome = true := by kernel_rfl
theorem ag_142 : agN Try.prog 142 = some none := by kernel_rfl
theorem ik_142 : intK Try.prog 142 = some .u8 := by kernel_rfl
theorem sz_142 : szT Try.prog 142 = some 1 := by kernel_rfl
theorem ze_142 : zeroC Try.prog 142 = some [.int .u8 0] := by kernel_rfl
theorem iss_142 : (Try.prog.underlying 142).isSome = true := by kernel_rfl
theorem ag_144 : agN Try.prog 144 = some none := by kernel_rfl
theorem pt_144 : isPt Try.prog 144 = true := by kernel_rfl
theorem sz_144 : szT Try.prog 144 = some 1 := by kernel_rfl
theorem ze_144 : zeroC Try.prog 144 = some [.pointer none] := by kernel_rfl
theorem ag_145 : agN Try.prog 145 = some none := by kernel_rfl
theorem ik_145 : intK Try.prog 145 = some .i32 := by kernel_rfl
theorem sz_145 : szT Try.prog 145 = some 1 := by kernel_rfl
theorem ze_145 : zeroC Try.prog 145 = some [.int .i32 0] := by kernel_rfl
theorem iss_145 : (Try.prog.underlying 145).isSome = true := by kernel_rfl
theorem ag_146 : agN Try.prog 146 = some none := by kernel_rfl
theorem ik_146 : intK Try.prog 146 = some .i32 := by kernel_rfl
theorem sz_146 : szT Try.prog 146 = some 1 := by kernel_rfl
theorem ze_146 : zeroC Try.prog 146 = some [.int .i32 0] := by kernel_rfl
theorem iss_146 : (Try.prog.underlying 146).isSome = true := by kernel_rfl
theorem fo_147_0 : fOff Try.prog 147 0 = some 0 := by kernel_rfl
theorem fo_147_1 : fOff Try.prog 147 1 = some 1 := by kernel_rfl
theorem fo_147_2 : fOff Try.prog 147 2 = some 2 := by kernel_rfl
theorem fo_147_3 : fOff Try.prog 147 3 = some 3 := by kernel_rfl
theorem fo_147_4 : fOff Try.prog 147 4 = some 4 := by kernel_rfl
theorem fo_147_5 : fOff Try.prog 147 5 = some 5 := by kernel_rfl
theorem fo_147_6 : fOff Try.prog 147 6 = some 6 := by kernel_rfl
theorem fo_147_7 : fOff Try.prog 147 7 = some 7 := by kernel_rfl
theorem fo_147_8 : fOff Try.prog 147 8 = some 8 := by kernel_rfl
theorem fo_147_9 : fOff Try.prog 147 9 = some 9 := by kernel_rfl
theorem fo_147_10 : fOff Try.prog 147 10 = some 10 := by kernel_rfl
theorem ag_147 : agN Try.prog 147 = some (some 11) := by kernel_rfl
theorem pl_147 : plI Try.prog 147 = some [(0, 1), (1, 1), (2, 1), (3, 1), (4, 1), (5, 1), (6, 1), (7, 1), (8, 1), (9, 1), (10, 1)] := by kernel_rfl
theorem sz_147 : szT Try.prog 147 = some 11 := by kernel_rfl
theorem fo_148_0 : fOff Try.prog 148 0 = some 0 := by kernel_rfl
theorem fo_148_1 : fOff Try.prog 148 1 = some 1 := by kernel_rfl
theorem fo_148_2 : fOff Try.prog 148 2 = some 2 := by kernel_rfl
theorem fo_148_3 : fOff Try.prog 148 3 = some 3 := by kernel_rfl
theorem fo_148_4 : fOff Try.prog 148 4 = some 4 := by kernel_rfl
theorem fo_148_5 : fOff Try.prog 148 5 = some 5 := by kernel_rfl
theorem fo_148_6 : fOff Try.prog 148 6 = some 6 := by kernel_rfl
theorem fo_148_7 : fOff Try.prog 148 7 = some 7 := by kernel_rfl
theorem fo_148_8 : fOff Try.prog 148 8 = some 8 := by kernel_rfl
theorem fo_148_9 : fOff Try.prog 148 9 = some 9 := by kernel_rfl
theorem fo_148_10 : fOff Try.prog 148 10 = some 10 := by kernel_rfl
theorem ag_148 : agN Try.prog 148 = some (some 11) := by kernel_rfl
theorem pl_148 : plI Try.prog 148 = some [(0, 1), (1, 1), (2, 1), (3, 1), (4, 1), (5, 1), (6, 1), (7, 1), (8, 1), (9, 1), (10, 1)] := by kernel_rfl
theorem sz_148 : szT Try.prog 148 = some 11 := by kernel_rfl
end Go.Proofs.Ytgjpeldgjpgbcaa
