/- What the types of the program say, as printed walks name it. No conditions. -/
import Derived.Test.YtdgcbhihmnhnaaaProg
import Derived.Test.YtdgcbhihmnhnaaaSh
namespace Go.Proofs.Ytdgcbhihmnhnaaa
set_option linter.unusedSimpArgs false
set_option linter.unusedVariables false
theorem ag_2 : agN Try.prog 2 = some none := by kernel_rfl
theorem ik_2 : intK Try.prog 2 = some .i64 := by kernel_rfl
theorem sz_2 : szT Try.prog 2 = some 1 := by kernel_rfl
theorem ze_2 : zeroC Try.prog 2 = some [.int .i64 0] := by kernel_rfl
theorem iss_2 : (Try.prog.underlying 2).isSome = true := by kernel_rfl
theorem ag_3 : agN Try.prog 3 = some none := by kernel_rfl
theorem ik_3 : intK Try.prog 3 = some .i64 := by kernel_rfl
theorem sz_3 : szT Try.prog 3 = some 1 := by kernel_rfl
theorem ze_3 : zeroC Try.prog 3 = some [.int .i64 0] := by kernel_rfl
theorem iss_3 : (Try.prog.underlying 3).isSome = true := by kernel_rfl
theorem ag_4 : agN Try.prog 4 = some none := by kernel_rfl
theorem bo_4 : isBo Try.prog 4 = true := by kernel_rfl
theorem sz_4 : szT Try.prog 4 = some 1 := by kernel_rfl
theorem ze_4 : zeroC Try.prog 4 = some [.bool false] := by kernel_rfl
theorem ag_5 : agN Try.prog 5 = some none := by kernel_rfl
theorem ik_5 : intK Try.prog 5 = some .u8 := by kernel_rfl
theorem sz_5 : szT Try.prog 5 = some 1 := by kernel_rfl
theorem ze_5 : zeroC Try.prog 5 = some [.int .u8 0] := by kernel_rfl
theorem iss_5 : (Try.prog.underlying 5).isSome = true := by kernel_rfl
theorem ag_6 : agN Try.prog 6 = some none := by kernel_rfl
theorem ik_6 : intK Try.prog 6 = some .u8 := by kernel_rfl
theorem sz_6 : szT Try.prog 6 = some 1 := by kernel_rfl
theorem ze_6 : zeroC Try.prog 6 = some [.int .u8 0] := by kernel_rfl
theorem iss_6 : (Try.prog.underlying 6).isSome = true := by kernel_rfl
theorem fo_7_0 : fOff Try.prog 7 0 = some 0 := by kernel_rfl
theorem fo_7_1 : fOff Try.prog 7 1 = some 1 := by kernel_rfl
theorem fo_7_2 : fOff Try.prog 7 2 = some 2 := by kernel_rfl
theorem fo_7_3 : fOff Try.prog 7 3 = some 3 := by kernel_rfl
theorem ag_7 : agN Try.prog 7 = some (some 4) := by kernel_rfl
theorem pl_7 : plI Try.prog 7 = some [(0, 1), (1, 1), (2, 1), (3, 1)] := by kernel_rfl
theorem sz_7 : szT Try.prog 7 = some 4 := by kernel_rfl
theorem ze_7 : zeroC Try.prog 7 = some [.int .i64 0, .int .i64 0, .bool false, .int .u8 0] := by kernel_rfl
theorem fo_8_0 : fOff Try.prog 8 0 = some 0 := by kernel_rfl
theorem fo_8_1 : fOff Try.prog 8 1 = some 1 := by kernel_rfl
theorem fo_8_2 : fOff Try.prog 8 2 = some 2 := by kernel_rfl
theorem fo_8_3 : fOff Try.prog 8 3 = some 3 := by kernel_rfl
theorem ag_8 : agN Try.prog 8 = some (some 4) := by kernel_rfl
theorem pl_8 : plI Try.prog 8 = some [(0, 1), (1, 1), (2, 1), (3, 1)] := by kernel_rfl
theorem sz_8 : szT Try.prog 8 = some 4 := by kernel_rfl
theorem ze_8 : zeroC Try.prog 8 = some [.int .i64 0, .int .i64 0, .bool false, .int .u8 0] := by kernel_rfl
theorem ag_9 : agN Try.prog 9 = some none := by kernel_rfl
theorem str_9 : isStr Try.prog 9 = true := by kernel_rfl
theorem sz_9 : szT Try.prog 9 = some 1 := by kernel_rfl
theorem ze_9 : zeroC Try.prog 9 = some [sv []] := by kernel_rfl
theorem iss_9 : (Try.prog.underlying 9).isSome = true := by kernel_rfl
theorem ag_10 : agN Try.prog 10 = some none := by kernel_rfl
theorem str_10 : isStr Try.prog 10 = true := by kernel_rfl
theorem sz_10 : szT Try.prog 10 = some 1 := by kernel_rfl
theorem ze_10 : zeroC Try.prog 10 = some [sv []] := by kernel_rfl
theorem iss_10 : (Try.prog.underlying 10).isSome = true := by kernel_rfl
theorem ag_11 : agN Try.prog 11 = some none := by kernel_rfl
theorem str_11 : isStr Try.prog 11 = true := by kernel_rfl
theorem sz_11 : szT Try.prog 11 = some 1 := by kernel_rfl
theorem ze_11 : zeroC Try.prog 11 = some [sv []] := by kernel_rfl
theorem iss_11 : (Try.prog.underlying 11).isSome = true := by kernel_rfl
theorem ag_12 : agN Try.prog 12 = some none := by kernel_rfl
theorem ik_12 : intK Try.prog 12 = some .u64 := by kernel_rfl
theorem sz_12 : szT Try.prog 12 = some 1 := by kernel_rfl
theorem ze_12 : zeroC Try.prog 12 = some [.int .u64 0] := by kernel_rfl
theorem iss_12 : (Try.prog.underlying 12).isSome = true := by kernel_rfl
theorem fo_13_0 : fOff Try.prog 13 0 = some 0 := by kernel_rfl
theorem fo_13_1 : fOff Try.prog 13 1 = some 1 := by kernel_rfl
theorem ag_13 : agN Try.prog 13 = some (some 2) := by kernel_rfl
theorem pl_13 : plI Try.prog 13 = some [(0, 1), (1, 1)] := by kernel_rfl
theorem sz_13 : szT Try.prog 13 = some 2 := by kernel_rfl
theorem ze_13 : zeroC Try.prog 13 = some [sv [], .int .u64 0] := by kernel_rfl
theorem fo_14_0 : fOff Try.prog 14 0 = some 0 := by kernel_rfl
theorem fo_14_1 : fOff Try.prog 14 1 = some 1 := by kernel_rfl
theorem ag_14 : agN Try.prog 14 = some (some 2) := by kernel_rfl
theorem pl_14 : plI Try.prog 14 = some [(0, 1), (1, 1)] := by kernel_rfl
theorem sz_14 : szT Try.prog 14 = some 2 := by kernel_rfl
theorem ze_14 : zeroC Try.prog 14 = some [sv [], .int .u64 0] := by kernel_rfl
theorem ag_15 : agN Try.prog 15 = some none := by kernel_rfl
theorem pt_15 : isPt Try.prog 15 = true := by kernel_rfl
theorem sz_15 : szT Try.prog 15 = some 1 := by kernel_rfl
theorem ze_15 : zeroC Try.prog 15 = some [.pointer none] := by kernel_rfl
theorem ag_16 : agN Try.prog 16 = some none := by kernel_rfl
theorem pt_16 : isPt Try.prog 16 = true := by kernel_rfl
theorem sz_16 : szT Try.prog 16 = some 1 := by kernel_rfl
theorem ze_16 : zeroC Try.prog 16 = some [.pointer none] := by kernel_rfl
theorem ag_17 : agN Try.prog 17 = some none := by kernel_rfl
theorem pt_17 : isPt Try.prog 17 = true := by kernel_rfl
theorem sz_17 : szT Try.prog 17 = some 1 := by kernel_rfl
theorem ze_17 : zeroC Try.prog 17 = some [.pointer none] := by kernel_rfl
theorem fo_18_0 : fOff Try.prog 18 0 = some 0 := by kernel_rfl
theorem ag_18 : agN Try.prog 18 = some (some 1) := by kernel_rfl
theorem pl_18 : plI Try.prog 18 = some [(0, 1)] := by kernel_rfl
theorem sz_18 : szT Try.prog 18 = some 1 := by kernel_rfl
theorem ze_18 : zeroC Try.prog 18 = some [.pointer none] := by kernel_rfl
theorem fo_19_0 : fOff Try.prog 19 0 = some 0 := by kernel_rfl
theorem ag_19 : agN Try.prog 19 = some (some 1) := by kernel_rfl
theorem pl_19 : plI Try.prog 19 = some [(0, 1)] := by kernel_rfl
theorem sz_19 : szT Try.prog 19 = some 1 := by kernel_rfl
theorem ze_19 : zeroC Try.prog 19 = some [.pointer none] := by kernel_rfl
theorem ag_21 : agN Try.prog 21 = some none := by kernel_rfl
theorem ik_21 : intK Try.prog 21 = some .i32 := by kernel_rfl
theorem sz_21 : szT Try.prog 21 = some 1 := by kernel_rfl
theorem ze_21 : zeroC Try.prog 21 = some [.int .i32 0] := by kernel_rfl
theorem iss_21 : (Try.prog.underlying 21).isSome = true := by kernel_rfl
theorem ag_22 : agN Try.prog 22 = some none := by kernel_rfl
theorem el_22 : elT Try.prog 22 = some (31, 4) := by kernel_rfl
theorem ap_22 : apI Try.prog 22 = some (31, 4, 48) := by kernel_rfl
theorem sz_22 : szT Try.prog 22 = some 1 := by kernel_rfl
theorem ze_22 : zeroC Try.prog 22 = some [.slice none 0 0] := by kernel_rfl
theorem ag_25 : agN Try.prog 25 = some none := by kernel_rfl
theorem pt_25 : isPt Try.prog 25 = true := by kernel_rfl
theorem sz_25 : szT Try.prog 25 = some 1 := by kernel_rfl
theorem ze_25 : zeroC Try.prog 25 = some [.pointer none] := by kernel_rfl
theorem ag_26 : agN Try.prog 26 = some none := by kernel_rfl
theorem ik_26 : intK Try.prog 26 = some .i64 := by kernel_rfl
theorem sz_26 : szT Try.prog 26 = some 1 := by kernel_rfl
theorem ze_26 : zeroC Try.prog 26 = some [.int .i64 0] := by kernel_rfl
theorem iss_26 : (Try.prog.underlying 26).isSome = true := by kernel_rfl
theorem ag_29 : agN Try.prog 29 = some none := by kernel_rfl
theorem el_29 : elT Try.prog 29 = some (5, 1) := by kernel_rfl
theorem ap_29 : apI Try.prog 29 = some (5, 1, 1) := by kernel_rfl
theorem by_29 : byT Try.prog 29 = true := by kernel_rfl
theorem sz_29 : szT Try.prog 29 = some 1 := by kernel_rfl
theorem ze_29 : zeroC Try.prog 29 = some [.slice none 0 0] := by kernel_rfl
theorem fo_30_0 : fOff Try.prog 30 0 = some 0 := by kernel_rfl
theorem fo_30_1 : fOff Try.prog 30 1 = some 1 := by kernel_rfl
theorem fo_30_2 : fOff Try.prog 30 2 = some 2 := by kernel_rfl
theorem fo_30_3 : fOff Try.prog 30 3 = some 3 := by kernel_rfl
theorem ag_30 : agN Try.prog 30 = some (some 4) := by kernel_rfl
theorem pl_30 : plI Try.prog 30 = some [(0, 1), (1, 1), (2, 1), (3, 1)] := by kernel_rfl
theorem sz_30 : szT Try.prog 30 = some 4 := by kernel_rfl
theorem ze_30 : zeroC Try.prog 30 = some [.int .i64 0, .int .i64 0, .int .i64 0, .slice none 0 0] := by kernel_rfl
theorem fo_31_0 : fOff Try.prog 31 0 = some 0 := by kernel_rfl
theorem fo_31_1 : fOff Try.prog 31 1 = some 1 := by kernel_rfl
theorem fo_31_2 : fOff Try.prog 31 2 = some 2 := by kernel_rfl
theorem fo_31_3 : fOff Try.prog 31 3 = some 3 := by kernel_rfl
theorem ag_31 : agN Try.prog 31 = some (some 4) := by kernel_rfl
theorem pl_31 : plI Try.prog 31 = some [(0, 1), (1, 1), (2, 1), (3, 1)] := by kernel_rfl
theorem sz_31 : szT Try.prog 31 = some 4 := by kernel_rfl
theorem ze_31 : zeroC Try.prog 31 = some [.int .i64 0, .int .i64 0, .int .i64 0, .slice none 0 0] := by kernel_rfl
theorem ag_34 : agN Try.prog 34 = some none := by kernel_rfl
theorem pt_34 : isPt Try.prog 34 = true := by kernel_rfl
theorem sz_34 : szT Try.prog 34 = some 1 := by kernel_rfl
theorem ze_34 : zeroC Try.prog 34 = some [.pointer none] := by kernel_rfl
theorem ag_37 : agN Try.prog 37 = some (some 4) := by kernel_rfl
theorem ar_37 : arT Try.prog 37 = some (4, 29, 1) := by kernel_rfl
theorem sz_37 : szT Try.prog 37 = some 4 := by kernel_rfl
theorem ze_37 : zeroC Try.prog 37 = some [.slice none 0 0, .slice none 0 0, .slice none 0 0, .slice none 0 0] := by kernel_rfl
theorem ag_42 : agN Try.prog 42 = some none := by kernel_rfl
theorem el_42 : elT Try.prog 42 = some (47, 7) := by kernel_rfl
theorem ap_42 : apI Try.prog 42 = some (47, 7, 96) := by kernel_rfl
theorem sz_42 : szT Try.prog 42 = some 1 := by kernel_rfl
theorem ze_42 : zeroC Try.prog 42 = some [.slice none 0 0] := by kernel_rfl
theorem fo_43_0 : fOff Try.prog 43 0 = some 0 := by kernel_rfl
theorem fo_43_1 : fOff Try.prog 43 1 = some 1 := by kernel_rfl
theorem fo_43_2 : fOff Try.prog 43 2 = some 2 := by kernel_rfl
theorem ag_43 : agN Try.prog 43 = some (some 3) := by kernel_rfl
theorem pl_43 : plI Try.prog 43 = some [(0, 1), (1, 1), (2, 1)] := by kernel_rfl
theorem sz_43 : szT Try.prog 43 = some 3 := by kernel_rfl
theorem ze_43 : zeroC Try.prog 43 = some [.int .i64 0, sv [], sv []] := by kernel_rfl
theorem fo_44_0 : fOff Try.prog 44 0 = some 0 := by kernel_rfl
theorem fo_44_1 : fOff Try.prog 44 1 = some 1 := by kernel_rfl
theorem fo_44_2 : fOff Try.prog 44 2 = some 2 := by kernel_rfl
theorem ag_44 : agN Try.prog 44 = some (some 3) := by kernel_rfl
theorem pl_44 : plI Try.prog 44 = some [(0, 1), (1, 1), (2, 1)] := by kernel_rfl
theorem sz_44 : szT Try.prog 44 = some 3 := by kernel_rfl
theorem ze_44 : zeroC Try.prog 44 = some [.int .i64 0, sv [], sv []] := by kernel_rfl
theorem ag_45 : agN Try.prog 45 = some none := by kernel_rfl
theorem el_45 : elT Try.prog 45 = some (9, 1) := by kernel_rfl
theorem ap_45 : apI Try.prog 45 = some (9, 1, 16) := by kernel_rfl
theorem sz_45 : szT Try.prog 45 = some 1 := by kernel_rfl
theorem ze_45 : zeroC Try.prog 45 = some [.slice none 0 0] := by kernel_rfl
theorem fo_46_0 : fOff Try.prog 46 0 = some 0 := by kernel_rfl
theorem fo_46_1 : fOff Try.prog 46 1 = some 3 := by kernel_rfl
theorem fo_46_2 : fOff Try.prog 46 2 = some 4 := by kernel_rfl
theorem fo_46_3 : fOff Try.prog 46 3 = some 5 := by kernel_rfl
theorem fo_46_4 : fOff Try.prog 46 4 = some 6 := by kernel_rfl
theorem ag_46 : agN Try.prog 46 = some (some 7) := by kernel_rfl
theorem pl_46 : plI Try.prog 46 = some [(0, 3), (3, 1), (4, 1), (5, 1), (6, 1)] := by kernel_rfl
theorem sz_46 : szT Try.prog 46 = some 7 := by kernel_rfl
theorem ze_46 : zeroC Try.prog 46 = some [.int .i64 0, sv [], sv [], .int .i64 0, sv [], .slice none 0 0, .int .i64 0] := by kernel_rfl
theorem fo_47_0 : fOff Try.prog 47 0 = some 0 := by kernel_rfl
theorem fo_47_1 : fOff Try.prog 47 1 = some 3 := by kernel_rfl
theorem fo_47_2 : fOff Try.prog 47 2 = some 4 := by kernel_rfl
theorem fo_47_3 : fOff Try.prog 47 3 = some 5 := by kernel_rfl
theorem fo_47_4 : fOff Try.prog 47 4 = some 6 := by kernel_rfl
theorem ag_47 : agN Try.prog 47 = some (some 7) := by kernel_rfl
theorem pl_47 : plI Try.prog 47 = some [(0, 3), (3, 1), (4, 1), (5, 1), (6, 1)] := by kernel_rfl
theorem sz_47 : szT Try.prog 47 = some 7 := by kernel_rfl
theorem ze_47 : zeroC Try.prog 47 = some [.int .i64 0, sv [], sv [], .int .i64 0, sv [], .slice none 0 0, .int .i64 0] := by kernel_rfl
theorem ag_48 : agN Try.prog 48 = some none := by kernel_rfl
theorem el_48 : elT Try.prog 48 = some (152, 2) := by kernel_rfl
theorem ap_48 : apI Try.prog 48 = some (152, 2, 32) := by kernel_rfl
theorem sz_48 : szT Try.prog 48 = some 1 := by kernel_rfl
theorem ze_48 : zeroC Try.prog 48 = some [.slice none 0 0] := by kernel_rfl
theorem fo_49_0 : fOff Try.prog 49 0 = some 0 := by kernel_rfl
theorem fo_49_1 : fOff Try.prog 49 1 = some 1 := by kernel_rfl
theorem fo_49_2 : fOff Try.prog 49 2 = some 4 := by kernel_rfl
theorem fo_49_3 : fOff Try.prog 49 3 = some 5 := by kernel_rfl
theorem fo_49_4 : fOff Try.prog 49 4 = some 6 := by kernel_rfl
theorem fo_49_5 : fOff Try.prog 49 5 = some 7 := by kernel_rfl
theorem fo_49_6 : fOff Try.prog 49 6 = some 14 := by kernel_rfl
theorem fo_49_7 : fOff Try.prog 49 7 = some 15 := by kernel_rfl
theorem ag_49 : agN Try.prog 49 = some (some 16) := by kernel_rfl
theorem pl_49 : plI Try.prog 49 = some [(0, 1), (1, 3), (4, 1), (5, 1), (6, 1), (7, 7), (14, 1), (15, 1)] := by kernel_rfl
theorem sz_49 : szT Try.prog 49 = some 16 := by kernel_rfl
theorem ze_49 : zeroC Try.prog 49 = some [.int .i64 0, .int .i64 0, sv [], sv [], sv [], sv [], .int .i64 0, .int .i64 0, sv [], sv [], .int .i64 0, sv [], .slice none 0 0, .int .i64 0, .slice none 0 0, .slice none 0 0] := by kernel_rfl
theorem fo_50_0 : fOff Try.prog 50 0 = some 0 := by kernel_rfl
theorem fo_50_1 : fOff Try.prog 50 1 = some 1 := by kernel_rfl
theorem fo_50_2 : fOff Try.prog 50 2 = some 4 := by kernel_rfl
theorem fo_50_3 : fOff Try.prog 50 3 = some 5 := by kernel_rfl
theorem fo_50_4 : fOff Try.prog 50 4 = some 6 := by kernel_rfl
theorem fo_50_5 : fOff Try.prog 50 5 = some 7 := by kernel_rfl
theorem fo_50_6 : fOff Try.prog 50 6 = some 14 := by kernel_rfl
theorem fo_50_7 : fOff Try.prog 50 7 = some 15 := by kernel_rfl
theorem ag_50 : agN Try.prog 50 = some (some 16) := by kernel_rfl
theorem pl_50 : plI Try.prog 50 = some [(0, 1), (1, 3), (4, 1), (5, 1), (6, 1), (7, 7), (14, 1), (15, 1)] := by kernel_rfl
theorem sz_50 : szT Try.prog 50 = some 16 := by kernel_rfl
theorem ze_50 : zeroC Try.prog 50 = some [.int .i64 0, .int .i64 0, sv [], sv [], sv [], sv [], .int .i64 0, .int .i64 0, sv [], sv [], .int .i64 0, sv [], .slice none 0 0, .int .i64 0, .slice none 0 0, .slice none 0 0] := by kernel_rfl
theorem ag_59 : agN Try.prog 59 = some none := by kernel_rfl
theorem el_59 : elT Try.prog 59 = some (50, 16) := by kernel_rfl
theorem ap_59 : apI Try.prog 59 = some (50, 16, 232) := by kernel_rfl
theorem sz_59 : szT Try.prog 59 = some 1 := by kernel_rfl
theorem ze_59 : zeroC Try.prog 59 = some [.slice none 0 0] := by kernel_rfl
theorem ag_68 : agN Try.prog 68 = some (some 6) := by kernel_rfl
theorem ar_68 : arT Try.prog 68 = some (6, 3, 1) := by kernel_rfl
theorem sz_68 : szT Try.prog 68 = some 6 := by kernel_rfl
theorem ze_68 : zeroC Try.prog 68 = some [.int .i64 0, .int .i64 0, .int .i64 0, .int .i64 0, .int .i64 0, .int .i64 0] := by kernel_rfl
theorem ag_69 : agN Try.prog 69 = some (some 6) := by kernel_rfl
theorem ar_69 : arT Try.prog 69 = some (6, 3, 1) := by kernel_rfl
theorem sz_69 : szT Try.prog 69 = some 6 := by kernel_rfl
theorem ze_69 : zeroC Try.prog 69 = some [.int .i64 0, .int .i64 0, .int .i64 0, .int .i64 0, .int .i64 0, .int .i64 0] := by kernel_rfl
theorem ag_70 : agN Try.prog 70 = some none := by kernel_rfl
theorem el_70 : elT Try.prog 70 = some (124, 2) := by kernel_rfl
theorem ap_70 : apI Try.prog 70 = some (124, 2, 16) := by kernel_rfl
theorem sz_70 : szT Try.prog 70 = some 1 := by kernel_rfl
theorem ze_70 : zeroC Try.prog 70 = some [.slice none 0 0] := by kernel_rfl
theorem ag_71 : agN Try.prog 71 = some none := by kernel_rfl
theorem el_71 : elT Try.prog 71 = some (128, 20) := by kernel_rfl
theorem ap_71 : apI Try.prog 71 = some (128, 20, 264) := by kernel_rfl
theorem sz_71 : szT Try.prog 71 = some 1 := by kernel_rfl
theorem ze_71 : zeroC Try.prog 71 = some [.slice none 0 0] := by kernel_rfl
theorem ag_72 : agN Try.prog 72 = some none := by kernel_rfl
theorem el_72 : elT Try.prog 72 = some (132, 15) := by kernel_rfl
theorem ap_72 : apI Try.prog 72 = some (132, 15, 176) := by kernel_rfl
theorem sz_72 : szT Try.prog 72 = some 1 := by kernel_rfl
theorem ze_72 : zeroC Try.prog 72 = some [.slice none 0 0] := by kernel_rfl
theorem fo_73_0 : fOff Try.prog 73 0 = some 0 := by kernel_rfl
theorem fo_73_1 : fOff Try.prog 73 1 = some 1 := by kernel_rfl
theorem fo_73_2 : fOff Try.prog 73 2 = some 2 := by kernel_rfl
theorem fo_73_3 : fOff Try.prog 73 3 = some 3 := by kernel_rfl
theorem fo_73_4 : fOff Try.prog 73 4 = some 9 := by kernel_rfl
theorem fo_73_5 : fOff Try.prog 73 5 = some 10 := by kernel_rfl
theorem fo_73_6 : fOff Try.prog 73 6 = some 11 := by kernel_rfl
theorem ag_73 : agN Try.prog 73 = some (some 12) := by kernel_rfl
theorem pl_73 : plI Try.prog 73 = some [(0, 1), (1, 1), (2, 1), (3, 6), (9, 1), (10, 1), (11, 1)] := by kernel_rfl
theorem sz_73 : szT Try.prog 73 = some 12 := by kernel_rfl
theorem ze_73 : zeroC Try.prog 73 = some [.int .i64 0, .int .i64 0, .int .i64 0, .int .i64 0, .int .i64 0, .int .i64 0, .int .i64 0, .int .i64 0, .int .i64 0, .slice none 0 0, .slice none 0 0, .slice none 0 0] := by kernel_rfl
theorem fo_74_0 : fOff Try.prog 74 0 = some 0 := by kernel_rfl
theorem fo_74_1 : fOff Try.prog 74 1 = some 1 := by kernel_rfl
theorem fo_74_2 : fOff Try.prog 74 2 = some 2 := by kernel_rfl
theorem fo_74_3 : fOff Try.prog 74 3 = some 3 := by kernel_rfl
theorem fo_74_4 : fOff Try.prog 74 4 = some 9 := by kernel_rfl
theorem fo_74_5 : fOff Try.prog 74 5 = some 10 := by kernel_rfl
theorem fo_74_6 : fOff Try.prog 74 6 = some 11 := by kernel_rfl
theorem ag_74 : agN Try.prog 74 = some (some 12) := by kernel_rfl
theorem pl_74 : plI Try.prog 74 = some [(0, 1), (1, 1), (2, 1), (3, 6), (9, 1), (10, 1), (11, 1)] := by kernel_rfl
theorem sz_74 : szT Try.prog 74 = some 12 := by kernel_rfl
theorem ze_74 : zeroC Try.prog 74 = some [.int .i64 0, .int .i64 0, .int .i64 0, .int .i64 0, .int .i64 0, .int .i64 0, .int .i64 0, .int .i64 0, .int .i64 0, .slice none 0 0, .slice none 0 0, .slice none 0 0] := by kernel_rfl
theorem ag_75 : agN Try.prog 75 = some none := by kernel_rfl
theorem ik_75 : intK Try.prog 75 = some .u32 := by kernel_rfl
theorem sz_75 : szT Try.prog 75 = some 1 := by kernel_rfl
theorem ze_75 : zeroC Try.prog 75 = some [.int .u32 0] := by kernel_rfl
theorem iss_75 : (Try.prog.underlying 75).isSome = true := by kernel_rfl
theorem ag_77 : agN Try.prog 77 = some (some 256) := by kernel_rfl
theorem ar_77 : arT Try.prog 77 = some (256, 75, 1) := by kernel_rfl
theorem ag_78 : agN Try.prog 78 = some (some 256) := by kernel_rfl
theorem ar_78 : arT Try.prog 78 = some (256, 75, 1) := by kernel_rfl
theorem ag_83 : agN Try.prog 83 = some none := by kernel_rfl
theorem ik_83 : intK Try.prog 83 = some .u64 := by kernel_rfl
theorem sz_83 : szT Try.prog 83 = some 1 := by kernel_rfl
theorem ze_83 : zeroC Try.prog 83 = some [.int .u64 0] := by kernel_rfl
theorem iss_83 : (Try.prog.underlying 83).isSome = true := by kernel_rfl
theorem ag_91 : agN Try.prog 91 = some none := by kernel_rfl
theorem el_91 : elT Try.prog 91 = some (42, 1) := by kernel_rfl
theorem ap_91 : apI Try.prog 91 = some (42, 1, 24) := by kernel_rfl
theorem sz_91 : szT Try.prog 91 = some 1 := by kernel_rfl
theorem ze_91 : zeroC Try.prog 91 = some [.slice none 0 0] := by kernel_rfl
theorem ag_93 : agN Try.prog 93 = some none := by kernel_rfl
theorem el_93 : elT Try.prog 93 = some (100, 4) := by kernel_rfl
theorem ap_93 : apI Try.prog 93 = some (100, 4, 48) := by kernel_rfl
theorem sz_93 : szT Try.prog 93 = some 1 := by kernel_rfl
theorem ze_93 : zeroC Try.prog 93 = some [.slice none 0 0] := by kernel_rfl
theorem fo_94_0 : fOff Try.prog 94 0 = some 0 := by kernel_rfl
theorem fo_94_1 : fOff Try.prog 94 1 = some 1 := by kernel_rfl
theorem fo_94_2 : fOff Try.prog 94 2 = some 5 := by kernel_rfl
theorem fo_94_3 : fOff Try.prog 94 3 = some 9 := by kernel_rfl
theorem fo_94_4 : fOff Try.prog 94 4 = some 10 := by kernel_rfl
theorem fo_94_5 : fOff Try.prog 94 5 = some 11 := by kernel_rfl
theorem fo_94_6 : fOff Try.prog 94 6 = some 12 := by kernel_rfl
theorem fo_94_7 : fOff Try.prog 94 7 = some 13 := by kernel_rfl
theorem fo_94_8 : fOff Try.prog 94 8 = some 14 := by kernel_rfl
theorem ag_94 : agN Try.prog 94 = some (some 15) := by kernel_rfl
theorem pl_94 : plI Try.prog 94 = some [(0, 1), (1, 4), (5, 4), (9, 1), (10, 1), (11, 1), (12, 1), (13, 1), (14, 1)] := by kernel_rfl
theorem sz_94 : szT Try.prog 94 = some 15 := by kernel_rfl
theorem ze_94 : zeroC Try.prog 94 = some [.int .i64 0, .slice none 0 0, .slice none 0 0, .slice none 0 0, .slice none 0 0, .slice none 0 0, .slice none 0 0, .slice none 0 0, .slice none 0 0, .slice none 0 0, .int .i64 0, .int .i64 0, .bool false, .int .i64 0, .bool false] := by kernel_rfl
theorem fo_95_0 : fOff Try.prog 95 0 = some 0 := by kernel_rfl
theorem fo_95_1 : fOff Try.prog 95 1 = some 1 := by kernel_rfl
theorem fo_95_2 : fOff Try.prog 95 2 = some 5 := by kernel_rfl
theorem fo_95_3 : fOff Try.prog 95 3 = some 9 := by kernel_rfl
theorem fo_95_4 : fOff Try.prog 95 4 = some 10 := by kernel_rfl
theorem fo_95_5 : fOff Try.prog 95 5 = some 11 := by kernel_rfl
theorem fo_95_6 : fOff Try.prog 95 6 = some 12 := by kernel_rfl
theorem fo_95_7 : fOff Try.prog 95 7 = some 13 := by kernel_rfl
theorem fo_95_8 : fOff Try.prog 95 8 = some 14 := by kernel_rfl
theorem ag_95 : agN Try.prog 95 = some (some 15) := by kernel_rfl
theorem pl_95 : plI Try.prog 95 = some [(0, 1), (1, 4), (5, 4), (9, 1), (10, 1), (11, 1), (12, 1), (13, 1), (14, 1)] := by kernel_rfl
theorem sz_95 : szT Try.prog 95 = some 15 := by kernel_rfl
theorem ze_95 : zeroC Try.prog 95 = some [.int .i64 0, .slice none 0 0, .slice none 0 0, .slice none 0 0, .slice none 0 0, .slice none 0 0, .slice none 0 0, .slice none 0 0, .slice none 0 0, .slice none 0 0, .int .i64 0, .int .i64 0, .bool false, .int .i64 0, .bool false] := by kernel_rfl
theorem fo_99_0 : fOff Try.prog 99 0 = some 0 := by kernel_rfl
theorem fo_99_1 : fOff Try.prog 99 1 = some 1 := by kernel_rfl
theorem fo_99_2 : fOff Try.prog 99 2 = some 2 := by kernel_rfl
theorem fo_99_3 : fOff Try.prog 99 3 = some 3 := by kernel_rfl
theorem ag_99 : agN Try.prog 99 = some (some 4) := by kernel_rfl
theorem pl_99 : plI Try.prog 99 = some [(0, 1), (1, 1), (2, 1), (3, 1)] := by kernel_rfl
theorem sz_99 : szT Try.prog 99 = some 4 := by kernel_rfl
theorem ze_99 : zeroC Try.prog 99 = some [.int .i64 0, .bool false, .int .i64 0, .slice none 0 0] := by kernel_rfl
theorem fo_100_0 : fOff Try.prog 100 0 = some 0 := by kernel_rfl
theorem fo_100_1 : fOff Try.prog 100 1 = some 1 := by kernel_rfl
theorem fo_100_2 : fOff Try.prog 100 2 = some 2 := by kernel_rfl
theorem fo_100_3 : fOff Try.prog 100 3 = some 3 := by kernel_rfl
theorem ag_100 : agN Try.prog 100 = some (some 4) := by kernel_rfl
theorem pl_100 : plI Try.prog 100 = some [(0, 1), (1, 1), (2, 1), (3, 1)] := by kernel_rfl
theorem sz_100 : szT Try.prog 100 = some 4 := by kernel_rfl
theorem ze_100 : zeroC Try.prog 100 = some [.int .i64 0, .bool false, .int .i64 0, .slice none 0 0] := by kernel_rfl
theorem ag_101 : agN Try.prog 101 = some none := by kernel_rfl
theorem el_101 : elT Try.prog 101 = some (105, 3) := by kernel_rfl
theorem ap_101 : apI Try.prog 101 = some (105, 3, 24) := by kernel_rfl
theorem sz_101 : szT Try.prog 101 = some 1 := by kernel_rfl
theorem ze_101 : zeroC Try.prog 101 = some [.slice none 0 0] := by kernel_rfl
theorem fo_102_0 : fOff Try.prog 102 0 = some 0 := by kernel_rfl
theorem fo_102_1 : fOff Try.prog 102 1 = some 4 := by kernel_rfl
theorem fo_102_2 : fOff Try.prog 102 2 = some 5 := by kernel_rfl
theorem fo_102_3 : fOff Try.prog 102 3 = some 6 := by kernel_rfl
theorem fo_102_4 : fOff Try.prog 102 4 = some 7 := by kernel_rfl
theorem fo_102_5 : fOff Try.prog 102 5 = some 8 := by kernel_rfl
theorem ag_102 : agN Try.prog 102 = some (some 9) := by kernel_rfl
theorem pl_102 : plI Try.prog 102 = some [(0, 4), (4, 1), (5, 1), (6, 1), (7, 1), (8, 1)] := by kernel_rfl
theorem sz_102 : szT Try.prog 102 = some 9 := by kernel_rfl
theorem ze_102 : zeroC Try.prog 102 = some [.slice none 0 0, .slice none 0 0, .slice none 0 0, .slice none 0 0, .slice none 0 0, .int .i64 0, .int .i64 0, .int .i64 0, .bool false] := by kernel_rfl
theorem fo_103_0 : fOff Try.prog 103 0 = some 0 := by kernel_rfl
theorem fo_103_1 : fOff Try.prog 103 1 = some 4 := by kernel_rfl
theorem fo_103_2 : fOff Try.prog 103 2 = some 5 := by kernel_rfl
theorem fo_103_3 : fOff Try.prog 103 3 = some 6 := by kernel_rfl
theorem fo_103_4 : fOff Try.prog 103 4 = some 7 := by kernel_rfl
theorem fo_103_5 : fOff Try.prog 103 5 = some 8 := by kernel_rfl
theorem ag_103 : agN Try.prog 103 = some (some 9) := by kernel_rfl
theorem pl_103 : plI Try.prog 103 = some [(0, 4), (4, 1), (5, 1), (6, 1), (7, 1), (8, 1)] := by kernel_rfl
theorem sz_103 : szT Try.prog 103 = some 9 := by kernel_rfl
theorem ze_103 : zeroC Try.prog 103 = some [.slice none 0 0, .slice none 0 0, .slice none 0 0, .slice none 0 0, .slice none 0 0, .int .i64 0, .int .i64 0, .int .i64 0, .bool false] := by kernel_rfl
theorem fo_104_0 : fOff Try.prog 104 0 = some 0 := by kernel_rfl
theorem fo_104_1 : fOff Try.prog 104 1 = some 1 := by kernel_rfl
theorem fo_104_2 : fOff Try.prog 104 2 = some 2 := by kernel_rfl
theorem ag_104 : agN Try.prog 104 = some (some 3) := by kernel_rfl
theorem pl_104 : plI Try.prog 104 = some [(0, 1), (1, 1), (2, 1)] := by kernel_rfl
theorem sz_104 : szT Try.prog 104 = some 3 := by kernel_rfl
theorem ze_104 : zeroC Try.prog 104 = some [.int .i64 0, .int .u8 0, .int .i64 0] := by kernel_rfl
theorem fo_105_0 : fOff Try.prog 105 0 = some 0 := by kernel_rfl
theorem fo_105_1 : fOff Try.prog 105 1 = some 1 := by kernel_rfl
theorem fo_105_2 : fOff Try.prog 105 2 = some 2 := by kernel_rfl
theorem ag_105 : agN Try.prog 105 = some (some 3) := by kernel_rfl
theorem pl_105 : plI Try.prog 105 = some [(0, 1), (1, 1), (2, 1)] := by kernel_rfl
theorem sz_105 : szT Try.prog 105 = some 3 := by kernel_rfl
theorem ze_105 : zeroC Try.prog 105 = some [.int .i64 0, .int .u8 0, .int .i64 0] := by kernel_rfl
theorem ag_112 : agN Try.prog 112 = some none := by kernel_rfl
theorem el_112 : elT Try.prog 112 = some (44, 3) := by kernel_rfl
theorem ap_112 : apI Try.prog 112 = some (44, 3, 40) := by kernel_rfl
theorem sz_112 : szT Try.prog 112 = some 1 := by kernel_rfl
theorem ze_112 : zeroC Try.prog 112 = some [.slice none 0 0] := by kernel_rfl
theorem fo_123_0 : fOff Try.prog 123 0 = some 0 := by kernel_rfl
theorem fo_123_1 : fOff Try.prog 123 1 = some 1 := by kernel_rfl
theorem ag_123 : agN Try.prog 123 = some (some 2) := by kernel_rfl
theorem pl_123 : plI Try.prog 123 = some [(0, 1), (1, 1)] := by kernel_rfl
theorem sz_123 : szT Try.prog 123 = some 2 := by kernel_rfl
theorem ze_123 : zeroC Try.prog 123 = some [.int .i64 0, .int .i64 0] := by kernel_rfl
theorem fo_124_0 : fOff Try.prog 124 0 = some 0 := by kernel_rfl
theorem fo_124_1 : fOff Try.prog 124 1 = some 1 := by kernel_rfl
theorem ag_124 : agN Try.prog 124 = some (some 2) := by kernel_rfl
theorem pl_124 : plI Try.prog 124 = some [(0, 1), (1, 1)] := by kernel_rfl
theorem sz_124 : szT Try.prog 124 = some 2 := by kernel_rfl
theorem ze_124 : zeroC Try.prog 124 = some [.int .i64 0, .int .i64 0] := by kernel_rfl
theorem fo_127_0 : fOff Try.prog 127 0 = some 0 := by kernel_rfl
theorem fo_127_1 : fOff Try.prog 127 1 = some 2 := by kernel_rfl
theorem fo_127_2 : fOff Try.prog 127 2 = some 4 := by kernel_rfl
theorem ag_127 : agN Try.prog 127 = some (some 20) := by kernel_rfl
theorem pl_127 : plI Try.prog 127 = some [(0, 2), (2, 2), (4, 16)] := by kernel_rfl
theorem sz_127 : szT Try.prog 127 = some 20 := by kernel_rfl
theorem ze_127 : zeroC Try.prog 127 = some [.int .i64 0, .int .i64 0, .int .i64 0, .int .i64 0, .int .i64 0, .int .i64 0, sv [], sv [], sv [], sv [], .int .i64 0, .int .i64 0, sv [], sv [], .int .i64 0, sv [], .slice none 0 0, .int .i64 0, .slice none 0 0, .slice none 0 0] := by kernel_rfl
theorem fo_128_0 : fOff Try.prog 128 0 = some 0 := by kernel_rfl
theorem fo_128_1 : fOff Try.prog 128 1 = some 2 := by kernel_rfl
theorem fo_128_2 : fOff Try.prog 128 2 = some 4 := by kernel_rfl
theorem ag_128 : agN Try.prog 128 = some (some 20) := by kernel_rfl
theorem pl_128 : plI Try.prog 128 = some [(0, 2), (2, 2), (4, 16)] := by kernel_rfl
theorem sz_128 : szT Try.prog 128 = some 20 := by kernel_rfl
theorem ze_128 : zeroC Try.prog 128 = some [.int .i64 0, .int .i64 0, .int .i64 0, .int .i64 0, .int .i64 0, .int .i64 0, sv [], sv [], sv [], sv [], .int .i64 0, .int .i64 0, sv [], sv [], .int .i64 0, sv [], .slice none 0 0, .int .i64 0, .slice none 0 0, .slice none 0 0] := by kernel_rfl
theorem fo_131_0 : fOff Try.prog 131 0 = some 0 := by kernel_rfl
theorem fo_131_1 : fOff Try.prog 131 1 = some 2 := by kernel_rfl
theorem fo_131_2 : fOff Try.prog 131 2 = some 4 := by kernel_rfl
theorem fo_131_3 : fOff Try.prog 131 3 = some 5 := by kernel_rfl
theorem fo_131_4 : fOff Try.prog 131 4 = some 6 := by kernel_rfl
theorem fo_131_5 : fOff Try.prog 131 5 = some 7 := by kernel_rfl
theorem fo_131_6 : fOff Try.prog 131 6 = some 8 := by kernel_rfl
theorem fo_131_7 : fOff Try.prog 131 7 = some 11 := by kernel_rfl
theorem fo_131_8 : fOff Try.prog 131 8 = some 12 := by kernel_rfl
theorem fo_131_9 : fOff Try.prog 131 9 = some 13 := by kernel_rfl
theorem fo_131_10 : fOff Try.prog 131 10 = some 14 := by kernel_rfl
theorem ag_131 : agN Try.prog 131 = some (some 15) := by kernel_rfl
theorem pl_131 : plI Try.prog 131 = some [(0, 2), (2, 2), (4, 1), (5, 1), (6, 1), (7, 1), (8, 3), (11, 1), (12, 1), (13, 1), (14, 1)] := by kernel_rfl
theorem sz_131 : szT Try.prog 131 = some 15 := by kernel_rfl
theorem ze_131 : zeroC Try.prog 131 = some [.int .i64 0, .int .i64 0, .int .i64 0, .int .i64 0, .int .i64 0, sv [], .int .i64 0, sv [], .int .i64 0, sv [], sv [], .int .i64 0, .bool false, sv [], .slice none 0 0] := by kernel_rfl
theorem fo_132_0 : fOff Try.prog 132 0 = some 0 := by kernel_rfl
theorem fo_132_1 : fOff Try.prog 132 1 = some 2 := by kernel_rfl
theorem fo_132_2 : fOff Try.prog 132 2 = some 4 := by kernel_rfl
theorem fo_132_3 : fOff Try.prog 132 3 = some 5 := by kernel_rfl
theorem fo_132_4 : fOff Try.prog 132 4 = some 6 := by kernel_rfl
theorem fo_132_5 : fOff Try.prog 132 5 = some 7 := by kernel_rfl
theorem fo_132_6 : fOff Try.prog 132 6 = some 8 := by kernel_rfl
theorem fo_132_7 : fOff Try.prog 132 7 = some 11 := by kernel_rfl
theorem fo_132_8 : fOff Try.prog 132 8 = some 12 := by kernel_rfl
theorem fo_132_9 : fOff Try.prog 132 9 = some 13 := by kernel_rfl
theorem fo_132_10 : fOff Try.prog 132 10 = some 14 := by kernel_rfl
theorem ag_132 : agN Try.prog 132 = some (some 15) := by kernel_rfl
theorem pl_132 : plI Try.prog 132 = some [(0, 2), (2, 2), (4, 1), (5, 1), (6, 1), (7, 1), (8, 3), (11, 1), (12, 1), (13, 1), (14, 1)] := by kernel_rfl
theorem sz_132 : szT Try.prog 132 = some 15 := by kernel_rfl
theorem ze_132 : zeroC Try.prog 132 = some [.int .i64 0, .int .i64 0, .int .i64 0, .int .i64 0, .int .i64 0, sv [], .int .i64 0, sv [], .int .i64 0, sv [], sv [], .int .i64 0, .bool false, sv [], .slice none 0 0] := by kernel_rfl
theorem ag_137 : agN Try.prog 137 = some none := by kernel_rfl
theorem pt_137 : isPt Try.prog 137 = true := by kernel_rfl
theorem sz_137 : szT Try.prog 137 = some 1 := by kernel_rfl
theorem ze_137 : zeroC Try.prog 137 = some [.pointer none] := by kernel_rfl
theorem fo_151_0 : fOff Try.prog 151 0 = some 0 := by kernel_rfl
theorem fo_151_1 : fOff Try.prog 151 1 = some 1 := by kernel_rfl
theorem ag_151 : agN Try.prog 151 = some (some 2) := by kernel_rfl
theorem pl_151 : plI Try.prog 151 = some [(0, 1), (1, 1)] := by kernel_rfl
theorem sz_151 : szT Try.prog 151 = some 2 := by kernel_rfl
theorem ze_151 : zeroC Try.prog 151 = some [sv [], sv []] := by kernel_rfl
theorem fo_152_0 : fOff Try.prog 152 0 = some 0 := by kernel_rfl
theorem fo_152_1 : fOff Try.prog 152 1 = some 1 := by kernel_rfl
theorem ag_152 : agN Try.prog 152 = some (some 2) := by kernel_rfl
theorem pl_152 : plI Try.prog 152 = some [(0, 1), (1, 1)] := by kernel_rfl
theorem sz_152 : szT Try.prog 152 = some 2 := by kernel_rfl
theorem ze_152 : zeroC Try.prog 152 = some [sv [], sv []] := by kernel_rfl
theorem fo_181_0 : fOff Try.prog 181 0 = some 0 := by kernel_rfl
theorem fo_181_1 : fOff Try.prog 181 1 = some 1 := by kernel_rfl
theorem fo_181_2 : fOff Try.prog 181 2 = some 2 := by kernel_rfl
theorem fo_181_3 : fOff Try.prog 181 3 = some 3 := by kernel_rfl
theorem ag_181 : agN Try.prog 181 = some (some 4) := by kernel_rfl
theorem pl_181 : plI Try.prog 181 = some [(0, 1), (1, 1), (2, 1), (3, 1)] := by kernel_rfl
theorem sz_181 : szT Try.prog 181 = some 4 := by kernel_rfl
theorem ze_181 : zeroC Try.prog 181 = some [.slice none 0 0, .int .i64 0, .int .i64 0, .bool false] := by kernel_rfl
theorem fo_182_0 : fOff Try.prog 182 0 = some 0 := by kernel_rfl
theorem fo_182_1 : fOff Try.prog 182 1 = some 1 := by kernel_rfl
theorem fo_182_2 : fOff Try.prog 182 2 = some 2 := by kernel_rfl
theorem fo_182_3 : fOff Try.prog 182 3 = some 3 := by kernel_rfl
theorem ag_182 : agN Try.prog 182 = some (some 4) := by kernel_rfl
theorem pl_182 : plI Try.prog 182 = some [(0, 1), (1, 1), (2, 1), (3, 1)] := by kernel_rfl
theorem sz_182 : szT Try.prog 182 = some 4 := by kernel_rfl
theorem ze_182 : zeroC Try.prog 182 = some [.slice none 0 0, .int .i64 0, .int .i64 0, .bool false] := by kernel_rfl
theorem ag_195 : agN Try.prog 195 = some none := by kernel_rfl
theorem ik_195 : intK Try.prog 195 = some .u64 := by kernel_rfl
theorem sz_195 : szT Try.prog 195 = some 1 := by kernel_rfl
theorem ze_195 : zeroC Try.prog 195 = some [.int .u64 0] := by kernel_rfl
theorem iss_195 : (Try.prog.underlying 195).isSome = true := by kernel_rfl
theorem fo_208_0 : fOff Try.prog 208 0 = some 0 := by kernel_rfl
theorem fo_208_1 : fOff Try.prog 208 1 = some 1 := by kernel_rfl
theorem fo_208_2 : fOff Try.prog 208 2 = some 2 := by kernel_rfl
theorem fo_208_3 : fOff Try.prog 208 3 = some 3 := by kernel_rfl
theorem ag_208 : agN Try.prog 208 = some (some 4) := by kernel_rfl
theorem pl_208 : plI Try.prog 208 = some [(0, 1), (1, 1), (2, 1), (3, 1)] := by kernel_rfl
theorem sz_208 : szT Try.prog 208 = some 4 := by kernel_rfl
theorem ze_208 : zeroC Try.prog 208 = some [.pointer none, .pointer none, .pointer none, sv []] := by kernel_rfl
theorem fo_209_0 : fOff Try.prog 209 0 = some 0 := by kernel_rfl
theorem fo_209_1 : fOff Try.prog 209 1 = some 1 := by kernel_rfl
theorem fo_209_2 : fOff Try.prog 209 2 = some 2 := by kernel_rfl
theorem fo_209_3 : fOff Try.prog 209 3 = some 3 := by kernel_rfl
theorem ag_209 : agN Try.prog 209 = some (some 4) := by kernel_rfl
theorem pl_209 : plI Try.prog 209 = some [(0, 1), (1, 1), (2, 1), (3, 1)] := by kernel_rfl
theorem sz_209 : szT Try.prog 209 = some 4 := by kernel_rfl
theorem ze_209 : zeroC Try.prog 209 = some [.pointer none, .pointer none, .pointer none, sv []] := by kernel_rfl
theorem ag_210 : agN Try.prog 210 = some (some 0) := by kernel_rfl
theorem ar_210 : arT Try.prog 210 = some (0, 16, 1) := by kernel_rfl
theorem sz_210 : szT Try.prog 210 = some 0 := by kernel_rfl
theorem ag_211 : agN Try.prog 211 = some (some 0) := by kernel_rfl
theorem pl_211 : plI Try.prog 211 = some [(0, 0)] := by kernel_rfl
theorem sz_211 : szT Try.prog 211 = some 0 := by kernel_rfl
theorem ag_212 : agN Try.prog 212 = some (some 0) := by kernel_rfl
theorem pl_212 : plI Try.prog 212 = some [(0, 0)] := by kernel_rfl
theorem sz_212 : szT Try.prog 212 = some 0 := by kernel_rfl
theorem ag_213 : agN Try.prog 213 = some none := by kernel_rfl
theorem ik_213 : intK Try.prog 213 = some .u8 := by kernel_rfl
theorem sz_213 : szT Try.prog 213 = some 1 := by kernel_rfl
theorem ze_213 : zeroC Try.prog 213 = some [.int .u8 0] := by kernel_rfl
theorem iss_213 : (Try.prog.underlying 213).isSome = true := by kernel_rfl
theorem ag_214 : agN Try.prog 214 = some none := by kernel_rfl
theorem ik_214 : intK Try.prog 214 = some .u8 := by kernel_rfl
theorem sz_214 : szT Try.prog 214 = some 1 := by kernel_rfl
theorem ze_214 : zeroC Try.prog 214 = some [.int .u8 0] := by kernel_rfl
theorem iss_214 : (Try.prog.underlying 214).isSome = true := by kernel_rfl
theorem ag_216 : agN Try.prog 216 = some none := by kernel_rfl
theorem pt_216 : isPt Try.prog 216 = true := by kernel_rfl
theorem sz_216 : szT Try.prog 216 = some 1 := by kernel_rfl
theorem ze_216 : zeroC Try.prog 216 = some [.pointer none] := by kernel_rfl
theorem ag_217 : agN Try.prog 217 = some none := by kernel_rfl
theorem ik_217 : intK Try.prog 217 = some .i32 := by kernel_rfl
theorem sz_217 : szT Try.prog 217 = some 1 := by kernel_rfl
theorem ze_217 : zeroC Try.prog 217 = some [.int .i32 0] := by kernel_rfl
theorem iss_217 : (Try.prog.underlying 217).isSome = true := by kernel_rfl
theorem ag_218 : agN Try.prog 218 = some none := by kernel_rfl
theorem ik_218 : intK Try.prog 218 = some .i32 := by kernel_rfl
theorem sz_218 : szT Try.prog 218 = some 1 := by kernel_rfl
theorem ze_218 : zeroC Try.prog 218 = some [.int .i32 0] := by kernel_rfl
theorem iss_218 : (Try.prog.underlying 218).isSome = true := by kernel_rfl
theorem fo_219_0 : fOff Try.prog 219 0 = some 0 := by kernel_rfl
theorem fo_219_1 : fOff Try.prog 219 1 = some 1 := by kernel_rfl
theorem fo_219_2 : fOff Try.prog 219 2 = some 2 := by kernel_rfl
theorem fo_219_3 : fOff Try.prog 219 3 = some 3 := by kernel_rfl
theorem fo_219_4 : fOff Try.prog 219 4 = some 4 := by kernel_rfl
theorem fo_219_5 : fOff Try.prog 219 5 = some 5 := by kernel_rfl
theorem fo_219_6 : fOff Try.prog 219 6 = some 6 := by kernel_rfl
theorem fo_219_7 : fOff Try.prog 219 7 = some 7 := by kernel_rfl
theorem fo_219_8 : fOff Try.prog 219 8 = some 8 := by kernel_rfl
theorem fo_219_9 : fOff Try.prog 219 9 = some 9 := by kernel_rfl
theorem fo_219_10 : fOff Try.prog 219 10 = some 10 := by kernel_rfl
theorem ag_219 : agN Try.prog 219 = some (some 11) := by kernel_rfl
theorem pl_219 : plI Try.prog 219 = some [(0, 1), (1, 1), (2, 1), (3, 1), (4, 1), (5, 1), (6, 1), (7, 1), (8, 1), (9, 1), (10, 1)] := by kernel_rfl
theorem sz_219 : szT Try.prog 219 = some 11 := by kernel_rfl
theorem fo_220_0 : fOff Try.prog 220 0 = some 0 := by kernel_rfl
theorem fo_220_1 : fOff Try.prog 220 1 = some 1 := by kernel_rfl
theorem fo_220_2 : fOff Try.prog 220 2 = some 2 := by kernel_rfl
theorem fo_220_3 : fOff Try.prog 220 3 = some 3 := by kernel_rfl
theorem fo_220_4 : fOff Try.prog 220 4 = some 4 := by kernel_rfl
theorem fo_220_5 : fOff Try.prog 220 5 = some 5 := by kernel_rfl
theorem fo_220_6 : fOff Try.prog 220 6 = some 6 := by kernel_rfl
theorem fo_220_7 : fOff Try.prog 220 7 = some 7 := by kernel_rfl
theorem fo_220_8 : fOff Try.prog 220 8 = some 8 := by kernel_rfl
theorem fo_220_9 : fOff Try.prog 220 9 = some 9 := by kernel_rfl
theorem fo_220_10 : fOff Try.prog 220 10 = some 10 := by kernel_rfl
theorem ag_220 : agN Try.prog 220 = some (some 11) := by kernel_rfl
theorem pl_220 : plI Try.prog 220 = some [(0, 1), (1, 1), (2, 1), (3, 1), (4, 1), (5, 1), (6, 1), (7, 1), (8, 1), (9, 1), (10, 1)] := by kernel_rfl
theorem sz_220 : szT Try.prog 220 = some 11 := by kernel_rfl
end Go.Proofs.Ytdgcbhihmnhnaaa
