/- What the types of the program say, as printed walks name it. No conditions. -/
import Derived.Test.YtpkjlmaphhileaaDoorProg
import Derived.Test.YtpkjlmaphhileaaDoorSh
namespace Go.Proofs.YtpkjlmaphhileaaDoor
set_option linter.unusedSimpArgs false
set_option linter.unusedVariables false
theorem ag_2 : agN Tryd.prog 2 = some none := by kernel_rfl
theorem ik_2 : intK Tryd.prog 2 = some .i64 := by kernel_rfl
theorem sz_2 : szT Tryd.prog 2 = some 1 := by kernel_rfl
theorem ze_2 : zeroC Tryd.prog 2 = some [.int .i64 0] := by kernel_rfl
theorem iss_2 : (Tryd.prog.underlying 2).isSome = true := by kernel_rfl
theorem ag_3 : agN Tryd.prog 3 = some none := by kernel_rfl
theorem ik_3 : intK Tryd.prog 3 = some .i64 := by kernel_rfl
theorem sz_3 : szT Tryd.prog 3 = some 1 := by kernel_rfl
theorem ze_3 : zeroC Tryd.prog 3 = some [.int .i64 0] := by kernel_rfl
theorem iss_3 : (Tryd.prog.underlying 3).isSome = true := by kernel_rfl
theorem ag_4 : agN Tryd.prog 4 = some none := by kernel_rfl
theorem bo_4 : isBo Tryd.prog 4 = true := by kernel_rfl
theorem sz_4 : szT Tryd.prog 4 = some 1 := by kernel_rfl
theorem ze_4 : zeroC Tryd.prog 4 = some [.bool false] := by kernel_rfl
theorem ag_5 : agN Tryd.prog 5 = some none := by kernel_rfl
theorem ik_5 : intK Tryd.prog 5 = some .u8 := by kernel_rfl
theorem sz_5 : szT Tryd.prog 5 = some 1 := by kernel_rfl
theorem ze_5 : zeroC Tryd.prog 5 = some [.int .u8 0] := by kernel_rfl
theorem iss_5 : (Tryd.prog.underlying 5).isSome = true := by kernel_rfl
theorem ag_6 : agN Tryd.prog 6 = some none := by kernel_rfl
theorem ik_6 : intK Tryd.prog 6 = some .u8 := by kernel_rfl
theorem sz_6 : szT Tryd.prog 6 = some 1 := by kernel_rfl
theorem ze_6 : zeroC Tryd.prog 6 = some [.int .u8 0] := by kernel_rfl
theorem iss_6 : (Tryd.prog.underlying 6).isSome = true := by kernel_rfl
theorem fo_7_0 : fOff Tryd.prog 7 0 = some 0 := by kernel_rfl
theorem fo_7_1 : fOff Tryd.prog 7 1 = some 1 := by kernel_rfl
theorem fo_7_2 : fOff Tryd.prog 7 2 = some 2 := by kernel_rfl
theorem fo_7_3 : fOff Tryd.prog 7 3 = some 3 := by kernel_rfl
theorem ag_7 : agN Tryd.prog 7 = some (some 4) := by kernel_rfl
theorem pl_7 : plI Tryd.prog 7 = some [(0, 1), (1, 1), (2, 1), (3, 1)] := by kernel_rfl
theorem sz_7 : szT Tryd.prog 7 = some 4 := by kernel_rfl
theorem ze_7 : zeroC Tryd.prog 7 = some [.int .i64 0, .int .i64 0, .bool false, .int .u8 0] := by kernel_rfl
theorem fo_8_0 : fOff Tryd.prog 8 0 = some 0 := by kernel_rfl
theorem fo_8_1 : fOff Tryd.prog 8 1 = some 1 := by kernel_rfl
theorem fo_8_2 : fOff Tryd.prog 8 2 = some 2 := by kernel_rfl
theorem fo_8_3 : fOff Tryd.prog 8 3 = some 3 := by kernel_rfl
theorem ag_8 : agN Tryd.prog 8 = some (some 4) := by kernel_rfl
theorem pl_8 : plI Tryd.prog 8 = some [(0, 1), (1, 1), (2, 1), (3, 1)] := by kernel_rfl
theorem sz_8 : szT Tryd.prog 8 = some 4 := by kernel_rfl
theorem ze_8 : zeroC Tryd.prog 8 = some [.int .i64 0, .int .i64 0, .bool false, .int .u8 0] := by kernel_rfl
theorem ag_9 : agN Tryd.prog 9 = some none := by kernel_rfl
theorem str_9 : isStr Tryd.prog 9 = true := by kernel_rfl
theorem sz_9 : szT Tryd.prog 9 = some 1 := by kernel_rfl
theorem ze_9 : zeroC Tryd.prog 9 = some [sv []] := by kernel_rfl
theorem iss_9 : (Tryd.prog.underlying 9).isSome = true := by kernel_rfl
theorem ag_10 : agN Tryd.prog 10 = some none := by kernel_rfl
theorem str_10 : isStr Tryd.prog 10 = true := by kernel_rfl
theorem sz_10 : szT Tryd.prog 10 = some 1 := by kernel_rfl
theorem ze_10 : zeroC Tryd.prog 10 = some [sv []] := by kernel_rfl
theorem iss_10 : (Tryd.prog.underlying 10).isSome = true := by kernel_rfl
theorem ag_11 : agN Tryd.prog 11 = some none := by kernel_rfl
theorem str_11 : isStr Tryd.prog 11 = true := by kernel_rfl
theorem sz_11 : szT Tryd.prog 11 = some 1 := by kernel_rfl
theorem ze_11 : zeroC Tryd.prog 11 = some [sv []] := by kernel_rfl
theorem iss_11 : (Tryd.prog.underlying 11).isSome = true := by kernel_rfl
theorem ag_12 : agN Tryd.prog 12 = some none := by kernel_rfl
theorem ik_12 : intK Tryd.prog 12 = some .u64 := by kernel_rfl
theorem sz_12 : szT Tryd.prog 12 = some 1 := by kernel_rfl
theorem ze_12 : zeroC Tryd.prog 12 = some [.int .u64 0] := by kernel_rfl
theorem iss_12 : (Tryd.prog.underlying 12).isSome = true := by kernel_rfl
theorem fo_13_0 : fOff Tryd.prog 13 0 = some 0 := by kernel_rfl
theorem fo_13_1 : fOff Tryd.prog 13 1 = some 1 := by kernel_rfl
theorem ag_13 : agN Tryd.prog 13 = some (some 2) := by kernel_rfl
theorem pl_13 : plI Tryd.prog 13 = some [(0, 1), (1, 1)] := by kernel_rfl
theorem sz_13 : szT Tryd.prog 13 = some 2 := by kernel_rfl
theorem ze_13 : zeroC Tryd.prog 13 = some [sv [], .int .u64 0] := by kernel_rfl
theorem fo_14_0 : fOff Tryd.prog 14 0 = some 0 := by kernel_rfl
theorem fo_14_1 : fOff Tryd.prog 14 1 = some 1 := by kernel_rfl
theorem ag_14 : agN Tryd.prog 14 = some (some 2) := by kernel_rfl
theorem pl_14 : plI Tryd.prog 14 = some [(0, 1), (1, 1)] := by kernel_rfl
theorem sz_14 : szT Tryd.prog 14 = some 2 := by kernel_rfl
theorem ze_14 : zeroC Tryd.prog 14 = some [sv [], .int .u64 0] := by kernel_rfl
theorem ag_15 : agN Tryd.prog 15 = some none := by kernel_rfl
theorem pt_15 : isPt Tryd.prog 15 = true := by kernel_rfl
theorem sz_15 : szT Tryd.prog 15 = some 1 := by kernel_rfl
theorem ze_15 : zeroC Tryd.prog 15 = some [.pointer none] := by kernel_rfl
theorem ag_16 : agN Tryd.prog 16 = some none := by kernel_rfl
theorem pt_16 : isPt Tryd.prog 16 = true := by kernel_rfl
theorem sz_16 : szT Tryd.prog 16 = some 1 := by kernel_rfl
theorem ze_16 : zeroC Tryd.prog 16 = some [.pointer none] := by kernel_rfl
theorem ag_17 : agN Tryd.prog 17 = some none := by kernel_rfl
theorem pt_17 : isPt Tryd.prog 17 = true := by kernel_rfl
theorem sz_17 : szT Tryd.prog 17 = some 1 := by kernel_rfl
theorem ze_17 : zeroC Tryd.prog 17 = some [.pointer none] := by kernel_rfl
theorem fo_18_0 : fOff Tryd.prog 18 0 = some 0 := by kernel_rfl
theorem ag_18 : agN Tryd.prog 18 = some (some 1) := by kernel_rfl
theorem pl_18 : plI Tryd.prog 18 = some [(0, 1)] := by kernel_rfl
theorem sz_18 : szT Tryd.prog 18 = some 1 := by kernel_rfl
theorem ze_18 : zeroC Tryd.prog 18 = some [.pointer none] := by kernel_rfl
theorem fo_19_0 : fOff Tryd.prog 19 0 = some 0 := by kernel_rfl
theorem ag_19 : agN Tryd.prog 19 = some (some 1) := by kernel_rfl
theorem pl_19 : plI Tryd.prog 19 = some [(0, 1)] := by kernel_rfl
theorem sz_19 : szT Tryd.prog 19 = some 1 := by kernel_rfl
theorem ze_19 : zeroC Tryd.prog 19 = some [.pointer none] := by kernel_rfl
theorem ag_21 : agN Tryd.prog 21 = some none := by kernel_rfl
theorem ik_21 : intK Tryd.prog 21 = some .i32 := by kernel_rfl
theorem sz_21 : szT Tryd.prog 21 = some 1 := by kernel_rfl
theorem ze_21 : zeroC Tryd.prog 21 = some [.int .i32 0] := by kernel_rfl
theorem iss_21 : (Tryd.prog.underlying 21).isSome = true := by kernel_rfl
theorem fo_22_0 : fOff Tryd.prog 22 0 = some 0 := by kernel_rfl
theorem fo_22_1 : fOff Tryd.prog 22 1 = some 1 := by kernel_rfl
theorem fo_22_2 : fOff Tryd.prog 22 2 = some 2 := by kernel_rfl
theorem ag_22 : agN Tryd.prog 22 = some (some 3) := by kernel_rfl
theorem pl_22 : plI Tryd.prog 22 = some [(0, 1), (1, 1), (2, 1)] := by kernel_rfl
theorem sz_22 : szT Tryd.prog 22 = some 3 := by kernel_rfl
theorem ze_22 : zeroC Tryd.prog 22 = some [.int .i64 0, sv [], sv []] := by kernel_rfl
theorem fo_23_0 : fOff Tryd.prog 23 0 = some 0 := by kernel_rfl
theorem fo_23_1 : fOff Tryd.prog 23 1 = some 1 := by kernel_rfl
theorem fo_23_2 : fOff Tryd.prog 23 2 = some 2 := by kernel_rfl
theorem ag_23 : agN Tryd.prog 23 = some (some 3) := by kernel_rfl
theorem pl_23 : plI Tryd.prog 23 = some [(0, 1), (1, 1), (2, 1)] := by kernel_rfl
theorem sz_23 : szT Tryd.prog 23 = some 3 := by kernel_rfl
theorem ze_23 : zeroC Tryd.prog 23 = some [.int .i64 0, sv [], sv []] := by kernel_rfl
theorem ag_26 : agN Tryd.prog 26 = some none := by kernel_rfl
theorem ik_26 : intK Tryd.prog 26 = some .i64 := by kernel_rfl
theorem sz_26 : szT Tryd.prog 26 = some 1 := by kernel_rfl
theorem ze_26 : zeroC Tryd.prog 26 = some [.int .i64 0] := by kernel_rfl
theorem iss_26 : (Tryd.prog.underlying 26).isSome = true := by kernel_rfl
theorem ag_35 : agN Tryd.prog 35 = some none := by kernel_rfl
theorem el_35 : elT Tryd.prog 35 = some (9, 1) := by kernel_rfl
theorem ap_35 : apI Tryd.prog 35 = some (9, 1, 16) := by kernel_rfl
theorem sz_35 : szT Tryd.prog 35 = some 1 := by kernel_rfl
theorem ze_35 : zeroC Tryd.prog 35 = some [.slice none 0 0] := by kernel_rfl
theorem fo_36_0 : fOff Tryd.prog 36 0 = some 0 := by kernel_rfl
theorem fo_36_1 : fOff Tryd.prog 36 1 = some 3 := by kernel_rfl
theorem fo_36_2 : fOff Tryd.prog 36 2 = some 4 := by kernel_rfl
theorem fo_36_3 : fOff Tryd.prog 36 3 = some 5 := by kernel_rfl
theorem fo_36_4 : fOff Tryd.prog 36 4 = some 6 := by kernel_rfl
theorem ag_36 : agN Tryd.prog 36 = some (some 7) := by kernel_rfl
theorem pl_36 : plI Tryd.prog 36 = some [(0, 3), (3, 1), (4, 1), (5, 1), (6, 1)] := by kernel_rfl
theorem sz_36 : szT Tryd.prog 36 = some 7 := by kernel_rfl
theorem ze_36 : zeroC Tryd.prog 36 = some [.int .i64 0, sv [], sv [], .int .i64 0, sv [], .slice none 0 0, .int .i64 0] := by kernel_rfl
theorem fo_37_0 : fOff Tryd.prog 37 0 = some 0 := by kernel_rfl
theorem fo_37_1 : fOff Tryd.prog 37 1 = some 3 := by kernel_rfl
theorem fo_37_2 : fOff Tryd.prog 37 2 = some 4 := by kernel_rfl
theorem fo_37_3 : fOff Tryd.prog 37 3 = some 5 := by kernel_rfl
theorem fo_37_4 : fOff Tryd.prog 37 4 = some 6 := by kernel_rfl
theorem ag_37 : agN Tryd.prog 37 = some (some 7) := by kernel_rfl
theorem pl_37 : plI Tryd.prog 37 = some [(0, 3), (3, 1), (4, 1), (5, 1), (6, 1)] := by kernel_rfl
theorem sz_37 : szT Tryd.prog 37 = some 7 := by kernel_rfl
theorem ze_37 : zeroC Tryd.prog 37 = some [.int .i64 0, sv [], sv [], .int .i64 0, sv [], .slice none 0 0, .int .i64 0] := by kernel_rfl
theorem ag_43 : agN Tryd.prog 43 = some none := by kernel_rfl
theorem el_43 : elT Tryd.prog 43 = some (5, 1) := by kernel_rfl
theorem ap_43 : apI Tryd.prog 43 = some (5, 1, 1) := by kernel_rfl
theorem by_43 : byT Tryd.prog 43 = true := by kernel_rfl
theorem sz_43 : szT Tryd.prog 43 = some 1 := by kernel_rfl
theorem ze_43 : zeroC Tryd.prog 43 = some [.slice none 0 0] := by kernel_rfl
theorem ag_46 : agN Tryd.prog 46 = some none := by kernel_rfl
theorem pt_46 : isPt Tryd.prog 46 = true := by kernel_rfl
theorem sz_46 : szT Tryd.prog 46 = some 1 := by kernel_rfl
theorem ze_46 : zeroC Tryd.prog 46 = some [.pointer none] := by kernel_rfl
theorem fo_68_0 : fOff Tryd.prog 68 0 = some 0 := by kernel_rfl
theorem fo_68_1 : fOff Tryd.prog 68 1 = some 1 := by kernel_rfl
theorem fo_68_2 : fOff Tryd.prog 68 2 = some 2 := by kernel_rfl
theorem fo_68_3 : fOff Tryd.prog 68 3 = some 3 := by kernel_rfl
theorem ag_68 : agN Tryd.prog 68 = some (some 4) := by kernel_rfl
theorem pl_68 : plI Tryd.prog 68 = some [(0, 1), (1, 1), (2, 1), (3, 1)] := by kernel_rfl
theorem sz_68 : szT Tryd.prog 68 = some 4 := by kernel_rfl
theorem ze_68 : zeroC Tryd.prog 68 = some [.slice none 0 0, .int .i64 0, .int .i64 0, .bool false] := by kernel_rfl
theorem fo_69_0 : fOff Tryd.prog 69 0 = some 0 := by kernel_rfl
theorem fo_69_1 : fOff Tryd.prog 69 1 = some 1 := by kernel_rfl
theorem fo_69_2 : fOff Tryd.prog 69 2 = some 2 := by kernel_rfl
theorem fo_69_3 : fOff Tryd.prog 69 3 = some 3 := by kernel_rfl
theorem ag_69 : agN Tryd.prog 69 = some (some 4) := by kernel_rfl
theorem pl_69 : plI Tryd.prog 69 = some [(0, 1), (1, 1), (2, 1), (3, 1)] := by kernel_rfl
theorem sz_69 : szT Tryd.prog 69 = some 4 := by kernel_rfl
theorem ze_69 : zeroC Tryd.prog 69 = some [.slice none 0 0, .int .i64 0, .int .i64 0, .bool false] := by kernel_rfl
theorem fo_71_0 : fOff Tryd.prog 71 0 = some 0 := by kernel_rfl
theorem fo_71_1 : fOff Tryd.prog 71 1 = some 1 := by kernel_rfl
theorem ag_71 : agN Tryd.prog 71 = some (some 2) := by kernel_rfl
theorem pl_71 : plI Tryd.prog 71 = some [(0, 1), (1, 1)] := by kernel_rfl
theorem sz_71 : szT Tryd.prog 71 = some 2 := by kernel_rfl
theorem ze_71 : zeroC Tryd.prog 71 = some [.int .i64 0, .int .i64 0] := by kernel_rfl
theorem fo_72_0 : fOff Tryd.prog 72 0 = some 0 := by kernel_rfl
theorem fo_72_1 : fOff Tryd.prog 72 1 = some 1 := by kernel_rfl
theorem ag_72 : agN Tryd.prog 72 = some (some 2) := by kernel_rfl
theorem pl_72 : plI Tryd.prog 72 = some [(0, 1), (1, 1)] := by kernel_rfl
theorem sz_72 : szT Tryd.prog 72 = some 2 := by kernel_rfl
theorem ze_72 : zeroC Tryd.prog 72 = some [.int .i64 0, .int .i64 0] := by kernel_rfl
theorem ag_73 : agN Tryd.prog 73 = some (some 6) := by kernel_rfl
theorem ar_73 : arT Tryd.prog 73 = some (6, 3, 1) := by kernel_rfl
theorem sz_73 : szT Tryd.prog 73 = some 6 := by kernel_rfl
theorem ze_73 : zeroC Tryd.prog 73 = some [.int .i64 0, .int .i64 0, .int .i64 0, .int .i64 0, .int .i64 0, .int .i64 0] := by kernel_rfl
theorem ag_74 : agN Tryd.prog 74 = some (some 6) := by kernel_rfl
theorem ar_74 : arT Tryd.prog 74 = some (6, 3, 1) := by kernel_rfl
theorem sz_74 : szT Tryd.prog 74 = some 6 := by kernel_rfl
theorem ze_74 : zeroC Tryd.prog 74 = some [.int .i64 0, .int .i64 0, .int .i64 0, .int .i64 0, .int .i64 0, .int .i64 0] := by kernel_rfl
theorem fo_75_0 : fOff Tryd.prog 75 0 = some 0 := by kernel_rfl
theorem fo_75_1 : fOff Tryd.prog 75 1 = some 1 := by kernel_rfl
theorem fo_75_2 : fOff Tryd.prog 75 2 = some 2 := by kernel_rfl
theorem fo_75_3 : fOff Tryd.prog 75 3 = some 3 := by kernel_rfl
theorem fo_75_4 : fOff Tryd.prog 75 4 = some 4 := by kernel_rfl
theorem fo_75_5 : fOff Tryd.prog 75 5 = some 6 := by kernel_rfl
theorem fo_75_6 : fOff Tryd.prog 75 6 = some 12 := by kernel_rfl
theorem fo_75_7 : fOff Tryd.prog 75 7 = some 15 := by kernel_rfl
theorem ag_75 : agN Tryd.prog 75 = some (some 16) := by kernel_rfl
theorem pl_75 : plI Tryd.prog 75 = some [(0, 1), (1, 1), (2, 1), (3, 1), (4, 2), (6, 6), (12, 3), (15, 1)] := by kernel_rfl
theorem sz_75 : szT Tryd.prog 75 = some 16 := by kernel_rfl
theorem ze_75 : zeroC Tryd.prog 75 = some [.int .i64 0, .int .i64 0, sv [], .bool false, .int .i64 0, .int .i64 0, .int .i64 0, .int .i64 0, .int .i64 0, .int .i64 0, .int .i64 0, .int .i64 0, .int .i64 0, sv [], sv [], .int .i64 0] := by kernel_rfl
theorem fo_76_0 : fOff Tryd.prog 76 0 = some 0 := by kernel_rfl
theorem fo_76_1 : fOff Tryd.prog 76 1 = some 1 := by kernel_rfl
theorem fo_76_2 : fOff Tryd.prog 76 2 = some 2 := by kernel_rfl
theorem fo_76_3 : fOff Tryd.prog 76 3 = some 3 := by kernel_rfl
theorem fo_76_4 : fOff Tryd.prog 76 4 = some 4 := by kernel_rfl
theorem fo_76_5 : fOff Tryd.prog 76 5 = some 6 := by kernel_rfl
theorem fo_76_6 : fOff Tryd.prog 76 6 = some 12 := by kernel_rfl
theorem fo_76_7 : fOff Tryd.prog 76 7 = some 15 := by kernel_rfl
theorem ag_76 : agN Tryd.prog 76 = some (some 16) := by kernel_rfl
theorem pl_76 : plI Tryd.prog 76 = some [(0, 1), (1, 1), (2, 1), (3, 1), (4, 2), (6, 6), (12, 3), (15, 1)] := by kernel_rfl
theorem sz_76 : szT Tryd.prog 76 = some 16 := by kernel_rfl
theorem ze_76 : zeroC Tryd.prog 76 = some [.int .i64 0, .int .i64 0, sv [], .bool false, .int .i64 0, .int .i64 0, .int .i64 0, .int .i64 0, .int .i64 0, .int .i64 0, .int .i64 0, .int .i64 0, .int .i64 0, sv [], sv [], .int .i64 0] := by kernel_rfl
theorem ag_85 : agN Tryd.prog 85 = some none := by kernel_rfl
theorem ik_85 : intK Tryd.prog 85 = some .u64 := by kernel_rfl
theorem sz_85 : szT Tryd.prog 85 = some 1 := by kernel_rfl
theorem ze_85 : zeroC Tryd.prog 85 = some [.int .u64 0] := by kernel_rfl
theorem iss_85 : (Tryd.prog.underlying 85).isSome = true := by kernel_rfl
theorem ag_92 : agN Tryd.prog 92 = some none := by kernel_rfl
theorem ik_92 : intK Tryd.prog 92 = some .u64 := by kernel_rfl
theorem sz_92 : szT Tryd.prog 92 = some 1 := by kernel_rfl
theorem ze_92 : zeroC Tryd.prog 92 = some [.int .u64 0] := by kernel_rfl
theorem iss_92 : (Tryd.prog.underlying 92).isSome = true := by kernel_rfl
theorem ag_99 : agN Tryd.prog 99 = some (some 256) := by kernel_rfl
theorem ar_99 : arT Tryd.prog 99 = some (256, 5, 1) := by kernel_rfl
theorem fo_100_0 : fOff Tryd.prog 100 0 = some 0 := by kernel_rfl
theorem fo_100_1 : fOff Tryd.prog 100 1 = some 1 := by kernel_rfl
theorem ag_100 : agN Tryd.prog 100 = some (some 2) := by kernel_rfl
theorem pl_100 : plI Tryd.prog 100 = some [(0, 1), (1, 1)] := by kernel_rfl
theorem sz_100 : szT Tryd.prog 100 = some 2 := by kernel_rfl
theorem ze_100 : zeroC Tryd.prog 100 = some [.int .u8 0, .int .u8 0] := by kernel_rfl
theorem fo_101_0 : fOff Tryd.prog 101 0 = some 0 := by kernel_rfl
theorem fo_101_1 : fOff Tryd.prog 101 1 = some 1 := by kernel_rfl
theorem ag_101 : agN Tryd.prog 101 = some (some 2) := by kernel_rfl
theorem pl_101 : plI Tryd.prog 101 = some [(0, 1), (1, 1)] := by kernel_rfl
theorem sz_101 : szT Tryd.prog 101 = some 2 := by kernel_rfl
theorem ze_101 : zeroC Tryd.prog 101 = some [.int .u8 0, .int .u8 0] := by kernel_rfl
theorem ag_102 : agN Tryd.prog 102 = some (some 32) := by kernel_rfl
theorem ar_102 : arT Tryd.prog 102 = some (16, 101, 2) := by kernel_rfl
theorem sz_102 : szT Tryd.prog 102 = some 32 := by kernel_rfl
theorem ze_102 : zeroC Tryd.prog 102 = some [.int .u8 0, .int .u8 0, .int .u8 0, .int .u8 0, .int .u8 0, .int .u8 0, .int .u8 0, .int .u8 0, .int .u8 0, .int .u8 0, .int .u8 0, .int .u8 0, .int .u8 0, .int .u8 0, .int .u8 0, .int .u8 0, .int .u8 0, .int .u8 0, .int .u8 0, .int .u8 0, .int .u8 0, .int .u8 0, .int .u8 0, .int .u8 0, .int .u8 0, .int .u8 0, .int .u8 0, .int .u8 0, .int .u8 0, .int .u8 0, .int .u8 0, .int .u8 0] := by kernel_rfl
theorem ag_103 : agN Tryd.prog 103 = some none := by kernel_rfl
theorem ik_103 : intK Tryd.prog 103 = some .u32 := by kernel_rfl
theorem sz_103 : szT Tryd.prog 103 = some 1 := by kernel_rfl
theorem ze_103 : zeroC Tryd.prog 103 = some [.int .u32 0] := by kernel_rfl
theorem iss_103 : (Tryd.prog.underlying 103).isSome = true := by kernel_rfl
theorem fo_107_0 : fOff Tryd.prog 107 0 = some 0 := by kernel_rfl
theorem fo_107_1 : fOff Tryd.prog 107 1 = some 1 := by kernel_rfl
theorem fo_107_2 : fOff Tryd.prog 107 2 = some 2 := by kernel_rfl
theorem fo_107_3 : fOff Tryd.prog 107 3 = some 3 := by kernel_rfl
theorem ag_107 : agN Tryd.prog 107 = some (some 4) := by kernel_rfl
theorem pl_107 : plI Tryd.prog 107 = some [(0, 1), (1, 1), (2, 1), (3, 1)] := by kernel_rfl
theorem sz_107 : szT Tryd.prog 107 = some 4 := by kernel_rfl
theorem ze_107 : zeroC Tryd.prog 107 = some [.pointer none, .pointer none, .pointer none, sv []] := by kernel_rfl
theorem fo_108_0 : fOff Tryd.prog 108 0 = some 0 := by kernel_rfl
theorem fo_108_1 : fOff Tryd.prog 108 1 = some 1 := by kernel_rfl
theorem fo_108_2 : fOff Tryd.prog 108 2 = some 2 := by kernel_rfl
theorem fo_108_3 : fOff Tryd.prog 108 3 = some 3 := by kernel_rfl
theorem ag_108 : agN Tryd.prog 108 = some (some 4) := by kernel_rfl
theorem pl_108 : plI Tryd.prog 108 = some [(0, 1), (1, 1), (2, 1), (3, 1)] := by kernel_rfl
theorem sz_108 : szT Tryd.prog 108 = some 4 := by kernel_rfl
theorem ze_108 : zeroC Tryd.prog 108 = some [.pointer none, .pointer none, .pointer none, sv []] := by kernel_rfl
theorem ag_109 : agN Tryd.prog 109 = some (some 0) := by kernel_rfl
theorem ar_109 : arT Tryd.prog 109 = some (0, 16, 1) := by kernel_rfl
theorem sz_109 : szT Tryd.prog 109 = some 0 := by kernel_rfl
theorem ag_110 : agN Tryd.prog 110 = some (some 0) := by kernel_rfl
theorem pl_110 : plI Tryd.prog 110 = some [(0, 0)] := by kernel_rfl
theorem sz_110 : szT Tryd.prog 110 = some 0 := by kernel_rfl
theorem ag_111 : agN Tryd.prog 111 = some (some 0) := by kernel_rfl
theorem pl_111 : plI Tryd.prog 111 = some [(0, 0)] := by kernel_rfl
theorem sz_111 : szT Tryd.prog 111 = some 0 := by kernel_rfl
theorem ag_112 : agN Tryd.prog 112 = some none := by kernel_rfl
theorem ik_112 : intK Tryd.prog 112 = some .u8 := by kernel_rfl
theorem sz_112 : szT Tryd.prog 112 = some 1 := by kernel_rfl
theorem ze_112 : zeroC Tryd.prog 112 = some [.int .u8 0] := by kernel_rfl
theorem iss_112 : (Tryd.prog.underlying 112).isSome = true := by kernel_rfl
theorem ag_113 : agN Tryd.prog 113 = some none := by kernel_rfl
theorem ik_113 : intK Tryd.prog 113 = some .u8 := by kernel_rfl
theorem sz_113 : szT Tryd.prog 113 = some 1 := by kernel_rfl
theorem ze_113 : zeroC Tryd.prog 113 = some [.int .u8 0] := by kernel_rfl
theorem iss_113 : (Tryd.prog.underlying 113).isSome = true := by kernel_rfl
theorem ag_115 : agN Tryd.prog 115 = some none := by kernel_rfl
theorem pt_115 : isPt Tryd.prog 115 = true := by kernel_rfl
theorem sz_115 : szT Tryd.prog 115 = some 1 := by kernel_rfl
theorem ze_115 : zeroC Tryd.prog 115 = some [.pointer none] := by kernel_rfl
theorem ag_116 : agN Tryd.prog 116 = some none := by kernel_rfl
theorem ik_116 : intK Tryd.prog 116 = some .i32 := by kernel_rfl
theorem sz_116 : szT Tryd.prog 116 = some 1 := by kernel_rfl
theorem ze_116 : zeroC Tryd.prog 116 = some [.int .i32 0] := by kernel_rfl
theorem iss_116 : (Tryd.prog.underlying 116).isSome = true := by kernel_rfl
theorem ag_117 : agN Tryd.prog 117 = some none := by kernel_rfl
theorem ik_117 : intK Tryd.prog 117 = some .i32 := by kernel_rfl
theorem sz_117 : szT Tryd.prog 117 = some 1 := by kernel_rfl
theorem ze_117 : zeroC Tryd.prog 117 = some [.int .i32 0] := by kernel_rfl
theorem iss_117 : (Tryd.prog.underlying 117).isSome = true := by kernel_rfl
theorem fo_118_0 : fOff Tryd.prog 118 0 = some 0 := by kernel_rfl
theorem fo_118_1 : fOff Tryd.prog 118 1 = some 1 := by kernel_rfl
theorem fo_118_2 : fOff Tryd.prog 118 2 = some 2 := by kernel_rfl
theorem fo_118_3 : fOff Tryd.prog 118 3 = some 3 := by kernel_rfl
theorem fo_118_4 : fOff Tryd.prog 118 4 = some 4 := by kernel_rfl
theorem fo_118_5 : fOff Tryd.prog 118 5 = some 5 := by kernel_rfl
theorem fo_118_6 : fOff Tryd.prog 118 6 = some 6 := by kernel_rfl
theorem fo_118_7 : fOff Tryd.prog 118 7 = some 7 := by kernel_rfl
theorem fo_118_8 : fOff Tryd.prog 118 8 = some 8 := by kernel_rfl
theorem fo_118_9 : fOff Tryd.prog 118 9 = some 9 := by kernel_rfl
theorem fo_118_10 : fOff Tryd.prog 118 10 = some 10 := by kernel_rfl
theorem ag_118 : agN Tryd.prog 118 = some (some 11) := by kernel_rfl
theorem pl_118 : plI Tryd.prog 118 = some [(0, 1), (1, 1), (2, 1), (3, 1), (4, 1), (5, 1), (6, 1), (7, 1), (8, 1), (9, 1), (10, 1)] := by kernel_rfl
theorem sz_118 : szT Tryd.prog 118 = some 11 := by kernel_rfl
theorem fo_119_0 : fOff Tryd.prog 119 0 = some 0 := by kernel_rfl
theorem fo_119_1 : fOff Tryd.prog 119 1 = some 1 := by kernel_rfl
theorem fo_119_2 : fOff Tryd.prog 119 2 = some 2 := by kernel_rfl
theorem fo_119_3 : fOff Tryd.prog 119 3 = some 3 := by kernel_rfl
theorem fo_119_4 : fOff Tryd.prog 119 4 = some 4 := by kernel_rfl
theorem fo_119_5 : fOff Tryd.prog 119 5 = some 5 := by kernel_rfl
theorem fo_119_6 : fOff Tryd.prog 119 6 = some 6 := by kernel_rfl
theorem fo_119_7 : fOff Tryd.prog 119 7 = some 7 := by kernel_rfl
theorem fo_119_8 : fOff Tryd.prog 119 8 = some 8 := by kernel_rfl
theorem fo_119_9 : fOff Tryd.prog 119 9 = some 9 := by kernel_rfl
theorem fo_119_10 : fOff Tryd.prog 119 10 = some 10 := by kernel_rfl
theorem ag_119 : agN Tryd.prog 119 = some (some 11) := by kernel_rfl
theorem pl_119 : plI Tryd.prog 119 = some [(0, 1), (1, 1), (2, 1), (3, 1), (4, 1), (5, 1), (6, 1), (7, 1), (8, 1), (9, 1), (10, 1)] := by kernel_rfl
theorem sz_119 : szT Tryd.prog 119 = some 11 := by kernel_rfl
end Go.Proofs.YtpkjlmaphhileaaDoor
