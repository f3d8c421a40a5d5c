/- Texts of the proof of talkRight_holds, put together by a program: Ty. -/
import Derived.Test.YtlapcfnmmpbeeaaGreatProg
import Derived.Test.YtlapcfnmmpbeeaaGreatPR05
set_option linter.unusedSimpArgs false
set_option linter.unusedVariables false
namespace Go.Proofs.YtlapcfnmmpbeeaaGreat
theorem ag_2 : agN Tryz.prog 2 = some none := by kernel_rfl
theorem sz_2 : szT Tryz.prog 2 = some 1 := by kernel_rfl
theorem ag_3 : agN Tryz.prog 3 = some none := by kernel_rfl
theorem sz_3 : szT Tryz.prog 3 = some 1 := by kernel_rfl
theorem iss_3 : (Tryz.prog.underlying 3).isSome = true := by kernel_rfl
theorem ag_4 : agN Tryz.prog 4 = some none := by kernel_rfl
theorem bo_4 : isBo Tryz.prog 4 = true := by kernel_rfl
theorem sz_4 : szT Tryz.prog 4 = some 1 := by kernel_rfl
theorem ag_5 : agN Tryz.prog 5 = some none := by kernel_rfl
theorem ik_5 : intK Tryz.prog 5 = some .u8 := by kernel_rfl
theorem ze_5 : zeroC Tryz.prog 5 = some [.int .u8 0] := by kernel_rfl
theorem iss_5 : (Tryz.prog.underlying 5).isSome = true := by kernel_rfl
theorem ag_9 : agN Tryz.prog 9 = some none := by kernel_rfl
theorem str_9 : isStr Tryz.prog 9 = true := by kernel_rfl
theorem sz_9 : szT Tryz.prog 9 = some 1 := by kernel_rfl
theorem ze_9 : zeroC Tryz.prog 9 = some [sv []] := by kernel_rfl
theorem ag_23 : agN Tryz.prog 23 = some (some 6) := by kernel_rfl
theorem ar_23 : arT Tryz.prog 23 = some (6, 3, 1) := by kernel_rfl
theorem sz_23 : szT Tryz.prog 23 = some 6 := by kernel_rfl
theorem ze_23 : zeroC Tryz.prog 23 = some [.int .i64 0, .int .i64 0, .int .i64 0, .int .i64 0, .int .i64 0, .int .i64 0] := by kernel_rfl
theorem ag_24 : agN Tryz.prog 24 = some none := by kernel_rfl
theorem el_24 : elT Tryz.prog 24 = some (34, 2) := by kernel_rfl
theorem ap_24 : apI Tryz.prog 24 = some (34, 2, 16) := by kernel_rfl
theorem sz_24 : szT Tryz.prog 24 = some 1 := by kernel_rfl
theorem ag_25 : agN Tryz.prog 25 = some none := by kernel_rfl
theorem el_25 : elT Tryz.prog 25 = some (44, 20) := by kernel_rfl
theorem ap_25 : apI Tryz.prog 25 = some (44, 20, 264) := by kernel_rfl
theorem sz_25 : szT Tryz.prog 25 = some 1 := by kernel_rfl
theorem ag_26 : agN Tryz.prog 26 = some none := by kernel_rfl
theorem el_26 : elT Tryz.prog 26 = some (48, 15) := by kernel_rfl
theorem ap_26 : apI Tryz.prog 26 = some (48, 15, 176) := by kernel_rfl
theorem sz_26 : szT Tryz.prog 26 = some 1 := by kernel_rfl
theorem fo_28_0 : fOff Tryz.prog 28 0 = some 0 := by kernel_rfl
theorem fo_28_1 : fOff Tryz.prog 28 1 = some 1 := by kernel_rfl
theorem fo_28_2 : fOff Tryz.prog 28 2 = some 2 := by kernel_rfl
theorem fo_28_3 : fOff Tryz.prog 28 3 = some 3 := by kernel_rfl
theorem fo_28_4 : fOff Tryz.prog 28 4 = some 9 := by kernel_rfl
theorem fo_28_5 : fOff Tryz.prog 28 5 = some 10 := by kernel_rfl
theorem fo_28_6 : fOff Tryz.prog 28 6 = some 11 := by kernel_rfl
theorem ag_28 : agN Tryz.prog 28 = some (some 12) := by kernel_rfl
theorem pl_28 : plI Tryz.prog 28 = some [(0, 1), (1, 1), (2, 1), (3, 6), (9, 1), (10, 1), (11, 1)] := by kernel_rfl
theorem sz_28 : szT Tryz.prog 28 = some 12 := by kernel_rfl
theorem ze_28 : zeroC Tryz.prog 28 = some [.int .i64 0, .int .i64 0, .int .i64 0, .int .i64 0, .int .i64 0, .int .i64 0, .int .i64 0, .int .i64 0, .int .i64 0, .slice none 0 0, .slice none 0 0, .slice none 0 0] := by kernel_rfl
theorem fo_34_0 : fOff Tryz.prog 34 0 = some 0 := by kernel_rfl
theorem fo_34_1 : fOff Tryz.prog 34 1 = some 1 := by kernel_rfl
theorem ag_34 : agN Tryz.prog 34 = some (some 2) := by kernel_rfl
theorem pl_34 : plI Tryz.prog 34 = some [(0, 1), (1, 1)] := by kernel_rfl
theorem sz_34 : szT Tryz.prog 34 = some 2 := by kernel_rfl
theorem ze_34 : zeroC Tryz.prog 34 = some [.int .i64 0, .int .i64 0] := by kernel_rfl
theorem fo_36_0 : fOff Tryz.prog 36 0 = some 0 := by kernel_rfl
theorem fo_36_1 : fOff Tryz.prog 36 1 = some 1 := by kernel_rfl
theorem fo_36_2 : fOff Tryz.prog 36 2 = some 2 := by kernel_rfl
theorem ag_36 : agN Tryz.prog 36 = some (some 3) := by kernel_rfl
theorem pl_36 : plI Tryz.prog 36 = some [(0, 1), (1, 1), (2, 1)] := by kernel_rfl
theorem sz_36 : szT Tryz.prog 36 = some 3 := by kernel_rfl
theorem ze_36 : zeroC Tryz.prog 36 = some [.int .i64 0, sv [], sv []] := by kernel_rfl
theorem ag_37 : agN Tryz.prog 37 = some none := by kernel_rfl
theorem el_37 : elT Tryz.prog 37 = some (9, 1) := by kernel_rfl
theorem ap_37 : apI Tryz.prog 37 = some (9, 1, 16) := by kernel_rfl
theorem sz_37 : szT Tryz.prog 37 = some 1 := by kernel_rfl
theorem fo_39_0 : fOff Tryz.prog 39 0 = some 0 := by kernel_rfl
theorem fo_39_1 : fOff Tryz.prog 39 1 = some 3 := by kernel_rfl
theorem fo_39_2 : fOff Tryz.prog 39 2 = some 4 := by kernel_rfl
theorem fo_39_3 : fOff Tryz.prog 39 3 = some 5 := by kernel_rfl
theorem fo_39_4 : fOff Tryz.prog 39 4 = some 6 := by kernel_rfl
theorem ag_39 : agN Tryz.prog 39 = some (some 7) := by kernel_rfl
theorem pl_39 : plI Tryz.prog 39 = some [(0, 3), (3, 1), (4, 1), (5, 1), (6, 1)] := by kernel_rfl
theorem sz_39 : szT Tryz.prog 39 = some 7 := by kernel_rfl
theorem ze_39 : zeroC Tryz.prog 39 = some [.int .i64 0, sv [], sv [], .int .i64 0, sv [], .slice none 0 0, .int .i64 0] := by kernel_rfl
theorem ag_40 : agN Tryz.prog 40 = some none := by kernel_rfl
theorem el_40 : elT Tryz.prog 40 = some (46, 2) := by kernel_rfl
theorem ap_40 : apI Tryz.prog 40 = some (46, 2, 32) := by kernel_rfl
theorem sz_40 : szT Tryz.prog 40 = some 1 := by kernel_rfl
theorem fo_42_0 : fOff Tryz.prog 42 0 = some 0 := by kernel_rfl
theorem fo_42_1 : fOff Tryz.prog 42 1 = some 1 := by kernel_rfl
theorem fo_42_2 : fOff Tryz.prog 42 2 = some 4 := by kernel_rfl
theorem fo_42_3 : fOff Tryz.prog 42 3 = some 5 := by kernel_rfl
theorem fo_42_4 : fOff Tryz.prog 42 4 = some 6 := by kernel_rfl
theorem fo_42_5 : fOff Tryz.prog 42 5 = some 7 := by kernel_rfl
theorem fo_42_6 : fOff Tryz.prog 42 6 = some 14 := by kernel_rfl
theorem fo_42_7 : fOff Tryz.prog 42 7 = some 15 := by kernel_rfl
theorem ag_42 : agN Tryz.prog 42 = some (some 16) := by kernel_rfl
theorem pl_42 : plI Tryz.prog 42 = some [(0, 1), (1, 3), (4, 1), (5, 1), (6, 1), (7, 7), (14, 1), (15, 1)] := by kernel_rfl
theorem sz_42 : szT Tryz.prog 42 = some 16 := by kernel_rfl
theorem ze_42 : zeroC Tryz.prog 42 = some [.int .i64 0, .int .i64 0, sv [], sv [], sv [], sv [], .int .i64 0, .int .i64 0, sv [], sv [], .int .i64 0, sv [], .slice none 0 0, .int .i64 0, .slice none 0 0, .slice none 0 0] := by kernel_rfl
theorem fo_44_0 : fOff Tryz.prog 44 0 = some 0 := by kernel_rfl
theorem fo_44_1 : fOff Tryz.prog 44 1 = some 2 := by kernel_rfl
theorem fo_44_2 : fOff Tryz.prog 44 2 = some 4 := by kernel_rfl
theorem ag_44 : agN Tryz.prog 44 = some (some 20) := by kernel_rfl
theorem sz_44 : szT Tryz.prog 44 = some 20 := by kernel_rfl
theorem ze_44 : zeroC Tryz.prog 44 = some [.int .i64 0, .int .i64 0, .int .i64 0, .int .i64 0, .int .i64 0, .int .i64 0, sv [], sv [], sv [], sv [], .int .i64 0, .int .i64 0, sv [], sv [], .int .i64 0, sv [], .slice none 0 0, .int .i64 0, .slice none 0 0, .slice none 0 0] := by kernel_rfl
theorem fo_46_0 : fOff Tryz.prog 46 0 = some 0 := by kernel_rfl
theorem fo_46_1 : fOff Tryz.prog 46 1 = some 1 := by kernel_rfl
theorem ag_46 : agN Tryz.prog 46 = some (some 2) := by kernel_rfl
theorem sz_46 : szT Tryz.prog 46 = some 2 := by kernel_rfl
theorem ze_46 : zeroC Tryz.prog 46 = some [sv [], sv []] := by kernel_rfl
theorem fo_48_0 : fOff Tryz.prog 48 0 = some 0 := by kernel_rfl
theorem fo_48_1 : fOff Tryz.prog 48 1 = some 2 := by kernel_rfl
theorem fo_48_2 : fOff Tryz.prog 48 2 = some 4 := by kernel_rfl
theorem fo_48_3 : fOff Tryz.prog 48 3 = some 5 := by kernel_rfl
theorem fo_48_4 : fOff Tryz.prog 48 4 = some 6 := by kernel_rfl
theorem fo_48_5 : fOff Tryz.prog 48 5 = some 7 := by kernel_rfl
theorem fo_48_6 : fOff Tryz.prog 48 6 = some 8 := by kernel_rfl
theorem fo_48_7 : fOff Tryz.prog 48 7 = some 11 := by kernel_rfl
theorem fo_48_8 : fOff Tryz.prog 48 8 = some 12 := by kernel_rfl
theorem fo_48_9 : fOff Tryz.prog 48 9 = some 13 := by kernel_rfl
theorem fo_48_10 : fOff Tryz.prog 48 10 = some 14 := by kernel_rfl
theorem ag_48 : agN Tryz.prog 48 = some (some 15) := by kernel_rfl
theorem pl_48 : plI Tryz.prog 48 = some [(0, 2), (2, 2), (4, 1), (5, 1), (6, 1), (7, 1), (8, 3), (11, 1), (12, 1), (13, 1), (14, 1)] := by kernel_rfl
theorem sz_48 : szT Tryz.prog 48 = some 15 := by kernel_rfl
theorem ze_48 : zeroC Tryz.prog 48 = some [.int .i64 0, .int .i64 0, .int .i64 0, .int .i64 0, .int .i64 0, sv [], .int .i64 0, sv [], .int .i64 0, sv [], sv [], .int .i64 0, .bool false, sv [], .slice none 0 0] := by kernel_rfl
theorem ag_49 : agN Tryz.prog 49 = some none := by kernel_rfl
theorem ik_49 : intK Tryz.prog 49 = some .u32 := by kernel_rfl
theorem sz_49 : szT Tryz.prog 49 = some 1 := by kernel_rfl
theorem iss_49 : (Tryz.prog.underlying 49).isSome = true := by kernel_rfl
theorem ag_51 : agN Tryz.prog 51 = some (some 256) := by kernel_rfl
theorem ar_51 : arT Tryz.prog 51 = some (256, 49, 1) := by kernel_rfl
theorem el_52 : elT Tryz.prog 52 = some (5, 1) := by kernel_rfl
theorem ap_52 : apI Tryz.prog 52 = some (5, 1, 1) := by kernel_rfl
end Go.Proofs.YtlapcfnmmpbeeaaGreat
