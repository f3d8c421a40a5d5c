/- A part of a proof. -/
import Derived.Laws.StructEq
import Derived.Test.YtlapcfnmmpbeeaaProg
import Derived.Test.YtlapcfnmmpbeeaaPT06
set_option linter.unusedSimpArgs false
set_option linter.unusedVariables false
namespace Go.Proofs.Ytlapcfnmmpbeeaa
theorem ag_2 : agN Try.prog 2 = some none := by kernel_rfl
theorem sz_2 : szT Try.prog 2 = some 1 := by kernel_rfl
theorem ag_3 : agN Try.prog 3 = some none := by kernel_rfl
theorem ik_3 : intK Try.prog 3 = some .i64 := by kernel_rfl
theorem sz_3 : szT Try.prog 3 = some 1 := by kernel_rfl
theorem iss_3 : (Try.prog.underlying 3).isSome = true := by kernel_rfl
theorem ag_4 : agN Try.prog 4 = some none := by kernel_rfl
theorem bo_4 : isBo Try.prog 4 = true := by kernel_rfl
theorem sz_4 : szT Try.prog 4 = some 1 := by kernel_rfl
theorem ag_5 : agN Try.prog 5 = some none := by kernel_rfl
theorem ik_5 : intK Try.prog 5 = some .u8 := by kernel_rfl
theorem sz_5 : szT Try.prog 5 = some 1 := by kernel_rfl
theorem ze_5 : zeroC Try.prog 5 = some [.int .u8 0] := by kernel_rfl
theorem iss_5 : (Try.prog.underlying 5).isSome = true := by kernel_rfl
theorem ag_9 : agN Try.prog 9 = some none := by kernel_rfl
theorem str_9 : isStr Try.prog 9 = true := by kernel_rfl
theorem sz_9 : szT Try.prog 9 = some 1 := by kernel_rfl
theorem ze_9 : zeroC Try.prog 9 = some [sv []] := by kernel_rfl
theorem ag_23 : agN Try.prog 23 = some (some 6) := by kernel_rfl
theorem ar_23 : arT Try.prog 23 = some (6, 3, 1) := by kernel_rfl
theorem sz_23 : szT Try.prog 23 = some 6 := by kernel_rfl
theorem ze_23 : zeroC Try.prog 23 = some [.int .i64 0, .int .i64 0, .int .i64 0, .int .i64 0, .int .i64 0, .int .i64 0] := by kernel_rfl
theorem ag_24 : agN Try.prog 24 = some none := by kernel_rfl
theorem el_24 : elT Try.prog 24 = some (51, 2) := by kernel_rfl
theorem ap_24 : apI Try.prog 24 = some (51, 2, 16) := by kernel_rfl
theorem sz_24 : szT Try.prog 24 = some 1 := by kernel_rfl
theorem ag_25 : agN Try.prog 25 = some none := by kernel_rfl
theorem el_25 : elT Try.prog 25 = some (63, 20) := by kernel_rfl
theorem ap_25 : apI Try.prog 25 = some (63, 20, 264) := by kernel_rfl
theorem sz_25 : szT Try.prog 25 = some 1 := by kernel_rfl
theorem ag_26 : agN Try.prog 26 = some none := by kernel_rfl
theorem el_26 : elT Try.prog 26 = some (67, 15) := by kernel_rfl
theorem ap_26 : apI Try.prog 26 = some (67, 15, 176) := by kernel_rfl
theorem sz_26 : szT Try.prog 26 = some 1 := by kernel_rfl
theorem fo_28_0 : fOff Try.prog 28 0 = some 0 := by kernel_rfl
theorem fo_28_1 : fOff Try.prog 28 1 = some 1 := by kernel_rfl
theorem fo_28_2 : fOff Try.prog 28 2 = some 2 := by kernel_rfl
theorem fo_28_3 : fOff Try.prog 28 3 = some 3 := by kernel_rfl
theorem fo_28_4 : fOff Try.prog 28 4 = some 9 := by kernel_rfl
theorem fo_28_5 : fOff Try.prog 28 5 = some 10 := by kernel_rfl
theorem fo_28_6 : fOff Try.prog 28 6 = some 11 := by kernel_rfl
theorem ag_28 : agN Try.prog 28 = some (some 12) := by kernel_rfl
theorem pl_28 : plI Try.prog 28 = some [(0, 1), (1, 1), (2, 1), (3, 6), (9, 1), (10, 1), (11, 1)] := by kernel_rfl
theorem sz_28 : szT Try.prog 28 = some 12 := by kernel_rfl
theorem ze_28 : zeroC Try.prog 28 = some [.int .i64 0, .int .i64 0, .int .i64 0, .int .i64 0, .int .i64 0, .int .i64 0, .int .i64 0, .int .i64 0, .int .i64 0, .slice none 0 0, .slice none 0 0, .slice none 0 0] := by kernel_rfl
theorem ag_29 : agN Try.prog 29 = some none := by kernel_rfl
theorem ik_29 : intK Try.prog 29 = some .u32 := by kernel_rfl
theorem sz_29 : szT Try.prog 29 = some 1 := by kernel_rfl
theorem iss_29 : (Try.prog.underlying 29).isSome = true := by kernel_rfl
theorem ag_33 : agN Try.prog 33 = some (some 256) := by kernel_rfl
theorem ar_33 : arT Try.prog 33 = some (256, 29, 1) := by kernel_rfl
theorem ag_35 : agN Try.prog 35 = some none := by kernel_rfl
theorem el_35 : elT Try.prog 35 = some (5, 1) := by kernel_rfl
theorem ap_35 : apI Try.prog 35 = some (5, 1, 1) := by kernel_rfl
theorem ik_41 : intK Try.prog 41 = some .u64 := by kernel_rfl
theorem fo_51_0 : fOff Try.prog 51 0 = some 0 := by kernel_rfl
theorem fo_51_1 : fOff Try.prog 51 1 = some 1 := by kernel_rfl
theorem ag_51 : agN Try.prog 51 = some (some 2) := by kernel_rfl
theorem pl_51 : plI Try.prog 51 = some [(0, 1), (1, 1)] := by kernel_rfl
theorem sz_51 : szT Try.prog 51 = some 2 := by kernel_rfl
theorem ze_51 : zeroC Try.prog 51 = some [.int .i64 0, .int .i64 0] := by kernel_rfl
theorem fo_55_0 : fOff Try.prog 55 0 = some 0 := by kernel_rfl
theorem fo_55_1 : fOff Try.prog 55 1 = some 1 := by kernel_rfl
theorem fo_55_2 : fOff Try.prog 55 2 = some 2 := by kernel_rfl
theorem ag_55 : agN Try.prog 55 = some (some 3) := by kernel_rfl
theorem pl_55 : plI Try.prog 55 = some [(0, 1), (1, 1), (2, 1)] := by kernel_rfl
theorem sz_55 : szT Try.prog 55 = some 3 := by kernel_rfl
theorem ze_55 : zeroC Try.prog 55 = some [.int .i64 0, sv [], sv []] := by kernel_rfl
theorem ag_56 : agN Try.prog 56 = some none := by kernel_rfl
theorem el_56 : elT Try.prog 56 = some (9, 1) := by kernel_rfl
theorem ap_56 : apI Try.prog 56 = some (9, 1, 16) := by kernel_rfl
theorem sz_56 : szT Try.prog 56 = some 1 := by kernel_rfl
theorem fo_58_0 : fOff Try.prog 58 0 = some 0 := by kernel_rfl
theorem fo_58_1 : fOff Try.prog 58 1 = some 3 := by kernel_rfl
theorem fo_58_2 : fOff Try.prog 58 2 = some 4 := by kernel_rfl
theorem fo_58_3 : fOff Try.prog 58 3 = some 5 := by kernel_rfl
theorem fo_58_4 : fOff Try.prog 58 4 = some 6 := by kernel_rfl
theorem ag_58 : agN Try.prog 58 = some (some 7) := by kernel_rfl
theorem pl_58 : plI Try.prog 58 = some [(0, 3), (3, 1), (4, 1), (5, 1), (6, 1)] := by kernel_rfl
theorem sz_58 : szT Try.prog 58 = some 7 := by kernel_rfl
theorem ze_58 : zeroC Try.prog 58 = some [.int .i64 0, sv [], sv [], .int .i64 0, sv [], .slice none 0 0, .int .i64 0] := by kernel_rfl
theorem ag_59 : agN Try.prog 59 = some none := by kernel_rfl
theorem el_59 : elT Try.prog 59 = some (127, 2) := by kernel_rfl
theorem ap_59 : apI Try.prog 59 = some (127, 2, 32) := by kernel_rfl
theorem sz_59 : szT Try.prog 59 = some 1 := by kernel_rfl
theorem fo_61_0 : fOff Try.prog 61 0 = some 0 := by kernel_rfl
theorem fo_61_1 : fOff Try.prog 61 1 = some 1 := by kernel_rfl
theorem fo_61_2 : fOff Try.prog 61 2 = some 4 := by kernel_rfl
theorem fo_61_3 : fOff Try.prog 61 3 = some 5 := by kernel_rfl
theorem fo_61_4 : fOff Try.prog 61 4 = some 6 := by kernel_rfl
theorem fo_61_5 : fOff Try.prog 61 5 = some 7 := by kernel_rfl
theorem fo_61_6 : fOff Try.prog 61 6 = some 14 := by kernel_rfl
theorem fo_61_7 : fOff Try.prog 61 7 = some 15 := by kernel_rfl
theorem ag_61 : agN Try.prog 61 = some (some 16) := by kernel_rfl
theorem pl_61 : plI Try.prog 61 = some [(0, 1), (1, 3), (4, 1), (5, 1), (6, 1), (7, 7), (14, 1), (15, 1)] := by kernel_rfl
theorem sz_61 : szT Try.prog 61 = some 16 := by kernel_rfl
theorem ze_61 : zeroC Try.prog 61 = some [.int .i64 0, .int .i64 0, sv [], sv [], sv [], sv [], .int .i64 0, .int .i64 0, sv [], sv [], .int .i64 0, sv [], .slice none 0 0, .int .i64 0, .slice none 0 0, .slice none 0 0] := by kernel_rfl
theorem fo_63_0 : fOff Try.prog 63 0 = some 0 := by kernel_rfl
theorem fo_63_1 : fOff Try.prog 63 1 = some 2 := by kernel_rfl
theorem fo_63_2 : fOff Try.prog 63 2 = some 4 := by kernel_rfl
theorem ag_63 : agN Try.prog 63 = some (some 20) := by kernel_rfl
theorem pl_63 : plI Try.prog 63 = some [(0, 2), (2, 2), (4, 16)] := by kernel_rfl
theorem sz_63 : szT Try.prog 63 = some 20 := by kernel_rfl
theorem ze_63 : zeroC Try.prog 63 = some [.int .i64 0, .int .i64 0, .int .i64 0, .int .i64 0, .int .i64 0, .int .i64 0, sv [], sv [], sv [], sv [], .int .i64 0, .int .i64 0, sv [], sv [], .int .i64 0, sv [], .slice none 0 0, .int .i64 0, .slice none 0 0, .slice none 0 0] := by kernel_rfl
theorem fo_67_0 : fOff Try.prog 67 0 = some 0 := by kernel_rfl
theorem fo_67_1 : fOff Try.prog 67 1 = some 2 := by kernel_rfl
theorem fo_67_2 : fOff Try.prog 67 2 = some 4 := by kernel_rfl
theorem fo_67_3 : fOff Try.prog 67 3 = some 5 := by kernel_rfl
theorem fo_67_4 : fOff Try.prog 67 4 = some 6 := by kernel_rfl
theorem fo_67_5 : fOff Try.prog 67 5 = some 7 := by kernel_rfl
theorem fo_67_6 : fOff Try.prog 67 6 = some 8 := by kernel_rfl
theorem fo_67_7 : fOff Try.prog 67 7 = some 11 := by kernel_rfl
theorem fo_67_8 : fOff Try.prog 67 8 = some 12 := by kernel_rfl
theorem fo_67_9 : fOff Try.prog 67 9 = some 13 := by kernel_rfl
theorem fo_67_10 : fOff Try.prog 67 10 = some 14 := by kernel_rfl
theorem ag_67 : agN Try.prog 67 = some (some 15) := by kernel_rfl
theorem pl_67 : plI Try.prog 67 = some [(0, 2), (2, 2), (4, 1), (5, 1), (6, 1), (7, 1), (8, 3), (11, 1), (12, 1), (13, 1), (14, 1)] := by kernel_rfl
theorem sz_67 : szT Try.prog 67 = some 15 := by kernel_rfl
theorem ze_67 : zeroC Try.prog 67 = some [.int .i64 0, .int .i64 0, .int .i64 0, .int .i64 0, .int .i64 0, sv [], .int .i64 0, sv [], .int .i64 0, sv [], sv [], .int .i64 0, .bool false, sv [], .slice none 0 0] := by kernel_rfl
theorem pt_72 : isPt Try.prog 72 = true := by kernel_rfl
theorem fo_101_0 : fOff Try.prog 101 0 = some 0 := by kernel_rfl
theorem fo_101_1 : fOff Try.prog 101 1 = some 1 := by kernel_rfl
theorem fo_101_2 : fOff Try.prog 101 2 = some 2 := by kernel_rfl
theorem fo_101_3 : fOff Try.prog 101 3 = some 3 := by kernel_rfl
theorem pl_101 : plI Try.prog 101 = some [(0, 1), (1, 1), (2, 1), (3, 1)] := by kernel_rfl
theorem ze_101 : zeroC Try.prog 101 = some [.slice none 0 0, .int .i64 0, .int .i64 0, .bool false] := by kernel_rfl
theorem fo_127_0 : fOff Try.prog 127 0 = some 0 := by kernel_rfl
theorem fo_127_1 : fOff Try.prog 127 1 = some 1 := by kernel_rfl
theorem ag_127 : agN Try.prog 127 = some (some 2) := by kernel_rfl
theorem pl_127 : plI Try.prog 127 = some [(0, 1), (1, 1)] := by kernel_rfl
theorem sz_127 : szT Try.prog 127 = some 2 := by kernel_rfl
theorem ze_127 : zeroC Try.prog 127 = some [sv [], sv []] := by kernel_rfl
open Go.RowKit
structure RefD where
  scope : Int
  group : Bytes
  name : Bytes
deriving DecidableEq
def RefD.cs (r : RefD) : List AV := [AI r.scope, AS r.group, AS r.name]
abbrev RefD.av (r : RefD) : AV := .ag r.cs
theorem eq_Ref (x y : Operand) (s1 s2 : Int) (g1 g2 n1 n2 : Bytes) (w : World) : (eqGuard .eql 55 x y (.agg #[.int .i64 s1, sv g1, sv n1]) (.agg #[.int .i64 s2, sv g2, sv n2]) >>= fun _ => binOp .eql 55 (.agg #[.int .i64 s1, sv g1, sv n1]) (.agg #[.int .i64 s2, sv g2, sv n2])).run Try.prog w = .ok (.bool (decide (RefD.mk s1 g1 n1 = RefD.mk s2 g2 n2))) w := by
  go_simp
  by_cases h1 : s1 = s2 <;> by_cases h2 : g1 = g2 <;> by_cases h3 : n1 = n2 <;> simp [h1, h2, h3]
section
variable {o : Oper} {t : List AV} {st : List TK} {x y : Operand} {yt : TypeId} {s1 s2 : Int} {g1 g2 n1 n2 : Bytes}
theorem rd_eq_Ref (ho : o.op = .binOp .eql 55 x y yt) (hx : evV t x = some (.agg #[.int .i64 s1, sv g1, sv n1])) (hy : evV t y = some (.agg #[.int .i64 s2, sv g2, sv n2])) : ARd Try.prog o t st (AB (decide (RefD.mk s1 g1 n1 = RefD.mk s2 g2 n2))) := rd_bin ho hx hy (eq_Ref x y s1 s2 g1 g2 n1 n2)
end
set_option maxRecDepth 100000
open Go.RowKit
set_option maxHeartbeats 2000000 in
theorem run_eq_vecD (d : Nat) (hu : ∀ a b : Int, ∀ w, (Op.equalIn d 3 (.int .i64 a) (.int .i64 b)).run Try.prog w = .ok (a == b) w) (a0 a1 a2 a3 a4 a5 b0 b1 b2 b3 b4 b5 : Int) (w : World) : (Op.equalIn (d + 1) 23 (.agg #[.int .i64 a0, .int .i64 a1, .int .i64 a2, .int .i64 a3, .int .i64 a4, .int .i64 a5]) (.agg #[.int .i64 b0, .int .i64 b1, .int .i64 b2, .int .i64 b3, .int .i64 b4, .int .i64 b5])).run Try.prog w = .ok (decide (a0 = b0 ∧ a1 = b1 ∧ a2 = b2 ∧ a3 = b3 ∧ a4 = b4 ∧ a5 = b5)) w := by
  have hs : ∀ w, (sizeOf 3).run Try.prog w = .ok 1 w := fun w => by go_simp
  have hg : ∀ w, (isAgg 3).run Try.prog w = .ok false w := fun w => by go_simp
  have hp : ∀ (xs : Array Value) (i : Nat) (v : Value) (w : World), xs[i]? = some v → (part 3 xs i).run Try.prog w = .ok v w := fun xs i v w h => by
    simp [part, Sem.run_bind, hg, h]
  simp only [Op.equalIn, Sem.run_bind, run_underlying Try.underlying23, Result.andThen_ok, hs]
  by_cases h0 : a0 = b0 <;> by_cases h1 : a1 = b1 <;> by_cases h2 : a2 = b2 <;> by_cases h3 : a3 = b3 <;> by_cases h4 : a4 = b4 <;> by_cases h5 : a5 = b5 <;> simp [Std.Legacy.Range.forIn_eq_forIn_range', Std.Legacy.Range.size, List.range', Sem.run_bind, hu, hp, h0, h1, h2, h3, h4, h5]
end Go.Proofs.Ytlapcfnmmpbeeaa
