/- Vectors are compared. No conditions. -/
import Derived.Test.YtfjnkhanndkpfaaTy
import Derived.Laws.StructEq
namespace Go.Proofs.Ytfjnkhanndkpfaa
set_option linter.unusedSimpArgs false
set_option linter.unusedVariables false
set_option maxRecDepth 100000
open Go.RowKit
set_option maxHeartbeats 2000000 in
theorem run_eq_vecD (d : Nat) (hu : ∀ a b : Int, ∀ w, (Op.equalIn d 3 (.int .i64 a) (.int .i64 b)).run Try.prog w = .ok (a == b) w) (a0 a1 a2 a3 a4 a5 b0 b1 b2 b3 b4 b5 : Int) (w : World) : (Op.equalIn (d + 1) 58 (.agg #[.int .i64 a0, .int .i64 a1, .int .i64 a2, .int .i64 a3, .int .i64 a4, .int .i64 a5]) (.agg #[.int .i64 b0, .int .i64 b1, .int .i64 b2, .int .i64 b3, .int .i64 b4, .int .i64 b5])).run Try.prog w = .ok (decide (a0 = b0 ∧ a1 = b1 ∧ a2 = b2 ∧ a3 = b3 ∧ a4 = b4 ∧ a5 = b5)) w := by
  have hs : ∀ w, (sizeOf 3).run Try.prog w = .ok 1 w := fun w => by go_simp
  have hg : ∀ w, (isAgg 3).run Try.prog w = .ok false w := fun w => by go_simp
  have hp : ∀ (xs : Array Value) (i : Nat) (v : Value) (w : World), xs[i]? = some v → (part 3 xs i).run Try.prog w = .ok v w := fun xs i v w h => by
    simp [part, Sem.run_bind, hg, h]
  simp only [Op.equalIn, Sem.run_bind, run_underlying Try.underlying58, Result.andThen_ok, hs]
  by_cases h0 : a0 = b0 <;> by_cases h1 : a1 = b1 <;> by_cases h2 : a2 = b2 <;> by_cases h3 : a3 = b3 <;> by_cases h4 : a4 = b4 <;> by_cases h5 : a5 = b5 <;> simp [Std.Legacy.Range.forIn_eq_forIn_range', Std.Legacy.Range.size, List.range', Sem.run_bind, hu, hp, h0, h1, h2, h3, h4, h5]
end Go.Proofs.Ytfjnkhanndkpfaa
