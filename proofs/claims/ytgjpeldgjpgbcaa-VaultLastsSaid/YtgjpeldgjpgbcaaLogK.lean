/- Contracts with known answers; tables of numbers below 2^32. No conditions. -/
import Derived.Test.YtgjpeldgjpgbcaaLogR
import Derived.Test.YtgjpeldgjpgbcaaMad
namespace Go.Proofs.Ytgjpeldgjpgbcaa
set_option linter.unusedSimpArgs false
set_option linter.unusedVariables false
open Go.RowKit

theorem byte_tab : ∀ i, i < 256 → byteN i < 4294967296 := fun _ h => byteN_lt h
theorem lval {f : FuncId} {args : List AV} {os os1 : List TK} {a b : Int} (h : ACo Try.prog f args os (fun y os' => y = .sc (.int .i64 a) ∧ os' = os1)) (e : a = b) : ACo Try.prog f args os (fun y os' => y = .sc (.int .i64 b) ∧ os' = os1) := e ▸ h
theorem rows_one {rs : List (List UInt8)} : ∀ cs ∈ rowsA rs, cs.length = 1 := fun cs hcs => by
  unfold rowsA at hcs
  obtain ⟨_, _, rfl⟩ := List.mem_map.1 hcs
  rfl
theorem rows_take (rs : List (List UInt8)) (n : Nat) : (rowsA rs).take n = rowsA (rs.take n) := by simp [rowsA, List.map_take]
theorem read_v {k : Nat} {d : DiskD} (h : d.Ok k) (hk : k ≤ 1000000) (G f : Nat) (hf : f < 4) (hd : d.dark = false) {x : List UInt8} (hx : d.n f = x) : ACo Try.prog 25 [.bx 0 G 0, .sc (.int .i64 (f : Int))] [⟨G, .obj (DiskP d)⟩] (fun y os' => y = .tu [.sl (byA x), .sc (.int .i64 0)] ∧ os' = [⟨G, .obj (DiskP d)⟩]) := by
  have := ok_read2 h hk G f hf
  rw [rdB_eq hd, hx] at this
  have e : rdC d = 0 := by unfold rdC; rw [hd]; rfl
  rwa [e] at this
end Go.Proofs.Ytgjpeldgjpgbcaa
