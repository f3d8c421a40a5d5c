/- Openers: lists of texts of bytes, of numbers, and calls of a log, as arguments. No conditions. -/
import Derived.Test.YtgjpeldgjpgbcaaOpB
import Derived.Test.YtgjpeldgjpgbcaaFrm
namespace Go.Proofs.Ytgjpeldgjpgbcaa
set_option linter.unusedSimpArgs false
set_option linter.unusedVariables false
set_option maxRecDepth 100000
open Go.RowKit Go.ChangeShapes Go.WideShapes Go.ChangeAt Go.Deep

def intsA (l : List Int) : List (List AV) := l.map fun n => [.sc (.int .i64 n)]
theorem intsA_len (l : List Int) : (intsA l).length = l.length := by simp [intsA]
section
variable {H : Type} {enc : TypeId × Value → H} {W : World} {base b0 : Nat} {sp : Nat → Bool} {held : Bool} {r : Reach}
theorem open_rowsA {v : Value} {d : DataW H} {p : List MemPlace} (hv : Value.okWide Try.prog W r b0 56 v) (h : DataW.Trod enc Try.prog W base sp held 56 v d p) : ∃ l : List (List UInt8), RepS AnyB W v (.sl (rowsA l)) := by
  obtain ⟨A, n, c, rfl⟩ := okWide_slice Try.underlying56 hv
  obtain ⟨l, _, h2⟩ := OpT.cell (f := fun l : List (List UInt8) => AV.sl (rowsA l)) (op_slice (sz := 1) Try.underlying56 (by kernel_rfl) (by decide) (fun _ => rfl) op_bytes) rfl h
  exact ⟨l, h2⟩
theorem open_intsA {v : Value} {d : DataW H} {p : List MemPlace} (hv : Value.okWide Try.prog W r b0 81 v) (h : DataW.Trod enc Try.prog W base sp held 81 v d p) : ∃ l : List Int, (∀ x ∈ l, (Lit.int .i64 x).wf = true) ∧ RepS AnyB W v (.sl (intsA l)) := by
  obtain ⟨A, n, c, rfl⟩ := okWide_slice Try.underlying81 hv
  obtain ⟨l, h1, h2⟩ := OpT.cell (f := fun l : List Int => AV.sl (intsA l)) (op_slice (sz := 1) Try.underlying81 (by kernel_rfl) (by decide) (fun _ => rfl) (op_int Try.underlying3)) rfl h
  exact ⟨l, h1.2, h2⟩
end
end Go.Proofs.Ytgjpeldgjpgbcaa
