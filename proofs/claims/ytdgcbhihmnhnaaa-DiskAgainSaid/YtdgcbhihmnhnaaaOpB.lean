/- Openers: bytes and lists of numbers as arguments. No conditions. -/
import Derived.Test.YtdgcbhihmnhnaaaOpA
import Derived.Test.YtdgcbhihmnhnaaaTy
namespace Go.Proofs.Ytdgcbhihmnhnaaa
set_option linter.unusedSimpArgs false
set_option linter.unusedVariables false
set_option maxRecDepth 100000
open Go.RowKit Go.ChangeShapes Go.WideShapes Go.ChangeAt Go.Deep

section
variable {H : Type} {enc : TypeId × Value → H} {W : World} {base b0 : Nat} {sp : Nat → Bool} {held : Bool} {r : Reach}
theorem op_u8 : OpT enc Try.prog W base sp held 5 (fun _ : UInt8 => True) (fun b => [.sc (bv b)]) := fun fuel cs x h => by
  obtain ⟨n, hn, hr⟩ := op_int (enc := enc) Try.underlying5 fuel cs x h
  obtain ⟨b, rfl⟩ := byte_of_wf hn
  exact ⟨b, trivial, hr⟩
theorem op_bytes : OpT enc Try.prog W base sp held 29 (fun l : List UInt8 => l.length ≤ maxLen ∧ ∀ c ∈ l, True) (fun l => [.sl (byA l)]) := op_slice (sz := 1) Try.underlying29 (by kernel_rfl) (by decide) (fun _ => rfl) op_u8
theorem open_byt {v : Value} {d : DataW H} {p : List MemPlace} (hv : Value.okWide Try.prog W r b0 29 v) (h : DataW.Trod enc Try.prog W base sp held 29 v d p) : ∃ l : List UInt8, l.length ≤ maxLen ∧ RepS AnyB W v (.sl (byA l)) := by
  obtain ⟨A, n, c, rfl⟩ := okWide_slice Try.underlying29 hv
  obtain ⟨l, h1, h2⟩ := op_bytes.cell (f := fun l : List UInt8 => AV.sl (byA l)) rfl h
  exact ⟨l, h1.1, h2⟩
end
end Go.Proofs.Ytdgcbhihmnhnaaa
