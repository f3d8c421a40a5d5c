/- Openers: calls of a vault as arguments. No conditions. -/
import Derived.Test.YtgjpeldgjpgbcaaOpR
import Derived.Test.YtgjpeldgjpgbcaaVltL
namespace Go.Proofs.Ytgjpeldgjpgbcaa
set_option linter.unusedSimpArgs false
set_option linter.unusedVariables false
set_option maxRecDepth 100000
open Go.RowKit Go.ChangeShapes Go.WideShapes Go.ChangeAt Go.Deep

section
variable {H : Type} {enc : TypeId × Value → H} {W : World} {base b0 : Nat} {sp : Nat → Bool} {held : Bool} {r : Reach}
theorem op_Act12 : OpT enc Try.prog W base sp held 93 (fun x : Act12 => (Lit.int .i64 x.kind).wf = true) Act12.cs := fun fuel cs x h => by
  obtain ⟨hl, hf⟩ := op_fields Try.underlying93 h
  have hl : cs.length = 2 := hl.trans (by kernel_rfl)
  match cs, hl with
  | [c0, c1], _ =>
    obtain ⟨n0, y0, g0⟩ := hf 0 _ 1 rfl (by kernel_rfl)
    obtain ⟨n1, y1, g1⟩ := hf 1 _ 1 rfl (by kernel_rfl)
    obtain ⟨d0, o0, r0⟩ := op_int Try.underlying3 _ _ _ g0
    obtain ⟨d1, o1, r1⟩ := op_bytes _ _ _ g1
    exact ⟨⟨d0, d1⟩, o0, (r0.app r1)⟩
theorem open_Act12s {v : Value} {d : DataW H} {p : List MemPlace} (hv : Value.okWide Try.prog W r b0 91 v) (h : DataW.Trod enc Try.prog W base sp held 91 v d p) : ∃ l : List Act12, RepS AnyB W v (.sl (l.map Act12.cs)) := by
  obtain ⟨A, n, c, rfl⟩ := okWide_slice Try.underlying91 hv
  obtain ⟨l, _, h2⟩ := OpT.cell (f := fun l : List Act12 => AV.sl (l.map Act12.cs)) (op_slice (sz := 2) Try.underlying91 (by kernel_rfl) (by decide) (fun _ => rfl) op_Act12) rfl h
  exact ⟨l, h2⟩
end
end Go.Proofs.Ytgjpeldgjpgbcaa
