/- The law DiskLasts: its arguments opened. -/
import Derived.Test.YtdgcbhihmnhnaaaDskR
namespace Go.Proofs.Ytdgcbhihmnhnaaa
set_option linter.unusedSimpArgs false
set_option linter.unusedVariables false
set_option maxRecDepth 100000
open Go.RowKit Go.ChangeShapes Go.WideShapes Go.ChangeAt Go.Deep

section
variable {H : Type} {enc : TypeId × Value → H} {W : World} {base b0 : Nat} {sp : Nat → Bool} {held : Bool} {r : Reach}
theorem op_Act9 : OpT enc Try.prog W base sp held 31 (fun x : Act9 => (Lit.int .i64 x.kind).wf = true ∧ (Lit.int .i64 x.file).wf = true ∧ (Lit.int .i64 x.n).wf = true) Act9.cs := fun fuel cs x h => by
  obtain ⟨hl, hf⟩ := op_fields Try.underlying31 h
  have hl : cs.length = 4 := hl.trans (by kernel_rfl)
  match cs, hl with
  | [c0, c1, c2, c3], _ =>
    obtain ⟨n0, y0, g0⟩ := hf 0 _ 1 rfl (by kernel_rfl)
    obtain ⟨n1, y1, g1⟩ := hf 1 _ 1 rfl (by kernel_rfl)
    obtain ⟨n2, y2, g2⟩ := hf 2 _ 1 rfl (by kernel_rfl)
    obtain ⟨n3, y3, g3⟩ := hf 3 _ 1 rfl (by kernel_rfl)
    obtain ⟨d0, o0, r0⟩ := op_int Try.underlying3 _ _ _ g0
    obtain ⟨d1, o1, r1⟩ := op_int Try.underlying3 _ _ _ g1
    obtain ⟨d2, o2, r2⟩ := op_int Try.underlying3 _ _ _ g2
    obtain ⟨d3, o3, r3⟩ := op_bytes _ _ _ g3
    exact ⟨⟨d0, d1, d2, d3⟩, ⟨o0, o1, o2⟩, (r0.app (r1.app (r2.app r3)))⟩
theorem open_Acts9 {v : Value} {d : DataW H} {p : List MemPlace} (hv : Value.okWide Try.prog W r b0 22 v) (h : DataW.Trod enc Try.prog W base sp held 22 v d p) : ∃ l : List Act9, RepS AnyB W v (.sl (l.map Act9.cs)) := by
  obtain ⟨A, n, c, rfl⟩ := okWide_slice Try.underlying22 hv
  obtain ⟨l, _, h2⟩ := OpT.cell (f := fun l : List Act9 => AV.sl (l.map Act9.cs)) (op_slice (sz := 4) Try.underlying22 (by kernel_rfl) (by decide) (fun _ => rfl) op_Act9) rfl h
  exact ⟨l, h2⟩
end
end Go.Proofs.Ytdgcbhihmnhnaaa
