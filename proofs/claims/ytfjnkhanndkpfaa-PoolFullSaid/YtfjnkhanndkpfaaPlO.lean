/- Ops, lists of ops, tags and vectors as arguments. No conditions. -/
import Derived.Test.YtfjnkhanndkpfaaPlB
import Derived.OpenShut
import Derived.Test.YtfjnkhanndkpfaaOpF
namespace Go.Proofs.Ytfjnkhanndkpfaa
set_option linter.unusedSimpArgs false
set_option linter.unusedVariables false
set_option maxRecDepth 100000
open Go.RowKit Go.ChangeShapes Go.WideShapes Go.ChangeAt Go.Deep

section
variable {H : Type} {enc : TypeId × Value → H} {W : World} {base b0 : Nat} {sp : Nat → Bool} {held : Bool} {r : Reach}
theorem op_Tag : OpT enc Try.prog W base sp held 44 (fun _ : TagD => True) TagD.cs := fun fuel cs x h => by
  obtain ⟨hl, hf⟩ := op_fields Try.underlying44 h
  have hl : cs.length = 2 := hl.trans (by kernel_rfl)
  match cs, hl with
  | [c0, c1], _ =>
    obtain ⟨n0, y0, g0⟩ := hf 0 _ 1 rfl (by kernel_rfl)
    obtain ⟨n1, y1, g1⟩ := hf 1 _ 1 rfl (by kernel_rfl)
    obtain ⟨d0, o0, r0⟩ := op_int Try.underlying3 _ _ _ g0
    obtain ⟨d1, o1, r1⟩ := op_int Try.underlying3 _ _ _ g1
    exact ⟨⟨d0, d1⟩, trivial, (r0.app r1)⟩
theorem op_Tags : OpT enc Try.prog W base sp held 45 (fun l : List TagD => l.length ≤ maxLen ∧ ∀ f ∈ l, True) (fun l => [.sl (l.map TagD.cs)]) := op_slice (sz := 2) Try.underlying45 (by kernel_rfl) (by decide) (fun _ => rfl) op_Tag
theorem op_Op : OpT enc Try.prog W base sp held 47 (fun _ : OpD => True) OpD.cs := fun fuel cs x h => by
  obtain ⟨hl, hf⟩ := op_fields Try.underlying47 h
  have hl : cs.length = 15 := hl.trans (by kernel_rfl)
  match cs, hl with
  | [c0, c1, c2, c3, c4, c5, c6, c7, c8, c9, c10, c11, c12, c13, c14], _ =>
    obtain ⟨n0, y0, g0⟩ := hf 0 _ 2 rfl (by kernel_rfl)
    obtain ⟨n1, y1, g1⟩ := hf 1 _ 2 rfl (by kernel_rfl)
    obtain ⟨n2, y2, g2⟩ := hf 2 _ 1 rfl (by kernel_rfl)
    obtain ⟨n3, y3, g3⟩ := hf 3 _ 1 rfl (by kernel_rfl)
    obtain ⟨n4, y4, g4⟩ := hf 4 _ 1 rfl (by kernel_rfl)
    obtain ⟨n5, y5, g5⟩ := hf 5 _ 1 rfl (by kernel_rfl)
    obtain ⟨n6, y6, g6⟩ := hf 6 _ 3 rfl (by kernel_rfl)
    obtain ⟨n7, y7, g7⟩ := hf 7 _ 1 rfl (by kernel_rfl)
    obtain ⟨n8, y8, g8⟩ := hf 8 _ 1 rfl (by kernel_rfl)
    obtain ⟨n9, y9, g9⟩ := hf 9 _ 1 rfl (by kernel_rfl)
    obtain ⟨n10, y10, g10⟩ := hf 10 _ 1 rfl (by kernel_rfl)
    obtain ⟨d0, o0, r0⟩ := op_Tag _ _ _ g0
    obtain ⟨d1, o1, r1⟩ := op_Tag _ _ _ g1
    obtain ⟨d2, o2, r2⟩ := op_int Try.underlying2 _ _ _ g2
    obtain ⟨d3, o3, r3⟩ := op_str Try.underlying9 _ _ _ g3
    obtain ⟨d4, o4, r4⟩ := op_int Try.underlying3 _ _ _ g4
    obtain ⟨d5, o5, r5⟩ := op_str Try.underlying9 _ _ _ g5
    obtain ⟨d6, o6, r6⟩ := op_Ref _ _ _ g6
    obtain ⟨d7, o7, r7⟩ := op_int Try.underlying2 _ _ _ g7
    obtain ⟨d8, o8, r8⟩ := op_bool Try.underlying4 _ _ _ g8
    obtain ⟨d9, o9, r9⟩ := op_str Try.underlying9 _ _ _ g9
    obtain ⟨d10, o10, r10⟩ := op_Tags _ _ _ g10
    exact ⟨⟨d0, d1, d2, d3, d4, d5, d6, d7, d8, d9, d10⟩, trivial, (r0.app (r1.app (r2.app (r3.app (r4.app (r5.app (r6.app (r7.app (r8.app (r9.app r10))))))))))⟩
theorem open_Op {v : Value} {d : DataW H} {p : List MemPlace} (hv : Value.okWide Try.prog W r b0 47 v) (h : DataW.Trod enc Try.prog W base sp held 47 v d p) : ∃ x : OpD, True ∧ RepS AnyB W v x.av := by
  obtain ⟨vs, rfl, _⟩ := okWide_struct Try.underlying47 hv
  exact op_Op.agg h
theorem op_Ops : OpT enc Try.prog W base sp held 50 (fun l : List OpD => l.length ≤ maxLen ∧ ∀ f ∈ l, True) (fun l => [.sl (l.map OpD.cs)]) := op_slice (sz := 15) Try.underlying50 (by kernel_rfl) (by decide) (fun _ => rfl) op_Op
theorem open_Ops {v : Value} {d : DataW H} {p : List MemPlace} (hv : Value.okWide Try.prog W r b0 50 v) (h : DataW.Trod enc Try.prog W base sp held 50 v d p) : ∃ l : List OpD, True ∧ RepS AnyB W v (.sl (l.map OpD.cs)) := by
  obtain ⟨A, n, c, rfl⟩ := okWide_slice Try.underlying50 hv
  obtain ⟨l, _, h2⟩ := OpT.cell (f := fun l : List OpD => AV.sl (l.map OpD.cs)) op_Ops rfl h
  exact ⟨l, trivial, h2⟩
theorem open_Tag {v : Value} {d : DataW H} {p : List MemPlace} (hv : Value.okWide Try.prog W r b0 44 v) (h : DataW.Trod enc Try.prog W base sp held 44 v d p) : ∃ x : TagD, True ∧ RepS AnyB W v x.av := by
  obtain ⟨vs, rfl, _⟩ := okWide_struct Try.underlying44 hv
  exact op_Tag.agg h
theorem op_Vec : OpT enc Try.prog W base sp held 58 (fun _ : VecD => True) (fun v => [AI (v 0), AI (v 1), AI (v 2), AI (v 3), AI (v 4), AI (v 5)]) := fun fuel cs x h => by
  obtain ⟨xs, m, _, _, hl, hxl, hi⟩ := DataW.trod_array Try.underlying58 h
  have hl : cs.length = 6 := hl.trans (by kernel_rfl)
  match cs, hl with
  | [c0, c1, c2, c3, c4, c5], _ =>
    have g : ∀ i, i < 6 → ∃ y, DataW.trod enc Try.prog W base sp held m 3 (([c0, c1, c2, c3, c4, c5].drop i).take 1) = some y := fun i hi' => by
      have h1 := hi i hi'
      rw [show Try.prog.cellsOf 3 = 1 by kernel_rfl, Nat.mul_one, List.getElem?_eq_getElem (by omega)] at h1
      exact ⟨_, h1⟩
    obtain ⟨y0, g0⟩ := g 0 (by omega)
    obtain ⟨y1, g1⟩ := g 1 (by omega)
    obtain ⟨y2, g2⟩ := g 2 (by omega)
    obtain ⟨y3, g3⟩ := g 3 (by omega)
    obtain ⟨y4, g4⟩ := g 4 (by omega)
    obtain ⟨y5, g5⟩ := g 5 (by omega)
    obtain ⟨d0, o0, r0⟩ := op_int Try.underlying3 _ _ _ g0
    obtain ⟨d1, o1, r1⟩ := op_int Try.underlying3 _ _ _ g1
    obtain ⟨d2, o2, r2⟩ := op_int Try.underlying3 _ _ _ g2
    obtain ⟨d3, o3, r3⟩ := op_int Try.underlying3 _ _ _ g3
    obtain ⟨d4, o4, r4⟩ := op_int Try.underlying3 _ _ _ g4
    obtain ⟨d5, o5, r5⟩ := op_int Try.underlying3 _ _ _ g5
    exact ⟨fun i => match i with | 0 => d0 | 1 => d1 | 2 => d2 | 3 => d3 | 4 => d4 | _ => d5, trivial, r0.app (r1.app (r2.app (r3.app (r4.app r5))))⟩
theorem open_Vec {v : Value} {d : DataW H} {p : List MemPlace} (hv : Value.okWide Try.prog W r b0 58 v) (h : DataW.Trod enc Try.prog W base sp held 58 v d p) : ∃ x : VecD, True ∧ RepS AnyB W v (vecA x) := by
  have hv' := hv
  simp only [Value.okWide, Try.underlying58] at hv'
  obtain ⟨vs, rfl, _⟩ := hv'
  exact op_Vec.agg h
end
end Go.Proofs.Ytfjnkhanndkpfaa
