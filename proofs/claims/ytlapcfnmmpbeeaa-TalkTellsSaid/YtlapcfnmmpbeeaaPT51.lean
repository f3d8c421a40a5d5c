/- A part of a proof. -/
import Derived.Test.YtlapcfnmmpbeeaaPT43
set_option linter.unusedSimpArgs false
set_option linter.unusedVariables false
namespace Go.Proofs.Ytlapcfnmmpbeeaa
set_option maxRecDepth 100000
open Go.RowKit Go.ChangeShapes Go.WideShapes Go.ChangeAt Go.Deep
theorem i64R_of2 {n : Int} (h : (Lit.int .i64 n).wf = true) : i64R n := by have := bounds_i64 h; unfold i64R; omega
section
variable {H : Type} {enc : TypeId × Value → H} {W : World} {base b0 : Nat} {sp : Nat → Bool} {held : Bool} {r : Reach}
theorem op_TagX : OpT enc Try.prog W base sp held 51 (fun t : TagD => i64R t.rep ∧ i64R t.n) TagD.cs := fun fuel cs x h => by
  obtain ⟨hl, hf⟩ := op_fields Try.underlying51 h
  have hl : cs.length = 2 := hl.trans (by kernel_rfl)
  match cs, hl with
  | [c0, c1], _ =>
    obtain ⟨n0, y0, g0⟩ := hf 0 _ 1 rfl (by kernel_rfl)
    obtain ⟨n1, y1, g1⟩ := hf 1 _ 1 rfl (by kernel_rfl)
    obtain ⟨d0, o0, r0⟩ := op_int Try.underlying3 _ _ _ g0
    obtain ⟨d1, o1, r1⟩ := op_int Try.underlying3 _ _ _ g1
    exact ⟨⟨d0, d1⟩, ⟨i64R_of2 o0, i64R_of2 o1⟩, (r0.app r1)⟩
theorem op_TagsX : OpT enc Try.prog W base sp held 24 (fun l : List TagD => l.length ≤ maxLen ∧ ∀ f ∈ l, i64R f.rep ∧ i64R f.n) (fun l => [.sl (l.map TagD.cs)]) := op_slice (sz := 2) Try.underlying24 (by kernel_rfl) (by decide) (fun _ => rfl) op_TagX
theorem op_OpX : OpT enc Try.prog W base sp held 67 OpD.Wf OpD.cs := fun fuel cs x h => by
  obtain ⟨hl, hf⟩ := op_fields Try.underlying67 h
  have hl : cs.length = 15 := hl.trans (by kernel_rfl)
  match cs, hl with
  | [c0, c1, c2, c3, c4, c5, c6, c7, c8, c9, c10, c11, c12, c13, c14], _ =>
    obtain ⟨n0, y0, g0⟩ := hf 0 _ 2 rfl (by kernel_rfl)
    obtain ⟨n1, y1, g1⟩ := hf 1 _ 2 rfl (by kernel_rfl)
    obtain ⟨n2, y2, g2⟩ := hf 2 _ 1 rfl (by kernel_rfl)
    obtain ⟨n3, y3, g3⟩ := hf 3 _ 1 rfl (by kernel_rfl)
    obtain ⟨n4, y4, g4⟩ := hf 4 _ 1 rfl (by kernel_rfl)
    obtain ⟨n5, y5, g5⟩ := hf 5 _ 1 rfl (by kernel_rfl)
    obtain ⟨n6, y6, g6⟩ := hf 6 _ 3 rfl (by kernel_rfl)
    obtain ⟨n7, y7, g7⟩ := hf 7 _ 1 rfl (by kernel_rfl)
    obtain ⟨n8, y8, g8⟩ := hf 8 _ 1 rfl (by kernel_rfl)
    obtain ⟨n9, y9, g9⟩ := hf 9 _ 1 rfl (by kernel_rfl)
    obtain ⟨n10, y10, g10⟩ := hf 10 _ 1 rfl (by kernel_rfl)
    obtain ⟨d0, o0, r0⟩ := op_TagX _ _ _ g0
    obtain ⟨d1, o1, r1⟩ := op_TagX _ _ _ g1
    obtain ⟨d2, o2, r2⟩ := op_int Try.underlying2 _ _ _ g2
    obtain ⟨d3, o3, r3⟩ := op_str Try.underlying9 _ _ _ g3
    obtain ⟨d4, o4, r4⟩ := op_int Try.underlying3 _ _ _ g4
    obtain ⟨d5, o5, r5⟩ := op_str Try.underlying9 _ _ _ g5
    obtain ⟨d6, o6, r6⟩ := op_Ref _ _ _ g6
    obtain ⟨d7, o7, r7⟩ := op_int Try.underlying2 _ _ _ g7
    obtain ⟨d8, o8, r8⟩ := op_bool Try.underlying4 _ _ _ g8
    obtain ⟨d9, o9, r9⟩ := op_str Try.underlying9 _ _ _ g9
    obtain ⟨d10, o10, r10⟩ := op_TagsX _ _ _ g10
    exact ⟨⟨d0, d1, d2, d3, d4, d5, d6, d7, d8, d9, d10⟩, ⟨o0.1, o0.2, o1.1, o1.2, i64R_of2 o2, i64R_of2 o4, i64R_of2 o6.1, i64R_of2 o7, o10.2⟩, (r0.app (r1.app (r2.app (r3.app (r4.app (r5.app (r6.app (r7.app (r8.app (r9.app r10))))))))))⟩
theorem op_PairX : OpT enc Try.prog W base sp held 127 (fun _ : PairD => True) PairD.cs := fun fuel cs x h => by
  obtain ⟨hl, hf⟩ := op_fields Try.underlying127 h
  have hl : cs.length = 2 := hl.trans (by kernel_rfl)
  match cs, hl with
  | [c0, c1], _ =>
    obtain ⟨n0, y0, g0⟩ := hf 0 _ 1 rfl (by kernel_rfl)
    obtain ⟨n1, y1, g1⟩ := hf 1 _ 1 rfl (by kernel_rfl)
    obtain ⟨d0, o0, r0⟩ := op_str Try.underlying9 _ _ _ g0
    obtain ⟨d1, o1, r1⟩ := op_str Try.underlying9 _ _ _ g1
    exact ⟨⟨d0, d1⟩, trivial, r0.app r1⟩
theorem op_PairsX : OpT enc Try.prog W base sp held 59 (fun l : List PairD => l.length ≤ maxLen ∧ ∀ f ∈ l, True) (fun l => [.sl (l.map PairD.cs)]) := op_slice (sz := 2) Try.underlying59 (by kernel_rfl) (by decide) (fun _ => rfl) op_PairX
theorem op_LensX : OpT enc Try.prog W base sp held 61 LensD.Wf LensD.cs := fun fuel cs x h => by
  obtain ⟨hl, hf⟩ := op_fields Try.underlying61 h
  have hl : cs.length = 16 := hl.trans (by kernel_rfl)
  match cs, hl with
  | [c0, c1, c2, c3, c4, c5, c6, c7, c8, c9, c10, c11, c12, c13, c14, c15], _ =>
    obtain ⟨n0, y0, g0⟩ := hf 0 _ 1 rfl (by kernel_rfl)
    obtain ⟨n1, y1, g1⟩ := hf 1 _ 3 rfl (by kernel_rfl)
    obtain ⟨n2, y2, g2⟩ := hf 2 _ 1 rfl (by kernel_rfl)
    obtain ⟨n3, y3, g3⟩ := hf 3 _ 1 rfl (by kernel_rfl)
    obtain ⟨n4, y4, g4⟩ := hf 4 _ 1 rfl (by kernel_rfl)
    obtain ⟨n5, y5, g5⟩ := hf 5 _ 7 rfl (by kernel_rfl)
    obtain ⟨n6, y6, g6⟩ := hf 6 _ 1 rfl (by kernel_rfl)
    obtain ⟨n7, y7, g7⟩ := hf 7 _ 1 rfl (by kernel_rfl)
    obtain ⟨d0, o0, r0⟩ := op_int Try.underlying3 _ _ _ g0
    obtain ⟨d1, o1, r1⟩ := op_Ref _ _ _ g1
    obtain ⟨d2, o2, r2⟩ := op_str Try.underlying9 _ _ _ g2
    obtain ⟨d3, o3, r3⟩ := op_str Try.underlying9 _ _ _ g3
    obtain ⟨d4, o4, r4⟩ := op_int Try.underlying2 _ _ _ g4
    obtain ⟨d5, o5, r5⟩ := op_Fld _ _ _ g5
    obtain ⟨d6, o6, r6⟩ := op_PairsX _ _ _ g6
    obtain ⟨d7, o7, r7⟩ := op_PairsX _ _ _ g7
    exact ⟨⟨d0, d1, d2, d3, d4, d5, d6, d7⟩, ⟨i64R_of2 o0, i64R_of2 o1.1, i64R_of2 o4, ⟨i64R_of2 o5.1.1, i64R_of2 o5.2.1, i64R_of2 o5.2.2.2.2⟩⟩, r0.app (r1.app (r2.app (r3.app (r4.app (r5.app (r6.app r7))))))⟩
theorem op_VecX : OpT enc Try.prog W base sp held 23 V6D.Wf V6D.cs := fun fuel cs x h => by
  obtain ⟨xs, m, _, _, hl, hxl, hi⟩ := DataW.trod_array Try.underlying23 h
  have hl : cs.length = 6 := hl.trans (by kernel_rfl)
  match cs, hl with
  | [c0, c1, c2, c3, c4, c5], _ =>
    have g : ∀ i, i < 6 → ∃ y, DataW.trod enc Try.prog W base sp held m 3 (([c0, c1, c2, c3, c4, c5].drop i).take 1) = some y := fun i hi' => by
      have h1 := hi i hi'
      rw [show Try.prog.cellsOf 3 = 1 by kernel_rfl, Nat.mul_one, List.getElem?_eq_getElem (by omega)] at h1
      exact ⟨_, h1⟩
    obtain ⟨y0, g0⟩ := g 0 (by omega)
    obtain ⟨y1, g1⟩ := g 1 (by omega)
    obtain ⟨y2, g2⟩ := g 2 (by omega)
    obtain ⟨y3, g3⟩ := g 3 (by omega)
    obtain ⟨y4, g4⟩ := g 4 (by omega)
    obtain ⟨y5, g5⟩ := g 5 (by omega)
    obtain ⟨d0, o0, r0⟩ := op_int Try.underlying3 _ _ _ g0
    obtain ⟨d1, o1, r1⟩ := op_int Try.underlying3 _ _ _ g1
    obtain ⟨d2, o2, r2⟩ := op_int Try.underlying3 _ _ _ g2
    obtain ⟨d3, o3, r3⟩ := op_int Try.underlying3 _ _ _ g3
    obtain ⟨d4, o4, r4⟩ := op_int Try.underlying3 _ _ _ g4
    obtain ⟨d5, o5, r5⟩ := op_int Try.underlying3 _ _ _ g5
    exact ⟨⟨d0, d1, d2, d3, d4, d5⟩, ⟨i64R_of2 o0, i64R_of2 o1, i64R_of2 o2, i64R_of2 o3, i64R_of2 o4, i64R_of2 o5⟩, r0.app (r1.app (r2.app (r3.app (r4.app r5))))⟩
theorem op_EdgeX : OpT enc Try.prog W base sp held 63 EdgeD.Wf EdgeD.cs := fun fuel cs x h => by
  obtain ⟨hl, hf⟩ := op_fields Try.underlying63 h
  have hl : cs.length = 20 := hl.trans (by kernel_rfl)
  match cs, hl with
  | [c0, c1, c2, c3, c4, c5, c6, c7, c8, c9, c10, c11, c12, c13, c14, c15, c16, c17, c18, c19], _ =>
    obtain ⟨n0, y0, g0⟩ := hf 0 _ 2 rfl (by kernel_rfl)
    obtain ⟨n1, y1, g1⟩ := hf 1 _ 2 rfl (by kernel_rfl)
    obtain ⟨n2, y2, g2⟩ := hf 2 _ 16 rfl (by kernel_rfl)
    obtain ⟨d0, o0, r0⟩ := op_TagX _ _ _ g0
    obtain ⟨d1, o1, r1⟩ := op_TagX _ _ _ g1
    obtain ⟨d2, o2, r2⟩ := op_LensX _ _ _ g2
    exact ⟨⟨d0, d1, d2⟩, ⟨o0.1, o0.2, o1.1, o1.2, o2⟩, r0.app (r1.app r2)⟩
theorem op_EdgesX : OpT enc Try.prog W base sp held 25 (fun l : List EdgeD => l.length ≤ maxLen ∧ ∀ f ∈ l, f.Wf) (fun l => [.sl (l.map EdgeD.cs)]) := op_slice (sz := 20) Try.underlying25 (by kernel_rfl) (by decide) (fun _ => rfl) op_EdgeX
theorem op_OpsX : OpT enc Try.prog W base sp held 26 (fun l : List OpD => l.length ≤ maxLen ∧ ∀ f ∈ l, f.Wf) (fun l => [.sl (l.map OpD.cs)]) := op_slice (sz := 15) Try.underlying26 (by kernel_rfl) (by decide) (fun _ => rfl) op_OpX
theorem op_NoteX : OpT enc Try.prog W base sp held 28 NoteD.Wf NoteD.cs := fun fuel cs x h => by
  obtain ⟨hl, hf⟩ := op_fields Try.underlying28 h
  have hl : cs.length = 12 := hl.trans (by kernel_rfl)
  match cs, hl with
  | [c0, c1, c2, c3, c4, c5, c6, c7, c8, c9, c10, c11], _ =>
    obtain ⟨n0, y0, g0⟩ := hf 0 _ 1 rfl (by kernel_rfl)
    obtain ⟨n1, y1, g1⟩ := hf 1 _ 1 rfl (by kernel_rfl)
    obtain ⟨n2, y2, g2⟩ := hf 2 _ 1 rfl (by kernel_rfl)
    obtain ⟨n3, y3, g3⟩ := hf 3 _ 6 rfl (by kernel_rfl)
    obtain ⟨n4, y4, g4⟩ := hf 4 _ 1 rfl (by kernel_rfl)
    obtain ⟨n5, y5, g5⟩ := hf 5 _ 1 rfl (by kernel_rfl)
    obtain ⟨n6, y6, g6⟩ := hf 6 _ 1 rfl (by kernel_rfl)
    obtain ⟨d0, o0, r0⟩ := op_int Try.underlying3 _ _ _ g0
    obtain ⟨d1, o1, r1⟩ := op_int Try.underlying3 _ _ _ g1
    obtain ⟨d2, o2, r2⟩ := op_int Try.underlying3 _ _ _ g2
    obtain ⟨d3, o3, r3⟩ := op_VecX _ _ _ g3
    obtain ⟨d4, o4, r4⟩ := op_TagsX _ _ _ g4
    obtain ⟨d5, o5, r5⟩ := op_EdgesX _ _ _ g5
    obtain ⟨d6, o6, r6⟩ := op_OpsX _ _ _ g6
    exact ⟨⟨d0, d1, d2, d3, d4, d5, d6⟩, ⟨i64R_of2 o0, i64R_of2 o1, i64R_of2 o2, o3, o4.2, o5.2, o6.2⟩, r0.app (r1.app (r2.app (r3.app (r4.app (r5.app r6)))))⟩
theorem open_NoteX {v : Value} {d : DataW H} {p : List MemPlace} (hv : Value.okWide Try.prog W r b0 28 v) (h : DataW.Trod enc Try.prog W base sp held 28 v d p) : ∃ x : NoteD, x.Wf ∧ RepS AnyB W v x.av := by
  obtain ⟨vs, rfl, _⟩ := okWide_struct Try.underlying28 hv
  exact op_NoteX.agg h
end
end Go.Proofs.Ytlapcfnmmpbeeaa
