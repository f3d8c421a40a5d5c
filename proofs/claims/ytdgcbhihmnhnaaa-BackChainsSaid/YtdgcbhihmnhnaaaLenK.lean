/- The law BackInverse, walked over abstract states; lenses as arguments. No conditions. -/
import Derived.Test.YtdgcbhihmnhnaaaLenM
import Derived.Test.YtdgcbhihmnhnaaaOpF
namespace Go.Proofs.Ytdgcbhihmnhnaaa
set_option linter.unusedSimpArgs false
set_option linter.unusedVariables false
set_option maxRecDepth 100000
set_option maxRecDepth 100000
open Go.RowKit Go.ChangeShapes Go.WideShapes Go.ChangeAt Go.Deep

section
variable (x : LensD) (h : x.Small)
include h
theorem binv_t (hr : rightL x = true) : AC Try.prog 24 [x.av] (fun r => ∃ y : LensD, y = invL x ∧ r = .s (.tu [.ag [AI y.kind, AI y.at_.scope, AS y.at_.group, AS y.at_.name, AS y.name, AS y.other, AI y.factor, AI y.field.at_.scope, AS y.field.at_.group, AS y.field.at_.name, AI y.field.kind, AS y.field.dflt, .sl (csS y.field.cases), AI y.field.worth, .sl (y.forth.map PairD.cs), .sl (y.back.map PairD.cs)], AI 0])) :=
  (binv_c x h).mono fun r hh => ⟨invL x, rfl, by rw [hh, invP, if_pos hr]; rfl⟩
theorem binv_f (hr : rightL x = false) : AC Try.prog 24 [x.av] (fun r => ∃ y : LensD, y = zL ∧ r = .s (.tu [.ag [AI y.kind, AI y.at_.scope, AS y.at_.group, AS y.at_.name, AS y.name, AS y.other, AI y.factor, AI y.field.at_.scope, AS y.field.at_.group, AS y.field.at_.name, AI y.field.kind, AS y.field.dflt, .sl (csS y.field.cases), AI y.field.worth, .sl (y.forth.map PairD.cs), .sl (y.back.map PairD.cs)], AI 5])) :=
  (binv_c x h).mono fun r hh => ⟨zL, rfl, by rw [hh, invP, if_neg (by rw [hr]; decide)]; rfl⟩
theorem rinv_t (hr : rightL x = true) : AC Try.prog 67 [x.av] (fun r => ∃ y : LensD, y = invL x ∧ r = .s (.tu [.ag [AI y.kind, AI y.at_.scope, AS y.at_.group, AS y.at_.name, AS y.name, AS y.other, AI y.factor, AI y.field.at_.scope, AS y.field.at_.group, AS y.field.at_.name, AI y.field.kind, AS y.field.dflt, .sl (csS y.field.cases), AI y.field.worth, .sl (y.forth.map PairD.cs), .sl (y.back.map PairD.cs)], AI 0])) :=
  (rinv_c x h).mono fun r hh => ⟨invL x, rfl, by rw [hh, invP, if_pos hr]; rfl⟩
theorem rinv_f (hr : rightL x = false) : AC Try.prog 67 [x.av] (fun r => ∃ y : LensD, y = zL ∧ r = .s (.tu [.ag [AI y.kind, AI y.at_.scope, AS y.at_.group, AS y.at_.name, AS y.name, AS y.other, AI y.factor, AI y.field.at_.scope, AS y.field.at_.group, AS y.field.at_.name, AI y.field.kind, AS y.field.dflt, .sl (csS y.field.cases), AI y.field.worth, .sl (y.forth.map PairD.cs), .sl (y.back.map PairD.cs)], AI 5])) :=
  (rinv_c x h).mono fun r hh => ⟨zL, rfl, by rw [hh, invP, if_neg (by rw [hr]; decide)]; rfl⟩
end
theorem zL_small : zL.Small := ⟨by decide, by decide, by decide⟩
section
variable {H : Type} {enc : TypeId × Value → H} {W : World} {base b0 : Nat} {sp : Nat → Bool} {held : Bool} {r : Reach}
theorem op_Pair : OpT enc Try.prog W base sp held 152 (fun _ : PairD => True) PairD.cs := fun fuel cs x h => by
  obtain ⟨hl, hf⟩ := op_fields Try.underlying152 h
  have hl : cs.length = 2 := hl.trans (by kernel_rfl)
  match cs, hl with
  | [c0, c1], _ =>
    obtain ⟨n0, y0, g0⟩ := hf 0 _ 1 rfl (by kernel_rfl)
    obtain ⟨n1, y1, g1⟩ := hf 1 _ 1 rfl (by kernel_rfl)
    obtain ⟨d0, o0, r0⟩ := op_str Try.underlying9 _ _ _ g0
    obtain ⟨d1, o1, r1⟩ := op_str Try.underlying9 _ _ _ g1
    exact ⟨⟨d0, d1⟩, trivial, r0.app r1⟩
theorem op_Pairs : OpT enc Try.prog W base sp held 48 (fun l : List PairD => l.length ≤ maxLen ∧ ∀ f ∈ l, True) (fun l => [.sl (l.map PairD.cs)]) := op_slice (sz := 2) Try.underlying48 (by kernel_rfl) (by decide) (fun _ => rfl) op_Pair
theorem op_Lens : OpT enc Try.prog W base sp held 50 (fun _ : LensD => True) LensD.cs := fun fuel cs x h => by
  obtain ⟨hl, hf⟩ := op_fields Try.underlying50 h
  have hl : cs.length = 16 := hl.trans (by kernel_rfl)
  match cs, hl with
  | [c0, c1, c2, c3, c4, c5, c6, c7, c8, c9, c10, c11, c12, c13, c14, c15], _ =>
    obtain ⟨n0, y0, g0⟩ := hf 0 _ 1 rfl (by kernel_rfl)
    obtain ⟨n1, y1, g1⟩ := hf 1 _ 3 rfl (by kernel_rfl)
    obtain ⟨n2, y2, g2⟩ := hf 2 _ 1 rfl (by kernel_rfl)
    obtain ⟨n3, y3, g3⟩ := hf 3 _ 1 rfl (by kernel_rfl)
    obtain ⟨n4, y4, g4⟩ := hf 4 _ 1 rfl (by kernel_rfl)
    obtain ⟨n5, y5, g5⟩ := hf 5 _ 7 rfl (by kernel_rfl)
    obtain ⟨n6, y6, g6⟩ := hf 6 _ 1 rfl (by kernel_rfl)
    obtain ⟨n7, y7, g7⟩ := hf 7 _ 1 rfl (by kernel_rfl)
    obtain ⟨d0, o0, r0⟩ := op_int Try.underlying3 _ _ _ g0
    obtain ⟨d1, o1, r1⟩ := op_Ref _ _ _ g1
    obtain ⟨d2, o2, r2⟩ := op_str Try.underlying9 _ _ _ g2
    obtain ⟨d3, o3, r3⟩ := op_str Try.underlying9 _ _ _ g3
    obtain ⟨d4, o4, r4⟩ := op_int Try.underlying2 _ _ _ g4
    obtain ⟨d5, o5, r5⟩ := op_Fld _ _ _ g5
    obtain ⟨d6, o6, r6⟩ := op_Pairs _ _ _ g6
    obtain ⟨d7, o7, r7⟩ := op_Pairs _ _ _ g7
    exact ⟨⟨d0, d1, d2, d3, d4, d5, d6, d7⟩, trivial, r0.app (r1.app (r2.app (r3.app (r4.app (r5.app (r6.app r7))))))⟩
theorem open_Lens {v : Value} {d : DataW H} {p : List MemPlace} (hv : Value.okWide Try.prog W r b0 50 v) (h : DataW.Trod enc Try.prog W base sp held 50 v d p) : ∃ x : LensD, True ∧ RepS AnyB W v x.av := by
  obtain ⟨vs, rfl, _⟩ := okWide_struct Try.underlying50 hv
  exact op_Lens.agg h
end
end Go.Proofs.Ytdgcbhihmnhnaaa
