/- Openers: places and fields as arguments. No conditions. -/
import Derived.Test.YtpkjlmaphhileaaDoorOpA
import Derived.Test.YtpkjlmaphhileaaDoorNameA
namespace Go.Proofs.YtpkjlmaphhileaaDoor
set_option linter.unusedSimpArgs false
set_option linter.unusedVariables false
set_option maxRecDepth 100000
open Go.RowKit Go.ChangeShapes Go.WideShapes Go.ChangeAt Go.Deep

def okRef (r : RefD) : Prop := (Lit.int .i64 r.scope).wf = true ∧ r.group.length ≤ maxLen ∧ r.name.length ≤ maxLen
def okFld (f : FldD) : Prop := okRef f.at_ ∧ (Lit.int .i64 f.kind).wf = true ∧ f.dflt.length ≤ maxLen ∧ (f.cases.length ≤ maxLen ∧ ∀ c ∈ f.cases, c.length ≤ maxLen) ∧ (Lit.int .i64 f.worth).wf = true
section
variable {H : Type} {enc : TypeId × Value → H} {W : World} {base b0 : Nat} {sp : Nat → Bool} {held : Bool} {r : Reach}
theorem op_Ref : OpT enc Tryd.prog W base sp held 23 okRef RefD.cs := fun fuel cs x h => by
  obtain ⟨hl, hf⟩ := op_fields Tryd.underlying23 h
  have hl : cs.length = 3 := hl.trans (by kernel_rfl)
  match cs, hl with
  | [c0, c1, c2], _ =>
    obtain ⟨n0, y0, g0⟩ := hf 0 _ 1 rfl (by kernel_rfl)
    obtain ⟨n1, y1, g1⟩ := hf 1 _ 1 rfl (by kernel_rfl)
    obtain ⟨n2, y2, g2⟩ := hf 2 _ 1 rfl (by kernel_rfl)
    obtain ⟨d0, o0, r0⟩ := op_int Tryd.underlying3 _ _ _ g0
    obtain ⟨d1, o1, r1⟩ := op_str Tryd.underlying9 _ _ _ g1
    obtain ⟨d2, o2, r2⟩ := op_str Tryd.underlying9 _ _ _ g2
    exact ⟨⟨d0, d1, d2⟩, ⟨o0, o1, o2⟩, (r0.app (r1.app r2))⟩
theorem op_texts : OpT enc Tryd.prog W base sp held 35 (fun l : List Bytes => l.length ≤ maxLen ∧ ∀ c ∈ l, c.length ≤ maxLen) (fun l => [.sl (csS l)]) := op_slice (sz := 1) Tryd.underlying35 (by kernel_rfl) (by decide) (fun _ => rfl) (op_str Tryd.underlying9)
theorem op_Fld : OpT enc Tryd.prog W base sp held 37 okFld FldD.cs := fun fuel cs x h => by
  obtain ⟨hl, hf⟩ := op_fields Tryd.underlying37 h
  have hl : cs.length = 7 := hl.trans (by kernel_rfl)
  match cs, hl with
  | [c0, c1, c2, c3, c4, c5, c6], _ =>
    obtain ⟨n0, y0, g0⟩ := hf 0 _ 3 rfl (by kernel_rfl)
    obtain ⟨n1, y1, g1⟩ := hf 1 _ 1 rfl (by kernel_rfl)
    obtain ⟨n2, y2, g2⟩ := hf 2 _ 1 rfl (by kernel_rfl)
    obtain ⟨n3, y3, g3⟩ := hf 3 _ 1 rfl (by kernel_rfl)
    obtain ⟨n4, y4, g4⟩ := hf 4 _ 1 rfl (by kernel_rfl)
    obtain ⟨d0, o0, r0⟩ := op_Ref _ _ _ g0
    obtain ⟨d1, o1, r1⟩ := op_int Tryd.underlying3 _ _ _ g1
    obtain ⟨d2, o2, r2⟩ := op_str Tryd.underlying9 _ _ _ g2
    obtain ⟨d3, o3, r3⟩ := op_texts _ _ _ g3
    obtain ⟨d4, o4, r4⟩ := op_int Tryd.underlying2 _ _ _ g4
    exact ⟨⟨d0, d1, d2, d3, d4⟩, ⟨o0, o1, o2, o3, o4⟩, (r0.app (r1.app (r2.app (r3.app r4))))⟩
theorem open_Ref {v : Value} {d : DataW H} {p : List MemPlace} (hv : Value.okWide Tryd.prog W r b0 23 v) (h : DataW.Trod enc Tryd.prog W base sp held 23 v d p) : ∃ x, okRef x ∧ RepS AnyB W v x.av := by
  obtain ⟨vs, rfl, _⟩ := okWide_struct Tryd.underlying23 hv
  exact op_Ref.agg h
theorem open_Fld {v : Value} {d : DataW H} {p : List MemPlace} (hv : Value.okWide Tryd.prog W r b0 37 v) (h : DataW.Trod enc Tryd.prog W base sp held 37 v d p) : ∃ x, okFld x ∧ RepS AnyB W v x.av := by
  obtain ⟨vs, rfl, _⟩ := okWide_struct Tryd.underlying37 hv
  exact op_Fld.agg h
end
end Go.Proofs.YtpkjlmaphhileaaDoor
