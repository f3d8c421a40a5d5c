/- Openers: lists of texts of bytes, of numbers, and calls of a log, as arguments. No conditions. -/
import Derived.Test.YtgjpeldgjpgbcaaOpB
import Derived.Test.YtgjpeldgjpgbcaaFrm
import Derived.Test.YtgjpeldgjpgbcaaLogU
namespace Go.Proofs.Ytgjpeldgjpgbcaa
set_option linter.unusedSimpArgs false
set_option linter.unusedVariables false
set_option maxRecDepth 100000
open Go.RowKit Go.ChangeShapes Go.WideShapes Go.ChangeAt Go.Deep

def intsA (l : List Int) : List (List AV) := l.map fun n => [.sc (.int .i64 n)]
theorem intsA_len (l : List Int) : (intsA l).length = l.length := by simp [intsA]
section
variable {H : Type} {enc : TypeId × Value → H} {W : World} {base b0 : Nat} {sp : Nat → Bool} {held : Bool} {r : Reach}
theorem open_rowsA {v : Value} {d : DataW H} {p : List MemPlace} (hv : Value.okWide Try.prog W r b0 56 v) (h : DataW.Trod enc Try.prog W base sp held 56 v d p) : ∃ l : List (List UInt8), RepS AnyB W v (.sl (rowsA l)) := by
  obtain ⟨A, n, c, rfl⟩ := okWide_slice Try.underlying56 hv
  obtain ⟨l, _, h2⟩ := OpT.cell (f := fun l : List (List UInt8) => AV.sl (rowsA l)) (op_slice (sz := 1) Try.underlying56 (by kernel_rfl) (by decide) (fun _ => rfl) op_bytes) rfl h
  exact ⟨l, h2⟩
theorem open_intsA {v : Value} {d : DataW H} {p : List MemPlace} (hv : Value.okWide Try.prog W r b0 81 v) (h : DataW.Trod enc Try.prog W base sp held 81 v d p) : ∃ l : List Int, (∀ x ∈ l, (Lit.int .i64 x).wf = true) ∧ RepS AnyB W v (.sl (intsA l)) := by
  obtain ⟨A, n, c, rfl⟩ := okWide_slice Try.underlying81 hv
  obtain ⟨l, h1, h2⟩ := OpT.cell (f := fun l : List Int => AV.sl (intsA l)) (op_slice (sz := 1) Try.underlying81 (by kernel_rfl) (by decide) (fun _ => rfl) (op_int Try.underlying3)) rfl h
  exact ⟨l, h1.2, h2⟩
theorem op_Act10 : OpT enc Try.prog W base sp held 60 (fun x : Act10 => (Lit.int .i64 x.kind).wf = true) Act10.cs := fun fuel cs x h => by
  obtain ⟨hl, hf⟩ := op_fields Try.underlying60 h
  have hl : cs.length = 2 := hl.trans (by kernel_rfl)
  match cs, hl with
  | [c0, c1], _ =>
    obtain ⟨n0, y0, g0⟩ := hf 0 _ 1 rfl (by kernel_rfl)
    obtain ⟨n1, y1, g1⟩ := hf 1 _ 1 rfl (by kernel_rfl)
    obtain ⟨d0, o0, r0⟩ := op_int Try.underlying3 _ _ _ g0
    obtain ⟨d1, o1, r1⟩ := op_bytes _ _ _ g1
    exact ⟨⟨d0, d1⟩, o0, (r0.app r1)⟩
theorem open_Act10s {v : Value} {d : DataW H} {p : List MemPlace} (hv : Value.okWide Try.prog W r b0 49 v) (h : DataW.Trod enc Try.prog W base sp held 49 v d p) : ∃ l : List Act10, RepS AnyB W v (.sl (l.map Act10.cs)) := by
  obtain ⟨A, n, c, rfl⟩ := okWide_slice Try.underlying49 hv
  obtain ⟨l, _, h2⟩ := OpT.cell (f := fun l : List Act10 => AV.sl (l.map Act10.cs)) (op_slice (sz := 2) Try.underlying49 (by kernel_rfl) (by decide) (fun _ => rfl) op_Act10) rfl h
  exact ⟨l, h2⟩
end
theorem walk_LogReads (w : World) (t0 : Nat → Nat) (ht0 : ∀ i, i < 256 → t0 i < 4294967296) (v1 : Value) (b1 : List UInt8) (hb1 : b1.length ≤ maxLen) (rp1 : RepS AnyB w v1 (.sl (byA b1))) (v2 : Value) (b2 : List UInt8) (hb2 : b2.length ≤ maxLen) (rp2 : RepS AnyB w v2 (.sl (byA b2))) (a3 : Int) (w3 : (Lit.int .i64 a3).wf = true) (a4 : Int) (w4 : (Lit.int .i64 a4).wf = true) :
    Calls Try.prog 7 #[tabV t0, v1, v2, .int .i64 a3, .int .i64 a4] w fun e w' => e = .returned (.bool true) ∧ Below w.heap.size w w' :=
  (reads_c t0 ht0 b1 b2 a3 a4 (by have := bounds_i64 w3; omega) (by have := bounds_i64 w4; omega)).law (vs := [tabV t0, v1, v2, .int .i64 a3, .int .i64 a4]) rfl (rep_cons (.sc _) (rep_cons rp1 (rep_cons rp2 (rep_cons (.sc _) (rep_cons (.sc _) rep_nil)))))
end Go.Proofs.Ytgjpeldgjpgbcaa
