/- Schemas, walked over abstract states, on. Conditions: no more than a million fields, of no more than a million cases. -/
import Derived.Test.YtpkjlmaphhileaaDoorSchA
namespace Go.Proofs.YtpkjlmaphhileaaDoor
set_option linter.unusedSimpArgs false
set_option linter.unusedVariables false
open Go.RowKit

def smallS (l : List FldD) : Prop := l.length ≤ 1000000 ∧ ∀ f ∈ l, f.cases.length ≤ 1000000
theorem smallS.at_ {l : List FldD} (h : smallS l) {k : Nat} (hk : k < l.length) : l[k].cases.length ≤ 1000000000 := by have := h.2 _ (List.getElem_mem hk); omega
def findS (l : List FldD) (r : RefD) : FldD × Int := match l.find? (fun f => decide (f.at_ = r)) with | some f => (f, 0) | none => (⟨⟨0, [], []⟩, 0, [], [], 0⟩, 6)
theorem idxS_some {l : List FldD} {r : RefD} {i : Nat} (h : l.findIdx? (fun f => decide (f.at_ = r)) = some i) : ∃ hi : i < l.length, l.find? (fun f => decide (f.at_ = r)) = some l[i] := by
  have h1 := List.findIdx?_eq_some_iff_getElem.1 h
  obtain ⟨hi, h2, h3⟩ := h1
  refine ⟨hi, ?_⟩
  rw [List.find?_eq_some_iff_getElem]
  exact ⟨h2, i, hi, rfl, fun j hj => by simpa using h3 j hj⟩
def heavyS (l : List FldD) : Bool := decide (40 < l.length) || l.any heavyF
theorem heavyS_f {l : List FldD} (h : heavyS l = false) : l.length ≤ 40 ∧ ∀ f ∈ l, heavyF f = false := by
  unfold heavyS at h
  simp only [Bool.or_eq_false_iff, decide_eq_false_iff_not, List.any_eq_false] at h
  exact ⟨by omega, fun f hf => by have := h.2 f hf; simpa using this⟩
theorem heavyS_small {l : List FldD} (h : heavyS l = false) : smallS l := by
  obtain ⟨h1, h2⟩ := heavyS_f h
  exact ⟨by omega, fun f hf => by have := (heavyF_f (h2 f hf)).2.2.2.1; omega⟩
end Go.Proofs.YtpkjlmaphhileaaDoor
