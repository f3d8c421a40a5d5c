/- Lenses and their ways back, walked over abstract states. -/
import Derived.Test.YtdgcbhihmnhnaaaLenH
namespace Go.Proofs.Ytdgcbhihmnhnaaa
set_option linter.unusedSimpArgs false
set_option linter.unusedVariables false
set_option maxRecDepth 100000
open Go.RowKit

structure LensD.Small (x : LensD) : Prop where
  cases : x.field.cases.length ≤ 1000000
  forth : x.forth.length ≤ 1000000
  back : x.back.length ≤ 1000000
def invL (x : LensD) : LensD :=
  if x.kind = 1 then { x with at_ := { x.at_ with name := x.name }, name := x.at_.name }
  else if x.kind = 2 then { x with kind := 3 }
  else if x.kind = 3 then { x with kind := 2 }
  else if x.kind = 4 then { x with kind := 5, at_ := { x.at_ with group := [] }, name := x.at_.group }
  else if x.kind = 5 then { x with kind := 4, at_ := { x.at_ with group := x.name }, name := [] }
  else if x.kind = 6 then { x with kind := 9 }
  else if x.kind = 9 then { x with kind := 6 }
  else if x.kind = 7 then { x with kind := 10 }
  else if x.kind = 10 then { x with kind := 7 }
  else if x.kind = 8 then { x with name := x.other, other := x.name, forth := x.back, back := x.forth }
  else x
def invP (x : LensD) : LensD × Int := if rightL x then (invL x, 0) else (zL, 5)
def otherK (k : Int) : Int := if k = 2 ∨ k = 3 then 5 - k else if k = 4 ∨ k = 5 then 9 - k else if k = 6 ∨ k = 9 then 15 - k else if k = 7 ∨ k = 10 then 17 - k else k
theorem rightL_kind {x : LensD} (h : rightL x = true) : 1 ≤ x.kind ∧ x.kind ≤ 10 := by
  have : (partsL x).2 = true := by
    unfold rightL at h
    simp only [Bool.and_eq_true] at h
    exact h.1.1
  unfold partsL at this
  grind
theorem right_tabs {x : LensD} (h : rightL x = true) (h8 : ¬ x.kind = 8) : x.forth = [] ∧ x.back = [] := by
  have : x = (partsL x).1 := by
    unfold rightL at h
    simp only [Bool.and_eq_true, decide_eq_true_eq] at h
    exact h.1.2
  rw [this]
  unfold partsL
  repeat' split
  all_goals first | exact ⟨rfl, rfl⟩ | (exfalso; omega)
theorem inv_8 {x : LensD} (h : x.kind = 8) : invL x = ⟨otherK x.kind, x.at_, x.other, x.name, x.factor, x.field, x.back, x.forth⟩ := by
  unfold invL otherK
  simp [h]
section
variable {x : LensD} (hr : rightL x = true)
include hr
theorem inv_1 (h : x.kind = 1) : invL x = ⟨otherK x.kind, ⟨x.at_.scope, x.at_.group, x.name⟩, x.at_.name, x.other, x.factor, x.field, x.back, x.forth⟩ := by
  obtain ⟨a, b⟩ := right_tabs hr (by omega)
  unfold invL otherK
  simp [h, a, b]
theorem inv_4 (h : x.kind = 4) : invL x = ⟨otherK x.kind, ⟨x.at_.scope, [], x.at_.name⟩, x.at_.group, x.other, x.factor, x.field, x.back, x.forth⟩ := by
  obtain ⟨a, b⟩ := right_tabs hr (by omega)
  unfold invL otherK
  simp [h, a, b]
theorem inv_5 (h : x.kind = 5) : invL x = ⟨otherK x.kind, ⟨x.at_.scope, x.name, x.at_.name⟩, [], x.other, x.factor, x.field, x.back, x.forth⟩ := by
  obtain ⟨a, b⟩ := right_tabs hr (by omega)
  unfold invL otherK
  simp [h, a, b]
theorem inv_0 (h1 : ¬ x.kind = 1) (h4 : ¬ x.kind = 4) (h5 : ¬ x.kind = 5) (h8 : ¬ x.kind = 8) : invL x = ⟨otherK x.kind, x.at_, x.name, x.other, x.factor, x.field, x.back, x.forth⟩ := by
  obtain ⟨a, b⟩ := right_tabs hr h8
  have hk := rightL_kind hr
  have hc : x.kind = 2 ∨ x.kind = 3 ∨ x.kind = 6 ∨ x.kind = 7 ∨ x.kind = 9 ∨ x.kind = 10 := by omega
  rcases hc with h | h | h | h | h | h <;> (unfold invL otherK; simp [h, a, b])
theorem inv_right : rightL (invL x) = true := by
  have hk := rightL_kind hr
  have ht := @tab_name x.back x.forth x.other
  have hn0 : nameB [] = false := (by simp [nameB])
  have hc : x.kind = 1 ∨ x.kind = 2 ∨ x.kind = 3 ∨ x.kind = 4 ∨ x.kind = 5 ∨ x.kind = 6 ∨ x.kind = 7 ∨ x.kind = 8 ∨ x.kind = 9 ∨ x.kind = 10 := by omega
  rw [← right_eq] at hr ⊢
  rcases hc with h | h | h | h | h | h | h | h | h | h <;> (unfold invL; simp [h, rightV, tabsL, placeB] at hr ⊢; grind)
theorem inv_inv : invL (invL x) = x := by
  have hk := rightL_kind hr
  have hc : x.kind = 1 ∨ x.kind = 2 ∨ x.kind = 3 ∨ x.kind = 4 ∨ x.kind = 5 ∨ x.kind = 6 ∨ x.kind = 7 ∨ x.kind = 8 ∨ x.kind = 9 ∨ x.kind = 10 := by omega
  rw [← right_eq] at hr
  rcases hc with h | h | h | h | h | h | h | h | h | h <;> (unfold invL; simp [h, rightV, tabsL, lensD_iff, refD_iff] at hr ⊢; try grind)
end
theorem LensD.Small.inv {x : LensD} (h : x.Small) : (invL x).Small := by
  obtain ⟨a, b, c⟩ := h
  unfold invL
  repeat' split
  all_goals first | exact ⟨a, b, c⟩ | exact ⟨a, c, b⟩
def hpB (l : List PairD) : Bool := decide (20 < l.length) || l.any fun p => decide (200 < p.from_.length) || decide (200 < p.to.length)
def heavyL (x : LensD) : Bool := decide (200 < x.at_.group.length) || decide (200 < x.at_.name.length) || decide (200 < x.name.length) || decide (200 < x.other.length) || heavyF x.field || hpB x.forth || hpB x.back
theorem hpB_f {l : List PairD} (h : hpB l = false) : l.length ≤ 20 := by
  unfold hpB at h
  simp only [Bool.or_eq_false_iff, decide_eq_false_iff_not] at h
  omega
theorem heavyL_small {x : LensD} (h : heavyL x = false) : x.Small := by
  unfold heavyL at h
  simp only [Bool.or_eq_false_iff] at h
  obtain ⟨⟨⟨_, h1⟩, h2⟩, h3⟩ := h
  have a := (heavyF_f h1).2.2.2.1; have b := hpB_f h2; have c := hpB_f h3
  exact ⟨by omega, by omega, by omega⟩
end Go.Proofs.Ytdgcbhihmnhnaaa
