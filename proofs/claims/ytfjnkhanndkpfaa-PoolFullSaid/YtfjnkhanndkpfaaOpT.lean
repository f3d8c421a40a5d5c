/- Whether an op is right: the reference, plain. No conditions. -/
import Derived.Test.YtfjnkhanndkpfaaOpS
namespace Go.Proofs.Ytfjnkhanndkpfaa
set_option linter.unusedSimpArgs false
set_option linter.unusedVariables false
open Go.RowKit

/-- The reference's answer. -/
def rightR (o : OpD) : Bool := tagB o.id && (decide (o.schema = ⟨0, 0⟩) || tagB o.schema) && decide (1 ≤ o.time) && decide (o.time ≤ 1099511627776) && nameB o.cart && dropsB o &&
  (if o.kind = 5 then o.item.isEmpty && plainB o else if o.kind = 1 then nameB o.item && plainB o && o.drops.isEmpty else if o.kind = 2 then nameB o.item && plainB o
   else placeB o.at_ && (!decide (o.at_.scope = 1) || nameB o.item) && (!decide (o.at_.scope = 0) || o.item.isEmpty) &&
     (if o.kind = 3 then !o.has && o.text.isEmpty && o.drops.isEmpty && decide (-1048577 < o.delta) && decide (o.delta < 1048577) else decide (o.kind = 4) && decide (o.delta = 0) && (if o.has then decide (o.text.length < 41) else o.text.isEmpty)))
theorem nameB_nil : nameB [] = false := by simp [nameB]
theorem emp_iff {α : Type} (l : List α) : l.isEmpty = true ↔ l = [] := by cases l <;> simp
theorem placeB_s {r : RefD} (h : placeB r = true) : r.scope = 0 ∨ r.scope = 1 := by
  unfold placeB at h
  simp only [Bool.and_eq_true, Bool.or_eq_true, beq_iff_eq] at h
  exact h.1.1
theorem right_same (o : OpD) : rightR o = rightO o := by
  rw [Bool.eq_iff_iff]
  unfold rightR rightO sO partsO itO plO plainB
  by_cases h5 : o.kind = 5
  · simp only [h5, if_true, Int.reduceEq, if_false, Bool.and_eq_true, Bool.or_eq_true, decide_eq_true_eq, emp_iff, opD_iff, Bool.not_eq_true', decide_false, Bool.or_self, Bool.not_false, Bool.true_or, Bool.false_and, true_and, and_true]
    grind
  · by_cases h1 : o.kind = 1
    · simp only [h1, if_true, Int.reduceEq, if_false, Bool.and_eq_true, Bool.or_eq_true, decide_eq_true_eq, emp_iff, opD_iff, Bool.not_eq_true', decide_false, decide_true, Bool.or_self, Bool.not_false, Bool.not_true, Bool.true_or, Bool.false_or, Bool.false_and, true_and, and_true]
      grind
    · by_cases h2 : o.kind = 2
      · simp only [h2, if_true, Int.reduceEq, if_false, Bool.and_eq_true, Bool.or_eq_true, decide_eq_true_eq, emp_iff, opD_iff, Bool.not_eq_true', decide_false, decide_true, Bool.or_self, Bool.not_false, Bool.not_true, Bool.true_or, Bool.false_or, Bool.false_and, true_and, and_true]
        grind
      · by_cases h3 : o.kind = 3
        · simp only [h3, if_true, Int.reduceEq, if_false, Bool.and_eq_true, Bool.or_eq_true, decide_eq_true_eq, emp_iff, opD_iff, Bool.not_eq_true', decide_false, decide_true, Bool.or_self, Bool.not_false, Bool.not_true, Bool.true_or, Bool.or_true, Bool.false_or, Bool.false_and, Bool.true_and, true_and, and_true, decide_eq_false_iff_not]
          have hs := @placeB_s o.at_
          grind [nameB_nil]
        · by_cases h4 : o.kind = 4
          · simp only [h4, if_true, Int.reduceEq, if_false, Bool.and_eq_true, Bool.or_eq_true, decide_eq_true_eq, emp_iff, opD_iff, Bool.not_eq_true', decide_false, decide_true, Bool.or_self, Bool.not_false, Bool.not_true, Bool.true_or, Bool.or_true, Bool.false_or, Bool.false_and, Bool.true_and, true_and, and_true, decide_eq_false_iff_not]
            have hs := @placeB_s o.at_
            grind [nameB_nil]
          · simp only [h5, h1, h2, h3, h4, if_false, Bool.false_and, Bool.and_false, decide_false, Bool.false_eq_true]
end Go.Proofs.Ytfjnkhanndkpfaa
