/- Texts of the proof of talkRight_holds, put together by a program: LenH LenI OpT. -/
import Derived.Test.YtlapcfnmmpbeeaaGreatPR21
import Derived.Test.YtlapcfnmmpbeeaaGreatPR26
set_option linter.unusedSimpArgs false
set_option linter.unusedVariables false
namespace Go.Proofs.YtlapcfnmmpbeeaaGreat
set_option maxRecDepth 100000
open Go.RowKit
def zeroFL : FldD := ⟨⟨0, [], []⟩, 0, [], [], 0⟩
def tabsL (x : LensD) : Bool := decide (x.forth ≠ []) || decide (x.back ≠ [])
def rightV (x : LensD) : Bool :=
  if x.kind = 2 ∨ x.kind = 3 then decide (x.at_ = ⟨0, [], []⟩) && decide (x.name = []) && decide (x.other = []) && decide (x.factor = 0) && !tabsL x && rightF x.field
  else if placeB x.at_ = false ∨ ¬ x.field = zeroFL then false
  else if x.kind = 8 then decide (x.factor = 0) && tabB x.forth x.back && tabB x.back x.forth && (caseP x.forth x.name).2 && (caseP x.back x.other).2 && decide ((caseP x.forth x.name).1 = x.other) && decide ((caseP x.back x.other).1 = x.name)
  else if tabsL x = true then false
  else if x.kind = 6 ∨ x.kind = 9 then nameB x.name && nameB x.other && decide (¬ x.name = x.other) && decide (1 < x.factor) && decide (x.factor < 1001)
  else if ¬ x.factor = 0 then false
  else if x.kind = 7 ∨ x.kind = 10 then decide (x.name = []) && decide (x.other.length < 41)
  else if ¬ x.other = [] then false
  else if x.kind = 1 then nameB x.name
  else if x.kind = 4 then decide (x.name = []) && decide (¬ x.at_.group = [])
  else decide (x.kind = 5) && decide (x.at_.group = []) && nameB x.name
theorem tab_name {t u : List PairD} {s : Bytes} (h : tabB t u = true) (hs : (caseP t s).2 = true) : nameB s = true := by
  rw [caseP_ok, List.contains_iff_mem, List.mem_map] at hs
  obtain ⟨p, hp, rfl⟩ := hs
  obtain ⟨i, hi, rfl⟩ := List.getElem_of_mem hp
  unfold tabB at h
  simp only [Bool.and_eq_true, List.all_eq_true, List.mem_range] at h
  have := h.2 i hi
  rw [okT_at hi] at this
  simp only [Bool.and_eq_true] at this
  exact this.1.1
theorem caseP_eq (t : List PairD) (s u : Bytes) : decide (caseP t s = (u, true)) = ((caseP t s).2 && decide ((caseP t s).1 = u)) := by
  rcases caseP t s with ⟨a, b⟩
  cases b <;> simp
theorem right_eq (x : LensD) : rightV x = rightL x := by
  have ht := @tab_name x.forth x.back x.name
  unfold rightV rightL partsL kindL tablesB
  rw [caseP_eq, caseP_eq]
  by_cases k1 : x.kind = 1
  · simp [k1, lensD_iff, zL, tabsL, zeroFL]; grind
  by_cases k2 : x.kind = 2
  · simp [k2, lensD_iff, zL, tabsL, zeroFL]; grind
  by_cases k3 : x.kind = 3
  · simp [k3, lensD_iff, zL, tabsL, zeroFL]; grind
  by_cases k4 : x.kind = 4
  · simp [k4, lensD_iff, zL, tabsL, zeroFL]; grind
  by_cases k5 : x.kind = 5
  · simp [k5, lensD_iff, zL, tabsL, zeroFL]; grind
  by_cases k6 : x.kind = 6
  · simp [k6, lensD_iff, zL, tabsL, zeroFL]; grind
  by_cases k7 : x.kind = 7
  · simp [k7, lensD_iff, zL, tabsL, zeroFL]; grind
  by_cases k8 : x.kind = 8
  · simp [k8, lensD_iff, zL, tabsL, zeroFL]; grind
  by_cases k9 : x.kind = 9
  · simp [k9, lensD_iff, zL, tabsL, zeroFL]; grind
  by_cases k10 : x.kind = 10
  · simp [k10, lensD_iff, zL, tabsL, zeroFL]; grind
  simp [k1, k2, k3, k4, k5, k6, k7, k8, k9, k10]
end Go.Proofs.YtlapcfnmmpbeeaaGreat
namespace Go.Proofs.YtlapcfnmmpbeeaaGreat
set_option maxRecDepth 100000
open Go.RowKit
structure LensD.Small (x : LensD) : Prop where
  cases : x.field.cases.length ≤ 1000000
  forth : x.forth.length ≤ 1000000
  back : x.back.length ≤ 1000000
section
variable {x : LensD} (hr : rightL x = true)
include hr
end
def hpB (l : List PairD) : Bool := decide (20 < l.length) || l.any fun p => decide (200 < p.from_.length) || decide (200 < p.to.length)
def heavyL (x : LensD) : Bool := decide (200 < x.at_.group.length) || decide (200 < x.at_.name.length) || decide (200 < x.name.length) || decide (200 < x.other.length) || heavyF x.field || hpB x.forth || hpB x.back
theorem hpB_f {l : List PairD} (h : hpB l = false) : l.length ≤ 20 := by
  unfold hpB at h
  simp only [Bool.or_eq_false_iff, decide_eq_false_iff_not] at h
  omega
theorem heavyL_small {x : LensD} (h : heavyL x = false) : x.Small := by
  unfold heavyL at h
  simp only [Bool.or_eq_false_iff] at h
  obtain ⟨⟨⟨_, h1⟩, h2⟩, h3⟩ := h
  have a := (heavyF_f h1).2.2.2.1; have b := hpB_f h2; have c := hpB_f h3
  exact ⟨by omega, by omega, by omega⟩
end Go.Proofs.YtlapcfnmmpbeeaaGreat
namespace Go.Proofs.YtlapcfnmmpbeeaaGreat
open Go.RowKit
def rightR (o : OpD) : Bool := tagB o.id && (decide (o.schema = ⟨0, 0⟩) || tagB o.schema) && decide (1 ≤ o.time) && decide (o.time ≤ 1099511627776) && nameB o.cart && dropsB o &&
  (if o.kind = 5 then o.item.isEmpty && plainB o else if o.kind = 1 then nameB o.item && plainB o && o.drops.isEmpty else if o.kind = 2 then nameB o.item && plainB o
   else placeB o.at_ && (!decide (o.at_.scope = 1) || nameB o.item) && (!decide (o.at_.scope = 0) || o.item.isEmpty) &&
     (if o.kind = 3 then !o.has && o.text.isEmpty && o.drops.isEmpty && decide (-1048577 < o.delta) && decide (o.delta < 1048577) else decide (o.kind = 4) && decide (o.delta = 0) && (if o.has then decide (o.text.length < 41) else o.text.isEmpty)))
theorem nameB_nil : nameB [] = false := by simp [nameB]
theorem emp_iff {α : Type} (l : List α) : l.isEmpty = true ↔ l = [] := by cases l <;> simp
theorem placeB_s {r : RefD} (h : placeB r = true) : r.scope = 0 ∨ r.scope = 1 := by
  unfold placeB at h
  simp only [Bool.and_eq_true, Bool.or_eq_true, beq_iff_eq] at h
  exact h.1.1
theorem right_same (o : OpD) : rightR o = rightO o := by
  rw [Bool.eq_iff_iff]
  unfold rightR rightO sO partsO itO plO plainB
  by_cases h5 : o.kind = 5
  · simp only [h5, if_true, Int.reduceEq, if_false, Bool.and_eq_true, Bool.or_eq_true, decide_eq_true_eq, emp_iff, opD_iff, Bool.not_eq_true', decide_false, Bool.or_self, Bool.not_false, Bool.true_or, Bool.false_and, true_and, and_true]
    grind
  · by_cases h1 : o.kind = 1
    · simp only [h1, if_true, Int.reduceEq, if_false, Bool.and_eq_true, Bool.or_eq_true, decide_eq_true_eq, emp_iff, opD_iff, Bool.not_eq_true', decide_false, decide_true, Bool.or_self, Bool.not_false, Bool.not_true, Bool.true_or, Bool.false_or, Bool.false_and, true_and, and_true]
      grind
    · by_cases h2 : o.kind = 2
      · simp only [h2, if_true, Int.reduceEq, if_false, Bool.and_eq_true, Bool.or_eq_true, decide_eq_true_eq, emp_iff, opD_iff, Bool.not_eq_true', decide_false, decide_true, Bool.or_self, Bool.not_false, Bool.not_true, Bool.true_or, Bool.false_or, Bool.false_and, true_and, and_true]
        grind
      · by_cases h3 : o.kind = 3
        · simp only [h3, if_true, Int.reduceEq, if_false, Bool.and_eq_true, Bool.or_eq_true, decide_eq_true_eq, emp_iff, opD_iff, Bool.not_eq_true', decide_false, decide_true, Bool.or_self, Bool.not_false, Bool.not_true, Bool.true_or, Bool.or_true, Bool.false_or, Bool.false_and, Bool.true_and, true_and, and_true, decide_eq_false_iff_not]
          have hs := @placeB_s o.at_
          grind [nameB_nil]
        · by_cases h4 : o.kind = 4
          · simp only [h4, if_true, Int.reduceEq, if_false, Bool.and_eq_true, Bool.or_eq_true, decide_eq_true_eq, emp_iff, opD_iff, Bool.not_eq_true', decide_false, decide_true, Bool.or_self, Bool.not_false, Bool.not_true, Bool.true_or, Bool.or_true, Bool.false_or, Bool.false_and, Bool.true_and, true_and, and_true, decide_eq_false_iff_not]
            have hs := @placeB_s o.at_
            grind [nameB_nil]
          · simp only [h5, h1, h2, h3, h4, if_false, Bool.false_and, Bool.and_false, decide_false, Bool.false_eq_true]
end Go.Proofs.YtlapcfnmmpbeeaaGreat
