/- Lenses: the reference's answer whether one is right is the program's, plain and walked over abstract states. -/
import Derived.Test.YtdgcbhihmnhnaaaLenG
namespace Go.Proofs.Ytdgcbhihmnhnaaa
set_option linter.unusedSimpArgs false
set_option linter.unusedVariables false
set_option maxRecDepth 100000
open Go.RowKit

def zeroFL : FldD := ⟨⟨0, [], []⟩, 0, [], [], 0⟩
def tabsL (x : LensD) : Bool := decide (x.forth ≠ []) || decide (x.back ≠ [])
def rightV (x : LensD) : Bool :=
  if x.kind = 2 ∨ x.kind = 3 then decide (x.at_ = ⟨0, [], []⟩) && decide (x.name = []) && decide (x.other = []) && decide (x.factor = 0) && !tabsL x && rightF x.field
  else if placeB x.at_ = false ∨ ¬ x.field = zeroFL then false
  else if x.kind = 8 then decide (x.factor = 0) && tabB x.forth x.back && tabB x.back x.forth && (caseP x.forth x.name).2 && (caseP x.back x.other).2 && decide ((caseP x.forth x.name).1 = x.other) && decide ((caseP x.back x.other).1 = x.name)
  else if tabsL x = true then false
  else if x.kind = 6 ∨ x.kind = 9 then nameB x.name && nameB x.other && decide (¬ x.name = x.other) && decide (1 < x.factor) && decide (x.factor < 1001)
  else if ¬ x.factor = 0 then false
  else if x.kind = 7 ∨ x.kind = 10 then decide (x.name = []) && decide (x.other.length < 41)
  else if ¬ x.other = [] then false
  else if x.kind = 1 then nameB x.name
  else if x.kind = 4 then decide (x.name = []) && decide (¬ x.at_.group = [])
  else decide (x.kind = 5) && decide (x.at_.group = []) && nameB x.name
theorem tab_name {t u : List PairD} {s : Bytes} (h : tabB t u = true) (hs : (caseP t s).2 = true) : nameB s = true := by
  rw [caseP_ok, List.contains_iff_mem, List.mem_map] at hs
  obtain ⟨p, hp, rfl⟩ := hs
  obtain ⟨i, hi, rfl⟩ := List.getElem_of_mem hp
  unfold tabB at h
  simp only [Bool.and_eq_true, List.all_eq_true, List.mem_range] at h
  have := h.2 i hi
  rw [okT_at hi] at this
  simp only [Bool.and_eq_true] at this
  exact this.1.1
theorem caseP_eq (t : List PairD) (s u : Bytes) : decide (caseP t s = (u, true)) = ((caseP t s).2 && decide ((caseP t s).1 = u)) := by
  rcases caseP t s with ⟨a, b⟩
  cases b <;> simp
theorem right_eq (x : LensD) : rightV x = rightL x := by
  have ht := @tab_name x.forth x.back x.name
  unfold rightV rightL partsL kindL tablesB
  rw [caseP_eq, caseP_eq]
  by_cases k1 : x.kind = 1
  · simp [k1, lensD_iff, zL, tabsL, zeroFL]; grind
  by_cases k2 : x.kind = 2
  · simp [k2, lensD_iff, zL, tabsL, zeroFL]; grind
  by_cases k3 : x.kind = 3
  · simp [k3, lensD_iff, zL, tabsL, zeroFL]; grind
  by_cases k4 : x.kind = 4
  · simp [k4, lensD_iff, zL, tabsL, zeroFL]; grind
  by_cases k5 : x.kind = 5
  · simp [k5, lensD_iff, zL, tabsL, zeroFL]; grind
  by_cases k6 : x.kind = 6
  · simp [k6, lensD_iff, zL, tabsL, zeroFL]; grind
  by_cases k7 : x.kind = 7
  · simp [k7, lensD_iff, zL, tabsL, zeroFL]; grind
  by_cases k8 : x.kind = 8
  · simp [k8, lensD_iff, zL, tabsL, zeroFL]; grind
  by_cases k9 : x.kind = 9
  · simp [k9, lensD_iff, zL, tabsL, zeroFL]; grind
  by_cases k10 : x.kind = 10
  · simp [k10, lensD_iff, zL, tabsL, zeroFL]; grind
  simp [k1, k2, k3, k4, k5, k6, k7, k8, k9, k10]
end Go.Proofs.Ytdgcbhihmnhnaaa
