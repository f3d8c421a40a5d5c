/- Places printed and read: the plain law, and the document's answer walked. The text is of at most 1000 bytes. -/
import Derived.Test.YtpkjlmaphhileaaDoorFdA
namespace Go.Proofs.YtpkjlmaphhileaaDoor
set_option linter.unusedSimpArgs false
set_option linter.unusedVariables false
open Go.RowKit

theorem okN_dot (i : Nat) : okN 46 i = false := by simp [okN, letB, digB]
theorem name_dot {s : Bytes} (h : nameB s = true) : ∀ c ∈ s, c ≠ 46 := by
  intro c hc e
  subst e
  obtain ⟨i, hi, he⟩ := List.getElem_of_mem hc
  unfold nameB at h
  simp only [Bool.and_eq_true, List.all_eq_true, List.mem_range] at h
  have := h.2 i hi
  rw [List.getD_eq_getElem?_getD, List.getElem?_eq_getElem hi] at this
  simp [he, okN_dot] at this
theorem name_ne {s : Bytes} (h : nameB s = true) : s ≠ [] := by
  intro e; subst e; simp [nameB] at h
theorem spl_app : ∀ (p l : Bytes), (∀ c ∈ p, c ≠ 46) → spl (p ++ 46 :: l) = p :: spl l
  | [], l, _ => by simp [spl]
  | c :: p, l, h => by
    have ih := spl_app p l (fun x hx => h x (List.mem_cons_of_mem _ hx))
    have hc : c ≠ 46 := h c (List.mem_cons_self ..)
    rw [List.cons_append, spl, if_neg hc, ih]
theorem spl_one : ∀ (p : Bytes), (∀ c ∈ p, c ≠ 46) → spl p = [p]
  | [], _ => rfl
  | c :: p, h => by
    have ih := spl_one p (fun x hx => h x (List.mem_cons_of_mem _ hx))
    rw [spl, if_neg (h c (List.mem_cons_self ..)), ih]
theorem place_parts {r : RefD} (h : placeB r = true) : (r.scope = 0 ∨ r.scope = 1) ∧ nameB r.name = true ∧ (r.group = [] ∨ nameB r.group = true) := by
  unfold placeB at h
  simp only [Bool.and_eq_true, Bool.or_eq_true, beq_iff_eq] at h
  exact ⟨h.1.1, h.1.2, h.2⟩
def wordB (r : RefD) : Bytes := if r.scope = 1 then lineW else headW
theorem word_dot (r : RefD) : ∀ c ∈ wordB r, c ≠ 46 := by
  unfold wordB
  split <;> (intro c hc; simp [lineW, headW] at hc; rcases hc with rfl | rfl | rfl | rfl <;> decide)
theorem word_len (r : RefD) : (wordB r).length = 4 := by unfold wordB; split <;> rfl
/-- The print's rest behind the word and its dot. -/
def restB (r : RefD) : Bytes := if r.group = [] then r.name else r.group ++ 46 :: r.name
theorem print_eq {r : RefD} (h : placeB r = true) : printB r = wordB r ++ 46 :: restB r := by
  unfold printB wordB restB
  rw [if_pos h]
  by_cases hg : r.group = []
  · simp [hg]
  · simp [hg]
theorem readP_yes {r : RefD} (h : placeB r = true) : readP (printB r) = (r, 0) := by
  obtain ⟨h1, h2, h3⟩ := place_parts h
  have hp := print_eq h
  have key : (part (printB r) 0 = headW ∨ part (printB r) 0 = lineW) ∧ partsR (printB r) = r := by
    have hs0 : (if wordB r = headW then (0 : Int) else 1) = r.scope := by
      unfold wordB
      rcases h1 with e | e <;> simp [e, headW, lineW]
    have hw : wordB r = headW ∨ wordB r = lineW := by
      unfold wordB; split
      · right; rfl
      · left; rfl
    by_cases hg : r.group = []
    · have e : spl (printB r) = [wordB r, r.name] := by
        rw [hp, spl_app _ _ (word_dot r), restB, if_pos hg, spl_one _ (name_dot h2)]
      refine ⟨by simpa [part, e] using hw, ?_⟩
      cases r
      simp_all [partsR, part]
    · have hgn : nameB r.group = true := by rcases h3 with e | e; exact absurd e hg; exact e
      have e : spl (printB r) = [wordB r, r.group, r.name] := by
        rw [hp, spl_app _ _ (word_dot r), restB, if_neg hg, spl_app _ _ (name_dot hgn), spl_one _ (name_dot h2)]
      refine ⟨by simpa [part, e] using hw, ?_⟩
      cases r
      simp_all [partsR, part]
  unfold readP
  rw [key.2, if_pos ⟨key.1, h, rfl⟩]
theorem readP_no {s : Bytes} (h : ∀ r, placeB r = true → printB r ≠ s) : readP s = (⟨0, [], []⟩, 4) := by
  unfold readP
  rw [if_neg fun q => h _ q.2.1 q.2.2]
theorem readP_cases (s : Bytes) : (placeB (readP s).1 = true ∧ printB (readP s).1 = s ∧ (readP s).2 = 0) ∨ readP s = (⟨0, [], []⟩, 4) := by
  unfold readP
  split
  · rename_i q; exact .inl ⟨q.2.1, q.2.2, rfl⟩
  · exact .inr rfl

/-! The document's scan. -/
def scn (s : Bytes) : Nat → Bytes × Bytes
  | 0 => ([], (s.take s.length).drop 5)
  | k + 1 => if s.getD (5 + k) 0 = 46 ∧ (scn s k).1 = [] then ((s.take (5 + k)).drop 5, (s.take s.length).drop (5 + k + 1)) else scn s k
theorem scn_no {s : Bytes} : ∀ {k : Nat}, (∀ j, j < k → s.getD (5 + j) 0 ≠ 46) → scn s k = ([], s.drop 5)
  | 0, _ => by simp [scn]
  | k + 1, h => by
    rw [scn, if_neg fun q => h k (by omega) q.1]
    exact scn_no fun j hj => h j (by omega)
theorem scn_hit {s : Bytes} {m : Nat} (hm : 0 < m) (hl : 5 + m < s.length) (h : ∀ j, j < m → s.getD (5 + j) 0 ≠ 46) (hd : s.getD (5 + m) 0 = 46) : ∀ d, scn s (m + 1 + d) = ((s.take (5 + m)).drop 5, s.drop (5 + m + 1))
  | 0 => by
    rw [Nat.add_zero, scn, if_pos ⟨hd, by rw [scn_no h]⟩, List.take_length]
  | d + 1 => by
    have ih := scn_hit hm hl h hd d
    rw [← Nat.add_assoc, scn, ih, if_neg]
    intro q
    have := congrArg List.length q.2
    simp at this
    omega
theorem getD_dot {p : Bytes} (h : ∀ c ∈ p, c ≠ 46) (j : Nat) : p.getD j 0 ≠ 46 := by
  rw [List.getD_eq_getElem?_getD]
  cases e : p[j]? with
  | none => simp
  | some c => exact h c (List.mem_of_getElem? e)
theorem scn_print {r : RefD} (h : placeB r = true) : scn (printB r) ((printB r).length - 5) = (r.group, r.name) := by
  obtain ⟨h1, h2, h3⟩ := place_parts h
  have hp := print_eq h
  have hw := word_len r
  have hn := name_ne h2
  have hdrop : (printB r).drop 5 = restB r := by
    rw [hp, show (5 : Nat) = (wordB r ++ [46]).length by simp [hw], show wordB r ++ 46 :: restB r = (wordB r ++ [46]) ++ restB r by simp, List.drop_left]
  have hat : ∀ j, (printB r).getD (5 + j) 0 = (restB r).getD j 0 := fun j => by
    rw [← hdrop]; simp [List.getD_eq_getElem?_getD]
  have hlen : (printB r).length = 5 + (restB r).length := by rw [hp]; simp [hw]; omega
  by_cases hg : r.group = []
  · rw [scn_no (fun j _ => by rw [hat, restB, if_pos hg]; exact getD_dot (name_dot h2) j), hdrop, restB, if_pos hg, hg]
  · have hgn : nameB r.group = true := by rcases h3 with e | e; exact absurd e hg; exact e
    have hgl : 0 < r.group.length := List.length_pos_iff.2 hg
    have er : restB r = r.group ++ 46 :: r.name := by rw [restB, if_neg hg]
    have hl2 : (restB r).length = r.group.length + (r.name.length + 1) := by rw [er]; simp
    have e := scn_hit (s := printB r) (m := r.group.length) hgl (by omega) (fun j hj => by
      rw [hat, er, List.getD_eq_getElem?_getD, List.getElem?_append_left hj, ← List.getD_eq_getElem?_getD]
      exact getD_dot (name_dot hgn) j) (by
      rw [hat, er, List.getD_eq_getElem?_getD, List.getElem?_append_right (Nat.le_refl _)]; simp) ((printB r).length - 5 - (r.group.length + 1))
    rw [show r.group.length + 1 + ((printB r).length - 5 - (r.group.length + 1)) = (printB r).length - 5 by omega] at e
    rw [e]
    refine Prod.ext ?_ ?_
    · show ((printB r).take (5 + r.group.length)).drop 5 = r.group
      rw [List.drop_take, hdrop, er, Nat.add_sub_cancel_left, List.take_left]
    · show (printB r).drop (5 + r.group.length + 1) = r.name
      rw [show 5 + r.group.length + 1 = 5 + (r.group.length + 1) by omega, ← List.drop_drop, hdrop, er, show r.group ++ 46 :: r.name = (r.group ++ [46]) ++ r.name by simp, show r.group.length + 1 = (r.group ++ [46]).length by simp, List.drop_left]
theorem print_front {r : RefD} (h : placeB r = true) : 6 ≤ (printB r).length ∧ ((printB r).take 5 = [104, 101, 97, 100, 46] ∧ r.scope = 0 ∨ (printB r).take 5 = [108, 105, 110, 101, 46] ∧ r.scope = 1) := by
  obtain ⟨h1, h2, h3⟩ := place_parts h
  have hn : 0 < r.name.length := List.length_pos_iff.2 (name_ne h2)
  have hw := word_len r
  have hr : 0 < (restB r).length := by unfold restB; split; exact hn; simp; omega
  rw [print_eq h]
  refine ⟨by simp [hw]; omega, ?_⟩
  unfold wordB
  rcases h1 with e | e <;> simp [e, headW, lineW]
end Go.Proofs.YtpkjlmaphhileaaDoor
