/- Schemas that take in or lose a field: the plain law of their order. No program in sight. -/
import Derived.Test.YtdgcbhihmnhnaaaSchD
namespace Go.Proofs.Ytdgcbhihmnhnaaa
set_option linter.unusedSimpArgs false
set_option linter.unusedVariables false
open Go.RowKit

theorem bl_cons (x y : UInt8) (a b : List UInt8) : Op.bytesLess (x :: a) (y :: b) = true ↔ x.toNat < y.toNat ∨ (x.toNat = y.toNat ∧ Op.bytesLess a b = true) := by
  simp [Op.bytesLess, UInt8.lt_iff_toNat_lt, ← UInt8.toNat_inj]
theorem bl_irr : ∀ (a : List UInt8), Op.bytesLess a a = false
  | [] => rfl
  | x :: l => by
    have := bl_irr l
    rw [← Bool.not_eq_true, bl_cons]
    simp [this]
theorem bl_trans : ∀ {a b c : List UInt8}, Op.bytesLess a b = true → Op.bytesLess b c = true → Op.bytesLess a c = true
  | a, [], _, h1, h2 => by cases a <;> simp [Op.bytesLess] at h1
  | [], _ :: _, [], h1, h2 => by simp [Op.bytesLess] at h2
  | [], _ :: _, _ :: _, h1, h2 => by simp [Op.bytesLess]
  | _ :: _, _ :: _, [], h1, h2 => by simp [Op.bytesLess] at h2
  | x :: a, y :: b, z :: c, h1, h2 => by
    have ih := @bl_trans a b c
    rw [bl_cons] at h1 h2 ⊢
    rcases h1 with h1 | ⟨h1, h3⟩ <;> rcases h2 with h2 | ⟨h2, h4⟩
    · left; omega
    · left; omega
    · left; omega
    · right; exact ⟨by omega, ih h3 h4⟩
theorem bl_tri : ∀ {a b : List UInt8}, ¬ Op.bytesLess a b = true → a ≠ b → Op.bytesLess b a = true
  | [], [], _, h2 => absurd rfl h2
  | [], _ :: _, h1, _ => by simp [Op.bytesLess] at h1
  | _ :: _, [], _, _ => by simp [Op.bytesLess]
  | x :: a, y :: b, h1, h2 => by
    have ih := @bl_tri a b
    rw [bl_cons] at h1 ⊢
    by_cases e : x.toNat = y.toNat
    · right
      have hn : a ≠ b := fun e2 => h2 (by rw [e2, UInt8.toNat_inj.1 e])
      exact ⟨e.symm, ih (fun q => h1 (.inr ⟨e, q⟩)) hn⟩
    · left
      have : ¬ x.toNat < y.toNat := fun q => h1 (.inl q)
      omega
theorem lessR_iff (a b : RefD) : lessR a b = true ↔ a.scope < b.scope ∨ (a.scope = b.scope ∧ (Op.bytesLess a.group b.group = true ∨ (a.group = b.group ∧ Op.bytesLess a.name b.name = true))) := by
  unfold lessR
  by_cases e : a.scope = b.scope
  · by_cases g : a.group = b.group
    · simp [e, g, bl_irr]
    · simp [e, g]
  · simp [e]
theorem lessR_irr (a : RefD) : ¬ lessR a a = true := by
  rw [lessR_iff]
  have h1 := bl_irr a.group
  have h2 := bl_irr a.name
  simp [h1, h2]
theorem lessR_trans {a b c : RefD} (h1 : lessR a b = true) (h2 : lessR b c = true) : lessR a c = true := by
  rw [lessR_iff] at h1 h2 ⊢
  rcases h1 with h1 | ⟨h1, h3⟩ <;> rcases h2 with h2 | ⟨h2, h4⟩
  · left; omega
  · left; omega
  · left; omega
  · right
    refine ⟨by omega, ?_⟩
    rcases h3 with h3 | ⟨h3, h5⟩ <;> rcases h4 with h4 | ⟨h4, h6⟩
    · exact .inl (bl_trans h3 h4)
    · exact .inl (h4 ▸ h3)
    · exact .inl (h3 ▸ h4)
    · exact .inr ⟨h3.trans h4, bl_trans h5 h6⟩
theorem lessR_tri {a b : RefD} (h1 : ¬ lessR a b = true) (h2 : a ≠ b) : lessR b a = true := by
  rw [lessR_iff] at h1 ⊢
  by_cases e : a.scope = b.scope
  · right
    refine ⟨e.symm, ?_⟩
    by_cases g : a.group = b.group
    · right
      refine ⟨g.symm, bl_tri (fun q => h1 (.inr ⟨e, .inr ⟨g, q⟩⟩)) fun q => h2 ?_⟩
      cases a; cases b; simp_all
    · left
      exact bl_tri (fun q => h1 (.inr ⟨e, .inl q⟩)) g
  · left
    have : ¬ a.scope < b.scope := fun q => h1 (.inl q)
    omega
/-- The fields stand in order, each once. -/
def srt (l : List FldD) : Prop := l.Pairwise fun a b => lessR a.at_ b.at_ = true
theorem srt_of : ∀ {l : List FldD}, (∀ i (hi : i + 1 < l.length), lessR l[i].at_ l[i + 1].at_ = true) → srt l
  | [], _ => .nil
  | [x], _ => by simp [srt]
  | x :: y :: l, h => by
    have ih : srt (y :: l) := srt_of fun i hi => h (i + 1) (by simp at hi ⊢; omega)
    have h0 : lessR x.at_ y.at_ = true := h 0 (by simp)
    refine List.pairwise_cons.2 ⟨fun z hz => ?_, ih⟩
    rcases List.mem_cons.1 hz with rfl | hz
    · exact h0
    · exact lessR_trans h0 ((List.pairwise_cons.1 ih).1 z hz)
theorem rightS_iff (l : List FldD) : rightS l = true ↔ l.length ≤ 16 ∧ (∀ f ∈ l, rightF f = true) ∧ srt l := by
  constructor
  · intro h
    unfold rightS at h
    rw [Bool.and_eq_true, decide_eq_true_eq, List.all_eq_true] at h
    have hall : ∀ i (hi : i < l.length), okS l i = true := fun i hi => h.2 i (List.mem_range.2 hi)
    refine ⟨h.1, fun f hf => ?_, srt_of fun i hi => ?_⟩
    · obtain ⟨i, hi, rfl⟩ := List.mem_iff_getElem.1 hf
      cases hq : rightF l[i] with
      | true => rfl
      | false => have := okS_rf hi hq; rw [hall i hi] at this; cases this
    · have := hall (i + 1) hi
      rw [okS_s hi (by omega), Bool.and_eq_true] at this
      exact this.2
  · rintro ⟨h1, h2, h3⟩; refine rightS_t h1 fun i hi => ?_
    rcases Nat.eq_zero_or_pos i with h0 | h0
    · subst h0; rw [okS_0 hi]; exact h2 _ (List.getElem_mem hi)
    · rw [okS_s hi h0, h2 _ (List.getElem_mem hi), Bool.true_and]
      exact List.pairwise_iff_getElem.1 h3 (i - 1) i (by omega) hi (by omega)
theorem srt_eq {l : List FldD} (h : srt l) {i j : Nat} (hi : i < l.length) (hj : j < l.length) (e : l[i].at_ = l[j].at_) : i = j := by
  rcases Nat.lt_trichotomy i j with q | q | q
  · have := List.pairwise_iff_getElem.1 h i j hi hj q
    rw [e] at this; exact absurd this (lessR_irr _)
  · exact q
  · have := List.pairwise_iff_getElem.1 h j i hj hi q
    rw [e] at this; exact absurd this (lessR_irr _)
theorem idxS_at {l : List FldD} {r : RefD} (h : srt l) {k : Nat} (hk : k < l.length) : l[k].at_ = r ↔ (k : Int) = idxS l r := by
  unfold idxS
  cases hf : l.findIdx? (fun f => decide (f.at_ = r)) with
  | none =>
    have := List.findIdx?_eq_none_iff.1 hf l[k] (List.getElem_mem hk)
    constructor
    · intro e; simp [e] at this
    · intro e; simp only at e; omega
  | some i =>
    obtain ⟨hi, h2, _⟩ := List.findIdx?_eq_some_iff_getElem.1 hf
    have h2 : l[i].at_ = r := by simpa using h2
    constructor
    · intro e; have := srt_eq h hk hi (e.trans h2.symm); subst this; rfl
    · intro e; have : k = i := by simp only at e; omega
      subst this; exact h2
theorem idxS_neg {l : List FldD} {r : RefD} (h : idxS l r < 0) : ∀ x ∈ l, x.at_ ≠ r := by
  unfold idxS at h
  cases hf : l.findIdx? (fun f => decide (f.at_ = r)) with
  | none => intro x hx e; have := List.findIdx?_eq_none_iff.1 hf x hx; simp [e] at this
  | some i => rw [hf] at h; simp only at h; omega
theorem idxS_pos {l : List FldD} {r : RefD} {x : FldD} (hx : x ∈ l) (e : x.at_ = r) : ¬ idxS l r < 0 := fun h => idxS_neg h x hx e
theorem take_cut : ∀ {l : List FldD} {r : RefD}, ∀ x ∈ l.take (cutS l r), lessR x.at_ r = true
  | [], _, x, hx => by simp at hx
  | y :: l, r, x, hx => by
    by_cases h2 : lessR y.at_ r = true
    · have h3 : cutS (y :: l) r = cutS l r + 1 := by simp [cutS, List.takeWhile_cons, h2]
      rw [h3, List.take_succ_cons] at hx
      rcases List.mem_cons.1 hx with rfl | hx
      · exact h2
      · exact take_cut x hx
    · have h3 : cutS (y :: l) r = 0 := by simp [cutS, List.takeWhile_cons, h2]
      rw [h3] at hx; simp at hx
theorem drop_cut {l : List FldD} {r : RefD} (h : srt l) (hn : ∀ x ∈ l, x.at_ ≠ r) : ∀ x ∈ l.drop (cutS l r), lessR r x.at_ = true := by
  intro x hx; obtain ⟨i, hi, rfl⟩ := List.mem_iff_getElem.1 hx; rw [List.length_drop] at hi; rw [List.getElem_drop]
  have hc : cutS l r < l.length := by omega
  have h0 : lessR r l[cutS l r].at_ = true := by
    refine lessR_tri (fun q => ?_) (hn _ (List.getElem_mem hc))
    have := cutS_t (Nat.le_refl _) hc q
    omega
  rcases Nat.eq_zero_or_pos i with q | q
  · subst q; exact h0
  · exact lessR_trans h0 (List.pairwise_iff_getElem.1 h (cutS l r) (cutS l r + i) hc (by omega) (by omega))
theorem put_law {l : List FldD} {f : FldD} (h : withS l f = (putS l f, 0)) (hne : (withS l f).2 = 0) : rightS l = true ∧ rightS (putS l f) = true ∧ lessW (putS l f) f.at_ = (l, 0) ∧ findS (putS l f) f.at_ = (f, 0) := by
  unfold withS at hne
  split at hne
  · cases hne
  split at hne
  · cases hne
  split at hne
  · cases hne
  rename_i h1 h2 h3
  have hr : rightS l = true ∧ rightF f = true := by simpa using h1
  obtain ⟨hl, hf, hs⟩ := (rightS_iff l).1 hr.1
  have hn := idxS_neg (show idxS l f.at_ < 0 by omega)
  have hmem : ∀ x, x ∈ l.take (cutS l f.at_) ∨ x ∈ l.drop (cutS l f.at_) → x ∈ l := fun x hx => hx.elim List.mem_of_mem_take List.mem_of_mem_drop
  have hput : rightS (putS l f) = true := by
    refine (rightS_iff _).2 ⟨?_, ?_, ?_⟩
    · have := cutS_le l f.at_
      simp only [putS, List.length_append, List.length_cons, List.length_take, List.length_drop]; omega
    · intro x hx; simp only [putS, List.mem_append, List.mem_cons] at hx
      rcases hx with hx | hx | hx
      · exact hf x (hmem x (.inl hx))
      · rw [hx]; exact hr.2
      · exact hf x (hmem x (.inr hx))
    · refine List.pairwise_append.2 ⟨hs.sublist (List.take_sublist _ _), List.pairwise_cons.2 ⟨fun x hx => drop_cut hs hn x hx, hs.sublist (List.drop_sublist _ _)⟩, ?_⟩; intro x hx y hy
      rcases List.mem_cons.1 hy with rfl | hy
      · exact take_cut x hx
      · exact lessR_trans (take_cut x hx) (drop_cut hs hn y hy)
  refine ⟨hr.1, hput, ?_, ?_⟩
  · unfold lessW
    rw [if_neg (by rw [hput]; decide), if_neg (idxS_pos (x := f) (by simp [putS]) rfl)]
    have e1 : (l.take (cutS l f.at_)).filter (fun x => !decide (x.at_ = f.at_)) = l.take (cutS l f.at_) := List.filter_eq_self.2 fun x hx => by have := hn x (hmem x (.inl hx)); simp [this]
    have e2 : (l.drop (cutS l f.at_)).filter (fun x => !decide (x.at_ = f.at_)) = l.drop (cutS l f.at_) := List.filter_eq_self.2 fun x hx => by have := hn x (hmem x (.inr hx)); simp [this]
    simp [putS, List.filter_append, List.filter_cons, e1, e2]
  · unfold findS
    have : (putS l f).find? (fun x => decide (x.at_ = f.at_)) = some f := by
      have e1 : (l.take (cutS l f.at_)).find? (fun x => decide (x.at_ = f.at_)) = none := List.find?_eq_none.2 fun x hx => by have := hn x (hmem x (.inl hx)); simp [this]
      simp [putS, List.find?_append, e1]
    rw [this]
theorem withS_cases (l : List FldD) (f : FldD) : ((withS l f).1 = [] ∧ (withS l f).2 ≠ 0) ∨ (withS l f = (putS l f, 0)) := by
  unfold withS
  split
  · exact .inl ⟨rfl, by decide⟩
  split
  · exact .inl ⟨rfl, by decide⟩
  split
  · exact .inl ⟨rfl, by decide⟩
  · exact .inr rfl
end Go.Proofs.Ytdgcbhihmnhnaaa
