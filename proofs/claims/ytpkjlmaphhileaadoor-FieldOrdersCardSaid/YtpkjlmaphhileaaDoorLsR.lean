/- The order of places: the plain law. No program in sight. -/
import Derived.Test.YtpkjlmaphhileaaDoorFldA
namespace Go.Proofs.YtpkjlmaphhileaaDoor
set_option linter.unusedSimpArgs false
set_option linter.unusedVariables false
open Go.RowKit

theorem bl_cons (x y : UInt8) (a b : List UInt8) : Op.bytesLess (x :: a) (y :: b) = true ↔ x.toNat < y.toNat ∨ (x.toNat = y.toNat ∧ Op.bytesLess a b = true) := by
  simp [Op.bytesLess, UInt8.lt_iff_toNat_lt, ← UInt8.toNat_inj]
theorem bl_irr : ∀ (a : List UInt8), Op.bytesLess a a = false
  | [] => rfl
  | x :: l => by
    have := bl_irr l
    rw [← Bool.not_eq_true, bl_cons]
    simp [this]
theorem bl_trans : ∀ {a b c : List UInt8}, Op.bytesLess a b = true → Op.bytesLess b c = true → Op.bytesLess a c = true
  | a, [], _, h1, h2 => by cases a <;> simp [Op.bytesLess] at h1
  | [], _ :: _, [], h1, h2 => by simp [Op.bytesLess] at h2
  | [], _ :: _, _ :: _, h1, h2 => by simp [Op.bytesLess]
  | _ :: _, _ :: _, [], h1, h2 => by simp [Op.bytesLess] at h2
  | x :: a, y :: b, z :: c, h1, h2 => by
    have ih := @bl_trans a b c
    rw [bl_cons] at h1 h2 ⊢
    rcases h1 with h1 | ⟨h1, h3⟩ <;> rcases h2 with h2 | ⟨h2, h4⟩
    · left; omega
    · left; omega
    · left; omega
    · right; exact ⟨by omega, ih h3 h4⟩
theorem bl_tri : ∀ {a b : List UInt8}, ¬ Op.bytesLess a b = true → a ≠ b → Op.bytesLess b a = true
  | [], [], _, h2 => absurd rfl h2
  | [], _ :: _, h1, _ => by simp [Op.bytesLess] at h1
  | _ :: _, [], _, _ => by simp [Op.bytesLess]
  | x :: a, y :: b, h1, h2 => by
    have ih := @bl_tri a b
    rw [bl_cons] at h1 ⊢
    by_cases e : x.toNat = y.toNat
    · right
      have hn : a ≠ b := fun e2 => h2 (by rw [e2, UInt8.toNat_inj.1 e])
      exact ⟨e.symm, ih (fun q => h1 (.inr ⟨e, q⟩)) hn⟩
    · left
      have : ¬ x.toNat < y.toNat := fun q => h1 (.inl q)
      omega
theorem lessR_iff (a b : RefD) : lessR a b = true ↔ a.scope < b.scope ∨ (a.scope = b.scope ∧ (Op.bytesLess a.group b.group = true ∨ (a.group = b.group ∧ Op.bytesLess a.name b.name = true))) := by
  unfold lessR
  by_cases e : a.scope = b.scope
  · by_cases g : a.group = b.group
    · simp [e, g, bl_irr]
    · simp [e, g]
  · simp [e]
theorem lessR_irr (a : RefD) : ¬ lessR a a = true := by
  rw [lessR_iff]
  have h1 := bl_irr a.group
  have h2 := bl_irr a.name
  simp [h1, h2]
theorem lessR_trans {a b c : RefD} (h1 : lessR a b = true) (h2 : lessR b c = true) : lessR a c = true := by
  rw [lessR_iff] at h1 h2 ⊢
  rcases h1 with h1 | ⟨h1, h3⟩ <;> rcases h2 with h2 | ⟨h2, h4⟩
  · left; omega
  · left; omega
  · left; omega
  · right
    refine ⟨by omega, ?_⟩
    rcases h3 with h3 | ⟨h3, h5⟩ <;> rcases h4 with h4 | ⟨h4, h6⟩
    · exact .inl (bl_trans h3 h4)
    · exact .inl (h4 ▸ h3)
    · exact .inl (h3 ▸ h4)
    · exact .inr ⟨h3.trans h4, bl_trans h5 h6⟩
theorem lessR_tri {a b : RefD} (h1 : ¬ lessR a b = true) (h2 : a ≠ b) : lessR b a = true := by
  rw [lessR_iff] at h1 ⊢
  by_cases e : a.scope = b.scope
  · right
    refine ⟨e.symm, ?_⟩
    by_cases g : a.group = b.group
    · right
      refine ⟨g.symm, bl_tri (fun q => h1 (.inr ⟨e, .inr ⟨g, q⟩⟩)) fun q => h2 ?_⟩
      cases a; cases b; simp_all
    · left
      exact bl_tri (fun q => h1 (.inr ⟨e, .inl q⟩)) g
  · left
    have : ¬ a.scope < b.scope := fun q => h1 (.inl q)
    omega
end Go.Proofs.YtpkjlmaphhileaaDoor
