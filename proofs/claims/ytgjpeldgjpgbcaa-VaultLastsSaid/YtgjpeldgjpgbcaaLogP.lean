/- Files of frames, plain: what is scanned, and what a beginning of them holds. No conditions. -/
import Derived.Test.YtgjpeldgjpgbcaaLogB
import Derived.Test.YtgjpeldgjpgbcaaDskQ
namespace Go.Proofs.Ytgjpeldgjpgbcaa
set_option linter.unusedSimpArgs false
set_option linter.unusedVariables false
open Go.RowKit

section
variable {t : Nat → Nat}
theorem frames_len (rs : List (List UInt8)) : rs.length ≤ (rs.flatMap (frameN t)).length := by
  induction rs with
  | nil => simp
  | cons r rs ih => rw [List.flatMap_cons, List.length_append, frameN_len, List.length_cons]; omega
theorem scanF_frames {j : List UInt8} (hj : fget t j = none) : ∀ (rs : List (List UInt8)) (_ : ∀ r ∈ rs, r.length ≤ 60000) (pre : List UInt8) (f : Nat), rs.length < f → scanF t (pre ++ (rs.flatMap (frameN t) ++ j)) f pre.length = (rs, pre.length + (rs.flatMap (frameN t)).length)
  | [], _, pre, f, _ => by
    rw [scan_none (by rw [List.drop_left]; exact hj)]
    simp
  | r :: rs, hr, pre, f, hf => by
    cases f with
    | zero => simp at hf
    | succ f =>
      have hg : fget t ((pre ++ ((r :: rs).flatMap (frameN t) ++ j)).drop pre.length) = some r := by
        rw [List.drop_left, List.flatMap_cons, List.append_assoc]
        exact fget_frame t r _ (hr r List.mem_cons_self)
      have ih := scanF_frames hj rs (fun x hx => hr x (List.mem_cons_of_mem _ hx)) (pre ++ frameN t r) f (by simp at hf; omega)
      have e1 : pre ++ frameN t r ++ (rs.flatMap (frameN t) ++ j) = pre ++ ((r :: rs).flatMap (frameN t) ++ j) := by rw [List.flatMap_cons]; simp
      have e2 : (pre ++ frameN t r).length = pre.length + 8 + r.length := by rw [List.length_append, frameN_len]; omega
      rw [e1, e2] at ih
      rw [scan_some hg, ih, List.flatMap_cons, List.length_append, frameN_len]
      simp; omega
theorem scanN_frames {j : List UInt8} (hj : fget t j = none) (rs : List (List UInt8)) (hr : ∀ r ∈ rs, r.length ≤ 60000) : scanN t (rs.flatMap (frameN t) ++ j) = (rs, (rs.flatMap (frameN t)).length) := by
  have := scanF_frames hj rs hr [] ((rs.flatMap (frameN t) ++ j).length + 1) (by have := frames_len (t := t) rs; rw [List.length_append]; omega)
  simpa [scanN] using this
theorem scanF_split (l : List UInt8) : ∀ (f k : Nat), k ≤ l.length → l.length < k + f → ∃ j, l.drop k = (scanF t l f k).1.flatMap (frameN t) ++ j ∧ fget t j = none ∧ (scanF t l f k).2 = k + ((scanF t l f k).1.flatMap (frameN t)).length ∧ ∀ r ∈ (scanF t l f k).1, r.length ≤ 60000
  | 0, k, h1, h2 => by omega
  | f + 1, k, h1, h2 => by
    cases hg : fget t (l.drop k) with
    | none => rw [scan_none hg]; exact ⟨l.drop k, rfl, hg, rfl, fun r hr => by cases hr⟩
    | some b =>
      obtain ⟨g1, g2, g3⟩ := fget_some hg
      rw [List.length_drop] at g2
      obtain ⟨j, a1, a2, a3, a4⟩ := scanF_split l f (k + 8 + b.length) (by omega) (by omega)
      rw [scan_some hg]
      refine ⟨j, ?_, a2, ?_, ?_⟩
      · rw [g3, List.drop_drop, show k + (8 + b.length) = k + 8 + b.length by omega, a1, List.flatMap_cons]; simp
      · show (scanF t l f (k + 8 + b.length)).2 = _
        rw [a3, List.flatMap_cons, List.length_append, frameN_len]; omega
      · intro r hr
        rcases List.mem_cons.1 hr with rfl | hr
        · exact g1
        · exact a4 r hr
theorem scanN_split (t : Nat → Nat) (l : List UInt8) : ∃ j, l = (scanN t l).1.flatMap (frameN t) ++ j ∧ fget t j = none ∧ (scanN t l).2 = ((scanN t l).1.flatMap (frameN t)).length ∧ ∀ r ∈ (scanN t l).1, r.length ≤ 60000 := by
  obtain ⟨j, h1, h2, h3, h4⟩ := scanF_split (t := t) l (l.length + 1) 0 (Nat.zero_le _) (by omega)
  exact ⟨j, by simpa [scanN] using h1, h2, by simpa [scanN] using h3, h4⟩
theorem scanN_le (t : Nat → Nat) (l : List UInt8) : (scanN t l).2 ≤ l.length := by
  obtain ⟨j, h1, _, h3, _⟩ := scanN_split t l
  rw [h3]
  have := congrArg List.length h1
  rw [List.length_append] at this
  omega
theorem scanN_take (t : Nat → Nat) (l : List UInt8) : l.take (scanN t l).2 = (scanN t l).1.flatMap (frameN t) := by
  obtain ⟨j, h1, _, h3, _⟩ := scanN_split t l
  rw [h3]
  have h := List.take_left (l₁ := (scanN t l).1.flatMap (frameN t)) (l₂ := j)
  rwa [← h1] at h
theorem fget_torn {b p : List UInt8} (hb : b.length ≤ 60000) (hp : p <+: frameN t b) (h : p.length < 8 + b.length) : fget t p = none := by
  by_cases h8 : p.length < 8
  · exact fget_n1 h8
  · refine fget_n2 (.inr ?_)
    have e : p.take 4 = leB 4 b.length := by
      have h4 := take4_frame t b []
      rw [List.append_nil] at h4
      rw [← h4, List.prefix_iff_eq_take.1 hp, List.take_take, show min 4 p.length = 4 by omega]
    rw [e, num_leB4 _ (by omega)]
    exact h
theorem fget_nil : fget t [] = none := fget_n1 (by simp)
theorem prefix_frames : ∀ (rs : List (List UInt8)) (_ : ∀ r ∈ rs, r.length ≤ 60000) (p : List UInt8), p <+: rs.flatMap (frameN t) → ∃ m j, m ≤ rs.length ∧ p = (rs.take m).flatMap (frameN t) ++ j ∧ fget t j = none
  | [], _, p, hp => ⟨0, [], Nat.le_refl _, by simpa using hp, fget_nil⟩
  | r :: rs, hr, p, hp => by
    rw [List.flatMap_cons] at hp
    by_cases h : p.length < 8 + r.length
    · refine ⟨0, p, Nat.zero_le _, by simp, fget_torn (hr r List.mem_cons_self) ?_ h⟩
      exact List.prefix_of_prefix_length_le hp (List.prefix_append _ _) (by rw [frameN_len]; omega)
    · have h1 : frameN t r <+: p := List.prefix_of_prefix_length_le (List.prefix_append _ _) hp (by rw [frameN_len]; omega)
      obtain ⟨q, rfl⟩ := h1
      obtain ⟨m, j, a1, a2, a3⟩ := prefix_frames rs (fun x hx => hr x (List.mem_cons_of_mem _ hx)) q ((List.prefix_append_right_inj _).1 hp)
      exact ⟨m + 1, j, by simp; omega, by rw [a2, List.take_succ_cons, List.flatMap_cons, List.append_assoc], a3⟩
theorem frames_below {rs : List (List UInt8)} (hr : ∀ r ∈ rs, r.length ≤ 60000) {s m : Nat} {j : List UInt8} (hs : s ≤ rs.length) (hj : fget t j = none) (h : (rs.take s).flatMap (frameN t) <+: (rs.take m).flatMap (frameN t) ++ j) : s ≤ m := by
  rcases Nat.lt_or_ge m s with hlt | hge
  · exfalso
    have hm : m < rs.length := by omega
    obtain ⟨u, rfl⟩ : ∃ u, s = m + (u + 1) := ⟨s - m - 1, by omega⟩
    have e : rs.take (m + (u + 1)) = rs.take m ++ rs[m] :: (rs.drop (m + 1)).take u := by
      rw [List.take_add, List.drop_eq_getElem_cons hm, List.take_succ_cons]
    rw [e, List.flatMap_append, List.prefix_append_right_inj, List.flatMap_cons] at h
    obtain ⟨x, hx⟩ := h
    rw [← hx, List.append_assoc, fget_frame t _ _ (hr _ (List.getElem_mem hm))] at hj
    cases hj
  · exact hge
end
end Go.Proofs.Ytgjpeldgjpgbcaa
