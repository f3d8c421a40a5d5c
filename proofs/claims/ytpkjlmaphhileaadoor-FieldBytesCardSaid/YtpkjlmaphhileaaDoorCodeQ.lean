/- Code, plain: the reference's way to read a number in groups of 7 bits comes to the same. No conditions. -/
import Derived.Test.YtpkjlmaphhileaaDoorCodeP
namespace Go.Proofs.YtpkjlmaphhileaaDoor
set_option linter.unusedSimpArgs false
set_option linter.unusedVariables false

theorem lt_pow10 {u : Nat} (h : u < 18446744073709551616) : u < 128 ^ (9 + 1) := by
  have : (128 : Nat) ^ (9 + 1) = 1180591620717411303424 := by decide
  omega
theorem vary_form (f : Nat) : ∀ x, x < 128 ^ (f + 1) → ∃ (init : List UInt8) (last : UInt8), vary f x = init ++ [last] ∧ (∀ b ∈ init, 128 ≤ b.toNat) ∧ last.toNat < 128 := by
  induction f with
  | zero =>
    intro x hx
    have hx' : x < 128 := by simpa using hx
    exact ⟨[], byteOf x, rfl, by simp, by rw [byteOf_toNat (by omega)]; exact hx'⟩
  | succ f ih =>
    intro x hx
    rw [vary]
    by_cases h : x < 128
    · rw [if_pos h]; exact ⟨[], byteOf x, rfl, by simp, by rw [byteOf_toNat (by omega)]; exact h⟩
    · rw [if_neg h]
      obtain ⟨init, last, e, h1, h2⟩ := ih (x / 128) (by rw [Nat.pow_succ] at hx; omega)
      refine ⟨byteOf (128 + x % 128) :: init, last, by rw [e]; rfl, ?_, h2⟩
      intro b hb
      rcases List.mem_cons.1 hb with rfl | hb
      · rw [byteOf_toNat (by omega)]; omega
      · exact h1 b hb
theorem num7_vary (f : Nat) : ∀ x, x < 128 ^ (f + 1) → num7 (vary f x) = x := by
  induction f with
  | zero =>
    intro x hx
    have hx' : x < 128 := by simpa using hx
    rw [vary, num7, byteOf_toNat (by omega)]
    simp [num7]; omega
  | succ f ih =>
    intro x hx
    rw [vary]
    by_cases h : x < 128
    · rw [if_pos h, num7, byteOf_toNat (by omega)]; simp [num7]; omega
    · rw [if_neg h, num7, byteOf_toNat (by omega), ih (x / 128) (by rw [Nat.pow_succ] at hx; omega)]; omega
/-- Where gv finds a number, how its bytes lie. -/
theorem gv_form {r : List UInt8} {u m : Nat} (h : gv r 0 0 = some (u, m)) : ∃ (init : List UInt8) (last : UInt8) (r' : List UInt8), vary 9 u = init ++ [last] ∧ r = init ++ last :: r' ∧ (∀ b ∈ init, 128 ≤ b.toNat) ∧ last.toNat < 128 ∧ m = init.length + 1 ∧ init.length ≤ 9 ∧ u < 18446744073709551616 := by
  obtain ⟨h1, h2, r', h3⟩ := gv0_got h
  obtain ⟨init, last, e, a, b⟩ := vary_form 9 u (lt_pow10 (by assumption))
  have hl := vary_len 9 u
  rw [e, List.length_append] at hl
  simp at hl
  exact ⟨init, last, r', e, by rw [h3, e]; simp, a, b, by rw [h2, e]; simp, by omega, h1⟩
theorem gv_none_end {r : List UInt8} {s : Nat} (hs : ∀ i (h : i < r.length), i < s → 128 ≤ r[i].toNat) (he : r.length ≤ s ∨ s = 10) : gv r 0 0 = none := by
  cases h : gv r 0 0 with
  | none => rfl
  | some p =>
    obtain ⟨u, m⟩ := p
    obtain ⟨init, last, r', _, e2, _, hl, _, h9, _⟩ := gv_form h
    have hlen : init.length < r.length := by rw [e2, List.length_append, List.length_cons]; omega
    have := hs init.length hlen (by omega)
    simp [e2] at this
    omega
theorem gv_yes {r : List UInt8} {s U : Nat} (hU : U < 18446744073709551616) (hs : s < r.length) (he : vary 9 U = r.take (s + 1)) : gv r 0 0 = some (U, s + 1) := by
  have h1 := gv0_vary U (r.drop (s + 1)) hU
  have hl : (vary 9 U).length = s + 1 := by rw [he, List.length_take]; omega
  rw [hl, he, List.take_append_drop] at h1
  exact h1
theorem gv_no {r : List UInt8} {s U : Nat} (hs : s < r.length) (hb : ∀ i (h : i < r.length), i < s → 128 ≤ r[i].toNat) (hlast : r[s].toNat < 128) (hU : U = num7 (r.take (s + 1)) % 18446744073709551616) (hne : vary 9 U ≠ r.take (s + 1)) : gv r 0 0 = none := by
  cases h : gv r 0 0 with
  | none => rfl
  | some p =>
    exfalso
    obtain ⟨u, m⟩ := p
    obtain ⟨init, last, r', e1, e2, hi, hl, _, h9, hu⟩ := gv_form h
    have hlen : init.length < r.length := by rw [e2, List.length_append, List.length_cons]; omega
    have hsi : s = init.length := by
      rcases Nat.lt_trichotomy s init.length with h1 | h1 | h1
      · have h2 : r[s] = init[s] := by simp [e2, List.getElem_append_left h1]
        have := hi _ (List.getElem_mem h1)
        rw [h2] at hlast
        omega
      · exact h1
      · have := hb init.length hlen h1
        simp [e2] at this
        omega
    have ht : r.take (s + 1) = vary 9 u := by rw [hsi, e1, e2, List.take_append, List.take_of_length_le (by omega)]; simp
    rw [ht, num7_vary 9 u (lt_pow10 (by assumption)), Nat.mod_eq_of_lt hu] at hU
    exact hne (by rw [hU, ht])
end Go.Proofs.YtpkjlmaphhileaaDoor
