/- Sum, plain: turned bits within 32 in a row are told. No conditions. -/
import Derived.Test.YtpkjlmaphhileaaDoorSumP
namespace Go.Proofs.YtpkjlmaphhileaaDoor
set_option linter.unusedSimpArgs false
set_option linter.unusedVariables false

/-- Bytes as one number, the first the lowest. -/
def num : List UInt8 → Nat
  | [] => 0
  | b :: l => b.toNat + 256 * num l

theorem join256 (b n : Nat) (hb : b < 256) : b + 256 * n = b ^^^ (256 * n) := by
  have h := split256 (b + 256 * n)
  rw [show (b + 256 * n) % 256 = b by omega, show (b + 256 * n) / 256 = n by omega] at h
  exact h
theorem halves8_join (x n : Nat) : halves 8 (x ^^^ (256 * n)) = halves 8 x ^^^ n := by
  rw [halves_xor, show 256 * n = 2 ^ 8 * n from rfl, halves_shift]
theorem moreN_num (l : List UInt8) : ∀ s, moreN byteN s l = halves (8 * l.length) (s ^^^ num l) := by
  induction l with
  | nil => intro s; simp [moreN, num, halves]
  | cons b l ih =>
    intro s
    show moreN byteN (stepN byteN s b.toNat) l = _
    rw [ih, stepN_byteN, num, join256 _ _ (UInt8.toNat_lt b), ← Nat.xor_assoc, show 8 * (b :: l).length = 8 + 8 * l.length by rw [List.length_cons]; omega, halves_add, halves8_join]
theorem half_ne {n : Nat} (h : n < 4294967296) (h0 : n ≠ 0) : half n ≠ 0 := by
  unfold half
  split
  · intro e
    have e2 : n / 2 = 3988292384 := by
      have := congrArg (· ^^^ 3988292384) e
      simpa [Nat.xor_assoc] using this
    omega
  · omega
theorem halves_ne (k : Nat) : ∀ {n : Nat}, n < 4294967296 → n ≠ 0 → halves k n ≠ 0 := by
  induction k with
  | zero => intro n _ h; exact h
  | succ k ih => intro n h h0; exact ih (half_lt h) (half_ne h h0)
theorem halves_zero (k : Nat) : halves k 0 = 0 := by
  induction k with
  | zero => rfl
  | succ k ih => rw [halves, show half 0 = 0 from rfl, ih]
theorem xor_eq_zero' {a b : Nat} (h : a ^^^ b = 0) : a = b := by
  have := congrArg (· ^^^ b) h
  simpa [Nat.xor_assoc] using this
/-- The law: as many bytes, whose number parts by m turned 'at' bits up (m of 32 bits): unlike sums, unless m is 0. -/
theorem tells (s : Nat) (x b : List UInt8) (at_ m : Nat) (hl : x.length = b.length) (hat : at_ ≤ 8 * b.length) (hm : m < 4294967296) (hx : num x = num b ^^^ (2 ^ at_ * m)) :
    moreN byteN s x = moreN byteN s b ↔ m = 0 := by
  rw [moreN_num, moreN_num, hl, hx, ← Nat.xor_assoc, halves_xor, show 8 * b.length = at_ + (8 * b.length - at_) by omega, halves_add _ _ (2 ^ at_ * m), halves_shift]
  constructor
  · intro h
    have h2 : halves (8 * b.length - at_) m = 0 := by
      have := congrArg (halves (at_ + (8 * b.length - at_)) (s ^^^ num b) ^^^ ·) h
      simpa [← Nat.xor_assoc] using this
    apply Decidable.byContradiction
    intro h0
    exact halves_ne _ hm h0 h2
  · rintro rfl
    rw [halves_zero, Nat.xor_zero]

theorem num_set (l : List UInt8) : ∀ (j : Nat) (u : UInt8) (h : j < l.length), num (l.set j u) = num l ^^^ (256 ^ j * (l[j].toNat ^^^ u.toNat)) := by
  induction l with
  | nil => intro j u h; simp at h
  | cons b l ih =>
    intro j u h
    cases j with
    | zero =>
      simp only [List.set_cons_zero, num, List.getElem_cons_zero, Nat.pow_zero, Nat.one_mul]
      rw [join256 _ _ (UInt8.toNat_lt u), join256 _ _ (UInt8.toNat_lt b)]
      apply Nat.eq_of_testBit_eq; intro i
      simp only [Nat.testBit_xor]
      cases u.toNat.testBit i <;> cases (256 * num l).testBit i <;> cases b.toNat.testBit i <;> rfl
    | succ j =>
      simp only [List.set_cons_succ, num, List.getElem_cons_succ]
      have hj : j < l.length := by simpa using h
      rw [ih j u hj, join256 _ _ (UInt8.toNat_lt b), join256 _ _ (UInt8.toNat_lt b), Nat.xor_assoc]
      congr 1
      rw [show 256 ^ (j + 1) * (l[j].toNat ^^^ u.toNat) = 256 * (256 ^ j * (l[j].toNat ^^^ u.toNat)) by rw [Nat.pow_succ, Nat.mul_comm (256 ^ j) 256, Nat.mul_assoc]]
      generalize 256 ^ j * (l[j].toNat ^^^ u.toNat) = y
      have e : ∀ z : Nat, 256 * z = z <<< 8 := fun z => by rw [Nat.shiftLeft_eq]; omega
      rw [e, e, e, Nat.shiftLeft_xor_distrib]
/-- One bit turned: byte i/8, its bit i%8. -/
theorem num_flip (l : List UInt8) (i : Nat) (h : i / 8 < l.length) (u : UInt8) (hu : u.toNat = l[i / 8].toNat ^^^ 2 ^ (i % 8)) : num (l.set (i / 8) u) = num l ^^^ 2 ^ i := by
  rw [num_set l _ u h, hu, ← Nat.xor_assoc, Nat.xor_self, Nat.zero_xor, show 256 ^ (i / 8) = 2 ^ (8 * (i / 8)) by rw [Nat.pow_mul], ← Nat.pow_add, show 8 * (i / 8) + i % 8 = i by omega]
theorem flip_step (nb at_ k m : Nat) (h : m < 2 ^ k) : ∃ m', m' < 2 ^ (k + 1) ∧ m' ≠ 0 ∧ (nb ^^^ (2 ^ at_ * m)) ^^^ 2 ^ (at_ + k) = nb ^^^ (2 ^ at_ * m') := by
  refine ⟨m ^^^ 2 ^ k, Nat.xor_lt_two_pow (Nat.lt_of_lt_of_le h (Nat.pow_le_pow_right (by omega) (by omega))) (Nat.pow_lt_pow_right (by omega) (by omega)), ?_, ?_⟩
  · intro e
    have := xor_eq_zero' e
    omega
  · rw [Nat.xor_assoc]
    congr 1
    have e : ∀ z : Nat, 2 ^ at_ * z = z <<< at_ := fun z => by rw [Nat.shiftLeft_eq, Nat.mul_comm]
    rw [Nat.pow_add, e, e, e, Nat.shiftLeft_xor_distrib]
end Go.Proofs.YtpkjlmaphhileaaDoor
