/- A part of a proof. -/
set_option linter.unusedSimpArgs false
set_option linter.unusedVariables false
namespace Go.Proofs.Ytlapcfnmmpbeeaa
def stepN (t : Nat → Nat) (s b : Nat) : Nat := t (s % 256 ^^^ b) ^^^ (s / 256)
def moreN (t : Nat → Nat) (s : Nat) (l : List UInt8) : Nat := l.foldl (fun s b => stepN t s b.toNat) s
def ofN (t : Nat → Nat) (l : List UInt8) : Nat := 4294967295 - moreN t 4294967295 l
def onN (t : Nat → Nat) (s : Nat) (l : List UInt8) : Nat := 4294967295 - moreN t (4294967295 - s) l
def half (n : Nat) : Nat := if n % 2 = 1 then n / 2 ^^^ 3988292384 else n / 2
def halves : Nat → Nat → Nat
  | 0, n => n
  | k + 1, n => halves k (half n)
def byteN (c : Nat) : Nat := halves 8 c
theorem xor_lt32 {a b : Nat} (ha : a < 4294967296) (hb : b < 4294967296) : a ^^^ b < 4294967296 := Nat.xor_lt_two_pow (n := 32) (by omega) (by omega)
theorem xor_lt8 {a b : Nat} (ha : a < 256) (hb : b < 256) : a ^^^ b < 256 := Nat.xor_lt_two_pow (n := 8) (by omega) (by omega)
theorem stepN_lt {t : Nat → Nat} (ht : ∀ i, i < 256 → t i < 4294967296) {s b : Nat} (hs : s < 4294967296) (hb : b < 256) : stepN t s b < 4294967296 := xor_lt32 (ht _ (xor_lt8 (by omega) hb)) (by omega)
theorem moreN_lt {t : Nat → Nat} (ht : ∀ i, i < 256 → t i < 4294967296) (l : List UInt8) : ∀ {s : Nat}, s < 4294967296 → moreN t s l < 4294967296 := by
  induction l with
  | nil => intro s hs; exact hs
  | cons b l ih => intro s hs; exact ih (stepN_lt ht hs (UInt8.toNat_lt _))
theorem moreN_append (t : Nat → Nat) (s : Nat) (a b : List UInt8) : moreN t s (a ++ b) = moreN t (moreN t s a) b := by simp [moreN]
theorem half_lt {n : Nat} (h : n < 4294967296) : half n < 4294967296 := by
  unfold half; split
  · exact xor_lt32 (by omega) (by omega)
  omega
theorem halves_lt (k : Nat) : ∀ {n : Nat}, n < 4294967296 → halves k n < 4294967296 := by
  induction k with
  | zero => intro n h; exact h
  | succ k ih => intro n h; exact ih (half_lt h)
theorem halves_succ' (k n : Nat) : halves (k + 1) n = half (halves k n) := by
  induction k generalizing n with
  | zero => rfl
  | succ k ih => rw [halves, ih]; rfl
theorem byteN_lt {n : Nat} (h : n < 256) : byteN n < 4294967296 := halves_lt 8 (by omega)
theorem xor_div2 (a b : Nat) : (a ^^^ b) / 2 = (a / 2) ^^^ (b / 2) := by
  apply Nat.eq_of_testBit_eq; intro i
  simp [Nat.testBit_xor, ← Nat.testBit_succ]
theorem xor_mod2 (a b : Nat) : (a ^^^ b) % 2 = (a + b) % 2 := by
  have h := @Nat.xor_mod_two_eq_one a b
  by_cases x : (a ^^^ b) % 2 = 1
  · have := h.1 x; omega
  have : ¬ ¬(a % 2 = 1 ↔ b % 2 = 1) := fun y => x (h.2 y)
  omega
theorem half_xor (a b : Nat) : half (a ^^^ b) = half a ^^^ half b := by
  have h := xor_mod2 a b
  have d := xor_div2 a b
  unfold half
  by_cases ha : a % 2 = 1 <;> by_cases hb : b % 2 = 1
  · rw [if_neg (by omega), if_pos ha, if_pos hb, d]
    apply Nat.eq_of_testBit_eq; intro i
    simp only [Nat.testBit_xor]
    cases (a / 2).testBit i <;> cases (b / 2).testBit i <;> cases Nat.testBit 3988292384 i <;> rfl
  · rw [if_pos (by omega), if_pos ha, if_neg hb, d]
    apply Nat.eq_of_testBit_eq; intro i
    simp only [Nat.testBit_xor]
    cases (a / 2).testBit i <;> cases (b / 2).testBit i <;> cases Nat.testBit 3988292384 i <;> rfl
  · rw [if_pos (by omega), if_neg ha, if_pos hb, d]
    apply Nat.eq_of_testBit_eq; intro i
    simp only [Nat.testBit_xor]
    cases (a / 2).testBit i <;> cases (b / 2).testBit i <;> cases Nat.testBit 3988292384 i <;> rfl
  rw [if_neg (by omega), if_neg ha, if_neg hb, d]
theorem halves_xor (k : Nat) : ∀ a b, halves k (a ^^^ b) = halves k a ^^^ halves k b := by
  induction k with
  | zero => intro a b; rfl
  | succ k ih => intro a b; rw [halves, half_xor, ih]; rfl
theorem half_double (n : Nat) : half (2 * n) = n := by unfold half; rw [if_neg (by omega)]; omega
theorem halves_shift (k : Nat) : ∀ n, halves k (2 ^ k * n) = n := by
  induction k with
  | zero => intro n; simp [halves]
  | succ k ih => intro n; rw [halves, show 2 ^ (k + 1) * n = 2 * (2 ^ k * n) by rw [Nat.pow_succ, Nat.mul_comm (2 ^ k) 2, Nat.mul_assoc], half_double, ih]
theorem halves_add (a b n : Nat) : halves (a + b) n = halves b (halves a n) := by
  induction a generalizing n with
  | zero => rw [Nat.zero_add]; rfl
  | succ a ih => rw [Nat.succ_add, halves, ih]; rfl
theorem split256 (s : Nat) : s = s % 256 ^^^ (256 * (s / 256)) := by
  apply Nat.eq_of_testBit_eq; intro i
  rw [Nat.testBit_xor, show 256 * (s / 256) = 2 ^ 8 * (s / 2 ^ 8) from rfl, show s % 256 = s % 2 ^ 8 from rfl, Nat.testBit_mod_two_pow, Nat.testBit_two_pow_mul, Nat.testBit_div_two_pow]
  by_cases h : i < 8
  · simp [h, show ¬ 8 ≤ i by omega]
  simp [h, show 8 ≤ i by omega]
theorem stepN_byteN (s c : Nat) : stepN byteN s c = halves 8 (s ^^^ c) := by
  conv => rhs; rw [split256 s, Nat.xor_assoc, Nat.xor_comm (256 * (s / 256)) c, ← Nat.xor_assoc, halves_xor, show 256 * (s / 256) = 2 ^ 8 * (s / 256) from rfl, halves_shift]
  rfl
theorem onN_ofN {t : Nat → Nat} (ht : ∀ i, i < 256 → t i < 4294967296) (a b : List UInt8) : onN t (ofN t a) b = ofN t (a ++ b) := by
  have := moreN_lt ht a (s := 4294967295) (by omega)
  unfold onN ofN
  rw [moreN_append, show 4294967295 - (4294967295 - moreN t 4294967295 a) = moreN t 4294967295 a by omega]
def num : List UInt8 → Nat
  | [] => 0
  | b :: l => b.toNat + 256 * num l
theorem join256 (b n : Nat) (hb : b < 256) : b + 256 * n = b ^^^ (256 * n) := by
  have h := split256 (b + 256 * n)
  rw [show (b + 256 * n) % 256 = b by omega, show (b + 256 * n) / 256 = n by omega] at h
  exact h
theorem halves8_join (x n : Nat) : halves 8 (x ^^^ (256 * n)) = halves 8 x ^^^ n := by
  rw [halves_xor, show 256 * n = 2 ^ 8 * n from rfl, halves_shift]
theorem moreN_num (l : List UInt8) : ∀ s, moreN byteN s l = halves (8 * l.length) (s ^^^ num l) := by
  induction l with
  | nil => intro s; simp [moreN, num, halves]
  | cons b l ih =>
    intro s
    show moreN byteN (stepN byteN s b.toNat) l = _
    rw [ih, stepN_byteN, num, join256 _ _ (UInt8.toNat_lt b), ← Nat.xor_assoc, show 8 * (b :: l).length = 8 + 8 * l.length by rw [List.length_cons]; omega, halves_add, halves8_join]
theorem half_ne {n : Nat} (h : n < 4294967296) (h0 : n ≠ 0) : half n ≠ 0 := by
  unfold half
  split
  · intro e
    have e2 : n / 2 = 3988292384 := by
      have := congrArg (· ^^^ 3988292384) e
      simpa [Nat.xor_assoc] using this
    omega
  omega
theorem halves_ne (k : Nat) : ∀ {n : Nat}, n < 4294967296 → n ≠ 0 → halves k n ≠ 0 := by
  induction k with
  | zero => intro n _ h; exact h
  | succ k ih => intro n h h0; exact ih (half_lt h) (half_ne h h0)
theorem halves_zero (k : Nat) : halves k 0 = 0 := by
  induction k with
  | zero => rfl
  | succ k ih => rw [halves, show half 0 = 0 from rfl, ih]
theorem xor_eq_zero' {a b : Nat} (h : a ^^^ b = 0) : a = b := by
  have := congrArg (· ^^^ b) h
  simpa [Nat.xor_assoc] using this
theorem tells (s : Nat) (x b : List UInt8) (at_ m : Nat) (hl : x.length = b.length) (hat : at_ ≤ 8 * b.length) (hm : m < 4294967296) (hx : num x = num b ^^^ (2 ^ at_ * m)) :
    moreN byteN s x = moreN byteN s b ↔ m = 0 := by
  rw [moreN_num, moreN_num, hl, hx, ← Nat.xor_assoc, halves_xor, show 8 * b.length = at_ + (8 * b.length - at_) by omega, halves_add _ _ (2 ^ at_ * m), halves_shift]
  constructor
  · intro h
    have h2 : halves (8 * b.length - at_) m = 0 := by
      have := congrArg (halves (at_ + (8 * b.length - at_)) (s ^^^ num b) ^^^ ·) h
      simpa [← Nat.xor_assoc] using this
    apply Decidable.byContradiction
    intro h0; exact halves_ne _ hm h0 h2
  rintro rfl; rw [halves_zero, Nat.xor_zero]
theorem num_set (l : List UInt8) : ∀ (j : Nat) (u : UInt8) (h : j < l.length), num (l.set j u) = num l ^^^ (256 ^ j * (l[j].toNat ^^^ u.toNat)) := by
  induction l with
  | nil => intro j u h; simp at h
  | cons b l ih =>
    intro j u h
    cases j with
    | zero =>
      simp only [List.set_cons_zero, num, List.getElem_cons_zero, Nat.pow_zero, Nat.one_mul]
      rw [join256 _ _ (UInt8.toNat_lt u), join256 _ _ (UInt8.toNat_lt b)]
      apply Nat.eq_of_testBit_eq; intro i
      simp only [Nat.testBit_xor]
      cases u.toNat.testBit i <;> cases (256 * num l).testBit i <;> cases b.toNat.testBit i <;> rfl
    | succ j =>
      simp only [List.set_cons_succ, num, List.getElem_cons_succ]
      have hj : j < l.length := by simpa using h
      rw [ih j u hj, join256 _ _ (UInt8.toNat_lt b), join256 _ _ (UInt8.toNat_lt b), Nat.xor_assoc]
      congr 1
      rw [show 256 ^ (j + 1) * (l[j].toNat ^^^ u.toNat) = 256 * (256 ^ j * (l[j].toNat ^^^ u.toNat)) by rw [Nat.pow_succ, Nat.mul_comm (256 ^ j) 256, Nat.mul_assoc]]
      generalize 256 ^ j * (l[j].toNat ^^^ u.toNat) = y
      have e : ∀ z : Nat, 256 * z = z <<< 8 := fun z => by rw [Nat.shiftLeft_eq]; omega
      rw [e, e, e, Nat.shiftLeft_xor_distrib]
theorem num_flip (l : List UInt8) (i : Nat) (h : i / 8 < l.length) (u : UInt8) (hu : u.toNat = l[i / 8].toNat ^^^ 2 ^ (i % 8)) : num (l.set (i / 8) u) = num l ^^^ 2 ^ i := by
  rw [num_set l _ u h, hu, ← Nat.xor_assoc, Nat.xor_self, Nat.zero_xor, show 256 ^ (i / 8) = 2 ^ (8 * (i / 8)) by rw [Nat.pow_mul], ← Nat.pow_add, show 8 * (i / 8) + i % 8 = i by omega]
theorem flip_step (nb at_ k m : Nat) (h : m < 2 ^ k) : ∃ m', m' < 2 ^ (k + 1) ∧ m' ≠ 0 ∧ (nb ^^^ (2 ^ at_ * m)) ^^^ 2 ^ (at_ + k) = nb ^^^ (2 ^ at_ * m') := by
  refine ⟨m ^^^ 2 ^ k, Nat.xor_lt_two_pow (Nat.lt_of_lt_of_le h (Nat.pow_le_pow_right (by omega) (by omega))) (Nat.pow_lt_pow_right (by omega) (by omega)), ?_, ?_⟩
  · intro e
    have := xor_eq_zero' e
    omega
  rw [Nat.xor_assoc]
  congr 1
  have e : ∀ z : Nat, 2 ^ at_ * z = z <<< at_ := fun z => by rw [Nat.shiftLeft_eq, Nat.mul_comm]
  rw [Nat.pow_add, e, e, e, Nat.shiftLeft_xor_distrib]
end Go.Proofs.Ytlapcfnmmpbeeaa
