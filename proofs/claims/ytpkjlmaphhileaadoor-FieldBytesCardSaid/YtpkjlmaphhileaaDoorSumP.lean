/- Sum, plain: the sum of bytes by a table as a function of lists of bytes, and its laws. No conditions. -/
namespace Go.Proofs.YtpkjlmaphhileaaDoor
set_option linter.unusedSimpArgs false
set_option linter.unusedVariables false

def stepN (t : Nat → Nat) (s b : Nat) : Nat := t (s % 256 ^^^ b) ^^^ (s / 256)
def moreN (t : Nat → Nat) (s : Nat) (l : List UInt8) : Nat := l.foldl (fun s b => stepN t s b.toNat) s
def ofN (t : Nat → Nat) (l : List UInt8) : Nat := 4294967295 - moreN t 4294967295 l
def onN (t : Nat → Nat) (s : Nat) (l : List UInt8) : Nat := 4294967295 - moreN t (4294967295 - s) l
def half (n : Nat) : Nat := if n % 2 = 1 then n / 2 ^^^ 3988292384 else n / 2
def halves : Nat → Nat → Nat
  | 0, n => n
  | k + 1, n => halves k (half n)
def byteN (c : Nat) : Nat := halves 8 c
def bit1 (p : Nat × Nat) : Nat × Nat := (if (p.1 + p.2) % 2 = 1 then p.1 / 2 ^^^ 3988292384 else p.1 / 2, p.2 / 2)
def bit8 : Nat → Nat × Nat → Nat × Nat
  | 0, p => p
  | k + 1, p => bit8 k (bit1 p)
def bitsM (s : Nat) (l : List UInt8) : Nat := l.foldl (fun s b => (bit8 8 (s, b.toNat)).1) s
def bitsN (l : List UInt8) : Nat := 4294967295 - bitsM 4294967295 l

theorem xor_lt32 {a b : Nat} (ha : a < 4294967296) (hb : b < 4294967296) : a ^^^ b < 4294967296 := Nat.xor_lt_two_pow (n := 32) (by omega) (by omega)
theorem xor_lt8 {a b : Nat} (ha : a < 256) (hb : b < 256) : a ^^^ b < 256 := Nat.xor_lt_two_pow (n := 8) (by omega) (by omega)
theorem stepN_lt {t : Nat → Nat} (ht : ∀ i, i < 256 → t i < 4294967296) {s b : Nat} (hs : s < 4294967296) (hb : b < 256) : stepN t s b < 4294967296 := xor_lt32 (ht _ (xor_lt8 (by omega) hb)) (by omega)
theorem moreN_lt {t : Nat → Nat} (ht : ∀ i, i < 256 → t i < 4294967296) (l : List UInt8) : ∀ {s : Nat}, s < 4294967296 → moreN t s l < 4294967296 := by
  induction l with
  | nil => intro s hs; exact hs
  | cons b l ih => intro s hs; exact ih (stepN_lt ht hs (UInt8.toNat_lt _))
theorem moreN_append (t : Nat → Nat) (s : Nat) (a b : List UInt8) : moreN t s (a ++ b) = moreN t (moreN t s a) b := by simp [moreN]
theorem half_lt {n : Nat} (h : n < 4294967296) : half n < 4294967296 := by
  unfold half; split
  · exact xor_lt32 (by omega) (by omega)
  · omega
theorem halves_lt (k : Nat) : ∀ {n : Nat}, n < 4294967296 → halves k n < 4294967296 := by
  induction k with
  | zero => intro n h; exact h
  | succ k ih => intro n h; exact ih (half_lt h)
theorem halves_succ' (k n : Nat) : halves (k + 1) n = half (halves k n) := by
  induction k generalizing n with
  | zero => rfl
  | succ k ih => rw [halves, ih]; rfl
theorem byteN_lt {n : Nat} (h : n < 256) : byteN n < 4294967296 := halves_lt 8 (by omega)
theorem bit8_succ' (k : Nat) (p : Nat × Nat) : bit8 (k + 1) p = bit1 (bit8 k p) := by
  induction k generalizing p with
  | zero => rfl
  | succ k ih => rw [bit8, ih]; rfl
theorem bit1_lt {p : Nat × Nat} (h : p.1 < 4294967296) (h2 : p.2 < 256) : (bit1 p).1 < 4294967296 ∧ (bit1 p).2 < 256 := by
  unfold bit1; refine ⟨?_, by dsimp only; omega⟩
  dsimp only; split
  · exact xor_lt32 (by omega) (by omega)
  · omega
theorem bit8_lt (k : Nat) : ∀ {p : Nat × Nat}, p.1 < 4294967296 → p.2 < 256 → (bit8 k p).1 < 4294967296 ∧ (bit8 k p).2 < 256 := by
  induction k with
  | zero => intro p h h2; exact ⟨h, h2⟩
  | succ k ih => intro p h h2; exact ih (bit1_lt h h2).1 (bit1_lt h h2).2
theorem bitsM_lt (l : List UInt8) : ∀ {s : Nat}, s < 4294967296 → bitsM s l < 4294967296 := by
  induction l with
  | nil => intro s hs; exact hs
  | cons b l ih => intro s hs; exact ih (bit8_lt 8 (p := (s, b.toNat)) hs (UInt8.toNat_lt _)).1

/- half over xor -/
theorem xor_div2 (a b : Nat) : (a ^^^ b) / 2 = (a / 2) ^^^ (b / 2) := by
  apply Nat.eq_of_testBit_eq; intro i
  simp [Nat.testBit_xor, ← Nat.testBit_succ]
theorem xor_mod2 (a b : Nat) : (a ^^^ b) % 2 = (a + b) % 2 := by
  have h := @Nat.xor_mod_two_eq_one a b
  by_cases x : (a ^^^ b) % 2 = 1
  · have := h.1 x; omega
  · have : ¬ ¬(a % 2 = 1 ↔ b % 2 = 1) := fun y => x (h.2 y)
    omega
theorem half_xor (a b : Nat) : half (a ^^^ b) = half a ^^^ half b := by
  have h := xor_mod2 a b
  have d := xor_div2 a b
  unfold half
  by_cases ha : a % 2 = 1 <;> by_cases hb : b % 2 = 1
  · rw [if_neg (by omega), if_pos ha, if_pos hb, d]
    apply Nat.eq_of_testBit_eq; intro i
    simp only [Nat.testBit_xor]
    cases (a / 2).testBit i <;> cases (b / 2).testBit i <;> cases Nat.testBit 3988292384 i <;> rfl
  · rw [if_pos (by omega), if_pos ha, if_neg hb, d]
    apply Nat.eq_of_testBit_eq; intro i
    simp only [Nat.testBit_xor]
    cases (a / 2).testBit i <;> cases (b / 2).testBit i <;> cases Nat.testBit 3988292384 i <;> rfl
  · rw [if_pos (by omega), if_neg ha, if_pos hb, d]
    apply Nat.eq_of_testBit_eq; intro i
    simp only [Nat.testBit_xor]
    cases (a / 2).testBit i <;> cases (b / 2).testBit i <;> cases Nat.testBit 3988292384 i <;> rfl
  · rw [if_neg (by omega), if_neg ha, if_neg hb, d]
theorem halves_xor (k : Nat) : ∀ a b, halves k (a ^^^ b) = halves k a ^^^ halves k b := by
  induction k with
  | zero => intro a b; rfl
  | succ k ih => intro a b; rw [halves, half_xor, ih]; rfl
theorem half_double (n : Nat) : half (2 * n) = n := by unfold half; rw [if_neg (by omega)]; omega
theorem halves_shift (k : Nat) : ∀ n, halves k (2 ^ k * n) = n := by
  induction k with
  | zero => intro n; simp [halves]
  | succ k ih => intro n; rw [halves, show 2 ^ (k + 1) * n = 2 * (2 ^ k * n) by rw [Nat.pow_succ, Nat.mul_comm (2 ^ k) 2, Nat.mul_assoc], half_double, ih]
theorem halves_add (a b n : Nat) : halves (a + b) n = halves b (halves a n) := by
  induction a generalizing n with
  | zero => rw [Nat.zero_add]; rfl
  | succ a ih => rw [Nat.succ_add, halves, ih]; rfl
theorem split256 (s : Nat) : s = s % 256 ^^^ (256 * (s / 256)) := by
  apply Nat.eq_of_testBit_eq; intro i
  rw [Nat.testBit_xor, show 256 * (s / 256) = 2 ^ 8 * (s / 2 ^ 8) from rfl, show s % 256 = s % 2 ^ 8 from rfl, Nat.testBit_mod_two_pow, Nat.testBit_two_pow_mul, Nat.testBit_div_two_pow]
  by_cases h : i < 8
  · simp [h, show ¬ 8 ≤ i by omega]
  · simp [h, show 8 ≤ i by omega]
theorem stepN_byteN (s c : Nat) : stepN byteN s c = halves 8 (s ^^^ c) := by
  conv => rhs; rw [split256 s, Nat.xor_assoc, Nat.xor_comm (256 * (s / 256)) c, ← Nat.xor_assoc, halves_xor, show 256 * (s / 256) = 2 ^ 8 * (s / 256) from rfl, halves_shift]
  rfl
theorem bit1_xor (p : Nat × Nat) : (bit1 p).1 ^^^ (bit1 p).2 = half (p.1 ^^^ p.2) := by
  have h := xor_mod2 p.1 p.2
  unfold bit1 half
  rw [h, xor_div2]
  dsimp only
  split
  · rw [Nat.xor_assoc, Nat.xor_comm 3988292384, ← Nat.xor_assoc]
  · rfl
theorem bit8_xor (k : Nat) : ∀ p, (bit8 k p).1 ^^^ (bit8 k p).2 = halves k (p.1 ^^^ p.2) := by
  induction k with
  | zero => intro p; rfl
  | succ k ih => intro p; rw [bit8, ih, bit1_xor]; rfl
theorem bit8_snd (k : Nat) : ∀ p, (bit8 k p).2 = p.2 / 2 ^ k := by
  induction k with
  | zero => intro p; simp [bit8]
  | succ k ih => intro p; rw [bit8, ih, bit1, Nat.div_div_eq_div_mul, Nat.pow_succ, Nat.mul_comm]
theorem bit8_8 (s c : Nat) (hc : c < 256) : (bit8 8 (s, c)).1 = stepN byteN s c := by
  have h := bit8_xor 8 (s, c)
  have h2 := bit8_snd 8 (s, c)
  rw [h2, show (s, c).2 / 2 ^ 8 = 0 from Nat.div_eq_of_lt hc, Nat.xor_zero] at h
  rw [h, stepN_byteN]
theorem bitsM_eq (l : List UInt8) : ∀ s, bitsM s l = moreN byteN s l := by
  induction l with
  | nil => intro s; rfl
  | cons b l ih =>
    intro s
    show bitsM (bit8 8 (s, b.toNat)).1 l = moreN byteN (stepN byteN s b.toNat) l
    rw [ih, bit8_8 _ _ (UInt8.toNat_lt _)]
theorem bitsN_eq (l : List UInt8) : bitsN l = ofN byteN l := by unfold bitsN ofN; rw [bitsM_eq]
theorem onN_ofN {t : Nat → Nat} (ht : ∀ i, i < 256 → t i < 4294967296) (a b : List UInt8) : onN t (ofN t a) b = ofN t (a ++ b) := by
  have := moreN_lt ht a (s := 4294967295) (by omega)
  unfold onN ofN
  rw [moreN_append, show 4294967295 - (4294967295 - moreN t 4294967295 a) = moreN t 4294967295 a by omega]
end Go.Proofs.YtpkjlmaphhileaaDoor
