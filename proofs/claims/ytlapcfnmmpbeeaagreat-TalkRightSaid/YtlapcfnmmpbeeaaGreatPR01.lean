/- Texts of the proof of talkRight_holds, put together by a program: SumP SumQ CodeP. -/
set_option linter.unusedSimpArgs false
set_option linter.unusedVariables false
namespace Go.Proofs.YtlapcfnmmpbeeaaGreat
def stepN (t : Nat → Nat) (s b : Nat) : Nat := t (s % 256 ^^^ b) ^^^ (s / 256)
def moreN (t : Nat → Nat) (s : Nat) (l : List UInt8) : Nat := l.foldl (fun s b => stepN t s b.toNat) s
def ofN (t : Nat → Nat) (l : List UInt8) : Nat := 4294967295 - moreN t 4294967295 l
def onN (t : Nat → Nat) (s : Nat) (l : List UInt8) : Nat := 4294967295 - moreN t (4294967295 - s) l
def half (n : Nat) : Nat := if n % 2 = 1 then n / 2 ^^^ 3988292384 else n / 2
def halves : Nat → Nat → Nat
  | 0, n => n
  | k + 1, n => halves k (half n)
def byteN (c : Nat) : Nat := halves 8 c
theorem xor_lt32 {a b : Nat} (ha : a < 4294967296) (hb : b < 4294967296) : a ^^^ b < 4294967296 := Nat.xor_lt_two_pow (n := 32) (by omega) (by omega)
theorem xor_lt8 {a b : Nat} (ha : a < 256) (hb : b < 256) : a ^^^ b < 256 := Nat.xor_lt_two_pow (n := 8) (by omega) (by omega)
theorem stepN_lt {t : Nat → Nat} (ht : ∀ i, i < 256 → t i < 4294967296) {s b : Nat} (hs : s < 4294967296) (hb : b < 256) : stepN t s b < 4294967296 := xor_lt32 (ht _ (xor_lt8 (by omega) hb)) (by omega)
theorem moreN_lt {t : Nat → Nat} (ht : ∀ i, i < 256 → t i < 4294967296) (l : List UInt8) : ∀ {s : Nat}, s < 4294967296 → moreN t s l < 4294967296 := by
  induction l with
  | nil => intro s hs; exact hs
  | cons b l ih => intro s hs; exact ih (stepN_lt ht hs (UInt8.toNat_lt _))
theorem moreN_append (t : Nat → Nat) (s : Nat) (a b : List UInt8) : moreN t s (a ++ b) = moreN t (moreN t s a) b := by simp [moreN]
theorem half_lt {n : Nat} (h : n < 4294967296) : half n < 4294967296 := by
  unfold half; split
  · exact xor_lt32 (by omega) (by omega)
  · omega
theorem halves_lt (k : Nat) : ∀ {n : Nat}, n < 4294967296 → halves k n < 4294967296 := by
  induction k with
  | zero => intro n h; exact h
  | succ k ih => intro n h; exact ih (half_lt h)
theorem halves_succ' (k n : Nat) : halves (k + 1) n = half (halves k n) := by
  induction k generalizing n with
  | zero => rfl
  | succ k ih => rw [halves, ih]; rfl
theorem byteN_lt {n : Nat} (h : n < 256) : byteN n < 4294967296 := halves_lt 8 (by omega)
theorem xor_div2 (a b : Nat) : (a ^^^ b) / 2 = (a / 2) ^^^ (b / 2) := by
  apply Nat.eq_of_testBit_eq; intro i
  simp [Nat.testBit_xor, ← Nat.testBit_succ]
theorem xor_mod2 (a b : Nat) : (a ^^^ b) % 2 = (a + b) % 2 := by
  have h := @Nat.xor_mod_two_eq_one a b
  by_cases x : (a ^^^ b) % 2 = 1
  · have := h.1 x; omega
  · have : ¬ ¬(a % 2 = 1 ↔ b % 2 = 1) := fun y => x (h.2 y)
    omega
theorem half_xor (a b : Nat) : half (a ^^^ b) = half a ^^^ half b := by
  have h := xor_mod2 a b
  have d := xor_div2 a b
  unfold half
  by_cases ha : a % 2 = 1 <;> by_cases hb : b % 2 = 1
  · rw [if_neg (by omega), if_pos ha, if_pos hb, d]
    apply Nat.eq_of_testBit_eq; intro i
    simp only [Nat.testBit_xor]
    cases (a / 2).testBit i <;> cases (b / 2).testBit i <;> cases Nat.testBit 3988292384 i <;> rfl
  · rw [if_pos (by omega), if_pos ha, if_neg hb, d]
    apply Nat.eq_of_testBit_eq; intro i
    simp only [Nat.testBit_xor]
    cases (a / 2).testBit i <;> cases (b / 2).testBit i <;> cases Nat.testBit 3988292384 i <;> rfl
  · rw [if_pos (by omega), if_neg ha, if_pos hb, d]
    apply Nat.eq_of_testBit_eq; intro i
    simp only [Nat.testBit_xor]
    cases (a / 2).testBit i <;> cases (b / 2).testBit i <;> cases Nat.testBit 3988292384 i <;> rfl
  · rw [if_neg (by omega), if_neg ha, if_neg hb, d]
theorem halves_xor (k : Nat) : ∀ a b, halves k (a ^^^ b) = halves k a ^^^ halves k b := by
  induction k with
  | zero => intro a b; rfl
  | succ k ih => intro a b; rw [halves, half_xor, ih]; rfl
theorem half_double (n : Nat) : half (2 * n) = n := by unfold half; rw [if_neg (by omega)]; omega
theorem halves_shift (k : Nat) : ∀ n, halves k (2 ^ k * n) = n := by
  induction k with
  | zero => intro n; simp [halves]
  | succ k ih => intro n; rw [halves, show 2 ^ (k + 1) * n = 2 * (2 ^ k * n) by rw [Nat.pow_succ, Nat.mul_comm (2 ^ k) 2, Nat.mul_assoc], half_double, ih]
theorem halves_add (a b n : Nat) : halves (a + b) n = halves b (halves a n) := by
  induction a generalizing n with
  | zero => rw [Nat.zero_add]; rfl
  | succ a ih => rw [Nat.succ_add, halves, ih]; rfl
theorem split256 (s : Nat) : s = s % 256 ^^^ (256 * (s / 256)) := by
  apply Nat.eq_of_testBit_eq; intro i
  rw [Nat.testBit_xor, show 256 * (s / 256) = 2 ^ 8 * (s / 2 ^ 8) from rfl, show s % 256 = s % 2 ^ 8 from rfl, Nat.testBit_mod_two_pow, Nat.testBit_two_pow_mul, Nat.testBit_div_two_pow]
  by_cases h : i < 8
  · simp [h, show ¬ 8 ≤ i by omega]
  · simp [h, show 8 ≤ i by omega]
theorem stepN_byteN (s c : Nat) : stepN byteN s c = halves 8 (s ^^^ c) := by
  conv => rhs; rw [split256 s, Nat.xor_assoc, Nat.xor_comm (256 * (s / 256)) c, ← Nat.xor_assoc, halves_xor, show 256 * (s / 256) = 2 ^ 8 * (s / 256) from rfl, halves_shift]
  rfl
theorem onN_ofN {t : Nat → Nat} (ht : ∀ i, i < 256 → t i < 4294967296) (a b : List UInt8) : onN t (ofN t a) b = ofN t (a ++ b) := by
  have := moreN_lt ht a (s := 4294967295) (by omega)
  unfold onN ofN
  rw [moreN_append, show 4294967295 - (4294967295 - moreN t 4294967295 a) = moreN t 4294967295 a by omega]
end Go.Proofs.YtlapcfnmmpbeeaaGreat
namespace Go.Proofs.YtlapcfnmmpbeeaaGreat
def num : List UInt8 → Nat
  | [] => 0
  | b :: l => b.toNat + 256 * num l
theorem join256 (b n : Nat) (hb : b < 256) : b + 256 * n = b ^^^ (256 * n) := by
  have h := split256 (b + 256 * n)
  rw [show (b + 256 * n) % 256 = b by omega, show (b + 256 * n) / 256 = n by omega] at h
  exact h
theorem halves8_join (x n : Nat) : halves 8 (x ^^^ (256 * n)) = halves 8 x ^^^ n := by
  rw [halves_xor, show 256 * n = 2 ^ 8 * n from rfl, halves_shift]
theorem moreN_num (l : List UInt8) : ∀ s, moreN byteN s l = halves (8 * l.length) (s ^^^ num l) := by
  induction l with
  | nil => intro s; simp [moreN, num, halves]
  | cons b l ih =>
    intro s
    show moreN byteN (stepN byteN s b.toNat) l = _
    rw [ih, stepN_byteN, num, join256 _ _ (UInt8.toNat_lt b), ← Nat.xor_assoc, show 8 * (b :: l).length = 8 + 8 * l.length by rw [List.length_cons]; omega, halves_add, halves8_join]
theorem half_ne {n : Nat} (h : n < 4294967296) (h0 : n ≠ 0) : half n ≠ 0 := by
  unfold half
  split
  · intro e
    have e2 : n / 2 = 3988292384 := by
      have := congrArg (· ^^^ 3988292384) e
      simpa [Nat.xor_assoc] using this
    omega
  · omega
theorem halves_ne (k : Nat) : ∀ {n : Nat}, n < 4294967296 → n ≠ 0 → halves k n ≠ 0 := by
  induction k with
  | zero => intro n _ h; exact h
  | succ k ih => intro n h h0; exact ih (half_lt h) (half_ne h h0)
theorem halves_zero (k : Nat) : halves k 0 = 0 := by
  induction k with
  | zero => rfl
  | succ k ih => rw [halves, show half 0 = 0 from rfl, ih]
theorem tells (s : Nat) (x b : List UInt8) (at_ m : Nat) (hl : x.length = b.length) (hat : at_ ≤ 8 * b.length) (hm : m < 4294967296) (hx : num x = num b ^^^ (2 ^ at_ * m)) :
    moreN byteN s x = moreN byteN s b ↔ m = 0 := by
  rw [moreN_num, moreN_num, hl, hx, ← Nat.xor_assoc, halves_xor, show 8 * b.length = at_ + (8 * b.length - at_) by omega, halves_add _ _ (2 ^ at_ * m), halves_shift]
  constructor
  · intro h
    have h2 : halves (8 * b.length - at_) m = 0 := by
      have := congrArg (halves (at_ + (8 * b.length - at_)) (s ^^^ num b) ^^^ ·) h
      simpa [← Nat.xor_assoc] using this
    apply Decidable.byContradiction
    intro h0; exact halves_ne _ hm h0 h2
  · rintro rfl; rw [halves_zero, Nat.xor_zero]
end Go.Proofs.YtlapcfnmmpbeeaaGreat
namespace Go.Proofs.YtlapcfnmmpbeeaaGreat
def turnN (n : Int) : Nat := if n < 0 then (-2 * n - 1).toNat else (2 * n).toNat
def backZ (u : Nat) : Int := if u % 2 = 1 then -(u / 2 : Nat) - 1 else (u / 2 : Nat)
def u64N (n : Int) : Nat := (n % 18446744073709551616).toNat
def i64Z (u : Nat) : Int := if u < 9223372036854775808 then u else (u : Int) - 18446744073709551616
def byteOf (n : Nat) : UInt8 := UInt8.ofNat n
def leB : Nat → Nat → List UInt8
  | 0, _ => []
  | k + 1, u => byteOf (u % 256) :: leB k (u / 256)
def vary : Nat → Nat → List UInt8
  | 0, u => [byteOf u]
  | f + 1, u => if u < 128 then [byteOf u] else byteOf (128 + u % 128) :: vary f (u / 128)
def putN (format n : Int) : List UInt8 := if format = 1 then leB 8 (u64N n) else if format = 2 then vary 9 (turnN n) else []
def gv : List UInt8 → Nat → Nat → Option (Nat × Nat)
  | [], _, _ => none
  | c :: cs, k, u => if k = 9 ∧ 1 < c.toNat then none
    else if 128 ≤ c.toNat then gv cs (k + 1) (u + c.toNat % 128 * 128 ^ k)
    else if c.toNat = 0 ∧ 0 < k then none else some (u + c.toNat % 128 * 128 ^ k, k + 1)
theorem byteOf_toNat {n : Nat} (h : n < 256) : (byteOf n).toNat = n := UInt8.toNat_ofNat_of_lt' h
theorem turnN_lt {n : Int} (h1 : -9223372036854775808 ≤ n) (h2 : n ≤ 9223372036854775807) : turnN n < 18446744073709551616 := by unfold turnN; split <;> omega
theorem backZ_bd {u : Nat} (h : u < 18446744073709551616) : -9223372036854775808 ≤ backZ u ∧ backZ u ≤ 9223372036854775807 := by unfold backZ; split <;> omega
theorem i64Z_bd {u : Nat} (h : u < 18446744073709551616) : -9223372036854775808 ≤ i64Z u ∧ i64Z u ≤ 9223372036854775807 := by unfold i64Z; split <;> omega
theorem leB_len (k : Nat) : ∀ u, (leB k u).length = k := by
  induction k with
  | zero => intro u; rfl
  | succ k ih => intro u; rw [leB, List.length_cons, ih]
theorem leB_get (k : Nat) : ∀ (u i : Nat) (h : i < (leB k u).length), (leB k u)[i] = byteOf (u / 256 ^ i % 256) := by
  induction k with
  | zero => intro u i h; simp [leB] at h
  | succ k ih =>
    intro u i h
    cases i with
    | zero => simp [leB]
    | succ i =>
      simp only [leB, List.getElem_cons_succ]
      rw [ih, Nat.div_div_eq_div_mul, Nat.pow_succ, Nat.mul_comm (256 ^ i) 256]
theorem leB_take (u k : Nat) (h : k < 8) : (leB 8 u).take (k + 1) = (leB 8 u).take k ++ [byteOf (u / 256 ^ k % 256)] := by
  rw [List.take_succ_eq_append_getElem (by rw [leB_len]; exact h), leB_get]
theorem num_lt (l : List UInt8) : num l < 256 ^ l.length := by
  induction l with
  | nil => simp [num]
  | cons b l ih =>
    have hb := UInt8.toNat_lt b
    rw [num, List.length_cons, Nat.pow_succ]
    omega
theorem vary_pos (f u : Nat) : 0 < (vary f u).length := by
  cases f with
  | zero => simp [vary]
  | succ f => rw [vary]; split <;> simp
theorem vary_len (f : Nat) : ∀ u, (vary f u).length ≤ f + 1 := by
  induction f with
  | zero => intro u; simp [vary]
  | succ f ih =>
    intro u; rw [vary]
    split
    · simp
    · rw [List.length_cons]; have := ih (u / 128); omega
theorem pw_succ (k : Nat) (h : k < 9) : 128 ^ (9 - k) = 128 * 128 ^ (9 - (k + 1)) := by
  rw [show 9 - k = (9 - (k + 1)) + 1 by omega, Nat.pow_succ, Nat.mul_comm]
theorem gv_got : ∀ (r : List UInt8) (k acc u s : Nat), k ≤ 9 → gv r k acc = some (u, s) →
    ∃ x r', u = acc + x * 128 ^ k ∧ x < 2 * 128 ^ (9 - k) ∧ (0 < k → x ≠ 0) ∧ s = k + (vary (9 - k) x).length ∧ r = vary (9 - k) x ++ r' := by
  intro r
  induction r with
  | nil => intro k acc u s _ h; simp [gv] at h
  | cons c cs ih =>
    intro k acc u s hk h; rw [gv] at h
    have hc := UInt8.toNat_lt c
    have ec : byteOf c.toNat = c := UInt8.ofNat_toNat
    have hpos : 0 < 128 ^ (9 - k) := Nat.pow_pos (by omega)
    split at h
    · cases h
    · rename_i h1
      split at h
      · rename_i h2
        have h9 : k < 9 := by omega
        obtain ⟨x, r', e1, e2, e3, e4, e5⟩ := ih (k + 1) _ u s (by omega) h
        have hp := pw_succ k h9
        refine ⟨c.toNat % 128 + 128 * x, r', ?_, by rw [hp]; omega, by omega, ?_, ?_⟩
        · rw [e1, Nat.add_assoc]
          congr 1
          rw [Nat.pow_succ, Nat.mul_comm (128 ^ k) 128, ← Nat.mul_assoc, ← Nat.add_mul, Nat.mul_comm x 128]
        · have := e3 (by omega)
          rw [show 9 - k = (9 - (k + 1)) + 1 by omega, vary, if_neg (by omega), List.length_cons, show (c.toNat % 128 + 128 * x) / 128 = x by omega, e4]
          omega
        · have := e3 (by omega)
          rw [show 9 - k = (9 - (k + 1)) + 1 by omega, vary, if_neg (by omega), show (c.toNat % 128 + 128 * x) / 128 = x by omega, show 128 + (c.toNat % 128 + 128 * x) % 128 = c.toNat by omega, ec, List.cons_append, ← e5]
      · rename_i h2
        split at h
        · cases h
        · rename_i h3
          injection h with h
          injection h with h4 h5
          have hv : vary (9 - k) c.toNat = [c] := by
            by_cases h9 : k < 9
            · rw [show 9 - k = (9 - (k + 1)) + 1 by omega, vary, if_pos (by omega), ec]
            · rw [show 9 - k = 0 by omega, vary, ec]
          refine ⟨c.toNat, cs, ?_, ?_, by omega, by rw [hv, ← h5]; rfl, by rw [hv]; rfl⟩
          · rw [← h4, Nat.mod_eq_of_lt (by omega)]
          · by_cases h9 : k < 9
            · rw [pw_succ k h9]
              have : 0 < 128 ^ (9 - (k + 1)) := Nat.pow_pos (by omega)
              omega
            · rw [show 9 - k = 0 by omega]; omega
theorem gv0_got {r : List UInt8} {u s : Nat} (h : gv r 0 0 = some (u, s)) : u < 18446744073709551616 ∧ s = (vary 9 u).length ∧ ∃ r', r = vary 9 u ++ r' := by
  obtain ⟨x, r', e1, e2, _, e4, e5⟩ := gv_got r 0 0 u s (by omega) h
  obtain rfl : u = x := by simpa using e1
  exact ⟨by have : u < 2 * 128 ^ 9 := e2; omega, by simpa using e4, r', e5⟩
end Go.Proofs.YtlapcfnmmpbeeaaGreat
