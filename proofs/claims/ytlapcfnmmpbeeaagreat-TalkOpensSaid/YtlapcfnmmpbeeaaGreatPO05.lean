/- A part of a proof. -/
import Derived.ScopeJumps
import Derived.WalkMore
import Derived.Test.YtlapcfnmmpbeeaaGreatPO01
set_option linter.unusedSimpArgs false
set_option linter.unusedVariables false
namespace Go.Proofs.YtlapcfnmmpbeeaaGreat
def jMZ (t : Nat → Nat) (s b : Nat) : Nat := t (s % 256 ^^^ b) ^^^ (s / 256)
def jCv (t : Nat → Nat) (s : Nat) (l : List UInt8) : Nat := l.foldl (fun s b => jMZ t s b.toNat) s
def ofN (t : Nat → Nat) (l : List UInt8) : Nat := 4294967295 - jCv t 4294967295 l
def onN (t : Nat → Nat) (s : Nat) (l : List UInt8) : Nat := 4294967295 - jCv t (4294967295 - s) l
def half (n : Nat) : Nat := if n % 2 = 1 then n / 2 ^^^ 3988292384 else n / 2
def jBA : Nat → Nat → Nat
  | 0, n => n
  | k + 1, n => jBA k (half n)
def jFw (c : Nat) : Nat := jBA 8 c
theorem jKN {a b : Nat} (ha : a < 4294967296) (hb : b < 4294967296) : a ^^^ b < 4294967296 := Nat.xor_lt_two_pow (n := 32) (by omega) (by omega)
theorem jEz {a b : Nat} (ha : a < 256) (hb : b < 256) : a ^^^ b < 256 := Nat.xor_lt_two_pow (n := 8) (by omega) (by omega)
theorem stepN_lt {t : Nat → Nat} (ht : ∀ i, i < 256 → t i < 4294967296) {s b : Nat} (hs : s < 4294967296) (hb : b < 256) : jMZ t s b < 4294967296 := jKN (ht _ (jEz (by omega) hb)) (by omega)
theorem jE4 {t : Nat → Nat} (ht : ∀ i, i < 256 → t i < 4294967296) (l : List UInt8) : ∀ {s : Nat}, s < 4294967296 → jCv t s l < 4294967296 := by
  induction l with
  | nil => intro s hs; exact hs
  | cons b l ih => intro s hs; exact ih (stepN_lt ht hs (UInt8.toNat_lt _))
theorem jIJ (t : Nat → Nat) (s : Nat) (a b : List UInt8) : jCv t s (a ++ b) = jCv t (jCv t s a) b := by simp [jCv]
theorem jMw {n : Nat} (h : n < 4294967296) : half n < 4294967296 := by
  unfold half; split
  · exact jKN (by omega) (by omega)
  omega
theorem jIB (k : Nat) : ∀ {n : Nat}, n < 4294967296 → jBA k n < 4294967296 := by
  induction k with
  | zero => intro n h; exact h
  | succ k ih => intro n h; exact ih (jMw h)
theorem halves_succ' (k n : Nat) : jBA (k + 1) n = half (jBA k n) := by
  induction k generalizing n with
  | zero => rfl
  | succ k ih => rw [jBA, ih]; rfl
theorem byteN_lt {n : Nat} (h : n < 256) : jFw n < 4294967296 := jIB 8 (by omega)
theorem xor_div2 (a b : Nat) : (a ^^^ b) / 2 = (a / 2) ^^^ (b / 2) := by
  apply Nat.eq_of_testBit_eq; intro i
  simp [Nat.testBit_xor, ← Nat.testBit_succ]
theorem xor_mod2 (a b : Nat) : (a ^^^ b) % 2 = (a + b) % 2 := by
  have h := @Nat.xor_mod_two_eq_one a b
  by_cases x : (a ^^^ b) % 2 = 1
  · have := h.1 x; omega
  have : ¬ ¬(a % 2 = 1 ↔ b % 2 = 1) := fun y => x (h.2 y)
  omega
theorem half_xor (a b : Nat) : half (a ^^^ b) = half a ^^^ half b := by
  have h := xor_mod2 a b
  have d := xor_div2 a b
  unfold half
  by_cases ha : a % 2 = 1 <;> by_cases hb : b % 2 = 1
  · rw [if_neg (by omega), if_pos ha, if_pos hb, d]
    apply Nat.eq_of_testBit_eq; intro i
    simp only [Nat.testBit_xor]
    cases (a / 2).testBit i <;> cases (b / 2).testBit i <;> cases Nat.testBit 3988292384 i <;> rfl
  · rw [if_pos (by omega), if_pos ha, if_neg hb, d]
    apply Nat.eq_of_testBit_eq; intro i
    simp only [Nat.testBit_xor]
    cases (a / 2).testBit i <;> cases (b / 2).testBit i <;> cases Nat.testBit 3988292384 i <;> rfl
  · rw [if_pos (by omega), if_neg ha, if_pos hb, d]
    apply Nat.eq_of_testBit_eq; intro i
    simp only [Nat.testBit_xor]
    cases (a / 2).testBit i <;> cases (b / 2).testBit i <;> cases Nat.testBit 3988292384 i <;> rfl
  rw [if_neg (by omega), if_neg ha, if_neg hb, d]
theorem jGd (k : Nat) : ∀ a b, jBA k (a ^^^ b) = jBA k a ^^^ jBA k b := by
  induction k with
  | zero => intro a b; rfl
  | succ k ih => intro a b; rw [jBA, half_xor, ih]; rfl
theorem jJk (n : Nat) : half (2 * n) = n := by unfold half; rw [if_neg (by omega)]; omega
theorem jEM (k : Nat) : ∀ n, jBA k (2 ^ k * n) = n := by
  induction k with
  | zero => intro n; simp [jBA]
  | succ k ih => intro n; rw [jBA, show 2 ^ (k + 1) * n = 2 * (2 ^ k * n) by rw [Nat.pow_succ, Nat.mul_comm (2 ^ k) 2, Nat.mul_assoc], jJk, ih]
theorem jHj (a b n : Nat) : jBA (a + b) n = jBA b (jBA a n) := by
  induction a generalizing n with
  | zero => rw [Nat.zero_add]; rfl
  | succ a ih => rw [Nat.succ_add, jBA, ih]; rfl
theorem jKk (s : Nat) : s = s % 256 ^^^ (256 * (s / 256)) := by
  apply Nat.eq_of_testBit_eq; intro i
  rw [Nat.testBit_xor, show 256 * (s / 256) = 2 ^ 8 * (s / 2 ^ 8) from rfl, show s % 256 = s % 2 ^ 8 from rfl, Nat.testBit_mod_two_pow, Nat.testBit_two_pow_mul, Nat.testBit_div_two_pow]
  by_cases h : i < 8
  · simp [h, show ¬ 8 ≤ i by omega]
  simp [h, show 8 ≤ i by omega]
theorem jJw (s c : Nat) : jMZ jFw s c = jBA 8 (s ^^^ c) := by
  conv => rhs; rw [jKk s, Nat.xor_assoc, Nat.xor_comm (256 * (s / 256)) c, ← Nat.xor_assoc, jGd, show 256 * (s / 256) = 2 ^ 8 * (s / 256) from rfl, jEM]
  rfl
theorem jGT {t : Nat → Nat} (ht : ∀ i, i < 256 → t i < 4294967296) (a b : List UInt8) : onN t (ofN t a) b = ofN t (a ++ b) := by
  have := jE4 ht a (s := 4294967295) (by omega)
  unfold onN ofN
  rw [jIJ, show 4294967295 - (4294967295 - jCv t 4294967295 a) = jCv t 4294967295 a by omega]
def num : List UInt8 → Nat
  | [] => 0
  | b :: l => b.toNat + 256 * num l
theorem join256 (b n : Nat) (hb : b < 256) : b + 256 * n = b ^^^ (256 * n) := by
  have h := jKk (b + 256 * n)
  rw [show (b + 256 * n) % 256 = b by omega, show (b + 256 * n) / 256 = n by omega] at h
  exact h
theorem jI2 (x n : Nat) : jBA 8 (x ^^^ (256 * n)) = jBA 8 x ^^^ n := by
  rw [jGd, show 256 * n = 2 ^ 8 * n from rfl, jEM]
theorem jIu (l : List UInt8) : ∀ s, jCv jFw s l = jBA (8 * l.length) (s ^^^ num l) := by
  induction l with
  | nil => intro s; simp [jCv, num, jBA]
  | cons b l ih =>
    intro s
    show jCv jFw (jMZ jFw s b.toNat) l = _
    rw [ih, jJw, num, join256 _ _ (UInt8.toNat_lt b), ← Nat.xor_assoc, show 8 * (b :: l).length = 8 + 8 * l.length by rw [List.length_cons]; omega, jHj, jI2]
theorem half_ne {n : Nat} (h : n < 4294967296) (h0 : n ≠ 0) : half n ≠ 0 := by
  unfold half
  split
  · intro e
    have e2 : n / 2 = 3988292384 := by
      have := congrArg (· ^^^ 3988292384) e
      simpa [Nat.xor_assoc] using this
    omega
  omega
theorem jME (k : Nat) : ∀ {n : Nat}, n < 4294967296 → n ≠ 0 → jBA k n ≠ 0 := by
  induction k with
  | zero => intro n _ h; exact h
  | succ k ih => intro n h h0; exact ih (jMw h) (half_ne h h0)
theorem jJt (k : Nat) : jBA k 0 = 0 := by
  induction k with
  | zero => rfl
  | succ k ih => rw [jBA, show half 0 = 0 from rfl, ih]
theorem tells (s : Nat) (x b : List UInt8) (at_ m : Nat) (hl : x.length = b.length) (hat : at_ ≤ 8 * b.length) (hm : m < 4294967296) (hx : num x = num b ^^^ (2 ^ at_ * m)) :
    jCv jFw s x = jCv jFw s b ↔ m = 0 := by
  rw [jIu, jIu, hl, hx, ← Nat.xor_assoc, jGd, show 8 * b.length = at_ + (8 * b.length - at_) by omega, jHj _ _ (2 ^ at_ * m), jEM]
  constructor
  · intro h
    have h2 : jBA (8 * b.length - at_) m = 0 := by
      have := congrArg (jBA (at_ + (8 * b.length - at_)) (s ^^^ num b) ^^^ ·) h
      simpa [← Nat.xor_assoc] using this
    apply Decidable.byContradiction
    intro h0; exact jME _ hm h0 h2
  rintro rfl; rw [jJt, Nat.xor_zero]
def jDt (n : Int) : Nat := if n < 0 then (-2 * n - 1).toNat else (2 * n).toNat
def jEg (u : Nat) : Int := if u % 2 = 1 then -(u / 2 : Nat) - 1 else (u / 2 : Nat)
def u64N (n : Int) : Nat := (n % 18446744073709551616).toNat
def i64Z (u : Nat) : Int := if u < 9223372036854775808 then u else (u : Int) - 18446744073709551616
def jCn (n : Nat) : UInt8 := UInt8.ofNat n
def leB : Nat → Nat → List UInt8
  | 0, _ => []
  | k + 1, u => jCn (u % 256) :: leB k (u / 256)
def vary : Nat → Nat → List UInt8
  | 0, u => [jCn u]
  | f + 1, u => if u < 128 then [jCn u] else jCn (128 + u % 128) :: vary f (u / 128)
def putN (format n : Int) : List UInt8 := if format = 1 then leB 8 (u64N n) else if format = 2 then vary 9 (jDt n) else []
def gv : List UInt8 → Nat → Nat → Option (Nat × Nat)
  | [], _, _ => none
  | c :: cs, k, u => if k = 9 ∧ 1 < c.toNat then none
    else if 128 ≤ c.toNat then gv cs (k + 1) (u + c.toNat % 128 * 128 ^ k)
    else if c.toNat = 0 ∧ 0 < k then none else some (u + c.toNat % 128 * 128 ^ k, k + 1)
def num7 : List UInt8 → Nat
  | [] => 0
  | b :: l => b.toNat % 128 + 128 * num7 l
theorem jAF {n : Nat} (h : n < 256) : (jCn n).toNat = n := UInt8.toNat_ofNat_of_lt' h
theorem jH5 {n : Int} (h1 : -9223372036854775808 ≤ n) (h2 : n ≤ 9223372036854775807) : jDt n < 18446744073709551616 := by unfold jDt; split <;> omega
theorem jJy (u : Nat) : jDt (jEg u) = u := by unfold jEg jDt; split <;> split <;> omega
theorem jKn {u : Nat} (h : u < 18446744073709551616) : -9223372036854775808 ≤ jEg u ∧ jEg u ≤ 9223372036854775807 := by unfold jEg; split <;> omega
theorem u64N_lt (n : Int) : u64N n < 18446744073709551616 := by unfold u64N; omega
theorem i64Z_bd {u : Nat} (h : u < 18446744073709551616) : -9223372036854775808 ≤ i64Z u ∧ i64Z u ≤ 9223372036854775807 := by unfold i64Z; split <;> omega
theorem jBc (k : Nat) : ∀ u, (leB k u).length = k := by
  induction k with
  | zero => intro u; rfl
  | succ k ih => intro u; rw [leB, List.length_cons, ih]
theorem leB_get (k : Nat) : ∀ (u i : Nat) (h : i < (leB k u).length), (leB k u)[i] = jCn (u / 256 ^ i % 256) := by
  induction k with
  | zero => intro u i h; simp [leB] at h
  | succ k ih =>
    intro u i h
    cases i with
    | zero => simp [leB]
    | succ i =>
      simp only [leB, List.getElem_cons_succ]
      rw [ih, Nat.div_div_eq_div_mul, Nat.pow_succ, Nat.mul_comm (256 ^ i) 256]
theorem jKu (u k : Nat) (h : k < 8) : (leB 8 u).take (k + 1) = (leB 8 u).take k ++ [jCn (u / 256 ^ k % 256)] := by
  rw [List.take_succ_eq_append_getElem (by rw [jBc]; exact h), leB_get]
theorem num_leB (k : Nat) : ∀ u, num (leB k u) = u % 256 ^ k := by
  induction k with
  | zero => intro u; rw [Nat.pow_zero, Nat.mod_one]; rfl
  | succ k ih =>
    intro u; rw [leB, num, ih, jAF (by omega), Nat.pow_succ, Nat.mul_comm (256 ^ k) 256, Nat.mod_mul]
theorem jNd (l : List UInt8) : leB l.length (num l) = l := by
  induction l with
  | nil => rfl
  | cons b l ih =>
    have hb := UInt8.toNat_lt b
    rw [List.length_cons, leB, num, show (b.toNat + 256 * num l) % 256 = b.toNat by omega, show (b.toNat + 256 * num l) / 256 = num l by omega, ih]
    congr 1
    exact UInt8.ofNat_toNat
theorem jIX (l : List UInt8) : num l < 256 ^ l.length := by
  induction l with
  | nil => simp [num]
  | cons b l ih =>
    have hb := UInt8.toNat_lt b
    rw [num, List.length_cons, Nat.pow_succ]
    omega
theorem jKE (f u : Nat) : 0 < (vary f u).length := by
  cases f with
  | zero => simp [vary]
  | succ f => rw [vary]; split <;> simp
theorem jHD (f : Nat) : ∀ u, (vary f u).length ≤ f + 1 := by
  induction f with
  | zero => intro u; simp [vary]
  | succ f ih =>
    intro u; rw [vary]
    split
    · simp
    rw [List.length_cons]; have := ih (u / 128); omega
theorem jJC (k : Nat) (h : k < 9) : 128 ^ (9 - k) = 128 * 128 ^ (9 - (k + 1)) := by
  rw [show 9 - k = (9 - (k + 1)) + 1 by omega, Nat.pow_succ, Nat.mul_comm]
theorem gv_vary (suf : List UInt8) : ∀ (j k x acc : Nat), j = 9 - k → k ≤ 9 → x < 2 * 128 ^ (9 - k) → (0 < k → x ≠ 0) →
    gv (vary (9 - k) x ++ suf) k acc = some (acc + x * 128 ^ k, k + (vary (9 - k) x).length) := by
  intro j
  induction j with
  | zero =>
    intro k x acc hj hk hx hz; obtain rfl : k = 9 := by omega
    have hx2 : x < 2 := by simpa using hx
    rw [show 9 - 9 = 0 from rfl, vary, List.singleton_append, gv, jAF (by omega), if_neg (by omega), if_neg (by omega), if_neg (by omega), Nat.mod_eq_of_lt (by omega)]
    rfl
  | succ j ih =>
    intro k x acc hj hk hx hz
    have h9 : k < 9 := by omega
    rw [show 9 - k = (9 - (k + 1)) + 1 by omega, vary]
    by_cases h : x < 128
    · rw [if_pos h, List.singleton_append, gv, jAF (by omega), if_neg (by omega), if_neg (by omega), if_neg (by omega), Nat.mod_eq_of_lt (by omega)]
      rfl
    have hx' := hx
    rw [jJC k h9] at hx'
    rw [if_neg h, List.cons_append, gv, jAF (by omega), if_neg (by omega), if_pos (by omega), ih (k + 1) (x / 128) _ (by omega) (by omega) (by omega) (by omega), show (128 + x % 128) % 128 = x % 128 by omega]
    have e : x % 128 * 128 ^ k + x / 128 * 128 ^ (k + 1) = x * 128 ^ k := by
      rw [Nat.pow_succ, Nat.mul_comm (128 ^ k) 128, ← Nat.mul_assoc, ← Nat.add_mul]
      congr 1
      omega
    rw [Nat.add_assoc, e, List.length_cons, Nat.add_assoc, Nat.add_comm 1]
theorem gv_got : ∀ (r : List UInt8) (k acc u s : Nat), k ≤ 9 → gv r k acc = some (u, s) →
    ∃ x r', u = acc + x * 128 ^ k ∧ x < 2 * 128 ^ (9 - k) ∧ (0 < k → x ≠ 0) ∧ s = k + (vary (9 - k) x).length ∧ r = vary (9 - k) x ++ r' := by
  intro r
  induction r with
  | nil => intro k acc u s _ h; simp [gv] at h
  | cons c cs ih =>
    intro k acc u s hk h; rw [gv] at h
    have hc := UInt8.toNat_lt c
    have ec : jCn c.toNat = c := UInt8.ofNat_toNat
    have hpos : 0 < 128 ^ (9 - k) := Nat.pow_pos (by omega)
    split at h
    · cases h
    rename_i h1
    split at h
    · rename_i h2
      have h9 : k < 9 := by omega
      obtain ⟨x, r', e1, e2, e3, e4, e5⟩ := ih (k + 1) _ u s (by omega) h
      have hp := jJC k h9
      refine ⟨c.toNat % 128 + 128 * x, r', ?_, by rw [hp]; omega, by omega, ?_, ?_⟩
      · rw [e1, Nat.add_assoc]
        congr 1
        rw [Nat.pow_succ, Nat.mul_comm (128 ^ k) 128, ← Nat.mul_assoc, ← Nat.add_mul, Nat.mul_comm x 128]
      · have := e3 (by omega)
        rw [show 9 - k = (9 - (k + 1)) + 1 by omega, vary, if_neg (by omega), List.length_cons, show (c.toNat % 128 + 128 * x) / 128 = x by omega, e4]
        omega
      have := e3 (by omega)
      rw [show 9 - k = (9 - (k + 1)) + 1 by omega, vary, if_neg (by omega), show (c.toNat % 128 + 128 * x) / 128 = x by omega, show 128 + (c.toNat % 128 + 128 * x) % 128 = c.toNat by omega, ec, List.cons_append, ← e5]
    rename_i h2
    split at h
    · cases h
    rename_i h3
    injection h with h
    injection h with h4 h5
    have hv : vary (9 - k) c.toNat = [c] := by
      by_cases h9 : k < 9
      · rw [show 9 - k = (9 - (k + 1)) + 1 by omega, vary, if_pos (by omega), ec]
      rw [show 9 - k = 0 by omega, vary, ec]
    refine ⟨c.toNat, cs, ?_, ?_, by omega, by rw [hv, ← h5]; rfl, by rw [hv]; rfl⟩
    · rw [← h4, Nat.mod_eq_of_lt (by omega)]
    by_cases h9 : k < 9
    · rw [jJC k h9]
      have : 0 < 128 ^ (9 - (k + 1)) := Nat.pow_pos (by omega)
      omega
    rw [show 9 - k = 0 by omega]; omega
theorem gv0_vary (u : Nat) (suf : List UInt8) (h : u < 18446744073709551616) : gv (vary 9 u ++ suf) 0 0 = some (u, (vary 9 u).length) := by
  have := gv_vary suf 9 0 u 0 rfl (by omega) (by show u < 2 * 128 ^ 9; omega) (by omega)
  simpa using this
theorem jMW {r : List UInt8} {u s : Nat} (h : gv r 0 0 = some (u, s)) : u < 18446744073709551616 ∧ s = (vary 9 u).length ∧ ∃ r', r = vary 9 u ++ r' := by
  obtain ⟨x, r', e1, e2, _, e4, e5⟩ := gv_got r 0 0 u s (by omega) h
  obtain rfl : u = x := by simpa using e1
  exact ⟨by have : u < 2 * 128 ^ 9 := e2; omega, by simpa using e4, r', e5⟩
open Go.RowKit
section
variable {P : Program} {Q : Exit → Act → World → Prop}
theorem jL6 {l : Nat} {J J' : Act → World → Prop} (h : ∀ a w, J a w → J' a w) : ∀ (e : Exit) (a : Act) (w : World), Exit.jump l J Q e a w → Exit.jump l J' Q e a w := fun e a w hh => by
  cases e with
  | goto l' => exact ⟨hh.1, h a w hh.2⟩
  | _ => exact hh
theorem jL7 {l : Nat} {J : Act → World → Prop} : ∀ (e : Exit) (a : Act) (w : World), Q e a w → (∀ l', e ≠ .goto l') → Exit.jump l J Q e a w := fun e a w h hn => by
  cases e with
  | goto l' => exact absurd rfl (hn l')
  | _ => exact h
theorem jFR {c tail : Code} {a : Act} {w : World} (l : Nat) (J : Act → World → Prop) (μ : Act → World → Nat) (hf : findLabel c l = some (Code.skip.seq tail))
    (first : ∀ Qv : Exit → Act → World → Prop, Hid (∀ a w, J a w → tail.wp P Qv a w) → Hid (∀ a w, J a w → Qv (.goto l) a w) → Hid (∀ e a w, Q e a w → (∀ l', e ≠ .goto l') → Qv e a w) → c.wp P Qv a w)
    (pass : ∀ a w, J a w → ∀ Qv : Exit → Act → World → Prop, Hid (∀ a' w', J a' w' → μ a' w' < μ a w → Qv (.goto l) a' w') → Hid (∀ e a w, Q e a w → (∀ l', e ≠ .goto l') → Qv e a w) → tail.wp P Qv a w) : (Code.scope c).wp P Q a w :=
  have pass' : ∀ a w, J a w → tail.wp P (Exit.jump l (fun a' w' => J a' w' ∧ μ a' w' < μ a w) Q) a w := fun a w hJ =>
    pass a w hJ _ (fun _ _ h1 h2 => ⟨rfl, h1, h2⟩) jL7
  wp_scope_jumps l J μ hf (first _ (fun a w hJ => Code.wp_mono (jL6 fun _ _ h => h.1) (pass' a w hJ)) (fun _ _ h => ⟨rfl, h⟩) jL7) fun a w hJ => wp_seq (wp_skip (pass' a w hJ))
theorem jgive {a : Act} {lit : (Nat → Value) → Array Value} {R : (Nat → Value) → Prop} (h : a = { tmps := lit fun i => a.tmps.getD i undef, defers := [] }) (hR : R fun i => a.tmps.getD i undef) :
    ∃ u : Nat → Value, a = { tmps := lit u, defers := [] } ∧ R u := ⟨_, h, hR⟩
end
theorem jKO {u : Nat} (h : u < 18446744073709551616) : u < 128 ^ (9 + 1) := by
  have : (128 : Nat) ^ (9 + 1) = 1180591620717411303424 := by decide
  omega
theorem jMh (f : Nat) : ∀ x, x < 128 ^ (f + 1) → ∃ (init : List UInt8) (last : UInt8), vary f x = init ++ [last] ∧ (∀ b ∈ init, 128 ≤ b.toNat) ∧ last.toNat < 128 := by
  induction f with
  | zero =>
    intro x hx
    have hx' : x < 128 := by simpa using hx
    exact ⟨[], jCn x, rfl, by simp, by rw [jAF (by omega)]; exact hx'⟩
  | succ f ih =>
    intro x hx; rw [vary]
    by_cases h : x < 128
    · rw [if_pos h]; exact ⟨[], jCn x, rfl, by simp, by rw [jAF (by omega)]; exact h⟩
    rw [if_neg h]
    obtain ⟨init, last, e, h1, h2⟩ := ih (x / 128) (by rw [Nat.pow_succ] at hx; omega)
    refine ⟨jCn (128 + x % 128) :: init, last, by rw [e]; rfl, ?_, h2⟩; intro b hb
    rcases List.mem_cons.1 hb with rfl | hb
    · rw [jAF (by omega)]; omega
    exact h1 b hb
theorem jMp (f : Nat) : ∀ x, x < 128 ^ (f + 1) → num7 (vary f x) = x := by
  induction f with
  | zero =>
    intro x hx
    have hx' : x < 128 := by simpa using hx
    rw [vary, num7, jAF (by omega)]
    simp [num7]; omega
  | succ f ih =>
    intro x hx; rw [vary]
    by_cases h : x < 128
    · rw [if_pos h, num7, jAF (by omega)]; simp [num7]; omega
    rw [if_neg h, num7, jAF (by omega), ih (x / 128) (by rw [Nat.pow_succ] at hx; omega)]; omega
theorem jL9 {r : List UInt8} {u m : Nat} (h : gv r 0 0 = some (u, m)) : ∃ (init : List UInt8) (last : UInt8) (r' : List UInt8), vary 9 u = init ++ [last] ∧ r = init ++ last :: r' ∧ (∀ b ∈ init, 128 ≤ b.toNat) ∧ last.toNat < 128 ∧ m = init.length + 1 ∧ init.length ≤ 9 ∧ u < 18446744073709551616 := by
  obtain ⟨h1, h2, r', h3⟩ := jMW h
  obtain ⟨init, last, e, a, b⟩ := jMh 9 u (jKO (by assumption))
  have hl := jHD 9 u
  rw [e, List.length_append] at hl
  simp at hl
  exact ⟨init, last, r', e, by rw [h3, e]; simp, a, b, by rw [h2, e]; simp, by omega, h1⟩
theorem jFB {r : List UInt8} {s : Nat} (hs : ∀ i (h : i < r.length), i < s → 128 ≤ r[i].toNat) (he : r.length ≤ s ∨ s = 10) : gv r 0 0 = none := by
  cases h : gv r 0 0 with
  | none => rfl
  | some p =>
    obtain ⟨u, m⟩ := p
    obtain ⟨init, last, r', _, e2, _, hl, _, h9, _⟩ := jL9 h
    have hlen : init.length < r.length := by rw [e2, List.length_append, List.length_cons]; omega
    have := hs init.length hlen (by omega)
    simp [e2] at this
    omega
theorem gv_yes {r : List UInt8} {s U : Nat} (hU : U < 18446744073709551616) (hs : s < r.length) (he : vary 9 U = r.take (s + 1)) : gv r 0 0 = some (U, s + 1) := by
  have h1 := gv0_vary U (r.drop (s + 1)) hU
  have hl : (vary 9 U).length = s + 1 := by rw [he, List.length_take]; omega
  rw [hl, he, List.take_append_drop] at h1
  exact h1
theorem gv_no {r : List UInt8} {s U : Nat} (hs : s < r.length) (hb : ∀ i (h : i < r.length), i < s → 128 ≤ r[i].toNat) (hlast : r[s].toNat < 128) (hU : U = num7 (r.take (s + 1)) % 18446744073709551616) (hne : vary 9 U ≠ r.take (s + 1)) : gv r 0 0 = none := by
  cases h : gv r 0 0 with
  | none => rfl
  | some p =>
    exfalso
    obtain ⟨u, m⟩ := p
    obtain ⟨init, last, r', e1, e2, hi, hl, _, h9, hu⟩ := jL9 h
    have hlen : init.length < r.length := by rw [e2, List.length_append, List.length_cons]; omega
    have hsi : s = init.length := by
      rcases Nat.lt_trichotomy s init.length with h1 | h1 | h1
      · have h2 : r[s] = init[s] := by simp [e2, List.getElem_append_left h1]
        have := hi _ (List.getElem_mem h1)
        rw [h2] at hlast
        omega
      · exact h1
      have := hb init.length hlen h1
      simp [e2] at this
      omega
    have ht : r.take (s + 1) = vary 9 u := by rw [hsi, e1, e2, List.take_append, List.take_of_length_le (by omega)]; simp
    rw [ht, jMp 9 u (jKO (by assumption)), Nat.mod_eq_of_lt hu] at hU
    exact hne (by rw [hU, ht])
def jEB (t : Nat → Nat) (b : List UInt8) : List UInt8 := leB 4 b.length ++ (leB 4 (ofN t (leB 4 b.length ++ b)) ++ b)
def fget (t : Nat → Nat) (r : List UInt8) : Option (List UInt8) :=
  if r.length < 8 then none else
  if 60000 < num (r.take 4) ∨ r.length < 8 + num (r.take 4) then none else
  if num ((r.drop 4).take 4) = ofN t (r.take 4 ++ (r.drop 8).take (num (r.take 4))) then some ((r.drop 8).take (num (r.take 4))) else none
theorem jHn {t : Nat → Nat} (l : List UInt8) : ofN t l < 4294967296 := by unfold ofN; omega
theorem num_leB4 (u : Nat) (h : u < 4294967296) : num (leB 4 u) = u := by
  rw [num_leB]
  exact Nat.mod_eq_of_lt h
theorem split8 (r : List UInt8) (n : Nat) (h : 8 + n ≤ r.length) : r.take (8 + n) = r.take 4 ++ ((r.drop 4).take 4 ++ (r.drop 8).take n) := by
  conv => lhs; rw [show 8 + n = 4 + (4 + n) by omega, List.take_add, List.take_add, List.drop_drop]
theorem jIA (t : Nat → Nat) (r : List UInt8) (h : 8 + num (r.take 4) ≤ r.length) :
    jEB t ((r.drop 8).take (num (r.take 4))) = r.take (8 + num (r.take 4)) ↔ num ((r.drop 4).take 4) = ofN t (r.take 4 ++ (r.drop 8).take (num (r.take 4))) := by
  have h4l : (r.take 4).length = 4 := by rw [List.length_take]; omega
  have hbl : ((r.drop 8).take (num (r.take 4))).length = num (r.take 4) := by rw [List.length_take, List.length_drop]; omega
  have hle : leB 4 (num (r.take 4)) = r.take 4 := by have := jNd (r.take 4); rwa [h4l] at this
  have h44 : ((r.drop 4).take 4).length = 4 := by rw [List.length_take, List.length_drop]; omega
  have hle2 : leB 4 (num ((r.drop 4).take 4)) = (r.drop 4).take 4 := by have := jNd ((r.drop 4).take 4); rwa [h44] at this
  unfold jEB
  rw [hbl, hle, split8 r _ h]
  constructor
  · intro e
    have e1 := List.append_cancel_left e
    have e2 := List.append_cancel_right e1
    rw [← e2, num_leB4 _ (jHn _)]
  intro e; rw [← e, hle2]
end Go.Proofs.YtlapcfnmmpbeeaaGreat
