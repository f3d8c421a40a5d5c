/- A part of a proof. -/
import Derived.Test.YtlapcfnmmpbeeaaPT01
set_option linter.unusedSimpArgs false
set_option linter.unusedVariables false
namespace Go.Proofs.Ytlapcfnmmpbeeaa
def turnN (n : Int) : Nat := if n < 0 then (-2 * n - 1).toNat else (2 * n).toNat
def backZ (u : Nat) : Int := if u % 2 = 1 then -(u / 2 : Nat) - 1 else (u / 2 : Nat)
def u64N (n : Int) : Nat := (n % 18446744073709551616).toNat
def i64Z (u : Nat) : Int := if u < 9223372036854775808 then u else (u : Int) - 18446744073709551616
def byteOf (n : Nat) : UInt8 := UInt8.ofNat n
def leB : Nat → Nat → List UInt8
  | 0, _ => []
  | k + 1, u => byteOf (u % 256) :: leB k (u / 256)
def vary : Nat → Nat → List UInt8
  | 0, u => [byteOf u]
  | f + 1, u => if u < 128 then [byteOf u] else byteOf (128 + u % 128) :: vary f (u / 128)
def putN (format n : Int) : List UInt8 := if format = 1 then leB 8 (u64N n) else if format = 2 then vary 9 (turnN n) else []
def gv : List UInt8 → Nat → Nat → Option (Nat × Nat)
  | [], _, _ => none
  | c :: cs, k, u => if k = 9 ∧ 1 < c.toNat then none
    else if 128 ≤ c.toNat then gv cs (k + 1) (u + c.toNat % 128 * 128 ^ k)
    else if c.toNat = 0 ∧ 0 < k then none else some (u + c.toNat % 128 * 128 ^ k, k + 1)
theorem byteOf_toNat {n : Nat} (h : n < 256) : (byteOf n).toNat = n := UInt8.toNat_ofNat_of_lt' h
theorem turnN_lt {n : Int} (h1 : -9223372036854775808 ≤ n) (h2 : n ≤ 9223372036854775807) : turnN n < 18446744073709551616 := by unfold turnN; split <;> omega
theorem backZ_turnN (n : Int) : backZ (turnN n) = n := by unfold backZ turnN; split <;> split <;> omega
theorem backZ_bd {u : Nat} (h : u < 18446744073709551616) : -9223372036854775808 ≤ backZ u ∧ backZ u ≤ 9223372036854775807 := by unfold backZ; split <;> omega
theorem u64N_lt (n : Int) : u64N n < 18446744073709551616 := by unfold u64N; omega
theorem i64Z_u64N {n : Int} (h1 : -9223372036854775808 ≤ n) (h2 : n ≤ 9223372036854775807) : i64Z (u64N n) = n := by unfold i64Z u64N; split <;> omega
theorem i64Z_bd {u : Nat} (h : u < 18446744073709551616) : -9223372036854775808 ≤ i64Z u ∧ i64Z u ≤ 9223372036854775807 := by unfold i64Z; split <;> omega
theorem leB_len (k : Nat) : ∀ u, (leB k u).length = k := by
  induction k with
  | zero => intro u; rfl
  | succ k ih => intro u; rw [leB, List.length_cons, ih]
theorem leB_get (k : Nat) : ∀ (u i : Nat) (h : i < (leB k u).length), (leB k u)[i] = byteOf (u / 256 ^ i % 256) := by
  induction k with
  | zero => intro u i h; simp [leB] at h
  | succ k ih =>
    intro u i h
    cases i with
    | zero => simp [leB]
    | succ i =>
      simp only [leB, List.getElem_cons_succ]
      rw [ih, Nat.div_div_eq_div_mul, Nat.pow_succ, Nat.mul_comm (256 ^ i) 256]
theorem leB_take (u k : Nat) (h : k < 8) : (leB 8 u).take (k + 1) = (leB 8 u).take k ++ [byteOf (u / 256 ^ k % 256)] := by
  rw [List.take_succ_eq_append_getElem (by rw [leB_len]; exact h), leB_get]
theorem num_leB (k : Nat) : ∀ u, num (leB k u) = u % 256 ^ k := by
  induction k with
  | zero => intro u; rw [Nat.pow_zero, Nat.mod_one]; rfl
  | succ k ih =>
    intro u; rw [leB, num, ih, byteOf_toNat (by omega), Nat.pow_succ, Nat.mul_comm (256 ^ k) 256, Nat.mod_mul]
theorem leB_num (l : List UInt8) : leB l.length (num l) = l := by
  induction l with
  | nil => rfl
  | cons b l ih =>
    have hb := UInt8.toNat_lt b
    rw [List.length_cons, leB, num, show (b.toNat + 256 * num l) % 256 = b.toNat by omega, show (b.toNat + 256 * num l) / 256 = num l by omega, ih]
    congr 1
    exact UInt8.ofNat_toNat
theorem num_lt (l : List UInt8) : num l < 256 ^ l.length := by
  induction l with
  | nil => simp [num]
  | cons b l ih =>
    have hb := UInt8.toNat_lt b
    rw [num, List.length_cons, Nat.pow_succ]
    omega
theorem vary_pos (f u : Nat) : 0 < (vary f u).length := by
  cases f with
  | zero => simp [vary]
  | succ f => rw [vary]; split <;> simp
theorem vary_len (f : Nat) : ∀ u, (vary f u).length ≤ f + 1 := by
  induction f with
  | zero => intro u; simp [vary]
  | succ f ih =>
    intro u; rw [vary]
    split
    · simp
    rw [List.length_cons]; have := ih (u / 128); omega
theorem pw_succ (k : Nat) (h : k < 9) : 128 ^ (9 - k) = 128 * 128 ^ (9 - (k + 1)) := by
  rw [show 9 - k = (9 - (k + 1)) + 1 by omega, Nat.pow_succ, Nat.mul_comm]
theorem gv_vary (suf : List UInt8) : ∀ (j k x acc : Nat), j = 9 - k → k ≤ 9 → x < 2 * 128 ^ (9 - k) → (0 < k → x ≠ 0) →
    gv (vary (9 - k) x ++ suf) k acc = some (acc + x * 128 ^ k, k + (vary (9 - k) x).length) := by
  intro j
  induction j with
  | zero =>
    intro k x acc hj hk hx hz; obtain rfl : k = 9 := by omega
    have hx2 : x < 2 := by simpa using hx
    rw [show 9 - 9 = 0 from rfl, vary, List.singleton_append, gv, byteOf_toNat (by omega), if_neg (by omega), if_neg (by omega), if_neg (by omega), Nat.mod_eq_of_lt (by omega)]
    rfl
  | succ j ih =>
    intro k x acc hj hk hx hz
    have h9 : k < 9 := by omega
    rw [show 9 - k = (9 - (k + 1)) + 1 by omega, vary]
    by_cases h : x < 128
    · rw [if_pos h, List.singleton_append, gv, byteOf_toNat (by omega), if_neg (by omega), if_neg (by omega), if_neg (by omega), Nat.mod_eq_of_lt (by omega)]
      rfl
    have hx' := hx
    rw [pw_succ k h9] at hx'
    rw [if_neg h, List.cons_append, gv, byteOf_toNat (by omega), if_neg (by omega), if_pos (by omega), ih (k + 1) (x / 128) _ (by omega) (by omega) (by omega) (by omega), show (128 + x % 128) % 128 = x % 128 by omega]
    have e : x % 128 * 128 ^ k + x / 128 * 128 ^ (k + 1) = x * 128 ^ k := by
      rw [Nat.pow_succ, Nat.mul_comm (128 ^ k) 128, ← Nat.mul_assoc, ← Nat.add_mul]
      congr 1
      omega
    rw [Nat.add_assoc, e, List.length_cons, Nat.add_assoc, Nat.add_comm 1]
theorem gv_got : ∀ (r : List UInt8) (k acc u s : Nat), k ≤ 9 → gv r k acc = some (u, s) →
    ∃ x r', u = acc + x * 128 ^ k ∧ x < 2 * 128 ^ (9 - k) ∧ (0 < k → x ≠ 0) ∧ s = k + (vary (9 - k) x).length ∧ r = vary (9 - k) x ++ r' := by
  intro r
  induction r with
  | nil => intro k acc u s _ h; simp [gv] at h
  | cons c cs ih =>
    intro k acc u s hk h; rw [gv] at h
    have hc := UInt8.toNat_lt c
    have ec : byteOf c.toNat = c := UInt8.ofNat_toNat
    have hpos : 0 < 128 ^ (9 - k) := Nat.pow_pos (by omega)
    split at h
    · cases h
    rename_i h1
    split at h
    · rename_i h2
      have h9 : k < 9 := by omega
      obtain ⟨x, r', e1, e2, e3, e4, e5⟩ := ih (k + 1) _ u s (by omega) h
      have hp := pw_succ k h9
      refine ⟨c.toNat % 128 + 128 * x, r', ?_, by rw [hp]; omega, by omega, ?_, ?_⟩
      · rw [e1, Nat.add_assoc]
        congr 1
        rw [Nat.pow_succ, Nat.mul_comm (128 ^ k) 128, ← Nat.mul_assoc, ← Nat.add_mul, Nat.mul_comm x 128]
      · have := e3 (by omega)
        rw [show 9 - k = (9 - (k + 1)) + 1 by omega, vary, if_neg (by omega), List.length_cons, show (c.toNat % 128 + 128 * x) / 128 = x by omega, e4]
        omega
      have := e3 (by omega)
      rw [show 9 - k = (9 - (k + 1)) + 1 by omega, vary, if_neg (by omega), show (c.toNat % 128 + 128 * x) / 128 = x by omega, show 128 + (c.toNat % 128 + 128 * x) % 128 = c.toNat by omega, ec, List.cons_append, ← e5]
    rename_i h2
    split at h
    · cases h
    rename_i h3
    injection h with h
    injection h with h4 h5
    have hv : vary (9 - k) c.toNat = [c] := by
      by_cases h9 : k < 9
      · rw [show 9 - k = (9 - (k + 1)) + 1 by omega, vary, if_pos (by omega), ec]
      rw [show 9 - k = 0 by omega, vary, ec]
    refine ⟨c.toNat, cs, ?_, ?_, by omega, by rw [hv, ← h5]; rfl, by rw [hv]; rfl⟩
    · rw [← h4, Nat.mod_eq_of_lt (by omega)]
    by_cases h9 : k < 9
    · rw [pw_succ k h9]
      have : 0 < 128 ^ (9 - (k + 1)) := Nat.pow_pos (by omega)
      omega
    rw [show 9 - k = 0 by omega]; omega
theorem gv0_vary (u : Nat) (suf : List UInt8) (h : u < 18446744073709551616) : gv (vary 9 u ++ suf) 0 0 = some (u, (vary 9 u).length) := by
  have := gv_vary suf 9 0 u 0 rfl (by omega) (by show u < 2 * 128 ^ 9; omega) (by omega)
  simpa using this
theorem gv0_got {r : List UInt8} {u s : Nat} (h : gv r 0 0 = some (u, s)) : u < 18446744073709551616 ∧ s = (vary 9 u).length ∧ ∃ r', r = vary 9 u ++ r' := by
  obtain ⟨x, r', e1, e2, _, e4, e5⟩ := gv_got r 0 0 u s (by omega) h
  obtain rfl : u = x := by simpa using e1
  exact ⟨by have : u < 2 * 128 ^ 9 := e2; omega, by simpa using e4, r', e5⟩
end Go.Proofs.Ytlapcfnmmpbeeaa
