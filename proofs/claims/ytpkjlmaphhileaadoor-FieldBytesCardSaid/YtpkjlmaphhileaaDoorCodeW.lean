/- Code, walks: the small functions of the package code and of its reference. Conditions: int64 and uint64 numbers in their ranges. -/
import Derived.Test.YtpkjlmaphhileaaDoorProg
import Derived.Test.YtpkjlmaphhileaaDoorKit
import Derived.Test.YtpkjlmaphhileaaDoorCodeP
namespace Go.Proofs.YtpkjlmaphhileaaDoor
set_option linter.unusedSimpArgs false
set_option linter.unusedVariables false
open Go.RowKit

theorem not64_nat (S : Nat) (h : S < 18446744073709551616) : 18446744073709551615 ^^^ S = 18446744073709551615 - S := by
  apply Nat.eq_of_testBit_eq; intro i
  rw [show 18446744073709551615 - S = 2 ^ 64 - (S + 1) by omega, Nat.testBit_two_pow_sub_succ (by omega), Nat.testBit_xor, show 18446744073709551615 = 2 ^ 64 - 1 by omega, Nat.testBit_two_pow_sub_one]
  by_cases hi : i < 64
  · simp [hi]
  · simp [hi, Nat.testBit_lt_two_pow (Nat.lt_of_lt_of_le (show S < 2 ^ 64 by omega) (Nat.pow_le_pow_right (by omega) (Nat.le_of_not_lt hi)))]
theorem not64 (S : Nat) (h : S < 18446744073709551616) : bits .xor .u64 IntKind.u64.max (S : Int) = ((18446744073709551615 - S : Nat) : Int) := by
  have e : IntKind.u64.max = ((18446744073709551615 : Nat) : Int) := by decide
  rw [e, u64_xor_nat _ _ (by omega) h, not64_nat S h]
theorem noti64 (x : Int) (h1 : 0 ≤ x) (h2 : x ≤ 9223372036854775807) : bits .xor .i64 (-1) x = -x - 1 := by
  obtain ⟨n, rfl⟩ : ∃ n : Nat, x = n := ⟨x.toNat, by omega⟩
  show IntKind.i64.wrap ((BitVec.ofInt 64 (-1) ^^^ BitVec.ofInt 64 (n : Int)).toNat : Int) = _
  rw [BitVec.toNat_xor, show (BitVec.ofInt 64 (-1)).toNat = 18446744073709551615 from by decide, ofInt_u64 n (by omega), not64_nat n (by omega), IntKind.wrap_i64]
  omega

set_option maxHeartbeats 400000 in
theorem turn_any (n : Int) (w : World) (h1 : -9223372036854775808 ≤ n) (h2 : n ≤ 9223372036854775807) :
    Calls Tryd.prog 68 #[.int .i64 n] w fun e w' => e = .returned (.int .u64 (turnN n)) ∧ w = w' := by
  by_cases h : n < 0
  · obtain ⟨X, hX⟩ : ∃ X : Nat, (X : Int) = 2 * n + 18446744073709551616 := ⟨(2 * n + 18446744073709551616).toNat, by omega⟩
    have hx := not64 X (by omega)
    have hw : IntKind.u64.wrap (IntKind.u64.wrap n * 2) = (X : Nat) := by rw [IntKind.wrap_u64, IntKind.wrap_u64]; omega
    have HT := Lib.hid (show (turnN n : Int) = ((18446744073709551615 - X : Nat) : Int) by unfold turnN; rw [if_pos h]; omega)
    clear hX
    go_enter Tryd.func68, Tryd.ntmps68
    go_wp2
    go_ret
    exact ⟨ret_int (by rw [HT.out]), rfl⟩
  · have HT := Lib.hid (show (turnN n : Int) = 2 * n by unfold turnN; rw [if_neg h]; omega)
    go_enter Tryd.func68, Tryd.ntmps68
    go_wp2
    go_ret
    exact ⟨ret_int (by rw [HT.out]; omega), rfl⟩
set_option maxHeartbeats 400000 in
theorem rturn_any (n : Int) (w : World) (h1 : -9223372036854775808 ≤ n) (h2 : n ≤ 9223372036854775807) :
    Calls Tryd.prog 61 #[.int .i64 n] w fun e w' => e = .returned (.int .u64 (turnN n)) ∧ w = w' := by
  by_cases h : n < 0
  · have HT := Lib.hid (show (turnN n : Int) = 2 * (-(n + 1)) + 1 by unfold turnN; rw [if_pos h]; omega)
    go_enter Tryd.func61, Tryd.ntmps61
    go_wp2
    go_ret
    exact ⟨ret_int (by rw [HT.out]), rfl⟩
  · have HT := Lib.hid (show (turnN n : Int) = 2 * n by unfold turnN; rw [if_neg h]; omega)
    go_enter Tryd.func61, Tryd.ntmps61
    go_wp2
    go_ret
    exact ⟨ret_int (by rw [HT.out]), rfl⟩
set_option maxHeartbeats 400000 in
theorem back_any (u : Nat) (ui : Int) (hu : ui = (u : Nat)) (w : World) (h : u < 18446744073709551616) :
    Calls Tryd.prog 76 #[.int .u64 ui] w fun e w' => e = .returned (.int .i64 (backZ u)) ∧ w = w' := by
  subst hu
  have ha : bits .and .u64 (u : Int) 1 = ((u % 2 : Nat) : Int) := by rw [← nat_mask1]; exact u64_and_nat u 1 h (by omega)
  have hx := noti64 ((u : Int) / 2) (by omega) (by omega)
  by_cases ho : u % 2 = 1
  · have he : ((u : Int) % 2 == 1) = true := by simp; omega
    have HT := Lib.hid (show backZ u = -((u : Int) / 2) - 1 by unfold backZ; rw [if_pos ho]; omega)
    clear ho
    go_enter Tryd.func76, Tryd.ntmps76
    go_wp2
    go_ret
    exact ⟨ret_int (by rw [HT.out]), rfl⟩
  · have he : ((u : Int) % 2 == 1) = false := by simp; omega
    have HT := Lib.hid (show backZ u = (u : Int) / 2 by unfold backZ; rw [if_neg ho]; omega)
    clear ho
    go_enter Tryd.func76, Tryd.ntmps76
    go_wp2
    go_ret
    exact ⟨ret_int (by rw [HT.out]), rfl⟩
set_option maxHeartbeats 400000 in
theorem rback_any (u : Nat) (ui : Int) (hu : ui = (u : Nat)) (w : World) (h : u < 18446744073709551616) :
    Calls Tryd.prog 71 #[.int .u64 ui] w fun e w' => e = .returned (.int .i64 (backZ u)) ∧ w = w' := by
  subst hu
  by_cases ho : u % 2 = 1
  · have he : ((u : Int) % 2 == 0) = false := by simp; omega
    have HT := Lib.hid (show backZ u = -((u : Int) / 2) - 1 by unfold backZ; rw [if_pos ho]; omega)
    clear ho
    go_enter Tryd.func71, Tryd.ntmps71
    go_wp2
    go_ret
    exact ⟨ret_int (by rw [HT.out]), rfl⟩
  · have he : ((u : Int) % 2 == 0) = true := by simp; omega
    have HT := Lib.hid (show backZ u = (u : Int) / 2 by unfold backZ; rw [if_neg ho]; omega)
    clear ho
    go_enter Tryd.func71, Tryd.ntmps71
    go_wp2
    go_ret
    exact ⟨ret_int (by rw [HT.out]), rfl⟩
set_option maxHeartbeats 400000 in
theorem right_any (f : Int) (w : World) : Calls Tryd.prog 50 #[.int .i64 f] w fun e w' => e = .returned (.bool (f == 1 || f == 2)) ∧ w = w' := by
  by_cases h1 : f = 1
  · subst h1
    go_enter Tryd.func50, Tryd.ntmps50
    go_wp2
    go_ret
    exact ⟨rfl, rfl⟩
  · have e1 : (f == 1) = false := by simp [h1]
    go_enter Tryd.func50, Tryd.ntmps50
    go_wp2
    go_ret
    exact ⟨by simp [e1], rfl⟩

theorem vary_div (f u : Nat) : (vary f u).length = if u < 128 then 1 else (match f with | 0 => 1 | f + 1 => 1 + (vary f (u / 128)).length) := by
  cases f with
  | zero => simp [vary]
  | succ f => rw [vary]; split <;> simp [Nat.add_comm]
set_option maxHeartbeats 400000 in
theorem size_any (f n : Int) (w : World) (h1 : -9223372036854775808 ≤ n) (h2 : n ≤ 9223372036854775807) :
    Calls Tryd.prog 67 #[.int .i64 f, .int .i64 n] w fun e w' => e = .returned (.int .i64 ((putN f n).length : Nat)) ∧ w = w' := by
  by_cases g1 : f = 1
  · subst g1
    have HT := Lib.hid (show (putN 1 n).length = 8 by unfold putN; rw [if_pos rfl, leB_len])
    go_enter Tryd.func67, Tryd.ntmps67
    go_wp2
    go_ret
    exact ⟨ret_int (by rw [HT.out]; rfl), rfl⟩
  · have e1 : (f == 1) = false := by simp [g1]
    by_cases g2 : f = 2
    · subst g2
      have HT := Lib.hid (show (putN 2 n).length = (vary 9 (turnN n)).length by unfold putN; rw [if_neg (by decide), if_pos rfl])
      have hT := turnN_lt h1 h2
      clear e1 g1
      go_enter Tryd.func67, Tryd.ntmps67
      go_wp2_with fail
      (with_reducible refine (turn_any n _ h1 h2).mono ?_)
      rintro e w' ⟨rfl, rfl⟩
      generalize turnN n = T at *
      go_wp2_with fail
      go_loop [5, 6] (fun s5 s6 => ∃ k u j : Nat, k + j = 9 ∧ u < 2 * 128 ^ j ∧ s5 = .int .i64 ((k + 1 : Nat) : Int) ∧ s6 = .int .u64 ((u / 128 : Nat) : Int) ∧ (vary 9 T).length = k + (vary j u).length) (fun _ s6 => (intOf s6).toNat)
      case atStart => exact ⟨0, T, 9, rfl, by show T < 2 * 128 ^ 9; omega, rfl, int_eq (by omega), by omega⟩
      case round =>
        obtain ⟨k, u, j, hk, hu, rfl, rfl, hv⟩ := hrel
        have HV := Lib.hid hv
        have HU := Lib.hid hu
        clear hv hu
        by_cases hz : u < 128
        · have HZ := Lib.hid (show (vary j u).length = 1 by rw [vary_div, if_pos hz])
          have hd := decF (show ¬ (0 : Int) < ((u / 128 : Nat) : Int) by omega)
          go_wp2
          go_ret
          exact ⟨ret_int (by rw [HT.out, HV.out, HZ.out]; omega), rfl⟩
        · have hd := decT (show (0 : Int) < ((u / 128 : Nat) : Int) by omega)
          obtain ⟨i, rfl⟩ : ∃ i, j = i + 1 := by
            cases j with
            | zero => have := HU.out; simp at this; omega
            | succ i => exact ⟨i, rfl⟩
          have HZ := Lib.hid (show (vary (i + 1) u).length = 1 + (vary i (u / 128)).length by rw [vary_div, if_neg hz])
          have HU2 := Lib.hid (show u / 128 < 2 * 128 ^ i by have := HU.out; rw [Nat.pow_succ] at this; omega)
          go_wp2
          go_round
          case rel => exact ⟨k + 1, u / 128, i, by omega, HU2.out, by go_num, int_eq (by omega), by rw [HV.out, HZ.out]; omega⟩
          case measure => simp [intOf]; omega
    · have e2 : (f == 2) = false := by simp [g2]
      have HT := Lib.hid (show (putN f n).length = 0 by unfold putN; rw [if_neg g1, if_neg g2]; rfl)
      clear g1 g2
      go_enter Tryd.func67, Tryd.ntmps67
      go_wp2
      go_ret
      exact ⟨ret_int (by rw [HT.out]; rfl), rfl⟩
end Go.Proofs.YtpkjlmaphhileaaDoor
