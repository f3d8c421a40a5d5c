/- A part of a proof. -/
import Derived.Test.YtlapcfnmmpbeeaaPT21
set_option linter.unusedSimpArgs false
set_option linter.unusedVariables false
namespace Go.Proofs.Ytlapcfnmmpbeeaa
set_option maxRecDepth 100000
open Go.RowKit
def t3 (p : Int × Int × Int) : Value := .tuple #[.int .i64 p.1, .int .i64 p.2.1, .int .i64 p.2.2]
def fixG (l : List UInt8) (k : Nat) : Int × Int × Int := if (l.drop k).length < 8 then (0, 0, 8) else (i64Z (num ((l.drop k).take 8)), k + 8, 0)
def varG (l : List UInt8) (k : Nat) : Int × Int × Int := match gv (l.drop k) 0 0 with | none => (0, 0, 8) | some (u, s) => (backZ u, (k + s : Nat), 0)
def getN (l : List UInt8) (at_ f : Int) : Int × Int × Int :=
  if (f ≠ 1 ∧ f ≠ 2) ∨ at_ < 0 ∨ (l.length : Int) < at_ then (0, 0, 2) else if f = 1 then fixG l at_.toNat else varG l at_.toNat
theorem num_append (a b : List UInt8) : num (a ++ b) = num a + 256 ^ a.length * num b := by
  induction a with
  | nil => simp [num]
  | cons x a ih =>
    rw [List.cons_append, num, ih, num, List.length_cons, Nat.pow_succ, Nat.mul_add, Nat.mul_comm (256 ^ a.length) 256, Nat.mul_assoc, Nat.add_assoc]
theorem num_take (l : List UInt8) (k : Nat) (h : k < l.length) : num (l.take (k + 1)) = num (l.take k) + 256 ^ k * l[k].toNat := by
  rw [List.take_succ_eq_append_getElem h, num_append, List.length_take, show min k l.length = k by omega]
  simp [num]
theorem or_shift (u y e : Nat) (hu : u < 2 ^ e) (hu2 : u < 18446744073709551616) (hy : y * 2 ^ e < 18446744073709551616) : bits .or .u64 (u : Int) (IntKind.u64.wrap ((y : Int) * 2 ^ e)) = ((u + y * 2 ^ e : Nat) : Int) := by
  have e1 : IntKind.u64.wrap ((y : Int) * 2 ^ e) = ((y * 2 ^ e : Nat) : Int) := by
    rw [Int.natCast_mul, Int.natCast_pow, IntKind.wrap_u64]
    have : ((y * 2 ^ e : Nat) : Int) < 18446744073709551616 := by omega
    rw [Int.natCast_mul, Int.natCast_pow] at this
    exact Int.emod_eq_of_lt (Int.mul_nonneg (by omega) (Int.le_of_lt (Int.pow_pos (by decide)))) this
  rw [e1, u64_or_nat _ _ hu2 hy, Nat.or_comm, nat_join e _ u (Nat.mul_mod_left _ _) hu, Nat.add_comm]
theorem pow256 (i : Nat) : (256 : Nat) ^ i = 2 ^ (8 * i) := by rw [Nat.pow_mul]
theorem pow128 (i : Nat) : (128 : Nat) ^ i = 2 ^ (7 * i) := by rw [Nat.pow_mul]
theorem drop_get (l : List UInt8) (k i : Nat) (h : k + i < l.length) : (l.drop k)[i]'(by rw [List.length_drop]; omega) = l[k + i] := by rw [List.getElem_drop]
theorem num_take_lt (l : List UInt8) (i : Nat) : num (l.take i) < 256 ^ i := by
  refine Nat.lt_of_lt_of_le (num_lt _) (Nat.pow_le_pow_right (by omega) ?_); rw [List.length_take]; omega
theorem step256 (y i : Nat) (hy : y < 256) (hi : i < 8) : y * 2 ^ (8 * i) < 18446744073709551616 := by
  have h1 : 2 ^ (8 * i) ≤ 2 ^ 56 := Nat.pow_le_pow_right (by omega) (by omega)
  have h2 : y * 2 ^ (8 * i) ≤ 255 * 2 ^ 56 := Nat.mul_le_mul (by omega) h1
  omega
set_option maxHeartbeats 1000000 in
theorem getFixed_any (A : Option Addr) (n c : Nat) (l : List UInt8) (k : Nat) (ki : Int) (hki : ki = (k : Nat)) (w : World) (h : Rd w w.heap.size 1 A n (bvs l)) (hn : n ≤ 4611686018427387904) (hk : k ≤ n) :
    Calls Try.prog 88 #[.slice A n c, .int .i64 ki] w fun e w' => e = .returned (t3 (fixG l k)) ∧ w = w' := by
  subst hki
  have hl := h.blen
  have H := Lib.hid h
  clear h
  by_cases hs : n - k < 8
  · have hd := decT (show (n : Int) - k < 8 by omega)
    have HF := Lib.hid (show fixG l k = (0, 0, 8) by unfold fixG; rw [if_pos (by rw [List.length_drop]; omega)])
    go_enter Try.func88, Try.ntmps88
    go_wp2_with fail
    go_ret3
    exact ⟨by rw [HF.out]; rfl, rfl⟩
  have hd := decF (show ¬ (n : Int) - k < 8 by omega)
  have HF := Lib.hid (show fixG l k = (i64Z (num ((l.drop k).take 8)), (k : Int) + 8, 0) by unfold fixG; rw [if_neg (by rw [List.length_drop]; omega)])
  go_enter Try.func88, Try.ntmps88
  go_wp2_with fail
  go_loop [7, 14] (fun s7 s14 => ∃ (i u : Nat), i ≤ 8 ∧ s14 = .int .i64 i ∧ s7 = .int .u64 u ∧ u = num ((l.drop k).take i)) (fun _ s14 => 8 - (intOf s14).toNat)
  case atStart => exact ⟨0, 0, by omega, rfl, rfl, rfl⟩
  case round =>
    obtain ⟨i, u, hi, rfl, rfl, hu⟩ := hrel
    have HU := Lib.hid hu
    clear hu
    by_cases hi2 : i < 8
    · have hd2 := decT (show (i : Int) < 8 by omega)
      obtain ⟨b, off, hkl, rfl, hb, hc, hy⟩ := H.out.byte (show k + i < n by omega)
      have HN := Lib.hid (num_take (l.drop k) i (by rw [List.length_drop]; omega))
      rw [drop_get l k i hkl] at HN
      have hu1 := num_take_lt (l.drop k) i
      rw [← HU.out, pow256] at hu1
      generalize l[k + i].toNat = y at *
      have hx := or_shift u y (8 * i) hu1 (Nat.lt_of_lt_of_le hu1 (by have : 2 ^ (8 * i) ≤ 2 ^ 64 := Nat.pow_le_pow_right (by omega) (by omega); omega)) (step256 y i hy hi2)
      obtain ⟨u', hu'⟩ : ∃ u', u' = u + y * 2 ^ (8 * i) := ⟨_, rfl⟩
      rw [← hu'] at hx
      have HU' := Lib.hid hu'
      clear hu' hu1
      go_wp2
      go_round
      case rel => exact ⟨i + 1, u', by omega, by go_num, rfl, by rw [HN.out, HU'.out, HU.out, pow256, Nat.mul_comm]⟩
      case measure => simp [intOf]; omega
    have hd2 := decF (show ¬ (i : Int) < 8 by omega)
    have hu1 := num_take_lt (l.drop k) i
    obtain rfl : i = 8 := by omega
    rw [← HU.out] at hu1
    have hu2 : u < 18446744073709551616 := by omega
    have hi64 : IntKind.i64.wrap (u : Int) = i64Z u := by rw [IntKind.wrap_i64]; unfold i64Z; split <;> omega
    have hi65 : wrap64 (u : Int) = i64Z u := by rw [← hi64]; exact (IntWalk.i64_left _).symm
    clear hu1
    go_wp2
    go_ret3
    exact ⟨by rw [HF.out, ← HU.out]; rfl, rfl⟩
theorem and127 (c : Nat) (h : c < 256) : bits .and .u8 (c : Int) 127 = ((c % 128 : Nat) : Int) := by rw [← nat_mask7]; exact u8_and_nat c 127 h (by omega)
theorem step128 (y k : Nat) (hy : y < 128) (hk : k ≤ 9) (h9 : k = 9 → y ≤ 1) : y * 2 ^ (7 * k) < 18446744073709551616 := by
  by_cases e : k = 9
  · subst e; have := h9 rfl; omega
  have h1 : 2 ^ (7 * k) ≤ 2 ^ 56 := Nat.pow_le_pow_right (by omega) (by omega)
  have h2 : y * 2 ^ (7 * k) ≤ 127 * 2 ^ 56 := Nat.mul_le_mul (by omega) h1
  omega
theorem gv_at (l : List UInt8) (j : Nat) (h : j < l.length) (k u : Nat) : gv (l.drop j) k u = if k = 9 ∧ 1 < l[j].toNat then none
    else if 128 ≤ l[j].toNat then gv (l.drop (j + 1)) (k + 1) (u + l[j].toNat % 128 * 128 ^ k)
    else if l[j].toNat = 0 ∧ 0 < k then none else some (u + l[j].toNat % 128 * 128 ^ k, k + 1) := by
  rw [List.drop_eq_getElem_cons h, gv]
set_option maxHeartbeats 1000000 in
theorem getVary_any (A : Option Addr) (n c : Nat) (l : List UInt8) (k : Nat) (ki : Int) (hki : ki = (k : Nat)) (w : World) (h : Rd w w.heap.size 1 A n (bvs l)) (hn : n ≤ 4611686018427387904) (hk : k ≤ n) :
    Calls Try.prog 89 #[.slice A n c, .int .i64 ki] w fun e w' => e = .returned (t3 (varG l k)) ∧ w = w' := by
  subst hki
  have hl := h.blen
  have H := Lib.hid h
  clear h
  go_enter Try.func89, Try.ntmps89
  go_wp2_with fail
  refine wp_scope_goto 0 (fun a' w' => ∃ u : Nat → Value, a' = { tmps := #[u 0, u 1, u 2, u 3, u 4, u 5, u 6, u 7, u 8, u 9, u 10, u 11, u 12, u 13, u 14, u 15, u 16, u 17, u 18, u 19, u 20, u 21, u 22, u 23, u 24, u 25, u 26, u 27, u 28, u 29, u 30, u 31, u 32, u 33, u 34, u 35, u 36, u 37, u 38, u 39, u 40, u 41, u 42, u 43, u 44, u 45, u 46, u 47, u 48, u 49, u 50], defers := [] } ∧ (w' = w ∧ u 0 = .slice A n c ∧ u 1 = .int .i64 k ∧ ∃ s x : Nat, s ≤ 9 ∧ x < 128 ^ s ∧ u 7 = .int .u64 x ∧ u 8 = .int .i64 s ∧ gv (l.drop k) 0 0 = gv (l.drop (k + s)) s x ∧ k + s ≤ n)) (fun a' w' => 10 - (intOf (a'.tmps.getD 8 undef)).toNat) rfl ?_ ?_
  · intro Qv HG HJ0 HQ
    go_wp2_with fail
    go_step3
    apply_assumption
    refine HG.out _ _ ?_; refine jgive rfl ?_; exact ⟨rfl, rfl, rfl, 0, 0, by omega, by simp, rfl, rfl, rfl, hk⟩
  rintro a' w' ⟨u, rfl, hw, hs0, hs1, s, x, hs, hx, hs7, hs8, hg, hle⟩; rw [hs0, hs1, hs7, hs8]
  clear hs0 hs1 hs7 hs8
  subst hw
  intro Qv HJ HQ
  have HX := Lib.hid hx
  have HG := Lib.hid hg
  clear hx hg
  by_cases hend : n ≤ k + s
  · have hd := decT (show (n : Int) ≤ k + s by omega)
    have HF := Lib.hid (show varG l k = (0, 0, 8) by unfold varG; rw [HG.out, List.drop_eq_nil_of_le (by omega)]; rfl)
    go_wp2_with fail
    refine HQ.out _ _ _ ?_ (by simp)
    go_ret3
    exact ⟨by rw [HF.out]; rfl, rfl⟩
  have hd := decF (show ¬ (n : Int) ≤ k + s by omega)
  obtain ⟨b, off, hkl, rfl, hb, hc, hy⟩ := H.out.byte (show k + s < n by omega)
  have HV := Lib.hid (gv_at l (k + s) hkl s x)
  generalize l[k + s].toNat = y at *
  obtain ⟨v, hv⟩ : ∃ v, v = y % 128 := ⟨_, rfl⟩
  have ha : bits .and .u8 (y : Int) 127 = (v : Nat) := by rw [hv]; exact and127 y hy
  have hv128 : v < 128 := by omega
  have HVV := Lib.hid hv
  clear hv
  by_cases g1 : s = 9 ∧ 1 < y
  · have HF := Lib.hid (show varG l k = (0, 0, 8) by unfold varG; rw [HG.out, HV.out, if_pos g1])
    have d1 : ((s : Int) == 9) = true := by simp; omega
    have d2 := decT (show (1 : Int) < y by omega)
    clear g1
    go_wp2_with fail
    refine HQ.out _ _ _ ?_ (by simp)
    go_ret3
    exact ⟨by rw [HF.out]; rfl, rfl⟩
  have HV2 := Lib.hid (HV.out.trans (if_neg g1))
  have hx64 : x < 18446744073709551616 := by
    have h0 := HX.out
    have h1 : 128 ^ s ≤ 128 ^ 9 := Nat.pow_le_pow_right (by omega) hs
    have h2 : (128 : Nat) ^ 9 = 9223372036854775808 := by decide
    omega
  have hsh := or_shift x v (7 * s) (by rw [← pow128]; exact HX.out) hx64 (step128 v s (by omega) hs (by have := HVV.out; omega))
  obtain ⟨x', hx'⟩ : ∃ x', x' = x + v * 2 ^ (7 * s) := ⟨_, rfl⟩
  rw [← hx'] at hsh
  have HX' := Lib.hid (show x' = x + y % 128 * 128 ^ s by rw [hx', pow128, HVV.out])
  have HXL := Lib.hid (show s < 9 → x' < 128 ^ (s + 1) by
    intro _
    have := HX.out
    rw [HX'.out, Nat.pow_succ]
    have h2 : y % 128 * 128 ^ s ≤ 127 * 128 ^ s := Nat.mul_le_mul_right _ (by omega)
    omega)
  have HX64 := Lib.hid (show x' < 18446744073709551616 by
    rw [hx']
    have hvv := HVV.out
    have h1 := step128 v s (by omega) hs (by omega)
    have h0 := HX.out
    rw [pow128] at h0
    by_cases e : s = 9
    · subst e
      have : v ≤ 1 := by omega
      omega
    have h3 : 2 ^ (7 * s) ≤ 2 ^ 56 := Nat.pow_le_pow_right (by omega) (by omega)
    have h4 : v * 2 ^ (7 * s) ≤ 127 * 2 ^ 56 := Nat.mul_le_mul (by omega) h3
    omega)
  clear hx'
  by_cases g2 : 128 ≤ y
  · have d2 := decT (show (128 : Int) ≤ y by omega)
    have d1 : ((s : Int) == 9) = false := by simp; omega
    have HV3 := Lib.hid (HV2.out.trans (if_pos g2))
    have h9 : s < 9 := by omega
    clear g1
    go_wp2_with fail
    go_step3
    refine HJ.out _ _ ?_ ?_
    · refine jgive rfl ?_; exact ⟨rfl, rfl, rfl, s + 1, x', by omega, HXL.out h9, rfl, by go_num, by rw [HG.out, HV3.out, HX'.out, Nat.add_assoc], by omega⟩
    simp [intOf]; omega
  have d2 := decF (show ¬ (128 : Int) ≤ y by omega)
  have HV3 := Lib.hid (HV2.out.trans (if_neg g2))
  by_cases g3 : y = 0 ∧ 0 < s
  · have HF := Lib.hid (show varG l k = (0, 0, 8) by unfold varG; rw [HG.out, HV3.out, if_pos g3])
    have d3 : ((y : Int) == 0) = true := by simp; omega
    have d4 := decT (show (1 : Int) < s + 1 by omega)
    have d4' := decT (show (0 : Int) < s by omega)
    have d5 := decF (show ¬ (1 : Int) < y by omega)
    clear g1 g3
    by_cases e9 : s = 9
    · have d1 : ((s : Int) == 9) = true := by simp; omega
      clear e9
      go_wp2_with fail
      refine HQ.out _ _ _ ?_ (by simp)
      go_ret3
      exact ⟨by rw [HF.out]; rfl, rfl⟩
    have d1 : ((s : Int) == 9) = false := by simp; omega
    clear e9
    go_wp2_with fail
    refine HQ.out _ _ _ ?_ (by simp)
    go_ret3
    exact ⟨by rw [HF.out]; rfl, rfl⟩
  have HF := Lib.hid (show varG l k = (backZ x', ((k + (s + 1) : Nat) : Int), 0) by unfold varG; rw [HG.out, HV3.out, if_neg g3, HX'.out])
  have HD : Hid (∃ b1 b2 b3 b4 : Bool, ((s : Int) == 9) = b1 ∧ decide ((1 : Int) < y) = b2 ∧ ((y : Int) == 0) = b3 ∧ decide ((0 : Int) < s) = b4 ∧ decide ((1 : Int) < s + 1) = b4 ∧ (b1 && b2) = false ∧ (b3 && b4) = false) := by
    refine ⟨_, _, _, _, rfl, rfl, rfl, rfl, ?_, ?_, ?_⟩
    · rw [decide_eq_decide]; omega
    · rw [Bool.and_eq_false_iff]; simp; omega
    rw [Bool.and_eq_false_iff]; simp; omega
  obtain ⟨b1, b2, b3, b4, d1, d3, d4, d5, d6, q1, q2⟩ := HD.out
  clear g1 g3 HD
  cases b1 <;> cases b2 <;> cases b3 <;> cases b4 <;> first
    | (exfalso; revert q1; decide)
    | (exfalso; revert q2; decide)
    | (clear q1 q2
       go_wp2_with fail
       (with_reducible refine (back_any x' _ rfl _ HX64.out).mono ?_)
       rintro e w' ⟨rfl, rfl⟩
       go_wp2_with fail
       refine HQ.out _ _ _ ?_ (by simp)
       go_ret3
       refine ⟨?_, rfl⟩; rw [HF.out]; simp [t3]
       try omega)
end Go.Proofs.Ytlapcfnmmpbeeaa
