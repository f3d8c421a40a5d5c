/- A part of a proof. -/
import Derived.Test.YtlapcfnmmpbeeaaPT19
set_option linter.unusedSimpArgs false
set_option linter.unusedVariables false
namespace Go.Proofs.Ytlapcfnmmpbeeaa
set_option maxRecDepth 100000
open Go.RowKit
set_option maxHeartbeats 1000000 in
theorem put_any (A : Option Addr) (n c : Nat) (l : List UInt8) (f z : Int) (w : World) (h : Rd w w.heap.size 1 A n (bvs l)) (hn : n ≤ 70368744177664) (hf1 : -9223372036854775808 ≤ f) (hf2 : f ≤ 9223372036854775807) (h1 : -9223372036854775808 ≤ z) (h2 : z ≤ 9223372036854775807) :
    Calls Try.prog 42 #[.slice A n c, .int .i64 f, .int .i64 z] w (RetB w (l ++ putN f z)) := by
  have hs : (putN f z).length ≤ 10 := by
    unfold putN; split
    · rw [leB_len]; omega
    split
    · exact vary_len 9 _
    simp
  have hl := h.blen
  have R := Lib.hid h
  clear h
  go_enter Try.func42, Try.ntmps42
  go_wp2_with fail
  (with_reducible refine (size_any f z _ h1 h2).mono ?_)
  rintro e w' ⟨rfl, rfl⟩
  go_wp2_with (first | (at_make; (with_reducible refine wpList_mk _ rfl _ _ rfl w.heap.size _ _ _ (n + (putN f z).length) rfl rfl ?_ ?_ ?_ ?_)))
  · omega
  · omega
  · exact Nat.le_refl _
  intro w1 ho1 hg1
  have B1 := Lib.hid (below_of_grown hg1)
  have O1 := Lib.hid ho1
  clear ho1 hg1
  go_wp2_with (first | (at_builtin; (with_reducible refine wpList_app _ rfl _ _ rfl w.heap.size _ _ _ [] rfl O1.out _ _ _ l rfl ?_ ?_ ?_ ?_)))
  · exact R.out.below' B1.out
  · omega
  · exact B1.out.size
  intro A2 c2 w2 ho2 hg2 _
  have B2 := Lib.hid (B1.out.grown hg2 B1.out.size fun k hk => (O1.out.lt k hk).1)
  have O2 := Lib.hid ho2
  clear ho2 hg2
  by_cases g1 : f = 1
  · have e1 : (f == 1) = true := by simp [g1]
    have HP := Lib.hid (show putN f z = leB 8 (u64N z) by unfold putN; rw [if_pos g1])
    have hwz : IntKind.u64.wrap z = (u64N z : Nat) := by rw [IntKind.wrap_u64]; unfold u64N; omega
    generalize putN f z = p at *
    generalize u64N z = U at *
    clear g1
    go_wp2_with fail
    go_loopw [8, 9, 27] (fun s8 s9 s27 wr => ∃ (k u n' c' : Nat) (A' : Option Addr), k ≤ 8 ∧ s27 = .int .i64 k ∧ s9 = .int .u64 u ∧ u = U / 256 ^ k ∧ s8 = .slice A' n' c' ∧ OwnB wr w.heap.size A' n' c' (l ++ (leB 8 U).take k) ∧ Below w.heap.size w wr) (fun _ _ s27 _ => 8 - (intOf s27).toNat)
    case atStart => exact ⟨0, U, _, c2, A2, by omega, rfl, rfl, by simp, rfl, by simpa using O2.out, B2.out⟩
    case round =>
      obtain ⟨k, u, n', c', A', hk, rfl, rfl, hu, rfl, hO, hB⟩ := hrel
      have HU := Lib.hid hu
      have O3 := Lib.hid hO
      have B3 := Lib.hid hB
      have hn' := hO.len
      rw [List.length_append, List.length_take, leB_len] at hn'
      have hn2 : n' ≤ n + 8 := by omega
      clear hu hO hB hn'
      by_cases hk2 : k < 8
      · have hd := decT (show (k : Int) < 8 by omega)
        go_wp2_with (first | (at_builtin; (with_reducible refine wpList_app _ rfl _ _ rfl w.heap.size _ _ _ _ rfl (O3.out.alloc _) _ _ _ [byteOf (u % 256)] rfl ?_ ?_ ?_ ?_)))
        · exact Rd.laid wr _ _ _ 1 _ rfl (by simp [bvs, bv, byteOf_toNat (show u % 256 < 256 by omega)])
        · omega
        · simp; exact Nat.le_succ_of_le B3.out.size
        intro A4 c4 w4 ho4 hg4 _
        have B4 := Lib.hid ((B3.out.alloc B3.out.size _).grown hg4 (by simp; exact Nat.le_succ_of_le B3.out.size) fun k hk => (O3.out.lt k hk).1)
        have O4 := Lib.hid ho4
        clear ho4 hg4
        go_wp2_with fail
        go_roundw
        case rel => exact ⟨k + 1, u / 256, _, _, _, by omega, by go_num, int_eq (by omega), by rw [HU.out, Nat.div_div_eq_div_mul, Nat.pow_succ], rfl, by rw [leB_take U k hk2, ← HU.out]; exact O4.out, B4.out⟩
        case measure => simp [intOf]; omega
      have hd := decF (show ¬ (k : Int) < 8 by omega)
      go_wp2_with fail
      go_ret
      exact ⟨_, _, _, rfl, by rw [HP.out, show leB 8 U = (leB 8 U).take k from (List.take_of_length_le (by rw [leB_len]; omega)).symm]; exact O3.out, B3.out⟩
  have e1 : (f == 1) = false := by simp [g1]
  by_cases g2 : f = 2
  · have e2 : (f == 2) = true := by simp [g2]
    have HP := Lib.hid (show putN f z = vary 9 (turnN z) by unfold putN; rw [if_neg g1, if_pos g2])
    have hT := turnN_lt h1 h2
    generalize putN f z = p at *
    clear g1 g2
    go_wp2_with fail
    refine wp_scope_goto 0 (fun a' w' => ∃ u : Nat → Value, a' = { tmps := #[u 0, u 1, u 2, u 3, u 4, u 5, u 6, u 7, u 8, u 9, u 10, u 11, u 12, u 13, u 14, u 15, u 16, u 17, u 18, u 19, u 20, u 21, u 22, u 23, u 24, u 25, u 26, u 27, u 28, u 29, u 30, u 31, u 32, u 33, u 34, u 35, u 36, u 37, u 38, u 39, u 40, u 41, u 42, u 43, u 44, u 45, u 46, u 47, u 48, u 49, u 50, u 51, u 52, u 53, u 54, u 55, u 56, u 57], defers := [] } ∧ (∃ (x j n' c' : Nat) (A' : Option Addr) (d : List UInt8), u 10 = .int .u64 x ∧ u 8 = .slice A' n' c' ∧ x < 2 * 128 ^ j ∧ d.length + j = 9 ∧ vary 9 (turnN z) = d ++ vary j x ∧ OwnB w' w.heap.size A' n' c' (l ++ d) ∧ Below w.heap.size w w')) (fun a' w' => (intOf (a'.tmps.getD 10 undef)).toNat) rfl ?_ ?_
    · intro Qv HG HJ0 HQ
      go_wp2_with fail
      (with_reducible refine (turn_any z _ h1 h2).mono ?_)
      rintro e w' ⟨rfl, rfl⟩
      go_wp2_with fail
      go_step3
      apply_assumption
      refine HG.out _ _ ?_; refine jgive rfl ?_; exact ⟨turnN z, 9, _, _, _, [], rfl, rfl, by show turnN z < 2 * 128 ^ 9; omega, rfl, rfl, by simpa using O2.out, B2.out⟩
    rintro a' w' ⟨u, rfl, x, j, n', c', A', d, hs1, hs2, hu, hd, hv, hO, hB⟩; rw [hs1, hs2]
    clear hs1 hs2
    intro Qv HJ HQ
    have HU := Lib.hid hu
    have HV := Lib.hid hv
    have O3 := Lib.hid hO
    have B3 := Lib.hid hB
    have hn' := hO.len
    rw [List.length_append] at hn'
    have hn2 : n' ≤ n + 10 := by omega
    have hu64 : x < 18446744073709551616 := by
      have h9 : 128 ^ j ≤ 128 ^ 9 := Nat.pow_le_pow_right (by omega) (by omega)
      have : (128 : Nat) ^ 9 = 9223372036854775808 := by decide
      omega
    clear hu hv hO hB hn'
    by_cases hz : x < 128
    · have hd2 := decF (show ¬ (128 : Int) ≤ x by omega)
      have HZ := Lib.hid (show vary j x = [byteOf x] by cases j with | zero => rfl | succ j => rw [vary, if_pos hz])
      go_wp2_with (first | (at_builtin; (with_reducible refine wpList_app _ rfl _ _ rfl w.heap.size _ _ _ _ rfl (O3.out.alloc _) _ _ _ [byteOf x] rfl ?_ ?_ ?_ ?_)))
      · have hb8 := byteOf_toNat (show x < 256 by omega)
        first | exact Rd.one _ _ _ (by rw [hb8]; try omega) | exact Rd.one' _ _ _ (by rw [hb8]; try omega)
      · omega
      · first | exact Nat.le_succ_of_le B3.out.size | (simp; exact Nat.le_succ_of_le B3.out.size)
      intro A4 c4 w4 ho4 hg4 _
      have B4 := Lib.hid ((B3.out.alloc B3.out.size _).grown hg4 (by simp; exact Nat.le_succ_of_le B3.out.size) fun k hk => (O3.out.lt k hk).1)
      have O4 := Lib.hid ho4
      clear ho4 hg4
      go_wp2_with fail
      refine HQ.out _ _ _ ?_ (by simp)
      go_wp2_with fail
      go_ret
      exact ⟨_, _, _, rfl, by rw [HP.out, HV.out, HZ.out]; exact O4.out, B4.out⟩
    have hd2 := decT (show (128 : Int) ≤ x by omega)
    obtain ⟨i, rfl⟩ : ∃ i, j = i + 1 := by
      cases j with
      | zero => have := HU.out; simp at this; omega
      | succ i => exact ⟨i, rfl⟩
    have HZ := Lib.hid (show vary (i + 1) x = byteOf (128 + x % 128) :: vary i (x / 128) by rw [vary, if_neg hz])
    have HU2 := Lib.hid (show x / 128 < 2 * 128 ^ i by have := HU.out; rw [Nat.pow_succ] at this; omega)
    go_wp2_with (first | (at_builtin; (with_reducible refine wpList_app _ rfl _ _ rfl w.heap.size _ _ _ _ rfl (O3.out.alloc _) _ _ _ [byteOf (128 + x % 128)] rfl ?_ ?_ ?_ ?_)))
    · first | exact Rd.one _ _ _ (by rw [byteOf_toNat (by omega), low7 x (by omega)]) | exact Rd.one' _ _ _ (by rw [byteOf_toNat (by omega), low7 x (by omega)])
    · omega
    · first | exact Nat.le_succ_of_le B3.out.size | (simp; exact Nat.le_succ_of_le B3.out.size)
    intro A4 c4 w4 ho4 hg4 _
    have B4 := Lib.hid ((B3.out.alloc B3.out.size _).grown hg4 (by simp; exact Nat.le_succ_of_le B3.out.size) fun k hk => (O3.out.lt k hk).1)
    have O4 := Lib.hid ho4
    clear ho4 hg4
    go_wp2_with fail
    go_step3
    refine HJ.out _ _ ?_ ?_
    · refine jgive rfl ?_; exact ⟨x / 128, i, _, _, _, d ++ [byteOf (128 + x % 128)], int_eq (by omega), rfl, HU2.out, by rw [List.length_append]; simp; omega, by rw [HV.out, HZ.out, List.append_assoc]; rfl, by simpa using O4.out, B4.out⟩
    simp [intOf]; omega
  have e2 : (f == 2) = false := by simp [g2]
  have HP := Lib.hid (show putN f z = [] by unfold putN; rw [if_neg g1, if_neg g2])
  generalize putN f z = p at *
  clear g1 g2
  go_wp2_with fail
  go_ret
  exact ⟨_, _, _, rfl, by rw [HP.out, List.append_nil]; simpa using O2.out, B2.out⟩
end Go.Proofs.Ytlapcfnmmpbeeaa
