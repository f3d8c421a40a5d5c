/- The law CodePuts, walked. No conditions. -/
import Derived.Test.YtkihdgkcdnepbaaCodeI
namespace Go.Proofs.Ytkihdgkcdnepbaa
set_option linter.unusedSimpArgs false
set_option linter.unusedVariables false
open Go.RowKit

theorem str_cat (a b : List UInt8) : ((⟨a.toArray⟩ : ByteArray) ++ ⟨b.toArray⟩).toList = a ++ b := by
  have : ((⟨a.toArray⟩ : ByteArray) ++ ⟨b.toArray⟩) = ⟨(a ++ b).toArray⟩ := by
    apply ByteArray.ext
    simp
  rw [this]
  simp
theorem getN_put (l2 l3 : List UInt8) (f z : Int) (h1 : -9223372036854775808 ≤ z) (h2 : z ≤ 9223372036854775807) (hf : f = 1 ∨ f = 2) :
    getN (l2 ++ putN f z ++ l3) (l2.length : Nat) f = (z, ((l2.length + (putN f z).length : Nat) : Int), 0) := by
  have hd : (l2 ++ putN f z ++ l3).drop l2.length = putN f z ++ l3 := by rw [List.append_assoc, List.drop_left]
  unfold getN
  rw [if_neg (by rw [List.length_append, List.length_append]; omega), Int.toNat_natCast]
  rcases hf with rfl | rfl
  · have hp : putN 1 z = leB 8 (u64N z) := by unfold putN; rw [if_pos rfl]
    have hpl : (putN 1 z).length = 8 := by rw [hp, leB_len]
    rw [if_pos rfl, fixG, hd, if_neg (by rw [List.length_append]; omega), List.take_append_of_le_length (by omega), List.take_of_length_le (by omega), hp, num_leB, leB_len]
    have e : u64N z % 256 ^ 8 = u64N z := Nat.mod_eq_of_lt (u64N_lt z)
    rw [e, i64Z_u64N h1 h2]
    simp
  · have hp : putN 2 z = vary 9 (turnN z) := by unfold putN; rw [if_neg (by decide), if_pos rfl]
    rw [if_neg (by decide), varG, hd, hp, gv0_vary _ _ (turnN_lt h1 h2)]
    show (backZ (turnN z), _, _) = _
    rw [backZ_turnN]

set_option maxHeartbeats 2000000 in
theorem walk_CodePuts (w : World) (a0 : Int) (w0 : (Lit.int .i64 a0).wf = true) (a1 : Int) (w1 : (Lit.int .i64 a1).wf = true) (A2 : Option Addr) (n2 c2 : Nat) (l2 : List UInt8) (rd2 : Rd w w.heap.size 1 A2 n2 (bvs l2)) (nc2 : n2 ≤ c2) (cm2 : c2 ≤ maxLen) (A3 : Option Addr) (n3 c3 : Nat) (l3 : List UInt8) (rd3 : Rd w w.heap.size 1 A3 n3 (bvs l3)) (nc3 : n3 ≤ c3) (cm3 : c3 ≤ maxLen) :
    Calls Try.prog 11 #[.int .i64 a0, .int .i64 a1, .slice A2 n2 c2, .slice A3 n3 c3] w fun e w' => e = .returned (.bool true) ∧ Below w.heap.size w w' := by
  unfold maxLen at cm2 cm3
  have b0 := bounds_i64 w0
  have b1 := bounds_i64 w1
  have hl2 := rd2.blen
  have hl3 := rd3.blen
  have R2 := Lib.hid rd2
  have R3 := Lib.hid rd3
  clear rd2 rd3 w0 w1
  have hs : (putN a1 a0).length ≤ 10 := by
    unfold putN; split
    · rw [leB_len]; omega
    · split
      · exact vary_len 9 _
      · simp
  go_enter Try.func11, Try.ntmps11
  go_wp2_with fail
  (with_reducible refine (awake04_any _).mono ?_)
  rintro e w1 ⟨rfl, hb1⟩
  have B1 := Lib.hid hb1
  clear hb1
  by_cases g1 : 500 < n2
  · have d1 := decT (show (500 : Int) < n2 by omega)
    go_wp2_with fail
    go_ret
    exact ⟨rfl, B1.out⟩
  · have d1 := decF (show ¬ (500 : Int) < n2 by omega)
    by_cases g2 : 500 < n3
    · have d2 := decT (show (500 : Int) < n3 by omega)
      go_wp2_with fail
      go_ret
      exact ⟨rfl, B1.out⟩
    · have d2 := decF (show ¬ (500 : Int) < n3 by omega)
      go_wp2_with fail
      (with_reducible refine (rput_any a1 a0 _ b1.1 b1.2 b0.1 b0.2).mono ?_)
      rintro e w2 ⟨A4, n4, c4, rfl, hO4, hB⟩
      have O4 := Lib.hid hO4
      have B2 := Lib.hid (B1.out.trans (hB.mono B1.out.size))
      have hn4 := hO4.len
      clear hB hO4
      go_wp2_with (first | (at_builtin; (with_reducible refine wpList_app _ rfl _ _ rfl w2.heap.size _ _ _ [] rfl (OwnB.empty _ (Nat.le_refl _)) _ _ _ l2 rfl ?_ ?_ ?_ ?_)))
      · exact (R2.out.below' B2.out).alloc' _
      · omega
      · simp
      intro A5 c5 w3 hO5 hg5 _
      have B23 := Lib.hid (((Below.refl w2.heap.size w2).alloc (Nat.le_refl _) _).grown hg5 (by simp) fun k hk => by simp [Value.ownBlock] at hk; omega)
      have B3 := Lib.hid (B2.out.trans (B23.out.mono B2.out.size))
      have O5 := Lib.hid hO5
      clear hO5 hg5
      go_wp2_with fail
      (with_reducible refine (put_any _ _ _ l2 a1 a0 _ (by simpa using O5.out.rd) (by omega) b1.1 b1.2 b0.1 b0.2).mono ?_)
      rintro e w4 ⟨A6, n6, c6, rfl, hO6, hB⟩
      have B24 := Lib.hid (B23.out.trans (hB.mono B23.out.size))
      have B4 := Lib.hid (B3.out.trans (hB.mono B3.out.size))
      have O6 := Lib.hid hO6
      have hn6 := hO6.len
      rw [List.length_append] at hn6
      clear hB hO6
      have S1 := str_of w4 A6 n6 c6 _ _ O6.out.rd
      have S2 := str_of w4 A2 n2 c2 _ _ (R2.out.below' B4.out)
      have S3 := str_of w4 A4 n4 c4 _ _ (O4.out.rd.below' B24.out)
      have SZ := Lib.hid fun w => size_any a1 a0 w b0.1 b0.2
      have HG := Lib.hid (getN_put l2 l3 a1 a0 b0.1 b0.2)
      generalize putN a1 a0 = P at *
      have hcat := str_cat l2 P
      go_wp2_with fail
      (with_reducible refine (SZ.out _).mono ?_)
      rintro e w' ⟨rfl, rfl⟩
      have e4 : ((P.length : Int) != (n4 : Int)) = false := by simp; omega
      have e4' : (P.length != n4) = false := by simp; omega
      have hf : a1 = 1 ∨ a1 = 2 ∨ (a1 ≠ 1 ∧ a1 ≠ 2) := by omega
      rcases hf with hf | hf | hf
      · have q1 : (a1 == 1) = true := by simp; omega
        have q2 : (a1 == 2) = false := by simp; omega
        have q3 : (a1 != 1) = false := by simp; omega
        have q4 : (a1 != 2) = true := by simp; omega
        have HR := Lib.hid (show getN (l2 ++ P ++ l3) (n2 : Nat) a1 = (a0, ((n2 + P.length : Nat) : Int), 0) by rw [← hl2]; exact HG.out (by omega))
        clear hf
        go_wp2_with fail
        (with_reducible refine (right_any a1 _).mono ?_)
        rintro e w' ⟨rfl, rfl⟩
        rw [q1, q2]
        go_wp2_with (first | (at_builtin; (with_reducible refine wpList_app _ rfl _ _ rfl w.heap.size _ _ _ _ rfl (O6.out.base_le B3.out.size) _ _ _ l3 rfl ?_ ?_ ?_ ?_)))
        · exact R3.out.below' B4.out
        · omega
        · exact B4.out.size
        intro A7 c7 w5 hO7 hg7 _
        have B5 := Lib.hid (B4.out.grown hg7 B4.out.size fun k hk => Nat.le_trans B3.out.size (O6.out.lt k hk).1)
        have O7 : Hid (OwnB w5 w.heap.size A7 (n6 + n3) c7 (l2 ++ P ++ l3)) := by rw [List.append_assoc]; exact hO7
        clear hO7 hg7
        go_wp2_with fail
        (with_reducible refine (get_any _ _ _ (l2 ++ P ++ l3) _ _ _ O7.out.rd (by omega)).mono ?_)
        rintro e w' ⟨rfl, rfl⟩
        rw [HR.out]
        unfold t3
        go_wp2_with fail
        go_ret
        exact ⟨by first | rfl | simp, B5.out⟩
      · have q1 : (a1 == 1) = false := by simp; omega
        have q2 : (a1 == 2) = true := by simp; omega
        have q3 : (a1 != 1) = true := by simp; omega
        have q4 : (a1 != 2) = false := by simp; omega
        have HR := Lib.hid (show getN (l2 ++ P ++ l3) (n2 : Nat) a1 = (a0, ((n2 + P.length : Nat) : Int), 0) by rw [← hl2]; exact HG.out (by omega))
        clear hf
        go_wp2_with fail
        (with_reducible refine (right_any a1 _).mono ?_)
        rintro e w' ⟨rfl, rfl⟩
        rw [q1, q2]
        go_wp2_with (first | (at_builtin; (with_reducible refine wpList_app _ rfl _ _ rfl w.heap.size _ _ _ _ rfl (O6.out.base_le B3.out.size) _ _ _ l3 rfl ?_ ?_ ?_ ?_)))
        · exact R3.out.below' B4.out
        · omega
        · exact B4.out.size
        intro A7 c7 w5 hO7 hg7 _
        have B5 := Lib.hid (B4.out.grown hg7 B4.out.size fun k hk => Nat.le_trans B3.out.size (O6.out.lt k hk).1)
        have O7 : Hid (OwnB w5 w.heap.size A7 (n6 + n3) c7 (l2 ++ P ++ l3)) := by rw [List.append_assoc]; exact hO7
        clear hO7 hg7
        go_wp2_with fail
        (with_reducible refine (get_any _ _ _ (l2 ++ P ++ l3) _ _ _ O7.out.rd (by omega)).mono ?_)
        rintro e w' ⟨rfl, rfl⟩
        rw [HR.out]
        unfold t3
        go_wp2_with fail
        go_ret
        exact ⟨by first | rfl | simp, B5.out⟩
      · have q1 : (a1 == 1) = false := by simp; omega
        have q2 : (a1 == 2) = false := by simp; omega
        have q3 : (a1 != 1) = true := by simp; omega
        have q4 : (a1 != 2) = true := by simp; omega
        have HR := Lib.hid (show getN (l2 ++ P ++ l3) (n2 : Nat) a1 = (0, 0, 2) by unfold getN; rw [if_pos (by omega)])
        clear hf
        go_wp2_with fail
        (with_reducible refine (right_any a1 _).mono ?_)
        rintro e w' ⟨rfl, rfl⟩
        rw [q1, q2]
        go_wp2_with (first | (at_builtin; (with_reducible refine wpList_app _ rfl _ _ rfl w.heap.size _ _ _ _ rfl (O6.out.base_le B3.out.size) _ _ _ l3 rfl ?_ ?_ ?_ ?_)))
        · exact R3.out.below' B4.out
        · omega
        · exact B4.out.size
        intro A7 c7 w5 hO7 hg7 _
        have B5 := Lib.hid (B4.out.grown hg7 B4.out.size fun k hk => Nat.le_trans B3.out.size (O6.out.lt k hk).1)
        have O7 : Hid (OwnB w5 w.heap.size A7 (n6 + n3) c7 (l2 ++ P ++ l3)) := by rw [List.append_assoc]; exact hO7
        clear hO7 hg7
        go_wp2_with fail
        (with_reducible refine (get_any _ _ _ (l2 ++ P ++ l3) _ _ _ O7.out.rd (by omega)).mono ?_)
        rintro e w' ⟨rfl, rfl⟩
        rw [HR.out]
        unfold t3
        go_wp2_with fail
        go_ret
        exact ⟨by first | rfl | simp, B5.out⟩
end Go.Proofs.Ytkihdgkcdnepbaa
