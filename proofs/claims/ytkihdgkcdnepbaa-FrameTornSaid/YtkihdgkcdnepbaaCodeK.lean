/- The law CodeGets, walked. No conditions. -/
import Derived.Test.YtkihdgkcdnepbaaCodeJ
namespace Go.Proofs.Ytkihdgkcdnepbaa
set_option linter.unusedSimpArgs false
set_option linter.unusedVariables false
open Go.RowKit

theorem getN_cases (l : List UInt8) (at_ f : Int) : (∃ e : Int, (e != 0) = true ∧ getN l at_ f = (0, 0, e)) ∨
    ∃ (k i : Nat) (z : Int), at_ = k ∧ k < i ∧ i ≤ l.length ∧ -9223372036854775808 ≤ z ∧ z ≤ 9223372036854775807 ∧ getN l at_ f = (z, (i : Int), 0) ∧ putN f z = (l.drop k).take (i - k) := by
  unfold getN
  by_cases h : (f ≠ 1 ∧ f ≠ 2) ∨ at_ < 0 ∨ (l.length : Int) < at_
  · rw [if_pos h]; exact .inl ⟨2, rfl, rfl⟩
  · rw [if_neg h]
    obtain ⟨k, rfl⟩ : ∃ k : Nat, at_ = k := ⟨at_.toNat, by omega⟩
    rw [Int.toNat_natCast]
    by_cases h1 : f = 1
    · rw [if_pos h1, fixG]
      by_cases h8 : (l.drop k).length < 8
      · rw [if_pos h8]; exact .inl ⟨8, rfl, rfl⟩
      · rw [if_neg h8]
        rw [List.length_drop] at h8
        have h8' : ((l.drop k).take 8).length = 8 := by rw [List.length_take, List.length_drop]; omega
        have hlt := num_lt ((l.drop k).take 8)
        rw [h8'] at hlt
        have hb := i64Z_bd (u := num ((l.drop k).take 8)) hlt
        refine .inr ⟨k, k + 8, i64Z (num ((l.drop k).take 8)), rfl, by omega, by omega, hb.1, hb.2, by simp, ?_⟩
        unfold putN
        have e := leB_num ((l.drop k).take 8)
        rw [h8'] at e
        rw [if_pos h1, u64N_i64Z hlt, e, show k + 8 - k = 8 by omega]
    · rw [if_neg h1, varG]
      have h2 : f = 2 := by omega
      cases hg : gv (l.drop k) 0 0 with
      | none => exact .inl ⟨8, rfl, rfl⟩
      | some p =>
        obtain ⟨u, s⟩ := p
        obtain ⟨hu, hs, r', hr⟩ := gv0_got hg
        have hb := backZ_bd hu
        have hp := vary_pos 9 u
        have hl : (l.drop k).length = s + r'.length := by rw [hr, List.length_append, hs]
        rw [List.length_drop] at hl
        refine .inr ⟨k, k + s, backZ u, rfl, by omega, by omega, hb.1, hb.2, rfl, ?_⟩
        unfold putN
        rw [if_neg h1, if_pos h2, turnN_backZ, show k + s - k = s by omega, hr, hs, List.take_left]

set_option maxHeartbeats 2000000 in
theorem walk_CodeGets (w : World) (A0 : Option Addr) (n0 c0 : Nat) (l0 : List UInt8) (rd0 : Rd w w.heap.size 1 A0 n0 (bvs l0)) (nc0 : n0 ≤ c0) (cm0 : c0 ≤ maxLen) (a1 : Int) (w1 : (Lit.int .i64 a1).wf = true) (a2 : Int) (w2 : (Lit.int .i64 a2).wf = true) :
    Calls Try.prog 12 #[.slice A0 n0 c0, .int .i64 a1, .int .i64 a2] w fun e w' => e = .returned (.bool true) ∧ Below w.heap.size w w' := by
  unfold maxLen at cm0
  have b1 := bounds_i64 w1
  have b2 := bounds_i64 w2
  have hl := rd0.blen
  have R0 := Lib.hid rd0
  clear rd0 w1 w2
  by_cases g1 : 500 < n0
  · have d1 := decT (show (500 : Int) < n0 by omega)
    go_enter Try.func12, Try.ntmps12
    go_wp2_with fail
    (with_reducible refine (awake04_any _).mono ?_)
    rintro e w1 ⟨rfl, hb1⟩
    go_wp2_with fail
    go_ret
    exact ⟨rfl, hb1⟩
  · have d1 := decF (show ¬ (500 : Int) < n0 by omega)
    rcases getN_cases l0 a1 a2 with ⟨e, he, hr⟩ | ⟨k, i, z, rfl, hki, hil, hz1, hz2, hr, hp⟩
    · have HR := Lib.hid hr
      clear hr
      go_enter Try.func12, Try.ntmps12
      go_wp2_with fail
      (with_reducible refine (awake04_any _).mono ?_)
      rintro _ w1 ⟨rfl, hb1⟩
      have B1 := Lib.hid hb1
      clear hb1
      go_wp2_with fail
      (with_reducible refine (get_any _ _ _ l0 _ _ _ (R0.out.below' B1.out) (by omega)).mono ?_)
      rintro _ w' ⟨rfl, rfl⟩
      rw [HR.out]
      unfold t3
      go_wp2_with fail
      (with_reducible refine (rget_any _ _ _ l0 _ _ _ (R0.out.below' B1.out) (by omega) nc0 (by omega)).mono ?_)
      rintro _ w2 ⟨rfl, hb2⟩
      rw [HR.out]
      unfold t3
      have B2 : Hid (Below w.heap.size w w2.drew) := (B1.out.trans (hb2.mono B1.out.size)).drew
      clear hb2
      go_wp2_with fail
      refine rb_start (by kernel_rfl) ?_
      refine rb_take 0 (v := ?_) rfl (by kernel_rfl) (by kernel_rfl) (by kernel_rfl) (by rfl) ?_ ?_
      rotate_left
      · intro w' hb'
        have hcf := by first | exact bcellD hb' | exact bcell hb'
        obtain ⟨hcc, hff⟩ := hcf
        go_simp
        (try rfl)
      (try simp only [Act.put, List.setIfInBounds_toArray, List.set_cons_zero, List.set_cons_succ])
      refine rb_take 1 (v := ?_) rfl (by kernel_rfl) (by kernel_rfl) (by kernel_rfl) (by rfl) ?_ ?_
      rotate_left
      · intro w' hb'
        have hcf := by first | exact bcellD hb' | exact bcell hb'
        obtain ⟨hcc, hff⟩ := hcf
        go_simp
        (try rfl)
      (try simp only [Act.put, List.setIfInBounds_toArray, List.set_cons_zero, List.set_cons_succ])
      refine rb_take 2 (v := ?_) rfl (by kernel_rfl) (by kernel_rfl) (by kernel_rfl) (by rfl) ?_ ?_
      rotate_left
      · intro w' hb'
        have hcf := by first | exact bcellD hb' | exact bcell hb'
        obtain ⟨hcc, hff⟩ := hcf
        go_simp
        (try rfl)
      (try simp only [Act.put, List.setIfInBounds_toArray, List.set_cons_zero, List.set_cons_succ])
      refine rb_skip 3 rfl (by kernel_rfl) (by kernel_rfl) (by kernel_rfl) (by rfl) ?_
      (try simp only [Act.put, List.setIfInBounds_toArray, List.set_cons_zero, List.set_cons_succ])
      refine rb_skip 4 rfl (by kernel_rfl) (by kernel_rfl) (by kernel_rfl) (by rfl) ?_
      (try simp only [Act.put, List.setIfInBounds_toArray, List.set_cons_zero, List.set_cons_succ])
      refine rb_skip 5 rfl (by kernel_rfl) (by kernel_rfl) (by kernel_rfl) (by rfl) ?_
      (try simp only [Act.put, List.setIfInBounds_toArray, List.set_cons_zero, List.set_cons_succ])
      refine rb_skip 6 rfl (by kernel_rfl) (by kernel_rfl) (by kernel_rfl) (by rfl) ?_
      (try simp only [Act.put, List.setIfInBounds_toArray, List.set_cons_zero, List.set_cons_succ])
      refine rb_skip 7 rfl (by kernel_rfl) (by kernel_rfl) (by kernel_rfl) (by rfl) ?_
      (try simp only [Act.put, List.setIfInBounds_toArray, List.set_cons_zero, List.set_cons_succ])
      refine rb_skip 8 rfl (by kernel_rfl) (by kernel_rfl) (by kernel_rfl) (by rfl) ?_
      (try simp only [Act.put, List.setIfInBounds_toArray, List.set_cons_zero, List.set_cons_succ])
      refine rb_skip 9 rfl (by kernel_rfl) (by kernel_rfl) (by kernel_rfl) (by rfl) ?_
      (try simp only [Act.put, List.setIfInBounds_toArray, List.set_cons_zero, List.set_cons_succ])
      refine rb_skip 10 rfl (by kernel_rfl) (by kernel_rfl) (by kernel_rfl) (by rfl) ?_
      (try simp only [Act.put, List.setIfInBounds_toArray, List.set_cons_zero, List.set_cons_succ])
      refine rb_skip 11 rfl (by kernel_rfl) (by kernel_rfl) (by kernel_rfl) (by rfl) ?_
      (try simp only [Act.put, List.setIfInBounds_toArray, List.set_cons_zero, List.set_cons_succ])
      refine rb_skip 12 rfl (by kernel_rfl) (by kernel_rfl) (by kernel_rfl) (by rfl) ?_
      (try simp only [Act.put, List.setIfInBounds_toArray, List.set_cons_zero, List.set_cons_succ])
      refine rb_take 13 (v := ?_) rfl (by kernel_rfl) (by kernel_rfl) (by kernel_rfl) (by rfl) ?_ ?_
      rotate_left
      · intro w' hb'
        have hcf := by first | exact bcellD hb' | exact bcell hb'
        obtain ⟨hcc, hff⟩ := hcf
        go_simp
        (try rfl)
      (try simp only [Act.put, List.setIfInBounds_toArray, List.set_cons_zero, List.set_cons_succ])
      refine rb_take 14 (v := ?_) rfl (by kernel_rfl) (by kernel_rfl) (by kernel_rfl) (by rfl) ?_ ?_
      rotate_left
      · intro w' hb'
        have hcf := by first | exact bcellD hb' | exact bcell hb'
        obtain ⟨hcc, hff⟩ := hcf
        go_simp
        (try rfl)
      (try simp only [Act.put, List.setIfInBounds_toArray, List.set_cons_zero, List.set_cons_succ])
      refine rb_done (by kernel_rfl) ?_
      go_wp2_with fail
      go_ret
      exact ⟨rfl, B2.out⟩
    · have HR := Lib.hid hr
      have HP := Lib.hid hp
      clear hr hp
      go_enter Try.func12, Try.ntmps12
      go_wp2_with fail
      (with_reducible refine (awake04_any _).mono ?_)
      rintro _ w1 ⟨rfl, hb1⟩
      have B1 := Lib.hid hb1
      clear hb1
      go_wp2_with fail
      (with_reducible refine (get_any _ _ _ l0 _ _ _ (R0.out.below' B1.out) (by omega)).mono ?_)
      rintro _ w' ⟨rfl, rfl⟩
      rw [HR.out]
      unfold t3
      go_wp2_with fail
      (with_reducible refine (rget_any _ _ _ l0 _ _ _ (R0.out.below' B1.out) (by omega) nc0 (by omega)).mono ?_)
      rintro _ w2 ⟨rfl, hb2⟩
      rw [HR.out]
      unfold t3
      have B2 : Hid (Below w.heap.size w w2.drew) := (B1.out.trans (hb2.mono B1.out.size)).drew
      clear hb2
      go_wp2_with fail
      obtain ⟨b, off, hkl, rfl, hb, hc, hy⟩ := R0.out.byte (show k < n0 by omega)
      have q4 : (i : Int) ≤ c0 := by omega
      have q4' : i ≤ c0 := by omega
      have q6 : k ≤ i := by omega
      have q8 : ¬ c0 = k := by omega
      refine rb_start (by kernel_rfl) ?_
      have S2 := Lib.hid fun w' (hb : Below w2.drew.heap.size w2.drew w') => str_of w' _ _ (c0 - k) _ _ (((R0.out.sub k (i - k) (by omega)).below' B2.out).below' hb)
      refine rb_take 0 (v := ?_) rfl (by kernel_rfl) (by kernel_rfl) (by kernel_rfl) (by rfl) ?_ ?_
      rotate_left
      · intro w' hb'
        have hcf := by first | exact bcellD hb' | exact bcell hb'
        obtain ⟨hcc, hff⟩ := hcf
        have xS2 := S2.out w' hb'
        go_simp
        (try rfl)
      (try simp only [Act.put, List.setIfInBounds_toArray, List.set_cons_zero, List.set_cons_succ])
      refine rb_take 1 (v := ?_) rfl (by kernel_rfl) (by kernel_rfl) (by kernel_rfl) (by rfl) ?_ ?_
      rotate_left
      · intro w' hb'
        have hcf := by first | exact bcellD hb' | exact bcell hb'
        obtain ⟨hcc, hff⟩ := hcf
        have xS2 := S2.out w' hb'
        go_simp
        (try rfl)
      (try simp only [Act.put, List.setIfInBounds_toArray, List.set_cons_zero, List.set_cons_succ])
      refine rb_take 2 (v := ?_) rfl (by kernel_rfl) (by kernel_rfl) (by kernel_rfl) (by rfl) ?_ ?_
      rotate_left
      · intro w' hb'
        have hcf := by first | exact bcellD hb' | exact bcell hb'
        obtain ⟨hcc, hff⟩ := hcf
        have xS2 := S2.out w' hb'
        go_simp
        (try rfl)
      (try simp only [Act.put, List.setIfInBounds_toArray, List.set_cons_zero, List.set_cons_succ])
      refine rb_take 3 (v := ?_) rfl (by kernel_rfl) (by kernel_rfl) (by kernel_rfl) (by rfl) ?_ ?_
      rotate_left
      · intro w' hb'
        have hcf := by first | exact bcellD hb' | exact bcell hb'
        obtain ⟨hcc, hff⟩ := hcf
        have xS2 := S2.out w' hb'
        go_simp
        (try rfl)
      (try simp only [Act.put, List.setIfInBounds_toArray, List.set_cons_zero, List.set_cons_succ])
      refine rb_take 4 (v := ?_) rfl (by kernel_rfl) (by kernel_rfl) (by kernel_rfl) (by rfl) ?_ ?_
      rotate_left
      · intro w' hb'
        have hcf := by first | exact bcellD hb' | exact bcell hb'
        obtain ⟨hcc, hff⟩ := hcf
        have xS2 := S2.out w' hb'
        go_simp
        (try rfl)
      (try simp only [Act.put, List.setIfInBounds_toArray, List.set_cons_zero, List.set_cons_succ])
      refine rb_take 7 (v := ?_) rfl (by kernel_rfl) (by kernel_rfl) (by kernel_rfl) (by rfl) ?_ ?_
      rotate_left
      · intro w' hb'
        have hcf := by first | exact bcellD hb' | exact bcell hb'
        obtain ⟨hcc, hff⟩ := hcf
        have xS2 := S2.out w' hb'
        go_simp
        (try rfl)
      (try simp only [Act.put, List.setIfInBounds_toArray, List.set_cons_zero, List.set_cons_succ])
      refine rb_take 8 (v := ?_) rfl (by kernel_rfl) (by kernel_rfl) (by kernel_rfl) (by rfl) ?_ ?_
      rotate_left
      · intro w' hb'
        have hcf := by first | exact bcellD hb' | exact bcell hb'
        obtain ⟨hcc, hff⟩ := hcf
        have xS2 := S2.out w' hb'
        go_simp
        (try rfl)
      (try simp only [Act.put, List.setIfInBounds_toArray, List.set_cons_zero, List.set_cons_succ])
      refine rb_take 9 (v := ?_) rfl (by kernel_rfl) (by kernel_rfl) (by kernel_rfl) (by rfl) ?_ ?_
      rotate_left
      · intro w' hb'
        have hcf := by first | exact bcellD hb' | exact bcell hb'
        obtain ⟨hcc, hff⟩ := hcf
        have xS2 := S2.out w' hb'
        go_simp
        (try rfl)
      (try simp only [Act.put, List.setIfInBounds_toArray, List.set_cons_zero, List.set_cons_succ])
      refine rb_take 10 (v := ?_) rfl (by kernel_rfl) (by kernel_rfl) (by kernel_rfl) (by rfl) ?_ ?_
      rotate_left
      · intro w' hb'
        have hcf := by first | exact bcellD hb' | exact bcell hb'
        obtain ⟨hcc, hff⟩ := hcf
        have xS2 := S2.out w' hb'
        go_simp
        (try rfl)
      (try simp only [Act.put, List.setIfInBounds_toArray, List.set_cons_zero, List.set_cons_succ])
      refine rb_take 11 (v := ?_) rfl (by kernel_rfl) (by kernel_rfl) (by kernel_rfl) (by rfl) ?_ ?_
      rotate_left
      · intro w' hb'
        have hcf := by first | exact bcellD hb' | exact bcell hb'
        obtain ⟨hcc, hff⟩ := hcf
        have xS2 := S2.out w' hb'
        go_simp
        (try rfl)
      (try simp only [Act.put, List.setIfInBounds_toArray, List.set_cons_zero, List.set_cons_succ])
      refine rb_move 5 rfl (by kernel_rfl) (by rfl) (fun K hK => ?_)
      have HK := Lib.hid hK
      clear hK
      go_simp
      (with_reducible refine (put_any none 0 0 [] a2 z _ Rd.none_ (by omega) b2.1 b2.2 hz1 hz2).mono ?_)
      rintro _ w3 ⟨A3, n3, c3, rfl, hO3, hb3⟩
      refine HK.out _ _ hb3 ?_
      clear HK K
      (try simp only [Act.put, List.setIfInBounds_toArray, List.set_cons_zero, List.set_cons_succ])
      have B3 := Lib.hid (B2.out.trans (hb3.mono B2.out.size))
      rw [List.nil_append, HP.out] at hO3
      have S1 := Lib.hid fun w' (hb : Below w3.heap.size w3 w') => str_of w' A3 n3 c3 _ _ (hO3.rd.below' hb)
      refine rb_take 6 (v := ?_) rfl (by kernel_rfl) (by kernel_rfl) (by kernel_rfl) (by rfl) ?_ ?_
      rotate_left
      · intro w' hb'
        have hcf := by first | exact bcellD hb' | exact bcell hb'
        obtain ⟨hcc, hff⟩ := hcf
        have xS1 := S1.out w' hb'
        go_simp
        (try rfl)
      (try simp only [Act.put, List.setIfInBounds_toArray, List.set_cons_zero, List.set_cons_succ])
      refine rb_take 12 (v := ?_) rfl (by kernel_rfl) (by kernel_rfl) (by kernel_rfl) (by rfl) ?_ ?_
      rotate_left
      · intro w' hb'
        have hcf := by first | exact bcellD hb' | exact bcell hb'
        obtain ⟨hcc, hff⟩ := hcf
        have xS1 := S1.out w' hb'
        go_simp
        (try rfl)
      (try simp only [Act.put, List.setIfInBounds_toArray, List.set_cons_zero, List.set_cons_succ])
      refine rb_take 13 (v := ?_) rfl (by kernel_rfl) (by kernel_rfl) (by kernel_rfl) (by rfl) ?_ ?_
      rotate_left
      · intro w' hb'
        have hcf := by first | exact bcellD hb' | exact bcell hb'
        obtain ⟨hcc, hff⟩ := hcf
        have xS1 := S1.out w' hb'
        go_simp
        (try rfl)
      (try simp only [Act.put, List.setIfInBounds_toArray, List.set_cons_zero, List.set_cons_succ])
      refine rb_take 14 (v := ?_) rfl (by kernel_rfl) (by kernel_rfl) (by kernel_rfl) (by rfl) ?_ ?_
      rotate_left
      · intro w' hb'
        have hcf := by first | exact bcellD hb' | exact bcell hb'
        obtain ⟨hcc, hff⟩ := hcf
        have xS1 := S1.out w' hb'
        go_simp
        (try rfl)
      (try simp only [Act.put, List.setIfInBounds_toArray, List.set_cons_zero, List.set_cons_succ])
      refine rb_done (by kernel_rfl) ?_
      go_wp2_with fail
      go_ret
      exact ⟨rfl, B3.out⟩
end Go.Proofs.Ytkihdgkcdnepbaa
