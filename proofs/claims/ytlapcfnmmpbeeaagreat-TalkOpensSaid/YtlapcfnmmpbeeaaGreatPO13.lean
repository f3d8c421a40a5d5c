/- A part of a proof. -/
import Derived.Test.YtlapcfnmmpbeeaaGreatPO08
set_option linter.unusedSimpArgs false
set_option linter.unusedVariables false
namespace Go.Proofs.YtlapcfnmmpbeeaaGreat
set_option maxRecDepth 100000
open Go.RowKit
theorem num_back (l : List UInt8) (k i m : Nat) (h : k + i < l.length) : num ((l.drop (k + i)).take (m + 1)) = l[k + i].toNat + 256 * num ((l.drop (k + i + 1)).take m) := by
  rw [List.drop_eq_getElem_cons h, List.take_succ_cons, num]
theorem jM0 (l : List UInt8) (j m : Nat) (h : j < l.length) : num7 ((l.drop j).take (m + 1)) = l[j].toNat % 128 + 128 * num7 ((l.drop (j + 1)).take m) := by
  rw [List.drop_eq_getElem_cons h, List.take_succ_cons, num7]
set_option maxHeartbeats 1000000 in
theorem rget_fix (A : Option Addr) (n c : Nat) (l : List UInt8) (k : Nat) (w : World) (h : Rd w w.heap.size 1 A n (bvs l)) (hn : n ≤ 4611686018427387904) (hk : k ≤ n) :
    Calls Tryz.prog 148 #[.slice A n c, .int .i64 k, .int .i64 1] w fun e w' => e = .returned (t3 (fixG l k)) ∧ Below w.heap.size w w' := by
  have hl := h.blen
  have H := Lib.hid h
  clear h
  have d1 := decF (show ¬ (k : Int) < 0 by omega)
  have d2 := decF (show ¬ (n : Int) < k by omega)
  by_cases hs : n - k < 8
  · have hd := decT (show (n : Int) - k < 8 by omega)
    have HF := Lib.hid (show fixG l k = (0, 0, 8) by unfold fixG; rw [if_pos (by rw [List.length_drop]; omega)])
    go_enter Tryz.func148, Tryz.ntmps148
    go_wp2_with fail
    go_ret3
    exact ⟨by rw [HF.out]; rfl, Below.refl _ _⟩
  have hd := decF (show ¬ (n : Int) - k < 8 by omega)
  have HF := Lib.hid (show fixG l k = (i64Z (num ((l.drop k).take 8)), (k : Int) + 8, 0) by unfold fixG; rw [if_neg (by rw [List.length_drop]; omega)])
  go_enter Tryz.func148, Tryz.ntmps148
  go_wp2_with fail
  go_loop [9, 11] (fun s9 s11 => ∃ (i u : Nat), i ≤ 8 ∧ s11 = .int .i64 ((i : Int) - 1) ∧ s9 = .int .u64 u ∧ u = num ((l.drop (k + i)).take (8 - i))) (fun _ s11 => (intOf s11 + 1).toNat)
  case atStart => exact ⟨8, 0, by omega, rfl, rfl, by simp [num]⟩
  case round =>
    obtain ⟨i, u, hi, rfl, rfl, hu⟩ := hrel
    have HU := Lib.hid hu
    clear hu
    by_cases hi2 : 0 < i
    · obtain ⟨j, rfl⟩ : ∃ j, i = j + 1 := ⟨i - 1, by omega⟩
      rw [show ((j + 1 : Nat) : Int) - 1 = (j : Int) by omega]
      have hd2 := decT (show (0 : Int) ≤ (j : Int) by omega)
      obtain ⟨b, off, hkl, rfl, hb, hc, hy⟩ := H.out.byte (show k + j < n by omega)
      have HN := Lib.hid (num_back l k j (8 - (j + 1)) hkl)
      have hu1 := jIX ((l.drop (k + (j + 1))).take (8 - (j + 1)))
      rw [← HU.out] at hu1
      have hu2 : 256 * u < 18446744073709551616 := by
        have h1 : 256 ^ ((l.drop (k + (j + 1))).take (8 - (j + 1))).length ≤ 256 ^ 7 := Nat.pow_le_pow_right (by omega) (by rw [List.length_take]; omega)
        have h2 : (256 : Nat) ^ 7 = 72057594037927936 := by decide
        omega
      generalize l[k + j].toNat = y at *
      clear hu1
      go_wp2
      go_round
      case rel => exact ⟨j, u * 256 + y, by omega, rfl, jFW (by omega), by rw [show 8 - j = (8 - (j + 1)) + 1 by omega, HN.out, HU.out, Nat.add_assoc]; omega⟩
      case measure => simp [intOf]; try omega
    obtain rfl : i = 0 := by omega
    have hu1 := jIX ((l.drop (k + 0)).take (8 - 0))
    rw [← HU.out] at hu1
    have hu2 : u < 18446744073709551616 := by
      have h1 : 256 ^ ((l.drop (k + 0)).take (8 - 0)).length ≤ 256 ^ 8 := Nat.pow_le_pow_right (by omega) (by rw [List.length_take]; omega)
      have h2 : (256 : Nat) ^ 8 = 18446744073709551616 := by decide
      omega
    have hi64 : IntKind.i64.wrap (u : Int) = i64Z u := by rw [IntKind.wrap_i64]; unfold i64Z; split <;> omega
    have hi65 : wrap64 (u : Int) = i64Z u := by rw [← hi64]; exact (IntWalk.i64_left _).symm
    clear hu1
    rw [show ((0 : Nat) : Int) - 1 = -1 by omega]
    go_wp2
    go_ret3
    exact ⟨by rw [HF.out, show num ((l.drop k).take 8) = u from HU.out.symm]; rfl, Below.refl _ _⟩
theorem Rd.sub {w : World} {B n b off : Nat} {l : List UInt8} (h : Rd w B 1 (some ⟨b, off, none⟩) n (bvs l)) (k m : Nat) (hm : k + m ≤ n) : Rd w B 1 (some ⟨b, off + k, none⟩) m (bvs ((l.drop k).take m)) := by
  have hl := h.blen
  have h1 := (h.bcut (k := k) (cap := k + 1 + n) (by omega) (by omega)).btake (k := m) (by omega)
  rw [if_neg (by omega)] at h1
  have : Option.map (fun x : Addr => x.add k) (some ⟨b, off, none⟩) = some ⟨b, off + k, none⟩ := by simp [Addr.add_lit]
  rw [this] at h1
  exact h1
set_option maxHeartbeats 2000000 in
theorem rget_var (A : Option Addr) (n c : Nat) (l : List UInt8) (k : Nat) (w : World) (h : Rd w w.heap.size 1 A n (bvs l)) (hn : n ≤ 4611686018427387904) (hk : k ≤ n) (hnc : n ≤ c) (hc63 : c ≤ 9223372036854775807) :
    Calls Tryz.prog 148 #[.slice A n c, .int .i64 k, .int .i64 2] w fun e w' => e = .returned (t3 (varG l k)) ∧ Below w.heap.size w w' := by
  have hl := h.blen
  have H := Lib.hid h
  clear h
  have d1 := decF (show ¬ (k : Int) < 0 by omega)
  have d2 := decF (show ¬ (n : Int) < k by omega)
  go_enter Tryz.func148, Tryz.ntmps148
  go_wp2_with fail
  go_loop [10] (fun s10 => ∃ s : Nat, s ≤ 10 ∧ k + s ≤ n ∧ s10 = .int .i64 s ∧ ∀ i (h : i < (l.drop k).length), i < s → 128 ≤ (l.drop k)[i].toNat) (fun s10 => 10 - (intOf s10).toNat)
  case atStart => exact ⟨0, by omega, by omega, rfl, fun i _ h => absurd h (by omega)⟩
  case round =>
    obtain ⟨s, hs, hks, rfl, hall⟩ := hrel
    have HA := Lib.hid hall
    clear hall
    by_cases g1 : k + s < n
    · have d3 := decT (show (k : Int) + s < n by omega)
      have d3' := decF (show ¬ (n : Int) ≤ k + s by omega)
      obtain ⟨b, off, hkl, rfl, hb, hc, hy⟩ := H.out.byte g1
      have HG := Lib.hid (jKy l k s hkl)
      obtain ⟨y, hy'⟩ : ∃ y, l[k + s].toNat = y := ⟨_, rfl⟩
      rw [hy'] at hc hy
      have HY := Lib.hid hy'
      clear hy'
      by_cases g2 : 128 ≤ y
      · have d4 := decT (show (128 : Int) ≤ (y : Nat) by omega)
        by_cases g3 : s < 10
        · have d5 := decT (show (s : Int) < 10 by omega)
          go_wp2
          go_round
          case rel =>
            refine ⟨s + 1, by omega, by omega, by go_num, fun i hi his => ?_⟩
            rcases Nat.lt_or_ge i s with h1 | h1
            · exact HA.out i hi h1
            obtain rfl : i = s := by omega
            rw [HG.out, HY.out]; exact g2
          case measure => simp [intOf]; omega
        have d5 := decF (show ¬ (s : Int) < 10 by omega)
        have d6 : ((s : Int) == 10) = true := by simp; omega
        have HF := Lib.hid (show varG l k = (0, 0, 8) by unfold varG; rw [jFB HA.out (by omega)])
        go_wp2_with fail
        go_ret3
        exact ⟨by rw [HF.out]; rfl, Below.refl _ _⟩
      have d4 := decF (show ¬ (128 : Int) ≤ (y : Nat) by omega)
      by_cases g3 : s < 10
      · have d6 : ((s : Int) == 10) = false := by simp; omega
        have hcs : k + s + 1 ≤ c := by omega
        go_wp2_with fail
        go_loop [9, 12] (fun s9 s12 => ∃ (i u : Nat), i ≤ s + 1 ∧ s12 = .int .i64 ((i : Int) - 1) ∧ s9 = .int .u64 u ∧ u = num7 ((l.drop (k + i)).take (s + 1 - i)) % 18446744073709551616) (fun _ s12 => (intOf s12 + 1).toNat)
        case atStart => exact ⟨s + 1, 0, by omega, jFW (by omega), rfl, by simp [num7]⟩
        case round =>
          obtain ⟨i, u, hi, rfl, rfl, hu⟩ := hrel
          have hu64 : u < 18446744073709551616 := by omega
          have HU := Lib.hid hu
          clear hu
          by_cases hi2 : 0 < i
          · obtain ⟨j, rfl⟩ : ∃ j, i = j + 1 := ⟨i - 1, by omega⟩
            rw [show ((j + 1 : Nat) : Int) - 1 = (j : Int) by omega]
            have hd2 := decT (show (0 : Int) ≤ (j : Int) by omega)
            obtain ⟨b', off', hkl', hab, hb', hc', hyy⟩ := H.out.byte (show k + j < n by omega)
            injection hab with hab
            injection hab with hab1 hab2
            subst hab1 hab2
            have HN := Lib.hid (jM0 l (k + j) (s + 1 - (j + 1)) hkl')
            obtain ⟨z, hz'⟩ : ∃ z, l[k + j].toNat = z := ⟨_, rfl⟩
            rw [hz'] at hc' hyy
            have HZ := Lib.hid hz'
            clear hz'
            go_wp2
            go_round
            case rel => exact ⟨j, (u * 128 + z % 128) % 18446744073709551616, by omega, rfl, jFW (by rw [IntKind.wrap_u64, IntKind.wrap_u64]; omega), by rw [show s + 1 - j = (s + 1 - (j + 1)) + 1 by omega, HN.out, HZ.out, HU.out, Nat.add_assoc]; omega⟩
            case measure => simp [intOf]; try omega
          obtain rfl : i = 0 := by omega
          rw [show ((0 : Nat) : Int) - 1 = -1 by omega]
          have kb := jKn hu64
          go_wp2_with fail
          (with_reducible refine (jMf u _ rfl _ hu64).mono ?_)
          rintro e w' ⟨rfl, rfl⟩
          go_wp2_with fail
          (with_reducible refine (jLa 2 (jEg u) _ (by omega) (by omega) kb.1 kb.2).mono ?_)
          rintro e w2 ⟨A2, n2, c2, rfl, O2, B2⟩
          have HP := Lib.hid (show putN 2 (jEg u) = vary 9 u by unfold putN; rw [if_neg (by decide), if_pos rfl, jJy])
          rw [HP.out] at O2
          have S1 := Lib.hid fun w' (hb : Below w2.drew.heap.size w2.drew w') => str_of w' A2 n2 c2 _ _ (O2.drew.rd.below' hb)
          go_wp2_with fail
          have q1 : IntKind.i64.wrap ((k : Int) + s) = (k : Int) + s := IntWalk.i64_in _ (by omega)
          have q2 : IntKind.i64.wrap ((k : Int) + s + 1) = (k : Int) + s + 1 := IntWalk.i64_in _ (by omega)
          have q3 : (0 : Int) ≤ (k : Int) + s + 1 := by omega
          have q4 : (k : Int) + s + 1 ≤ c := by omega
          have q5 : ((k : Int) + s + 1).toNat = k + s + 1 := by omega
          have q6 : k ≤ k + s + 1 := by omega
          have q7 : k + s + 1 - k = s + 1 := by omega
          have q8 : ¬ c = k := by omega
          have S2 := Lib.hid fun w' (hb : Below w2.drew.heap.size w2.drew w') => str_of w' _ _ (c - k) _ _ (((H.out.sub k (s + 1) (by omega)).below' B2.drew).below' hb)
          refine jKG (by kernel_rfl) ?_; refine jDy 0 (v := ?_) rfl (by kernel_rfl) (by kernel_rfl) (by kernel_rfl) (by rfl) ?_ ?_
          rotate_left
          · intro w' hb'
            have hcf := by first | exact jEK hb' | exact jGm hb'
            obtain ⟨hcc, hff⟩ := hcf
            have xS1 := S1.out w' hb'
            have xS2 := S2.out w' hb'
            go_simp
            (try rfl)
          (try simp only [Act.put, List.setIfInBounds_toArray, List.set_cons_zero, List.set_cons_succ])
          refine jDy 1 (v := ?_) rfl (by kernel_rfl) (by kernel_rfl) (by kernel_rfl) (by rfl) ?_ ?_
          rotate_left
          · intro w' hb'
            have hcf := by first | exact jEK hb' | exact jGm hb'
            obtain ⟨hcc, hff⟩ := hcf
            have xS1 := S1.out w' hb'
            have xS2 := S2.out w' hb'
            go_simp
            (try rfl)
          (try simp only [Act.put, List.setIfInBounds_toArray, List.set_cons_zero, List.set_cons_succ])
          refine jDy 2 (v := ?_) rfl (by kernel_rfl) (by kernel_rfl) (by kernel_rfl) (by rfl) ?_ ?_
          rotate_left
          · intro w' hb'
            have hcf := by first | exact jEK hb' | exact jGm hb'
            obtain ⟨hcc, hff⟩ := hcf
            have xS1 := S1.out w' hb'
            have xS2 := S2.out w' hb'
            go_simp
            (try rfl)
          (try simp only [Act.put, List.setIfInBounds_toArray, List.set_cons_zero, List.set_cons_succ])
          refine jDy 3 (v := ?_) rfl (by kernel_rfl) (by kernel_rfl) (by kernel_rfl) (by rfl) ?_ ?_
          rotate_left
          · intro w' hb'
            have hcf := by first | exact jEK hb' | exact jGm hb'
            obtain ⟨hcc, hff⟩ := hcf
            have xS1 := S1.out w' hb'
            have xS2 := S2.out w' hb'
            go_simp
            (try rfl)
          (try simp only [Act.put, List.setIfInBounds_toArray, List.set_cons_zero, List.set_cons_succ])
          refine jDy 4 (v := ?_) rfl (by kernel_rfl) (by kernel_rfl) (by kernel_rfl) (by rfl) ?_ ?_
          rotate_left
          · intro w' hb'
            have hcf := by first | exact jEK hb' | exact jGm hb'
            obtain ⟨hcc, hff⟩ := hcf
            have xS1 := S1.out w' hb'
            have xS2 := S2.out w' hb'
            go_simp
            (try rfl)
          (try simp only [Act.put, List.setIfInBounds_toArray, List.set_cons_zero, List.set_cons_succ])
          refine jDy 5 (v := ?_) rfl (by kernel_rfl) (by kernel_rfl) (by kernel_rfl) (by rfl) ?_ ?_
          rotate_left
          · intro w' hb'
            have hcf := by first | exact jEK hb' | exact jGm hb'
            obtain ⟨hcc, hff⟩ := hcf
            have xS1 := S1.out w' hb'
            have xS2 := S2.out w' hb'
            go_simp
            (try rfl)
          (try simp only [Act.put, List.setIfInBounds_toArray, List.set_cons_zero, List.set_cons_succ])
          refine jDy 6 (v := ?_) rfl (by kernel_rfl) (by kernel_rfl) (by kernel_rfl) (by rfl) ?_ ?_
          rotate_left
          · intro w' hb'
            have hcf := by first | exact jEK hb' | exact jGm hb'
            obtain ⟨hcc, hff⟩ := hcf
            have xS1 := S1.out w' hb'
            have xS2 := S2.out w' hb'
            go_simp
            (try rfl)
          (try simp only [Act.put, List.setIfInBounds_toArray, List.set_cons_zero, List.set_cons_succ])
          refine jDy 7 (v := ?_) rfl (by kernel_rfl) (by kernel_rfl) (by kernel_rfl) (by rfl) ?_ ?_
          rotate_left
          · intro w' hb'
            have hcf := by first | exact jEK hb' | exact jGm hb'
            obtain ⟨hcc, hff⟩ := hcf
            have xS1 := S1.out w' hb'
            have xS2 := S2.out w' hb'
            go_simp
            (try rfl)
          (try simp only [Act.put, List.setIfInBounds_toArray, List.set_cons_zero, List.set_cons_succ])
          refine jDy 8 (v := ?_) rfl (by kernel_rfl) (by kernel_rfl) (by kernel_rfl) (by rfl) ?_ ?_
          rotate_left
          · intro w' hb'
            have hcf := by first | exact jEK hb' | exact jGm hb'
            obtain ⟨hcc, hff⟩ := hcf
            have xS1 := S1.out w' hb'
            have xS2 := S2.out w' hb'
            go_simp
            (try rfl)
          (try simp only [Act.put, List.setIfInBounds_toArray, List.set_cons_zero, List.set_cons_succ])
          refine jDy 9 (v := ?_) rfl (by kernel_rfl) (by kernel_rfl) (by kernel_rfl) (by rfl) ?_ ?_
          rotate_left
          · intro w' hb'
            have hcf := by first | exact jEK hb' | exact jGm hb'
            obtain ⟨hcc, hff⟩ := hcf
            have xS1 := S1.out w' hb'
            have xS2 := S2.out w' hb'
            go_simp
            (try rfl)
          (try simp only [Act.put, List.setIfInBounds_toArray, List.set_cons_zero, List.set_cons_succ])
          refine jDy 10 (v := ?_) rfl (by kernel_rfl) (by kernel_rfl) (by kernel_rfl) (by rfl) ?_ ?_
          rotate_left
          · intro w' hb'
            have hcf := by first | exact jEK hb' | exact jGm hb'
            obtain ⟨hcc, hff⟩ := hcf
            have xS1 := S1.out w' hb'
            have xS2 := S2.out w' hb'
            go_simp
            (try rfl)
          (try simp only [Act.put, List.setIfInBounds_toArray, List.set_cons_zero, List.set_cons_succ])
          refine jJA (by kernel_rfl) ?_
          clear q1 q2 q3 q4 q5 q6 q7 q8
          have HUU : Hid (u = num7 ((l.drop k).take (s + 1)) % 18446744073709551616) := HU.out
          go_wp2
          · have hne : vary 9 u ≠ (l.drop k).take (s + 1) := by
              have h' : (!vary 9 u == List.take (s + 1) (List.drop k l)) = true := by assumption
              simpa using h'
            have HF := Lib.hid (show varG l k = (0, 0, 8) by unfold varG; rw [gv_no (s := s) (U := u) (by rw [List.length_drop]; omega) HA.out (by rw [HG.out, HY.out]; omega) HUU.out hne])
            go_ret3
            exact ⟨by rw [HF.out]; rfl, B2.drew⟩
          have heq : vary 9 u = (l.drop k).take (s + 1) := by
            have h' : (!vary 9 u == List.take (s + 1) (List.drop k l)) = false := by assumption
            simpa using h'
          have HF := Lib.hid (show varG l k = (jEg u, ((k + (s + 1) : Nat) : Int), 0) by unfold varG; rw [gv_yes (s := s) (U := u) hu64 (by rw [List.length_drop]; omega) heq])
          go_ret3
          refine ⟨?_, B2.drew⟩; rw [HF.out]; simp [t3]
          try omega
      have d6 : ((s : Int) == 10) = true := by simp; omega
      have HF := Lib.hid (show varG l k = (0, 0, 8) by unfold varG; rw [jFB HA.out (by omega)])
      go_wp2_with fail
      go_ret3
      exact ⟨by rw [HF.out]; rfl, Below.refl _ _⟩
    have d3 := decF (show ¬ (k : Int) + s < n by omega)
    have d3' := decT (show (n : Int) ≤ k + s by omega)
    have HF := Lib.hid (show varG l k = (0, 0, 8) by unfold varG; rw [jFB HA.out (by rw [List.length_drop]; omega)])
    go_wp2_with fail
    go_ret3
    exact ⟨by rw [HF.out]; rfl, Below.refl _ _⟩
set_option maxHeartbeats 1000000 in
theorem rget_any (A : Option Addr) (n c : Nat) (l : List UInt8) (at_ f : Int) (w : World) (h : Rd w w.heap.size 1 A n (bvs l)) (hn : n ≤ 4611686018427387904) (hnc : n ≤ c) (hc63 : c ≤ 9223372036854775807) :
    Calls Tryz.prog 148 #[.slice A n c, .int .i64 at_, .int .i64 f] w fun e w' => e = .returned (t3 (getN l at_ f)) ∧ Below w.heap.size w w' := by
  have hl := h.blen
  by_cases gf : f = 1 ∨ f = 2
  · by_cases g1 : at_ < 0
    · have d1 := decT g1
      have HF := Lib.hid (show getN l at_ f = (0, 0, 2) by unfold getN; rw [if_pos (by omega)])
      rcases gf with rfl | rfl
      · go_enter Tryz.func148, Tryz.ntmps148
        go_wp2_with fail
        go_ret3
        exact ⟨by rw [HF.out]; rfl, Below.refl _ _⟩
      go_enter Tryz.func148, Tryz.ntmps148
      go_wp2_with fail
      go_ret3
      exact ⟨by rw [HF.out]; rfl, Below.refl _ _⟩
    have d1 := decF g1
    by_cases g2 : (n : Int) < at_
    · have d2 := decT g2
      have HF := Lib.hid (show getN l at_ f = (0, 0, 2) by unfold getN; rw [if_pos (by omega)])
      rcases gf with rfl | rfl
      · go_enter Tryz.func148, Tryz.ntmps148
        go_wp2_with fail
        go_ret3
        exact ⟨by rw [HF.out]; rfl, Below.refl _ _⟩
      go_enter Tryz.func148, Tryz.ntmps148
      go_wp2_with fail
      go_ret3
      exact ⟨by rw [HF.out]; rfl, Below.refl _ _⟩
    have HF := Lib.hid (show getN l at_ f = if f = 1 then fixG l at_.toNat else varG l at_.toNat by unfold getN; rw [if_neg (by omega)])
    obtain ⟨k, rfl⟩ : ∃ k : Nat, at_ = k := ⟨at_.toNat, by omega⟩
    rw [HF.out, Int.toNat_natCast]
    rcases gf with rfl | rfl
    · exact rget_fix A n c l k w h hn (by omega)
    exact rget_var A n c l k w h hn (by omega) hnc hc63
  have e1 : (f == 1) = false := by simp; omega
  have e2 : (f == 2) = false := by simp; omega
  have e3 : (f != 1) = true := by simp; omega
  have e4 : (f != 2) = true := by simp; omega
  have HF := Lib.hid (show getN l at_ f = (0, 0, 2) by unfold getN; rw [if_pos (by omega)])
  clear gf
  go_enter Tryz.func148, Tryz.ntmps148
  go_wp2_with fail
  go_ret3
  exact ⟨by rw [HF.out]; rfl, Below.refl _ _⟩
end Go.Proofs.YtlapcfnmmpbeeaaGreat
