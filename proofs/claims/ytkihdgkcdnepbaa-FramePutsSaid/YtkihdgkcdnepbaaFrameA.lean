/- The law FramePuts, walked. No conditions. -/
import Derived.Test.YtkihdgkcdnepbaaFrameU
namespace Go.Proofs.Ytkihdgkcdnepbaa
set_option linter.unusedSimpArgs false
set_option linter.unusedVariables false
open Go.RowKit

theorem fgetN_put (t : Nat → Nat) (l2 l1 l3 : List UInt8) (h : l1.length ≤ 60000) : fgetN t (l2 ++ frameN t l1 ++ l3) (l2.length : Nat) = (l1, ((l2.length : Nat) : Int) + 8 + (l1.length : Nat), 0) := by
  unfold fgetN
  rw [if_neg (by rw [List.length_append, List.length_append]; omega), Int.toNat_natCast, List.append_assoc, List.drop_left, fget_frame t l1 l3 h]

set_option maxRecDepth 100000 in
set_option maxHeartbeats 4000000 in
theorem walk_FramePuts (w : World) (t0 : Nat → Nat) (ht0 : ∀ i, i < 256 → t0 i < 4294967296) (A1 : Option Addr) (n1 c1 : Nat) (l1 : List UInt8) (rd1 : Rd w w.heap.size 1 A1 n1 (bvs l1)) (nc1 : n1 ≤ c1) (cm1 : c1 ≤ maxLen) (A2 : Option Addr) (n2 c2 : Nat) (l2 : List UInt8) (rd2 : Rd w w.heap.size 1 A2 n2 (bvs l2)) (nc2 : n2 ≤ c2) (cm2 : c2 ≤ maxLen) (A3 : Option Addr) (n3 c3 : Nat) (l3 : List UInt8) (rd3 : Rd w w.heap.size 1 A3 n3 (bvs l3)) (nc3 : n3 ≤ c3) (cm3 : c3 ≤ maxLen) (a4 : Int) (w4 : (Lit.int .i64 a4).wf = true) :
    Calls Try.prog 8 #[.agg (tabCells t0), .slice A1 n1 c1, .slice A2 n2 c2, .slice A3 n3 c3, .int .i64 a4] w fun e w' => e = .returned (.bool true) ∧ Below w.heap.size w w' := by
  unfold maxLen at cm1 cm2 cm3
  have b4 := bounds_i64 w4
  have hl1 := rd1.blen
  have hl2 := rd2.blen
  have hl3 := rd3.blen
  have R1 := Lib.hid rd1
  have R2 := Lib.hid rd2
  have R3 := Lib.hid rd3
  have B0 := Lib.hid ((Below.refl w.heap.size w).alloc (Nat.le_refl _) (Obj.cells (tabCells t0) 26))
  have HG0 := Lib.hid (heap_alloc_new w (Obj.cells (tabCells t0) 26))
  clear rd1 rd2 rd3 w4
  go_enter Try.func8, Try.ntmps8
  go_wp2_with fail
  (with_reducible refine (awake07_any _).mono ?_)
  rintro e w1 ⟨rfl, hb1⟩
  have B1 := Lib.hid (B0.out.trans (hb1.mono B0.out.size))
  have HG1 := Lib.hid (blk_keep HG0.out hb1)
  have HS1 := Lib.hid (show w.heap.size + 1 ≤ w1.heap.size by have := hb1.size; simpa using this)
  clear hb1
  go_upto_region 3 with fail
  go_cut [42] (fun s wx => s = .bool (decide ((3000 < n1 ∧ n1 ≤ 60000) ∨ 70000 < n1 ∨ 3000 < n2 ∨ 3000 < n3)) ∧ wx = w1)
  case first =>
    by_cases g1 : 3000 < n1
    · have d1 := decT (show (3000 : Int) < n1 by omega)
      by_cases g2 : n1 ≤ 60000
      · have d2 := decT (show (n1 : Int) ≤ 60000 by omega)
        have HD := Lib.hid (decT (show (3000 < n1 ∧ n1 ≤ 60000) ∨ 70000 < n1 ∨ 3000 < n2 ∨ 3000 < n3 by omega))
        go_wp2_with fail
        go_meet
        exact ⟨by rw [HD.out], rfl⟩
      · have d2 := decF (show ¬ (n1 : Int) ≤ 60000 by omega)
        by_cases g3 : 70000 < n1
        · have d3 := decT (show (70000 : Int) < n1 by omega)
          have HD := Lib.hid (decT (show (3000 < n1 ∧ n1 ≤ 60000) ∨ 70000 < n1 ∨ 3000 < n2 ∨ 3000 < n3 by omega))
          go_wp2_with fail
          go_meet
          exact ⟨by rw [HD.out], rfl⟩
        · have d3 := decF (show ¬ (70000 : Int) < n1 by omega)
          by_cases g4 : 3000 < n2
          · have d4 := decT (show (3000 : Int) < n2 by omega)
            have HD := Lib.hid (decT (show (3000 < n1 ∧ n1 ≤ 60000) ∨ 70000 < n1 ∨ 3000 < n2 ∨ 3000 < n3 by omega))
            go_wp2_with fail
            go_meet
            exact ⟨by rw [HD.out], rfl⟩
          · have d4 := decF (show ¬ (3000 : Int) < n2 by omega)
            by_cases g5 : 3000 < n3
            · have d5 := decT (show (3000 : Int) < n3 by omega)
              have HD := Lib.hid (decT (show (3000 < n1 ∧ n1 ≤ 60000) ∨ 70000 < n1 ∨ 3000 < n2 ∨ 3000 < n3 by omega))
              go_wp2_with fail
              go_meet
              exact ⟨by rw [HD.out], rfl⟩
            · have d5 := decF (show ¬ (3000 : Int) < n3 by omega)
              have HD := Lib.hid (decF (show ¬ ((3000 < n1 ∧ n1 ≤ 60000) ∨ 70000 < n1 ∨ 3000 < n2 ∨ 3000 < n3) by omega))
              go_wp2_with fail
              go_meet
              exact ⟨by rw [HD.out], rfl⟩
    · have d1 := decF (show ¬ (3000 : Int) < n1 by omega)
      have d3 := decF (show ¬ (70000 : Int) < n1 by omega)
      by_cases g4 : 3000 < n2
      · have d4 := decT (show (3000 : Int) < n2 by omega)
        have HD := Lib.hid (decT (show (3000 < n1 ∧ n1 ≤ 60000) ∨ 70000 < n1 ∨ 3000 < n2 ∨ 3000 < n3 by omega))
        go_wp2_with fail
        go_meet
        exact ⟨by rw [HD.out], rfl⟩
      · have d4 := decF (show ¬ (3000 : Int) < n2 by omega)
        by_cases g5 : 3000 < n3
        · have d5 := decT (show (3000 : Int) < n3 by omega)
          have HD := Lib.hid (decT (show (3000 < n1 ∧ n1 ≤ 60000) ∨ 70000 < n1 ∨ 3000 < n2 ∨ 3000 < n3 by omega))
          go_wp2_with fail
          go_meet
          exact ⟨by rw [HD.out], rfl⟩
        · have d5 := decF (show ¬ (3000 : Int) < n3 by omega)
          have HD := Lib.hid (decF (show ¬ ((3000 < n1 ∧ n1 ≤ 60000) ∨ 70000 < n1 ∨ 3000 < n2 ∨ 3000 < n3) by omega))
          go_wp2_with fail
          go_meet
          exact ⟨by rw [HD.out], rfl⟩
  case rest =>
    obtain ⟨rfl, rfl⟩ := hcut
    by_cases gbad : (3000 < n1 ∧ n1 ≤ 60000) ∨ 70000 < n1 ∨ 3000 < n2 ∨ 3000 < n3
    · have dd := decT gbad
      go_wp2_with fail
      go_ret
      exact ⟨rfl, B1.out⟩
    · have dd := decF gbad
      go_upto_region 6 with fail
      go_cut [48] (fun s wx => s = .bool (decide (0 ≤ a4 ∧ a4 ≤ 60000)) ∧ wx = wc)
      case first =>
        by_cases g1 : 0 ≤ a4
        · have d1 := decT g1
          by_cases g2 : a4 ≤ 60000
          · have d2 := decT g2
            have HD := Lib.hid (decT (show 0 ≤ a4 ∧ a4 ≤ 60000 by omega))
            go_wp2_with fail
            go_meet
            exact ⟨by rw [HD.out], rfl⟩
          · have d2 := decF g2
            have HD := Lib.hid (decF (show ¬ (0 ≤ a4 ∧ a4 ≤ 60000) by omega))
            go_wp2_with fail
            go_meet
            exact ⟨by rw [HD.out], rfl⟩
        · have d1 := decF g1
          have HD := Lib.hid (decF (show ¬ (0 ≤ a4 ∧ a4 ≤ 60000) by omega))
          go_wp2_with fail
          go_meet
          exact ⟨by rw [HD.out], rfl⟩
      case rest =>
        obtain ⟨rfl, rfl⟩ := hcut
        go_upto_if 48 with fail
        go_cut [11] (fun s wx => s = .int .i64 (if a4 < 0 ∨ 60000 < a4 then 0 else a4 + 8) ∧ wx = wc)
        case first =>
          by_cases g1 : 0 ≤ a4 ∧ a4 ≤ 60000
          · have d1 := decT g1
            have HD := Lib.hid (show (if a4 < 0 ∨ 60000 < a4 then 0 else a4 + 8) = a4 + 8 by rw [if_neg (by omega)])
            go_wp2_with fail
            go_meet
            exact ⟨by rw [HD.out], rfl⟩
          · have d1 := decF g1
            have HD := Lib.hid (show (if a4 < 0 ∨ 60000 < a4 then 0 else a4 + 8) = 0 by rw [if_pos (by omega)])
            go_wp2_with fail
            go_meet
            exact ⟨by rw [HD.out], rfl⟩
        case rest =>
          obtain ⟨hs11, rfl⟩ := hcut
          obtain ⟨W, hW⟩ : ∃ W : Int, (if a4 < 0 ∨ 60000 < a4 then 0 else a4 + 8) = W := ⟨_, rfl⟩
          rw [hW] at hs11
          subst hs11
          have HW := Lib.hid hW
          clear hW
          go_wp2_with fail
          have hg1 : wc.drew.heap[w.heap.size]? = _ := HG1.out
          have hne1 : some w.heap.size ≠ some wc.heap.size := by have := HS1.out; simp; omega
          refine rb_startg ((some wc.heap.size)) (by kernel_rfl) ?_
          refine rb_takeg 1 (v := ?_) rfl (by kernel_rfl) (by kernel_rfl) (by kernel_rfl) (by rfl) ?_ ?_
          rotate_left
          · intro w' hb'
            have hcf := by first | exact gcellD hb' | exact gcell hb'
            obtain ⟨hcc, hff⟩ := hcf
            go_simp
            (try rfl)
          (try simp only [Act.put, List.setIfInBounds_toArray, List.set_cons_zero, List.set_cons_succ])
          refine rb_take_row 3 rfl (by kernel_rfl) (by kernel_rfl) (by kernel_rfl) (by rfl) 26 _ rfl _ rfl 26 (tabCells t0) (0, 0) _ (hg1) (hne1) Try.underlying26 rfl (tab_row _) ?_
          (try simp only [Act.put, List.setIfInBounds_toArray, List.set_cons_zero, List.set_cons_succ])
          refine rb_takeg 4 (v := ?_) rfl (by kernel_rfl) (by kernel_rfl) (by kernel_rfl) (by rfl) ?_ ?_
          rotate_left
          · intro w' hb'
            have hcf := by first | exact gcellD hb' | exact gcell hb'
            obtain ⟨hcc, hff⟩ := hcf
            go_simp
            (try rfl)
          (try simp only [Act.put, List.setIfInBounds_toArray, List.set_cons_zero, List.set_cons_succ])
          refine rb_moveg 0 rfl (by kernel_rfl) (by rfl) (fun K hK => ?_)
          have HK := Lib.hid hK
          clear hK
          go_simp
          refine HK.out _ _ (grown_of_below ((Below.refl _ _).alloc (Nat.le_refl _) _)) ?_
          clear HK K
          (try simp only [Act.put, List.setIfInBounds_toArray, List.set_cons_zero, List.set_cons_succ])
          have B2 := Lib.hid ((B1.out.drew.alloc B1.out.size (Obj.cells #[] 5)))
          have O2 := Lib.hid (OwnB.empty (base := wc.heap.size) wc.drew (Nat.le_refl _))
          refine rb_moveg 2 rfl (by kernel_rfl) (by rfl) (fun K hK => ?_)
          have HK := Lib.hid hK
          clear hK
          refine wp_app _ _ _ rfl wc.heap.size (some ⟨wc.heap.size, 0, none⟩) 0 0 [] rfl O2.out A2 n2 c2 l2 rfl (R2.out.below' B2.out) (by omega) (by simp) ?_
          intro A5 c5 w5 ho5 hg5 _
          refine HK.out _ _ hg5 ?_
          clear HK K
          (try simp only [Act.put, List.setIfInBounds_toArray, List.set_cons_zero, List.set_cons_succ])
          have B5 := Lib.hid (B2.out.grown hg5 (by simp; exact Nat.le_succ_of_le B1.out.size) fun k hk => by simp [Value.ownBlock] at hk; subst hk; exact B1.out.size)
          have O5 := Lib.hid ho5
          clear ho5
          have HG5 := Lib.hid ((hg5.block w.heap.size (by have := HS1.out; simp; omega) hne1).trans ((Below.heap_alloc wc.drew _ _ (by have := HS1.out; simp; omega)).trans hg1))
          refine rb_move 5 rfl (by kernel_rfl) (by rfl) (fun K hK => ?_)
          have HK := Lib.hid hK
          clear hK
          go_simp
          (with_reducible refine (fput_any _ _ _ l2 t0 ht0 _ _ _ l1 _ (by simpa using O5.out.rd) (R1.out.below' B5.out) (by omega) (by omega)).mono ?_)
          rintro e w6 ⟨A6, n6, c6, rfl, ho6, hb6⟩
          refine HK.out _ _ hb6 ?_
          clear HK K
          (try simp only [Act.put, List.setIfInBounds_toArray, List.set_cons_zero, List.set_cons_succ])
          have B6 := Lib.hid (B5.out.trans (hb6.mono B5.out.size))
          have O6 := Lib.hid ho6
          have HG6 := Lib.hid (blk_keep HG5.out hb6)
          have B56 := Lib.hid hb6
          clear ho6 hb6
          have HQ : Hid (∃ cd : Int, (if 60000 < n1 then (14 : Int) else 0) = cd) := ⟨_, rfl⟩
          obtain ⟨cd, hcd⟩ := HQ.out
          rw [hcd]
          have HCD := Lib.hid hcd
          clear hcd
          refine rb_takeg 6 (v := ?_) rfl (by kernel_rfl) (by kernel_rfl) (by kernel_rfl) (by rfl) ?_ ?_
          rotate_left
          · intro w' hb'
            have hcf := by first | exact gcellD hb' | exact gcell hb'
            obtain ⟨hcc, hff⟩ := hcf
            go_simp
            (try rfl)
          (try simp only [Act.put, List.setIfInBounds_toArray, List.set_cons_zero, List.set_cons_succ])
          refine rb_takeg 7 (v := ?_) rfl (by kernel_rfl) (by kernel_rfl) (by kernel_rfl) (by rfl) ?_ ?_
          rotate_left
          · intro w' hb'
            have hcf := by first | exact gcellD hb' | exact gcell hb'
            obtain ⟨hcc, hff⟩ := hcf
            go_simp
            (try rfl)
          (try simp only [Act.put, List.setIfInBounds_toArray, List.set_cons_zero, List.set_cons_succ])
          refine rb_takeg 8 (v := ?_) rfl (by kernel_rfl) (by kernel_rfl) (by kernel_rfl) (by rfl) ?_ ?_
          rotate_left
          · intro w' hb'
            have hcf := by first | exact gcellD hb' | exact gcell hb'
            obtain ⟨hcc, hff⟩ := hcf
            go_simp
            (try rfl)
          (try simp only [Act.put, List.setIfInBounds_toArray, List.set_cons_zero, List.set_cons_succ])
          refine rb_takeg 9 (v := ?_) rfl (by kernel_rfl) (by kernel_rfl) (by kernel_rfl) (by rfl) ?_ ?_
          rotate_left
          · intro w' hb'
            have hcf := by first | exact gcellD hb' | exact gcell hb'
            obtain ⟨hcc, hff⟩ := hcf
            go_simp
            (try rfl)
          (try simp only [Act.put, List.setIfInBounds_toArray, List.set_cons_zero, List.set_cons_succ])
          refine rb_takeg 10 (v := ?_) rfl (by kernel_rfl) (by kernel_rfl) (by kernel_rfl) (by rfl) ?_ ?_
          rotate_left
          · intro w' hb'
            have hcf := by first | exact gcellD hb' | exact gcell hb'
            obtain ⟨hcc, hff⟩ := hcf
            go_simp
            (try rfl)
          (try simp only [Act.put, List.setIfInBounds_toArray, List.set_cons_zero, List.set_cons_succ])
          refine rb_done (by kernel_rfl) ?_
          go_wp2_with fail
          (with_reducible refine (fsize_any a4 _).mono ?_)
          rintro e w' ⟨rfl, rfl⟩
          rw [HW.out]
          by_cases gb : 60000 < n1
          · have d6 := decT (show (60000 : Int) < n1 by omega)
            have h14 : cd = 14 := by rw [← HCD.out, if_pos gb]
            subst h14
            have O7 := O6.out
            rw [if_pos gb] at O7
            obtain rfl : n6 = 0 := O7.len.symm
            clear O7
            go_wp2_with fail
            go_ret
            exact ⟨rfl, B6.out⟩
          · have d6 := decF (show ¬ (60000 : Int) < n1 by omega)
            have h14 : cd = 0 := by rw [← HCD.out, if_neg gb]
            subst h14
            have O7 : Hid (OwnB w6 w5.heap.size A6 n6 c6 (l2 ++ frameN t0 l1)) := by have := O6.out; rw [if_neg gb] at this; exact this
            have hn6 := O7.out.len
            rw [List.length_append, frameN_len] at hn6
            have hg6 := HG6.out
            go_wp2_with (first | (with_reducible refine wpList_load_row rfl 26 _ rfl w.heap.size rfl 26 (tabCells t0) (0, 0) _ HG6.out Try.underlying26 rfl (tab_row t0) ?_))
            (with_reducible refine (rframe_any t0 ht0 _ _ _ l1 _ (R1.out.below' B6.out) (by omega)).mono ?_)
            rintro e w7 ⟨A7, n7, c7, rfl, ho7, hb7⟩
            have hn7 := ho7.len
            rw [frameN_len] at hn7
            have B7 := Lib.hid (B6.out.trans (hb7.mono B6.out.size))
            have O8 := Lib.hid (O7.out.below hb7)
            have HG7 := Lib.hid (blk_keep HG6.out hb7)
            have B67 := Lib.hid hb7
            have S1 := str_of w7 A6 n6 c6 _ _ O8.out.rd
            have S2 := str_of w7 A2 n2 c2 _ _ (R2.out.below' B7.out)
            have S3 := str_of w7 A7 n7 c7 _ _ ho7.rd
            have HP := Lib.hid (fgetN_put t0 l2 l1 l3 (by omega))
            have hFl := frameN_len t0 l1
            clear hb7 ho7
            generalize frameN t0 l1 = F at *
            have hcat := str_cat l2 F
            go_wp2_with fail
            have O8base : w5.heap.size ≤ w7.drew.heap.size := Nat.le_trans (show w5.heap.size ≤ w6.heap.size from B56.out.size) B67.out.size
            have hne7 : some w.heap.size ≠ (Value.slice A6 n6 c6).ownBlock := by
              intro h
              have h1 := (O8.out.lt _ h.symm).1
              have h2 := B5.out.size
              have h3 := HS1.out
              have h4 := hg5.size
              simp at h4
              omega
            have hg7 : w7.drew.heap[w.heap.size]? = _ := HG7.out
            refine rb_startg ((Value.slice A6 n6 c6).ownBlock) (by kernel_rfl) ?_
            refine rb_takeg 0 (v := ?_) rfl (by kernel_rfl) (by kernel_rfl) (by kernel_rfl) (by rfl) ?_ ?_
            rotate_left
            · intro w' hb'
              have hcf := by first | exact gcellD hb' | exact gcell hb'
              obtain ⟨hcc, hff⟩ := hcf
              go_simp
              (try rfl)
            (try simp only [Act.put, List.setIfInBounds_toArray, List.set_cons_zero, List.set_cons_succ])
            refine rb_takeg 1 (v := ?_) rfl (by kernel_rfl) (by kernel_rfl) (by kernel_rfl) (by rfl) ?_ ?_
            rotate_left
            · intro w' hb'
              have hcf := by first | exact gcellD hb' | exact gcell hb'
              obtain ⟨hcc, hff⟩ := hcf
              go_simp
              (try rfl)
            (try simp only [Act.put, List.setIfInBounds_toArray, List.set_cons_zero, List.set_cons_succ])
            refine rb_takeg 3 (v := ?_) rfl (by kernel_rfl) (by kernel_rfl) (by kernel_rfl) (by rfl) ?_ ?_
            rotate_left
            · intro w' hb'
              have hcf := by first | exact gcellD hb' | exact gcell hb'
              obtain ⟨hcc, hff⟩ := hcf
              go_simp
              (try rfl)
            (try simp only [Act.put, List.setIfInBounds_toArray, List.set_cons_zero, List.set_cons_succ])
            refine rb_takeg 4 (v := ?_) rfl (by kernel_rfl) (by kernel_rfl) (by kernel_rfl) (by rfl) ?_ ?_
            rotate_left
            · intro w' hb'
              have hcf := by first | exact gcellD hb' | exact gcell hb'
              obtain ⟨hcc, hff⟩ := hcf
              go_simp
              (try rfl)
            (try simp only [Act.put, List.setIfInBounds_toArray, List.set_cons_zero, List.set_cons_succ])
            refine rb_take_row 5 rfl (by kernel_rfl) (by kernel_rfl) (by kernel_rfl) (by rfl) 26 _ rfl _ rfl 26 (tabCells t0) (0, 0) _ (hg7) (hne7) Try.underlying26 rfl (tab_row _) ?_
            (try simp only [Act.put, List.setIfInBounds_toArray, List.set_cons_zero, List.set_cons_succ])
            refine rb_moveg 2 rfl (by kernel_rfl) (by rfl) (fun K hK => ?_)
            have HK := Lib.hid hK
            clear hK
            refine wp_app _ _ _ rfl w5.heap.size A6 n6 c6 (l2 ++ F) rfl O8.out.drew A3 n3 c3 l3 rfl (R3.out.below' B7.out.drew) (by omega) (Nat.le_trans (O8base) (Nat.le_refl _)) ?_
            intro A9 c9 w9 ho9 hg9 _
            refine HK.out _ _ hg9 ?_
            clear HK K
            (try simp only [Act.put, List.setIfInBounds_toArray, List.set_cons_zero, List.set_cons_succ])
            have B9 := Lib.hid (B7.out.drew.grown hg9 B7.out.size fun k hk => Nat.le_trans B5.out.size (O8.out.lt k hk).1)
            have O9 := Lib.hid ho9
            clear ho9 hg9
            refine rb_move 6 rfl (by kernel_rfl) (by rfl) (fun K hK => ?_)
            have HK := Lib.hid hK
            clear hK
            go_simp
            (with_reducible refine (fget_any _ _ _ (l2 ++ F ++ l3) _ t0 ht0 _ O9.out.rd O9.out.nc (by omega) (by have := O9.out.cm; unfold maxLen at this; omega)).mono ?_)
            rintro e w10 ⟨A10, n10, c10, rfl, ho10, hb10⟩
            refine HK.out _ _ hb10 ?_
            clear HK K
            (try simp only [Act.put, List.setIfInBounds_toArray, List.set_cons_zero, List.set_cons_succ])
            have B10 := Lib.hid (B9.out.trans (hb10.mono B9.out.size))
            rw [← hl2, HP.out] at ho10
            have O10 := Lib.hid ho10
            clear ho10 hb10
            rw [← hl2, HP.out]
            refine rb_takeg 7 (v := ?_) rfl (by kernel_rfl) (by kernel_rfl) (by kernel_rfl) (by rfl) ?_ ?_
            rotate_left
            · intro w' hb'
              have hcf := by first | exact gcellD hb' | exact gcell hb'
              obtain ⟨hcc, hff⟩ := hcf
              go_simp
              (try rfl)
            (try simp only [Act.put, List.setIfInBounds_toArray, List.set_cons_zero, List.set_cons_succ])
            refine rb_takeg 8 (v := ?_) rfl (by kernel_rfl) (by kernel_rfl) (by kernel_rfl) (by rfl) ?_ ?_
            rotate_left
            · intro w' hb'
              have hcf := by first | exact gcellD hb' | exact gcell hb'
              obtain ⟨hcc, hff⟩ := hcf
              go_simp
              (try rfl)
            (try simp only [Act.put, List.setIfInBounds_toArray, List.set_cons_zero, List.set_cons_succ])
            refine rb_takeg 9 (v := ?_) rfl (by kernel_rfl) (by kernel_rfl) (by kernel_rfl) (by rfl) ?_ ?_
            rotate_left
            · intro w' hb'
              have hcf := by first | exact gcellD hb' | exact gcell hb'
              obtain ⟨hcc, hff⟩ := hcf
              go_simp
              (try rfl)
            (try simp only [Act.put, List.setIfInBounds_toArray, List.set_cons_zero, List.set_cons_succ])
            refine rb_takeg 10 (v := ?_) rfl (by kernel_rfl) (by kernel_rfl) (by kernel_rfl) (by rfl) ?_ ?_
            rotate_left
            · intro w' hb'
              have hcf := by first | exact gcellD hb' | exact gcell hb'
              obtain ⟨hcc, hff⟩ := hcf
              go_simp
              (try rfl)
            (try simp only [Act.put, List.setIfInBounds_toArray, List.set_cons_zero, List.set_cons_succ])
            refine rb_takeg 11 (v := ?_) rfl (by kernel_rfl) (by kernel_rfl) (by kernel_rfl) (by rfl) ?_ ?_
            rotate_left
            · intro w' hb'
              have hcf := by first | exact gcellD hb' | exact gcell hb'
              obtain ⟨hcc, hff⟩ := hcf
              go_simp
              (try rfl)
            (try simp only [Act.put, List.setIfInBounds_toArray, List.set_cons_zero, List.set_cons_succ])
            refine rb_takeg 12 (v := ?_) rfl (by kernel_rfl) (by kernel_rfl) (by kernel_rfl) (by rfl) ?_ ?_
            rotate_left
            · intro w' hb'
              have hcf := by first | exact gcellD hb' | exact gcell hb'
              obtain ⟨hcc, hff⟩ := hcf
              go_simp
              (try rfl)
            (try simp only [Act.put, List.setIfInBounds_toArray, List.set_cons_zero, List.set_cons_succ])
            refine rb_takeg 13 (v := ?_) rfl (by kernel_rfl) (by kernel_rfl) (by kernel_rfl) (by rfl) ?_ ?_
            rotate_left
            · intro w' hb'
              have hcf := by first | exact gcellD hb' | exact gcell hb'
              obtain ⟨hcc, hff⟩ := hcf
              go_simp
              (try rfl)
            (try simp only [Act.put, List.setIfInBounds_toArray, List.set_cons_zero, List.set_cons_succ])
            refine rb_done (by kernel_rfl) ?_
            have S4 := str_of w10 A10 n10 c10 _ _ O10.out.rd
            have S5 := str_of w10 A1 n1 c1 _ _ (R1.out.below' B10.out)
            go_wp2_with fail
            go_ret
            exact ⟨by first | rfl | simp, B10.out⟩
end Go.Proofs.Ytkihdgkcdnepbaa
