/- The law SumTables, walked. No conditions. -/
import Derived.Test.YtkihdgkcdnepbaaSumL
import Derived.Test.YtkihdgkcdnepbaaReg
import Derived.Deep.DeepCutAuto
namespace Go.Proofs.Ytkihdgkcdnepbaa
set_option linter.unusedSimpArgs false
set_option linter.unusedVariables false
open Go.RowKit

set_option maxHeartbeats 2000000 in
theorem walk_SumTables (w : World) (t0 : Nat → Nat) (ht0 : ∀ i, i < 256 → t0 i < 4294967296) (a1 : Int) (w1 : (Lit.int .u32 a1).wf = true) (A2 : Option Addr) (n2 c2 : Nat) (l2 : List UInt8) (rd2 : Rd w w.heap.size 1 A2 n2 (bvs l2)) (nc2 : n2 ≤ c2) (cm2 : c2 ≤ maxLen) (a3 : Int) (w3 : (Lit.int .i64 a3).wf = true) :
    Calls Try.prog 5 #[.agg (tabCells t0), .int .u32 a1, .slice A2 n2 c2, .int .i64 a3] w fun e w' => e = .returned (.bool true) ∧ Below w.heap.size w w' := by
  unfold maxLen at cm2
  have hl := rd2.blen
  have b1 := bounds_u32 w1
  have b3 := bounds_i64 w3
  obtain ⟨s, rfl⟩ : ∃ s : Nat, a1 = s := ⟨a1.toNat, by omega⟩
  have R0 := Lib.hid (rd2.alloc' (Obj.cells (tabCells t0) 26))
  clear rd2 w1 w3
  by_cases hlong : n2 ≤ 3000
  case neg =>
    have hd := decT (show (3000 : Int) < n2 by omega)
    go_enter Try.func5, Try.ntmps5
    go_wp2_with fail
    (with_reducible refine (awake06_any _).mono ?_)
    rintro e w1 ⟨rfl, hb1⟩
    go_wp2_with fail
    go_ret
    exact ⟨rfl, ((Below.refl _ _).alloc (Nat.le_refl _) _).trans (hb1.mono (by simp))⟩
  case pos =>
    have hd := decF (show ¬ (3000 : Int) < n2 by omega)
    go_enter Try.func5, Try.ntmps5
    go_wp2_with fail
    (with_reducible refine (awake06_any _).mono ?_)
    rintro e w1 ⟨rfl, hb1⟩
    have hg1 := blk_keep (heap_alloc_new w (Obj.cells (tabCells t0) 26)) hb1
    have R1 := Lib.hid (R0.out.below' hb1)
    have HB1 := Lib.hid (((Below.refl w.heap.size w).alloc (Nat.le_refl _) (Obj.cells (tabCells t0) 26)).trans (hb1.mono (by simp)))
    clear hb1 R0
    go_upto_region 5 with fail
    go_cut [22] (fun s22 wx => s22 = .bool (decide (a3 < 0 ∨ (n2 : Int) < a3)) ∧ wx = w1)
    case first =>
      by_cases h1 : a3 < 0
      · have hd1 := decT h1
        have hd2 := decT (show a3 < 0 ∨ (n2 : Int) < a3 from .inl h1)
        go_wp2_with fail
        go_meet
        exact ⟨by rw [hd2], rfl⟩
      · have hd1 := decF h1
        by_cases h2 : (n2 : Int) < a3
        · have hd2 := decT h2
          have hd3 := decT (show a3 < 0 ∨ (n2 : Int) < a3 from .inr h2)
          go_wp2_with fail
          go_meet
          exact ⟨by rw [hd3], rfl⟩
        · have hd2 := decF h2
          have hd3 := decF (show ¬ (a3 < 0 ∨ (n2 : Int) < a3) by omega)
          go_wp2_with fail
          go_meet
          exact ⟨by rw [hd3], rfl⟩
    case rest =>
      obtain ⟨rfl, rfl⟩ := hcut
      go_upto_if 22 with fail
      go_cut [3] (fun s3 wx => ∃ k : Nat, k ≤ n2 ∧ s3 = .int .i64 k ∧ wx = wc)
      case first =>
        by_cases h1 : a3 < 0 ∨ (n2 : Int) < a3
        · have hd2 := decT h1
          go_wp2_with fail
          go_meet
          exact ⟨n2, Nat.le_refl _, rfl, rfl⟩
        · have hd2 := decF h1
          go_wp2_with fail
          go_meet
          exact ⟨a3.toNat, by omega, int_eq (by omega), rfl⟩
      case rest =>
        obtain ⟨k, hk, rfl, rfl⟩ := hcut
        go_wp2_with (first | (with_reducible refine wpList_load_row rfl 26 _ rfl w.heap.size rfl 26 (tabCells t0) (0, 0) _ hg1 Try.underlying26 rfl (tab_row t0) ?_))
        (with_reducible refine (of_any t0 ht0 _ _ _ _ l2 R1.out (by omega)).mono ?_)
        rintro e w2 ⟨rfl, hb2⟩
        have hg2 : w2.drew.heap[w.heap.size]? = _ := blk_keep hg1 hb2.drew
        have R2 : Hid (Rd w2.drew w2.drew.heap.size 1 A2 n2 (bvs l2)) := Lib.hid (R1.out.below' hb2.drew)
        have HB2 : Hid (Below w.heap.size w w2.drew) := Lib.hid (HB1.out.trans (hb2.mono HB1.out.size)).drew
        clear hb2
        have hmt := moreN_lt ht0 l2 (s := 4294967295) (by omega)
        have hkc : k ≤ c2 := by omega
        go_wp2_with fail
        refine rb_start (by kernel_rfl) ?_
        refine rb_take 0 (v := ?_) rfl (by kernel_rfl) (by kernel_rfl) (by kernel_rfl) (by rfl) ?_ ?_
        rotate_left
        · intro w' hb'
          obtain ⟨hcc, hff⟩ := bcell hb'
          go_simp
          (try rfl)
        (try simp only [Act.put, List.setIfInBounds_toArray, List.set_cons_zero, List.set_cons_succ])
        refine rb_take_row 1 rfl (by kernel_rfl) (by kernel_rfl) (by kernel_rfl) (by rfl) 26 _ rfl _ rfl 26 (tabCells t0) (0, 0) _ (hg2) (by simp) Try.underlying26 rfl (tab_row _) ?_
        (try simp only [Act.put, List.setIfInBounds_toArray, List.set_cons_zero, List.set_cons_succ])
        refine rb_take 2 (v := ?_) rfl (by kernel_rfl) (by kernel_rfl) (by kernel_rfl) (by rfl) ?_ ?_
        rotate_left
        · intro w' hb'
          obtain ⟨hcc, hff⟩ := bcell hb'
          go_simp
          (try rfl)
        (try simp only [Act.put, List.setIfInBounds_toArray, List.set_cons_zero, List.set_cons_succ])
        refine rb_move 3 rfl (by kernel_rfl) (by rfl) (fun K hK => ?_)
        have HK := Lib.hid hK
        clear hK
        go_simp
        (with_reducible refine (rof_any t0 ht0 _ _ _ _ l2 R2.out (by omega)).mono ?_)
        rintro e w3 ⟨rfl, hb3⟩
        refine HK.out _ _ hb3 ?_
        clear HK K
        (try simp only [Act.put, List.setIfInBounds_toArray, List.set_cons_zero, List.set_cons_succ])
        have hg3 := blk_keep hg2 hb3
        have R3 := Lib.hid (R2.out.below' hb3)
        have HB3 := Lib.hid (HB2.out.trans (hb3.mono HB2.out.size))
        clear hb3
        refine rb_take 4 (v := ?_) rfl (by kernel_rfl) (by kernel_rfl) (by kernel_rfl) (by rfl) ?_ ?_
        rotate_left
        · intro w' hb'
          obtain ⟨hcc, hff⟩ := bcell hb'
          go_simp
          (try rfl)
        (try simp only [Act.put, List.setIfInBounds_toArray, List.set_cons_zero, List.set_cons_succ])
        refine rb_take 5 (v := ?_) rfl (by kernel_rfl) (by kernel_rfl) (by kernel_rfl) (by rfl) ?_ ?_
        rotate_left
        · intro w' hb'
          obtain ⟨hcc, hff⟩ := bcell hb'
          go_simp
          (try rfl)
        (try simp only [Act.put, List.setIfInBounds_toArray, List.set_cons_zero, List.set_cons_succ])
        refine rb_take_row 6 rfl (by kernel_rfl) (by kernel_rfl) (by kernel_rfl) (by rfl) 26 _ rfl _ rfl 26 (tabCells t0) (0, 0) _ (hg3) (by simp) Try.underlying26 rfl (tab_row _) ?_
        (try simp only [Act.put, List.setIfInBounds_toArray, List.set_cons_zero, List.set_cons_succ])
        refine rb_take 7 (v := ?_) rfl (by kernel_rfl) (by kernel_rfl) (by kernel_rfl) (by rfl) ?_ ?_
        rotate_left
        · intro w' hb'
          obtain ⟨hcc, hff⟩ := bcell hb'
          go_simp
          (try rfl)
        (try simp only [Act.put, List.setIfInBounds_toArray, List.set_cons_zero, List.set_cons_succ])
        refine rb_take 8 (v := ?_) rfl (by kernel_rfl) (by kernel_rfl) (by kernel_rfl) (by rfl) ?_ ?_
        rotate_left
        · intro w' hb'
          obtain ⟨hcc, hff⟩ := bcell hb'
          go_simp
          (try rfl)
        (try simp only [Act.put, List.setIfInBounds_toArray, List.set_cons_zero, List.set_cons_succ])
        refine rb_take_row 10 rfl (by kernel_rfl) (by kernel_rfl) (by kernel_rfl) (by rfl) 26 _ rfl _ rfl 26 (tabCells t0) (0, 0) _ (hg3) (by simp) Try.underlying26 rfl (tab_row _) ?_
        (try simp only [Act.put, List.setIfInBounds_toArray, List.set_cons_zero, List.set_cons_succ])
        refine rb_take 11 (v := ?_) rfl (by kernel_rfl) (by kernel_rfl) (by kernel_rfl) (by rfl) ?_ ?_
        rotate_left
        · intro w' hb'
          obtain ⟨hcc, hff⟩ := bcell hb'
          go_simp
          (try rfl)
        (try simp only [Act.put, List.setIfInBounds_toArray, List.set_cons_zero, List.set_cons_succ])
        refine rb_take 12 (v := ?_) rfl (by kernel_rfl) (by kernel_rfl) (by kernel_rfl) (by rfl) ?_ ?_
        rotate_left
        · intro w' hb'
          obtain ⟨hcc, hff⟩ := bcell hb'
          go_simp
          (try rfl)
        (try simp only [Act.put, List.setIfInBounds_toArray, List.set_cons_zero, List.set_cons_succ])
        refine rb_move 9 rfl (by kernel_rfl) (by rfl) (fun K hK => ?_)
        have HK := Lib.hid hK
        clear hK
        go_simp
        (with_reducible refine (more_any t0 ht0 s (by omega) _ (by omega) _ _ _ _ l2 R3.out (by omega)).mono ?_)
        rintro e w4 ⟨rfl, hb4⟩
        refine HK.out _ _ hb4 ?_
        clear HK K
        (try simp only [Act.put, List.setIfInBounds_toArray, List.set_cons_zero, List.set_cons_succ])
        have hg4 := blk_keep hg3 hb4
        have R4 := Lib.hid (R3.out.below' hb4)
        have HB4 := Lib.hid (HB3.out.trans (hb4.mono HB3.out.size))
        clear hb4
        refine rb_move 13 rfl (by kernel_rfl) (by rfl) (fun K hK => ?_)
        have HK := Lib.hid hK
        clear hK
        go_simp
        (with_reducible refine (rmore_any t0 ht0 s (by omega) _ (by omega) _ _ _ _ l2 R4.out (by omega)).mono ?_)
        rintro e w5 ⟨rfl, hb5⟩
        refine HK.out _ _ hb5 ?_
        clear HK K
        (try simp only [Act.put, List.setIfInBounds_toArray, List.set_cons_zero, List.set_cons_succ])
        have hg5 : w5.drew.heap[w.heap.size]? = _ := blk_keep hg4 hb5.drew
        have R5 : Hid (Rd w5.drew w5.drew.heap.size 1 A2 n2 (bvs l2)) := Lib.hid (R4.out.below' hb5.drew)
        have HB5 : Hid (Below w.heap.size w w5.drew) := Lib.hid (HB4.out.trans (hb5.mono HB4.out.size)).drew
        clear hb5
        refine rb_take 14 (v := ?_) rfl (by kernel_rfl) (by kernel_rfl) (by kernel_rfl) (by rfl) ?_ ?_
        rotate_left
        · intro w' hb'
          obtain ⟨hcc, hff⟩ := bcell hb'
          go_simp
          (try rfl)
        (try simp only [Act.put, List.setIfInBounds_toArray, List.set_cons_zero, List.set_cons_succ])
        refine rb_take 15 (v := ?_) rfl (by kernel_rfl) (by kernel_rfl) (by kernel_rfl) (by rfl) ?_ ?_
        rotate_left
        · intro w' hb'
          obtain ⟨hcc, hff⟩ := bcell hb'
          go_simp
          (try rfl)
        (try simp only [Act.put, List.setIfInBounds_toArray, List.set_cons_zero, List.set_cons_succ])
        refine rb_done (by kernel_rfl) ?_
        go_wp2_with fail
        refine rb_start (by kernel_rfl) ?_
        refine rb_take_row 0 rfl (by kernel_rfl) (by kernel_rfl) (by kernel_rfl) (by rfl) 26 _ rfl _ rfl 26 (tabCells t0) (0, 0) _ (hg5) (by simp) Try.underlying26 rfl (tab_row _) ?_
        (try simp only [Act.put, List.setIfInBounds_toArray, List.set_cons_zero, List.set_cons_succ])
        refine rb_take_row 1 rfl (by kernel_rfl) (by kernel_rfl) (by kernel_rfl) (by rfl) 26 _ rfl _ rfl 26 (tabCells t0) (0, 0) _ (hg5) (by simp) Try.underlying26 rfl (tab_row _) ?_
        (try simp only [Act.put, List.setIfInBounds_toArray, List.set_cons_zero, List.set_cons_succ])
        refine rb_take 2 (v := ?_) rfl (by kernel_rfl) (by kernel_rfl) (by kernel_rfl) (by rfl) ?_ ?_
        rotate_left
        · intro w' hb'
          obtain ⟨hcc, hff⟩ := bcell hb'
          go_simp
          (try rfl)
        (try simp only [Act.put, List.setIfInBounds_toArray, List.set_cons_zero, List.set_cons_succ])
        refine rb_take 3 (v := ?_) rfl (by kernel_rfl) (by kernel_rfl) (by kernel_rfl) (by rfl) ?_ ?_
        rotate_left
        · intro w' hb'
          obtain ⟨hcc, hff⟩ := bcell hb'
          go_simp
          (try rfl)
        (try simp only [Act.put, List.setIfInBounds_toArray, List.set_cons_zero, List.set_cons_succ])
        refine rb_take 4 (v := ?_) rfl (by kernel_rfl) (by kernel_rfl) (by kernel_rfl) (by rfl) ?_ ?_
        rotate_left
        · intro w' hb'
          obtain ⟨hcc, hff⟩ := bcell hb'
          go_simp
          (try rfl)
        (try simp only [Act.put, List.setIfInBounds_toArray, List.set_cons_zero, List.set_cons_succ])
        refine rb_take 6 (v := ?_) rfl (by kernel_rfl) (by kernel_rfl) (by kernel_rfl) (by rfl) ?_ ?_
        rotate_left
        · intro w' hb'
          obtain ⟨hcc, hff⟩ := bcell hb'
          go_simp
          (try rfl)
        (try simp only [Act.put, List.setIfInBounds_toArray, List.set_cons_zero, List.set_cons_succ])
        refine rb_take 7 (v := ?_) rfl (by kernel_rfl) (by kernel_rfl) (by kernel_rfl) (by rfl) ?_ ?_
        rotate_left
        · intro w' hb'
          obtain ⟨hcc, hff⟩ := bcell hb'
          go_simp
          (try rfl)
        (try simp only [Act.put, List.setIfInBounds_toArray, List.set_cons_zero, List.set_cons_succ])
        refine rb_take 8 (v := ?_) rfl (by kernel_rfl) (by kernel_rfl) (by kernel_rfl) (by rfl) ?_ ?_
        rotate_left
        · intro w' hb'
          obtain ⟨hcc, hff⟩ := bcell hb'
          go_simp
          (try rfl)
        (try simp only [Act.put, List.setIfInBounds_toArray, List.set_cons_zero, List.set_cons_succ])
        refine rb_take 10 (v := ?_) rfl (by kernel_rfl) (by kernel_rfl) (by kernel_rfl) (by rfl) ?_ ?_
        rotate_left
        · intro w' hb'
          obtain ⟨hcc, hff⟩ := bcell hb'
          go_simp
          (try rfl)
        (try simp only [Act.put, List.setIfInBounds_toArray, List.set_cons_zero, List.set_cons_succ])
        refine rb_move 5 rfl (by kernel_rfl) (by rfl) (fun K hK => ?_)
        have HK := Lib.hid hK
        clear hK
        go_simp
        (with_reducible refine (of_any t0 ht0 _ _ _ _ (l2.take k) (R5.out.btake hk) (by omega)).mono ?_)
        rintro e w6 ⟨rfl, hb6⟩
        refine HK.out _ _ hb6 ?_
        clear HK K
        (try simp only [Act.put, List.setIfInBounds_toArray, List.set_cons_zero, List.set_cons_succ])
        have hg6 := blk_keep hg5 hb6
        have R6 := Lib.hid (R5.out.below' hb6)
        have HB6 := Lib.hid (HB5.out.trans (hb6.mono HB5.out.size))
        clear hb6
        refine rb_move 9 rfl (by kernel_rfl) (by rfl) (fun K hK => ?_)
        have HK := Lib.hid hK
        clear hK
        go_simp
        (with_reducible refine (on_any t0 ht0 (ofN t0 (l2.take k)) (by unfold ofN; omega) _ rfl _ _ _ _ (l2.drop k) (R6.out.bcut hk nc2) (by omega)).mono ?_)
        rintro e w7 ⟨rfl, hb7⟩
        refine HK.out _ _ hb7 ?_
        clear HK K
        (try simp only [Act.put, List.setIfInBounds_toArray, List.set_cons_zero, List.set_cons_succ])
        have hg7 := blk_keep hg6 hb7
        have R7 := Lib.hid (R6.out.below' hb7)
        have HB7 := Lib.hid (HB6.out.trans (hb7.mono HB6.out.size))
        clear hb7
        rw [onN_ofN ht0, List.take_append_drop]
        refine rb_take 11 (v := ?_) rfl (by kernel_rfl) (by kernel_rfl) (by kernel_rfl) (by rfl) ?_ ?_
        rotate_left
        · intro w' hb'
          obtain ⟨hcc, hff⟩ := bcell hb'
          go_simp
          (try rfl)
        (try simp only [Act.put, List.setIfInBounds_toArray, List.set_cons_zero, List.set_cons_succ])
        refine rb_take 12 (v := ?_) rfl (by kernel_rfl) (by kernel_rfl) (by kernel_rfl) (by rfl) ?_ ?_
        rotate_left
        · intro w' hb'
          obtain ⟨hcc, hff⟩ := bcell hb'
          go_simp
          (try rfl)
        (try simp only [Act.put, List.setIfInBounds_toArray, List.set_cons_zero, List.set_cons_succ])
        refine rb_take_row 13 rfl (by kernel_rfl) (by kernel_rfl) (by kernel_rfl) (by rfl) 26 _ rfl _ rfl 26 (tabCells t0) (0, 0) _ (hg7) (by simp) Try.underlying26 rfl (tab_row _) ?_
        (try simp only [Act.put, List.setIfInBounds_toArray, List.set_cons_zero, List.set_cons_succ])
        refine rb_take_row 14 rfl (by kernel_rfl) (by kernel_rfl) (by kernel_rfl) (by rfl) 26 _ rfl _ rfl 26 (tabCells t0) (0, 0) _ (hg7) (by simp) Try.underlying26 rfl (tab_row _) ?_
        (try simp only [Act.put, List.setIfInBounds_toArray, List.set_cons_zero, List.set_cons_succ])
        refine rb_take 15 (v := ?_) rfl (by kernel_rfl) (by kernel_rfl) (by kernel_rfl) (by rfl) ?_ ?_
        rotate_left
        · intro w' hb'
          obtain ⟨hcc, hff⟩ := bcell hb'
          go_simp
          (try rfl)
        (try simp only [Act.put, List.setIfInBounds_toArray, List.set_cons_zero, List.set_cons_succ])
        refine rb_take 16 (v := ?_) rfl (by kernel_rfl) (by kernel_rfl) (by kernel_rfl) (by rfl) ?_ ?_
        rotate_left
        · intro w' hb'
          obtain ⟨hcc, hff⟩ := bcell hb'
          go_simp
          (try rfl)
        (try simp only [Act.put, List.setIfInBounds_toArray, List.set_cons_zero, List.set_cons_succ])
        refine rb_take 17 (v := ?_) rfl (by kernel_rfl) (by kernel_rfl) (by kernel_rfl) (by rfl) ?_ ?_
        rotate_left
        · intro w' hb'
          obtain ⟨hcc, hff⟩ := bcell hb'
          go_simp
          (try rfl)
        (try simp only [Act.put, List.setIfInBounds_toArray, List.set_cons_zero, List.set_cons_succ])
        refine rb_take 18 (v := ?_) rfl (by kernel_rfl) (by kernel_rfl) (by kernel_rfl) (by rfl) ?_ ?_
        rotate_left
        · intro w' hb'
          obtain ⟨hcc, hff⟩ := bcell hb'
          go_simp
          (try rfl)
        (try simp only [Act.put, List.setIfInBounds_toArray, List.set_cons_zero, List.set_cons_succ])
        refine rb_take 20 (v := ?_) rfl (by kernel_rfl) (by kernel_rfl) (by kernel_rfl) (by rfl) ?_ ?_
        rotate_left
        · intro w' hb'
          obtain ⟨hcc, hff⟩ := bcell hb'
          go_simp
          (try rfl)
        (try simp only [Act.put, List.setIfInBounds_toArray, List.set_cons_zero, List.set_cons_succ])
        refine rb_take 21 (v := ?_) rfl (by kernel_rfl) (by kernel_rfl) (by kernel_rfl) (by rfl) ?_ ?_
        rotate_left
        · intro w' hb'
          obtain ⟨hcc, hff⟩ := bcell hb'
          go_simp
          (try rfl)
        (try simp only [Act.put, List.setIfInBounds_toArray, List.set_cons_zero, List.set_cons_succ])
        refine rb_take 22 (v := ?_) rfl (by kernel_rfl) (by kernel_rfl) (by kernel_rfl) (by rfl) ?_ ?_
        rotate_left
        · intro w' hb'
          obtain ⟨hcc, hff⟩ := bcell hb'
          go_simp
          (try rfl)
        (try simp only [Act.put, List.setIfInBounds_toArray, List.set_cons_zero, List.set_cons_succ])
        refine rb_take_row 24 rfl (by kernel_rfl) (by kernel_rfl) (by kernel_rfl) (by rfl) 26 _ rfl _ rfl 26 (tabCells t0) (0, 0) _ (hg7) (by simp) Try.underlying26 rfl (tab_row _) ?_
        (try simp only [Act.put, List.setIfInBounds_toArray, List.set_cons_zero, List.set_cons_succ])
        refine rb_take 25 (v := ?_) rfl (by kernel_rfl) (by kernel_rfl) (by kernel_rfl) (by rfl) ?_ ?_
        rotate_left
        · intro w' hb'
          obtain ⟨hcc, hff⟩ := bcell hb'
          go_simp
          (try rfl)
        (try simp only [Act.put, List.setIfInBounds_toArray, List.set_cons_zero, List.set_cons_succ])
        refine rb_take 26 (v := ?_) rfl (by kernel_rfl) (by kernel_rfl) (by kernel_rfl) (by rfl) ?_ ?_
        rotate_left
        · intro w' hb'
          obtain ⟨hcc, hff⟩ := bcell hb'
          go_simp
          (try rfl)
        (try simp only [Act.put, List.setIfInBounds_toArray, List.set_cons_zero, List.set_cons_succ])
        refine rb_move 19 rfl (by kernel_rfl) (by rfl) (fun K hK => ?_)
        have HK := Lib.hid hK
        clear hK
        go_simp
        (with_reducible refine (more_any t0 ht0 s (by omega) _ rfl _ _ _ _ (l2.take k) (R7.out.btake hk) (by omega)).mono ?_)
        rintro e w8 ⟨rfl, hb8⟩
        refine HK.out _ _ hb8 ?_
        clear HK K
        (try simp only [Act.put, List.setIfInBounds_toArray, List.set_cons_zero, List.set_cons_succ])
        have hg8 := blk_keep hg7 hb8
        have R8 := Lib.hid (R7.out.below' hb8)
        have HB8 := Lib.hid (HB7.out.trans (hb8.mono HB7.out.size))
        clear hb8
        refine rb_move 23 rfl (by kernel_rfl) (by rfl) (fun K hK => ?_)
        have HK := Lib.hid hK
        clear hK
        go_simp
        (with_reducible refine (more_any t0 ht0 (moreN t0 s (l2.take k)) (moreN_lt ht0 _ (by omega)) _ rfl _ _ _ _ (l2.drop k) (R8.out.bcut hk nc2) (by omega)).mono ?_)
        rintro e w9 ⟨rfl, hb9⟩
        refine HK.out _ _ hb9 ?_
        clear HK K
        (try simp only [Act.put, List.setIfInBounds_toArray, List.set_cons_zero, List.set_cons_succ])
        have hg9 := blk_keep hg8 hb9
        have R9 := Lib.hid (R8.out.below' hb9)
        have HB9 := Lib.hid (HB8.out.trans (hb9.mono HB8.out.size))
        clear hb9
        rw [← moreN_append, List.take_append_drop]
        refine rb_move 27 rfl (by kernel_rfl) (by rfl) (fun K hK => ?_)
        have HK := Lib.hid hK
        clear hK
        go_simp
        (with_reducible refine (more_any t0 ht0 s (by omega) _ rfl _ _ _ _ l2 R9.out (by omega)).mono ?_)
        rintro e w10 ⟨rfl, hb10⟩
        refine HK.out _ _ hb10 ?_
        clear HK K
        (try simp only [Act.put, List.setIfInBounds_toArray, List.set_cons_zero, List.set_cons_succ])
        refine rb_take 28 (v := ?_) rfl (by kernel_rfl) (by kernel_rfl) (by kernel_rfl) (by rfl) ?_ ?_
        rotate_left
        · intro w' hb'
          obtain ⟨hcc, hff⟩ := bcell hb'
          go_simp
          (try rfl)
        (try simp only [Act.put, List.setIfInBounds_toArray, List.set_cons_zero, List.set_cons_succ])
        refine rb_take 29 (v := ?_) rfl (by kernel_rfl) (by kernel_rfl) (by kernel_rfl) (by rfl) ?_ ?_
        rotate_left
        · intro w' hb'
          obtain ⟨hcc, hff⟩ := bcell hb'
          go_simp
          (try rfl)
        (try simp only [Act.put, List.setIfInBounds_toArray, List.set_cons_zero, List.set_cons_succ])
        refine rb_take 30 (v := ?_) rfl (by kernel_rfl) (by kernel_rfl) (by kernel_rfl) (by rfl) ?_ ?_
        rotate_left
        · intro w' hb'
          obtain ⟨hcc, hff⟩ := bcell hb'
          go_simp
          (try rfl)
        (try simp only [Act.put, List.setIfInBounds_toArray, List.set_cons_zero, List.set_cons_succ])
        refine rb_done (by kernel_rfl) ?_
        go_wp2
        all_goals (go_ret; exact ⟨rfl, HB9.out.trans (hb10.mono HB9.out.size)⟩)
end Go.Proofs.Ytkihdgkcdnepbaa
