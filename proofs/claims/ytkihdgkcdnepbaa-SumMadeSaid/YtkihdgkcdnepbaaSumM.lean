/- The law SumMade, walked. No conditions. -/
import Derived.Test.YtkihdgkcdnepbaaSumL
import Derived.Test.YtkihdgkcdnepbaaReg
namespace Go.Proofs.Ytkihdgkcdnepbaa
set_option linter.unusedSimpArgs false
set_option linter.unusedVariables false
open Go.RowKit
theorem eqTab (w : World) : (binOp .eql 26 (.agg (tabCells byteN)) (.agg (tabCells byteN))).run Try.prog w = .ok (.bool true) w := by kernel_rfl

set_option maxHeartbeats 1000000 in
theorem walk_SumMade (w : World) (A0 : Option Addr) (n0 c0 : Nat) (l0 : List UInt8) (rd0 : Rd w w.heap.size 1 A0 n0 (bvs l0)) (nc0 : n0 ≤ c0) (cm0 : c0 ≤ maxLen) :
    Calls Try.prog 3 #[.slice A0 n0 c0] w fun e w' => e = .returned (.bool true) ∧ Below w.heap.size w w' := by
  unfold maxLen at cm0
  have R0 := Lib.hid rd0
  clear rd0
  have hz := zero26
  by_cases hlong : n0 ≤ 3000
  case neg =>
    have hd := decT (show (3000 : Int) < n0 by omega)
    go_enter Try.func3, Try.ntmps3
    go_wp2_with fail
    (with_reducible refine (awake06_any _).mono ?_)
    rintro e w1 ⟨rfl, hb1⟩
    go_wp2_with fail
    go_ret
    exact ⟨rfl, hb1⟩
  case pos =>
    have hd := decF (show ¬ (3000 : Int) < n0 by omega)
    go_enter Try.func3, Try.ntmps3
    go_wp2_with fail
    (with_reducible refine (awake06_any _).mono ?_)
    rintro e w1 ⟨rfl, hb1⟩
    go_wp2_with fail
    (with_reducible refine (make_any _).mono ?_)
    rintro e w2 ⟨rfl, hb2⟩
    go_wp2_with (first
      | (with_reducible refine wpList_store_row rfl 26 _ _ rfl w2.heap.size (tabCells byteN) rfl rfl 26 (tabCells fun _ => 0) (heap_alloc_new w2 _) (tab_row _) (by rw [tabCells_size, tabCells_size]) (tabCells_one _) ?_))
    rw [World.setRow_alloc_new]
    simp only [Act.put]
    have hq := eqTab
    have hB : Below w.heap.size w (w2.alloc (Obj.cells (tabCells byteN) 26)).drew := ((hb1.trans (hb2.mono hb1.size)).alloc (Nat.le_trans hb1.size hb2.size) _).drew
    have R2 := Lib.hid (R0.out.below' hB)
    have hg2 : (w2.alloc (Obj.cells (tabCells byteN) 26)).drew.heap[w2.heap.size]? = _ := heap_alloc_new w2 (Obj.cells (tabCells byteN) 26)
    refine rb_start (by kernel_rfl) ?_
    refine rb_take_row 0 rfl (by kernel_rfl) (by kernel_rfl) (by kernel_rfl) (by rfl) 26 _ rfl _ rfl 26 (tabCells byteN) (0, 0) _ (hg2) (by simp) Try.underlying26 rfl (tab_row _) ?_
    (try simp only [Act.put, List.setIfInBounds_toArray, List.set_cons_zero, List.set_cons_succ])
    refine rb_move 1 rfl (by kernel_rfl) (by rfl) (fun K hK => ?_)
    have HK := Lib.hid hK
    clear hK
    go_simp
    (with_reducible refine (made_any _).mono ?_)
    rintro e w3 ⟨rfl, hb3⟩
    refine HK.out _ _ hb3 ?_
    clear HK K
    (try simp only [Act.put, List.setIfInBounds_toArray, List.set_cons_zero, List.set_cons_succ])
    have hg3 := blk_keep hg2 hb3
    refine rb_take 2 (v := ?_) rfl (by kernel_rfl) (by kernel_rfl) (by kernel_rfl) (by rfl) ?_ ?_
    rotate_left
    · intro w' hb'
      obtain ⟨hcc, hff⟩ := bcell hb'
      go_simp
      (try rfl)
    (try simp only [Act.put, List.setIfInBounds_toArray, List.set_cons_zero, List.set_cons_succ])
    refine rb_take 3 (v := ?_) rfl (by kernel_rfl) (by kernel_rfl) (by kernel_rfl) (by rfl) ?_ ?_
    rotate_left
    · intro w' hb'
      obtain ⟨hcc, hff⟩ := bcell hb'
      go_simp
      (try rfl)
    (try simp only [Act.put, List.setIfInBounds_toArray, List.set_cons_zero, List.set_cons_succ])
    refine rb_take_row 4 rfl (by kernel_rfl) (by kernel_rfl) (by kernel_rfl) (by rfl) 26 _ rfl _ rfl 26 (tabCells byteN) (0, 0) _ (hg3) (by simp) Try.underlying26 rfl (tab_row _) ?_
    (try simp only [Act.put, List.setIfInBounds_toArray, List.set_cons_zero, List.set_cons_succ])
    refine rb_take 5 (v := ?_) rfl (by kernel_rfl) (by kernel_rfl) (by kernel_rfl) (by rfl) ?_ ?_
    rotate_left
    · intro w' hb'
      obtain ⟨hcc, hff⟩ := bcell hb'
      go_simp
      (try rfl)
    (try simp only [Act.put, List.setIfInBounds_toArray, List.set_cons_zero, List.set_cons_succ])
    refine rb_take 7 (v := ?_) rfl (by kernel_rfl) (by kernel_rfl) (by kernel_rfl) (by rfl) ?_ ?_
    rotate_left
    · intro w' hb'
      obtain ⟨hcc, hff⟩ := bcell hb'
      go_simp
      (try rfl)
    (try simp only [Act.put, List.setIfInBounds_toArray, List.set_cons_zero, List.set_cons_succ])
    refine rb_move 6 rfl (by kernel_rfl) (by rfl) (fun K hK => ?_)
    have HK := Lib.hid hK
    clear hK
    go_simp
    (with_reducible refine (of_any byteN byteN_tab _ _ _ _ l0 (R2.out.below' hb3) (by omega)).mono ?_)
    rintro e w4 ⟨rfl, hb4⟩
    refine HK.out _ _ hb4 ?_
    clear HK K
    (try simp only [Act.put, List.setIfInBounds_toArray, List.set_cons_zero, List.set_cons_succ])
    refine rb_move 8 rfl (by kernel_rfl) (by rfl) (fun K hK => ?_)
    have HK := Lib.hid hK
    clear hK
    go_simp
    (with_reducible refine (bits_any _ _ _ _ l0 ((R2.out.below' hb3).below' hb4) (by omega)).mono ?_)
    rintro e w5 ⟨rfl, rfl⟩
    refine HK.out _ _ (Below.refl _ _) ?_
    clear HK K
    (try simp only [Act.put, List.setIfInBounds_toArray, List.set_cons_zero, List.set_cons_succ])
    have he := bitsN_eq l0
    refine rb_take 9 (v := ?_) rfl (by kernel_rfl) (by kernel_rfl) (by kernel_rfl) (by rfl) ?_ ?_
    rotate_left
    · intro w' hb'
      obtain ⟨hcc, hff⟩ := bcell hb'
      go_simp
      (try rfl)
    (try simp only [Act.put, List.setIfInBounds_toArray, List.set_cons_zero, List.set_cons_succ])
    refine rb_take 10 (v := ?_) rfl (by kernel_rfl) (by kernel_rfl) (by kernel_rfl) (by rfl) ?_ ?_
    rotate_left
    · intro w' hb'
      obtain ⟨hcc, hff⟩ := bcell hb'
      go_simp
      (try rfl)
    (try simp only [Act.put, List.setIfInBounds_toArray, List.set_cons_zero, List.set_cons_succ])
    refine rb_take 11 (v := ?_) rfl (by kernel_rfl) (by kernel_rfl) (by kernel_rfl) (by rfl) ?_ ?_
    rotate_left
    · intro w' hb'
      obtain ⟨hcc, hff⟩ := bcell hb'
      go_simp
      (try rfl)
    (try simp only [Act.put, List.setIfInBounds_toArray, List.set_cons_zero, List.set_cons_succ])
    refine rb_done (by kernel_rfl) ?_
    go_wp2
    go_ret
    exact ⟨rfl, (hB.trans (hb3.mono hB.size)).trans (hb4.mono (Nat.le_trans hB.size hb3.size))⟩
end Go.Proofs.Ytkihdgkcdnepbaa
