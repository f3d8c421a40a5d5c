/- The law FrameGets, walked. No conditions. -/
import Derived.Test.YtkihdgkcdnepbaaFrameR
namespace Go.Proofs.Ytkihdgkcdnepbaa
set_option linter.unusedSimpArgs false
set_option linter.unusedVariables false
open Go.RowKit

theorem scanF_rows (t : Nat → Nat) (l : List UInt8) : ∀ f k, (scanF t l f k).1.length ≤ f := by
  intro f
  induction f with
  | zero => intro k; simp [scanF]
  | succ f ih =>
    intro k
    unfold scanF
    split
    · simp
    · simpa using ih _

set_option maxRecDepth 100000 in
set_option maxHeartbeats 4000000 in
theorem walk_FrameGets (w : World) (t0 : Nat → Nat) (ht0 : ∀ i, i < 256 → t0 i < 4294967296) (A1 : Option Addr) (n1 c1 : Nat) (l1 : List UInt8) (rd1 : Rd w w.heap.size 1 A1 n1 (bvs l1)) (nc1 : n1 ≤ c1) (cm1 : c1 ≤ maxLen) (a2 : Int) (w2 : (Lit.int .i64 a2).wf = true) :
    Calls Try.prog 9 #[.agg (tabCells t0), .slice A1 n1 c1, .int .i64 a2] w fun e w' => e = .returned (.bool true) ∧ Below w.heap.size w w' := by
  have cm2 := cm1
  unfold maxLen at cm2
  have b2 := bounds_i64 w2
  have hl1 := rd1.blen
  have R1 := Lib.hid rd1
  have B0 := Lib.hid ((Below.refl w.heap.size w).alloc (Nat.le_refl _) (Obj.cells (tabCells t0) 26))
  have HG0 := Lib.hid (heap_alloc_new w (Obj.cells (tabCells t0) 26))
  clear rd1 w2
  go_enter Try.func9, Try.ntmps9
  go_wp2_with fail
  (with_reducible refine (awake07_any _).mono ?_)
  rintro e w1 ⟨rfl, hb1⟩
  have B1 := Lib.hid (B0.out.trans (hb1.mono B0.out.size))
  have HG1 := Lib.hid (blk_keep HG0.out hb1)
  clear hb1
  go_upto_region 3 with fail
  by_cases g1 : 3000 < n1
  · have d1 := decT (show (3000 : Int) < n1 by omega)
    go_wp2_with fail
    go_ret
    exact ⟨rfl, B1.out⟩
  · have d1 := decF (show ¬ (3000 : Int) < n1 by omega)
    go_wp2_with (first | (with_reducible refine wpList_load_row rfl 26 _ rfl w.heap.size rfl 26 (tabCells t0) (0, 0) _ HG1.out Try.underlying26 rfl (tab_row t0) ?_))
    (with_reducible refine (fscan_any _ _ _ l1 t0 ht0 _ (R1.out.below' B1.out) nc1 (by omega) (by omega)).mono ?_)
    rintro e w3 ⟨A3, n3, c3, rfl, ho3, hb3⟩
    have B3 := Lib.hid (B1.out.trans (hb3.mono B1.out.size))
    have HG3 := Lib.hid (blk_keep HG1.out hb3)
    have O3 := Lib.hid ho3
    clear hb3 ho3
    go_wp2_with (first | (with_reducible refine wpList_load_row rfl 26 _ rfl w.heap.size rfl 26 (tabCells t0) (0, 0) _ HG3.out Try.underlying26 rfl (tab_row t0) ?_))
    (with_reducible refine (rscan_any _ _ _ l1 t0 ht0 _ (R1.out.below' B3.out) nc1 (by omega) cm1).mono ?_)
    rintro e w5 ⟨A5, n5, c5, rfl, ho5, hb5⟩
    have B5 := Lib.hid (B3.out.trans (hb5.mono B3.out.size))
    have HG5 := Lib.hid (blk_keep HG3.out hb5)
    have O5 := Lib.hid ho5
    have O35 := Lib.hid (O3.out.below hb5)
    clear hb5 ho5
    have hrl : (scanN t0 l1).1.length ≤ l1.length + 1 := scanF_rows _ _ _ _
    have hn3 := O3.out.len
    have hn5 := O5.out.len
    generalize (scanN t0 l1).1 = RS at *
    generalize (scanN t0 l1).2 = ES at *
    have d2 : ((ES : Int) != ES) = false := by simp
    go_wp2_with fail
    (with_reducible refine (same_any _ _ _ RS _ _ _ RS _ O35.out.rd O5.out.rd (by omega) (by omega)).mono ?_)
    rintro e w6 ⟨rfl, hb6⟩
    rw [show decide (RS = RS) = true from decT rfl]
    have B6 := Lib.hid (B5.out.trans (hb6.mono B5.out.size))
    have HG6 := Lib.hid (blk_keep HG5.out hb6)
    clear hb6 hn3 hn5 hrl
    go_wp2_with (first | (with_reducible refine wpList_load_row rfl 26 _ rfl w.heap.size rfl 26 (tabCells t0) (0, 0) _ HG6.out Try.underlying26 rfl (tab_row t0) ?_))
    (with_reducible refine (fget_any _ _ _ l1 _ t0 ht0 _ (R1.out.below' B6.out) nc1 (by omega) (by omega)).mono ?_)
    rintro e w7 ⟨A7, n7, c7, rfl, ho7, hb7⟩
    have B7 := Lib.hid (B6.out.trans (hb7.mono B6.out.size))
    have HG7 := Lib.hid (blk_keep HG6.out hb7)
    have O7 := Lib.hid ho7
    clear hb7 ho7
    by_cases gA : a2 < 0 ∨ (n1 : Int) < a2
    · have HX : Hid (fgetN t0 l1 a2 = ([], 0, 2)) := Lib.hid (by unfold fgetN; rw [if_pos (by rw [hl1]; exact gA)])
      obtain rfl : n7 = 0 := by have := O7.out; rw [HX.out] at this; exact this.len.symm
      rw [HX.out]
      by_cases gB : a2 < 0
      · have dB := decT gB
        go_wp2_with fail
        go_ret
        exact ⟨rfl, B7.out⟩
      · have dB := decF gB
        have dC := decT (show (n1 : Int) < a2 by omega)
        go_wp2_with fail
        go_ret
        exact ⟨rfl, B7.out⟩
    · have dB := decF (show ¬ a2 < 0 by omega)
      have dC := decF (show ¬ (n1 : Int) < a2 by omega)
      obtain ⟨k, rfl⟩ : ∃ k : Nat, a2 = k := ⟨a2.toNat, by omega⟩
      have HX := Lib.hid (show fgetN t0 l1 k = match fget t0 (l1.drop k) with | none => ([], 0, 8) | some b => (b, (k : Int) + 8 + (b.length : Nat), 0) by unfold fgetN; rw [if_neg (by omega), Int.toNat_natCast]; cases fget t0 (l1.drop k) <;> rfl)
      obtain ⟨P, hP⟩ : ∃ P, fgetN t0 l1 k = P := ⟨_, rfl⟩
      rw [hP]
      have HP := Lib.hid hP
      clear hP
      obtain ⟨p1, p2, p3⟩ := P
      go_wp2_with (first | (with_reducible refine wpList_load_row rfl 26 _ rfl w.heap.size rfl 26 (tabCells t0) (0, 0) _ HG7.out Try.underlying26 rfl (tab_row t0) ?_))
      (with_reducible refine (rgetF_any _ _ _ l1 k t0 ht0 _ _ (Nat.le_refl _) (R1.out.below' B7.out) (by omega) nc1 (by omega) cm1).mono ?_)
      rintro e w8 ⟨hb8, he⟩
      have O8 := Lib.hid (O7.out.below hb8)
      have B78 := Lib.hid hb8
      have B8 := Lib.hid (B7.out.trans (hb8.mono B7.out.size))
      clear hb8
      cases hfg : fget t0 (l1.drop k) with
      | none =>
        rw [hfg] at he
        obtain rfl := he
        have HX2 : Hid (fgetN t0 l1 k = ([], 0, 8)) := Lib.hid (by rw [HX.out, hfg])
        obtain rfl : n7 = 0 := by have := O7.out; rw [HX2.out] at this; exact this.len.symm
        have hpp := HP.out.symm.trans HX2.out
        injection hpp with hp1 hp2
        injection hp2 with hp2 hp3
        subst hp1 hp2 hp3
        clear hfg
        go_wp2_with fail
        go_ret
        exact ⟨rfl, B8.out⟩
      | some b =>
        rw [hfg] at he
        obtain ⟨A9, n9, c9, rfl, hn9, hc9, rd9⟩ := he
        have HX2 : Hid (fgetN t0 l1 k = (b, (k : Int) + 8 + (b.length : Nat), 0)) := Lib.hid (by rw [HX.out, hfg])
        have hpp := HP.out.symm.trans HX2.out
        injection hpp with hp1 hp2
        injection hp2 with hp2 hp3
        subst hp1 hp2 hp3
        have S1 := str_of w8 A7 n7 c7 _ _ O8.out.rd
        rw [HX2.out] at S1
        have S2 := str_of w8 A9 n9 c9 _ _ (rd9.below' B78.out)
        have dE : (((k : Int) + 8 + (p1.length : Nat)) == ((k + 8 + p1.length : Nat) : Int)) = true := by simp
        clear hfg
        go_wp2_with fail
        go_ret
        exact ⟨rfl, B8.out⟩
end Go.Proofs.Ytkihdgkcdnepbaa
