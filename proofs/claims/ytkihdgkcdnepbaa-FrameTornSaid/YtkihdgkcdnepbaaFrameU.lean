/- Frame, walks: the reference's four, Frame; the chapter's example. Conditions: slices shorter than 2^32. -/
import Derived.Test.YtkihdgkcdnepbaaFrameV
namespace Go.Proofs.Ytkihdgkcdnepbaa
set_option linter.unusedSimpArgs false
set_option linter.unusedVariables false
open Go.RowKit

theorem leBk_take (m u k : Nat) (h : k < m) : (leB m u).take (k + 1) = (leB m u).take k ++ [byteOf (u / 256 ^ k % 256)] := by
  rw [List.take_succ_eq_append_getElem (by rw [leB_len]; exact h), leB_get]
set_option maxHeartbeats 1000000 in
theorem rfour_any (U : Nat) (ui : Int) (hu : ui = (U : Nat)) (w : World) (hU : U < 4294967296) : Calls Try.prog 45 #[.int .u32 ui] w (RetB w (leB 4 U)) := by
  subst hu
  have O2 := Lib.hid (OwnB.empty (base := w.heap.size) w (Nat.le_refl _))
  have B2 := Lib.hid ((Below.refl w.heap.size w).alloc (Nat.le_refl _) (Obj.cells #[] 5))
  go_enter Try.func45, Try.ntmps45
  go_wp2_with fail
  go_loopw [0, 3, 4] (fun s0 s3 s4 wr => ∃ (k u n' c' : Nat) (A' : Option Addr), k ≤ 4 ∧ s4 = .int .i64 k ∧ s0 = .int .u32 u ∧ u = U / 256 ^ k ∧ s3 = .slice A' n' c' ∧ OwnB wr w.heap.size A' n' c' ((leB 4 U).take k) ∧ Below w.heap.size w wr) (fun _ _ s4 _ => 4 - (intOf s4).toNat)
  case atStart => exact ⟨0, U, _, _, _, by omega, rfl, rfl, by simp, rfl, by simpa using O2.out, B2.out⟩
  case round =>
    obtain ⟨k, u, n', c', A', hk, rfl, rfl, hu, rfl, hO, hB⟩ := hrel
    have HU := Lib.hid hu
    have O3 := Lib.hid hO
    have B3 := Lib.hid hB
    have hn' := hO.len
    rw [List.length_take, leB_len] at hn'
    have hn2 : n' ≤ 4 := by omega
    have hu64 : u < 4294967296 := by rw [hu]; exact Nat.lt_of_le_of_lt (Nat.div_le_self _ _) hU
    clear hu hO hB hn'
    by_cases hk2 : k < 4
    · have hd := decT (show (k : Int) < 4 by omega)
      have HB8 := Lib.hid (byteOf_toNat (show u % 256 < 256 by omega))
      go_wp2_with (first | (at_builtin; (with_reducible refine wpList_app _ rfl _ _ rfl w.heap.size _ _ _ _ rfl (O3.out.alloc _) _ _ _ [byteOf (u % 256)] rfl ?_ ?_ ?_ ?_)))
      · first | exact Rd.one _ _ _ (by rw [HB8.out]; try omega) | exact Rd.one' _ _ _ (by rw [HB8.out]; try omega)
      · omega
      · first | exact Nat.le_succ_of_le B3.out.size | (simp; exact Nat.le_succ_of_le B3.out.size)
      intro A4 c4 w4 ho4 hg4 _
      have B4 := Lib.hid ((B3.out.alloc B3.out.size _).grown hg4 (by simp; exact Nat.le_succ_of_le B3.out.size) fun k hk => (O3.out.lt k hk).1)
      have O4 := Lib.hid ho4
      clear ho4 hg4
      go_wp2_with fail
      go_roundw
      case rel => exact ⟨k + 1, u / 256, _, _, _, by omega, by go_num, int_eq (by omega), by rw [HU.out, Nat.div_div_eq_div_mul, Nat.pow_succ], rfl, by rw [leBk_take 4 U k hk2, ← HU.out]; exact O4.out, B4.out⟩
      case measure => simp [intOf]; omega
    · have hd := decF (show ¬ (k : Int) < 4 by omega)
      go_wp2_with fail
      go_ret
      exact ⟨_, _, _, rfl, by rw [show leB 4 U = (leB 4 U).take k from (List.take_of_length_le (by rw [leB_len]; omega)).symm]; exact O3.out, B3.out⟩

set_option maxHeartbeats 2000000 in
theorem rframe_any (t : Nat → Nat) (ht : ∀ i, i < 256 → t i < 4294967296) (A2 : Option Addr) (n2 c2 : Nat) (l2 : List UInt8) (w : World)
    (h2 : Rd w w.heap.size 1 A2 n2 (bvs l2)) (hn2 : n2 ≤ 4294967295) :
    Calls Try.prog 31 #[.agg (tabCells t), .slice A2 n2 c2] w (RetB w (frameN t l2)) := by
  have hl2 := h2.blen
  have R20 := Lib.hid h2
  have R2 := Lib.hid (h2.alloc' (Obj.cells (tabCells t) 26))
  have B0 := Lib.hid ((Below.refl w.heap.size w).alloc (Nat.le_refl _) (Obj.cells (tabCells t) 26))
  have HG0 := Lib.hid (heap_alloc_new w (Obj.cells (tabCells t) 26))
  clear h2
  go_enter Try.func31, Try.ntmps31
  go_wp2_with fail
  (with_reducible refine (rfour_any n2 _ (by omega) _ (by omega)).mono ?_)
  rintro e w1 ⟨A3, n3, c3, rfl, hO3, hB⟩
  have hn3 := hO3.len
  rw [leB_len] at hn3
  subst hn3
  have B01 := Lib.hid hB
  have B1 := Lib.hid (B0.out.trans (hB.mono B0.out.size))
  have O3 := Lib.hid hO3
  clear hB hO3
  go_wp2_with (first | (at_builtin; (with_reducible refine wpList_app _ rfl _ _ rfl w1.heap.size _ _ _ [] rfl (OwnB.empty _ (Nat.le_refl _)) _ _ _ (leB 4 n2) rfl ?_ ?_ ?_ ?_)))
  · exact O3.out.rd.alloc' _
  · omega
  · simp
  intro A4 c4 w4 ho4 hg4 _
  have B14 := Lib.hid (((Below.refl w1.heap.size w1).alloc (Nat.le_refl _) _).grown hg4 (by simp) fun k hk => by simp [Value.ownBlock] at hk; omega)
  have O4 := Lib.hid ho4
  clear ho4 hg4
  go_wp2_with (first | (at_builtin; (with_reducible refine wpList_app _ rfl _ _ rfl w1.heap.size _ _ _ _ rfl O4.out _ _ _ l2 rfl ?_ ?_ ?_ ?_)))
  · exact (R2.out.below' B01.out).below' B14.out
  · omega
  · exact B14.out.size
  intro A5 c5 w5 ho5 hg5 _
  have B15 := Lib.hid (B14.out.grown hg5 B14.out.size fun k hk => (O4.out.lt k hk).1)
  have O5 := Lib.hid ho5
  clear ho5 hg5
  have HG5 := Lib.hid (blk_keep (blk_keep HG0.out B01.out) B15.out)
  go_wp2_with (first | (with_reducible refine wpList_load_row rfl 26 _ rfl w.heap.size rfl 26 (tabCells t) (0, 0) _ HG5.out Try.underlying26 rfl (tab_row t) ?_))
  (with_reducible refine (rof_any t ht _ _ _ _ _ O5.out.rd (by omega)).mono ?_)
  rintro e w6 ⟨rfl, hb6⟩
  have B16 := Lib.hid (B15.out.trans (hb6.mono B15.out.size))
  clear hb6
  go_wp2_with fail
  (with_reducible refine (rfour_any _ _ rfl _ (ofN_lt _)).mono ?_)
  rintro e w7 ⟨A7, n7, c7, rfl, ho7, hb7⟩
  have hn7 := ho7.len
  rw [leB_len] at hn7
  subst hn7
  have B17 := Lib.hid (B16.out.trans (hb7.mono B16.out.size))
  have O7 := Lib.hid ho7
  clear hb7 ho7
  go_wp2_with (first | (at_builtin; (with_reducible refine wpList_app _ rfl _ _ rfl w.heap.size _ _ _ _ rfl ((O3.out.below B17.out).base_le B0.out.size) _ _ _ _ rfl O7.out.rd ?_ ?_ ?_)))
  · omega
  · exact Nat.le_trans B1.out.size B17.out.size
  intro A8 c8 w8 ho8 hg8 _
  have B8 := Lib.hid ((B1.out.trans (B17.out.mono B1.out.size)).grown hg8 (Nat.le_trans B1.out.size B17.out.size) fun k hk => Nat.le_trans B0.out.size ((O3.out.below B17.out).lt k hk).1)
  have O8 := Lib.hid ho8
  clear ho8 hg8
  go_wp2_with (first | (at_builtin; (with_reducible refine wpList_app _ rfl _ _ rfl w.heap.size _ _ _ _ rfl O8.out _ _ _ l2 rfl ?_ ?_ ?_ ?_)))
  · exact R20.out.below' B8.out
  · omega
  · exact B8.out.size
  intro A9 c9 w9 ho9 hg9 _
  have B9 := Lib.hid (B8.out.grown hg9 B8.out.size fun k hk => (O8.out.lt k hk).1)
  have O9 := Lib.hid ho9
  clear ho9 hg9
  go_wp2_with fail
  go_ret
  refine ⟨_, _, _, rfl, ?_, B9.out⟩
  have := O9.out
  unfold frameN
  rw [hl2]
  simpa [List.append_assoc] using this

theorem frame0 : frameN byteN [] = [0, 0, 0, 0, 28, 223, 68, 33] := by decide +kernel
set_option maxHeartbeats 1000000 in
theorem awake07_any (w : World) : Calls Try.prog 27 #[] w fun e w' => e = .returned (.bool true) ∧ Below w.heap.size w w' := by
  go_enter Try.func27, Try.ntmps27
  go_wp2_with fail
  (with_reducible refine (made_any _).mono ?_)
  rintro e w1 ⟨rfl, hb1⟩
  go_wp2_with fail
  (with_reducible refine (fput_any none 0 0 [] byteN byteN_tab none 0 0 [] _ Rd.none_ Rd.none_ (by omega) (by omega)).mono ?_)
  rintro e w2 ⟨A, n, c, rfl, hO, hb2⟩
  rw [if_neg (by omega), List.nil_append, frame0] at hO
  rw [if_neg (by omega)]
  have S1 := str_of w2 A n c _ _ hO.rd
  have hB := hb1.trans (hb2.mono hb1.size)
  clear hb1 hb2 hO
  go_wp2_with fail
  go_ret
  exact ⟨rfl, hB⟩
end Go.Proofs.Ytkihdgkcdnepbaa
