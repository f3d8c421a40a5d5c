/- The law SumTells, walked. No conditions. -/
import Derived.Test.YtkihdgkcdnepbaaSumL
import Derived.Test.YtkihdgkcdnepbaaSumQ
import Derived.Test.YtkihdgkcdnepbaaApp
import Derived.Deep.DeepCutAuto
namespace Go.Proofs.Ytkihdgkcdnepbaa
set_option linter.unusedSimpArgs false
set_option linter.unusedVariables false
open Go.RowKit

theorem xor_pow8 (y j : Nat) (hy : y < 256) (hj : j < 8) : ∃ u : UInt8, bits .xor .u8 (y : Int) ((2 : Int) ^ j % 256) = (u.toNat : Nat) ∧ Hid (u.toNat = y ^^^ 2 ^ j) := by
  have hp : (2 : Nat) ^ j < 256 := (show 2 ^ j < 2 ^ 8 from Nat.pow_lt_pow_right (by omega) hj)
  have hx : y ^^^ 2 ^ j < 256 := xor_lt8 hy hp
  refine ⟨UInt8.ofNat (y ^^^ 2 ^ j), ?_, ?_⟩
  · rw [UInt8.toNat_ofNat_of_lt' hx, show (2 : Int) ^ j % 256 = ((2 ^ j : Nat) : Int) by rw [Int.natCast_pow]; have : ((2 ^ j : Nat) : Int) < 256 := by omega
                                                                                         rw [Int.natCast_pow] at this; exact Int.emod_eq_of_lt (Int.le_of_lt (Int.pow_pos (by decide))) this]
    exact u8_xor_nat y (2 ^ j) hy hp
  · exact UInt8.toNat_ofNat_of_lt' hx

set_option maxHeartbeats 2000000 in
theorem walk_SumTells (w : World) (A0 : Option Addr) (n0 c0 : Nat) (l0 : List UInt8) (rd0 : Rd w w.heap.size 1 A0 n0 (bvs l0)) (nc0 : n0 ≤ c0) (cm0 : c0 ≤ maxLen) (a1 : Int) (w1 : (Lit.int .i64 a1).wf = true) (a2 : Int) (w2 : (Lit.int .u32 a2).wf = true) :
    Calls Try.prog 4 #[.slice A0 n0 c0, .int .i64 a1, .int .u32 a2] w fun e w' => e = .returned (.bool true) ∧ Below w.heap.size w w' := by
  unfold maxLen at cm0
  have hl := rd0.blen
  have b1 := bounds_i64 w1
  have b2 := bounds_u32 w2
  have R0 := Lib.hid rd0
  clear rd0 w1 w2
  go_enter Try.func4, Try.ntmps4
  go_wp2_with fail
  (with_reducible refine (awake06_any _).mono ?_)
  rintro e w1 ⟨rfl, hb1⟩
  have R1 := Lib.hid (R0.out.below' hb1)
  have HB1 := Lib.hid hb1
  have R0' := R0
  clear hb1 R0
  go_upto_region 3 with fail
  by_cases hbad : 3000 < n0 ∨ a1 < 0 ∨ (8 * n0 : Int) < a1 ∨ a2 = 0
  · by_cases g1 : 3000 < n0
    · have h1 := decT (show (3000 : Int) < n0 by omega)
      go_wp2_with fail
      go_ret
      exact ⟨rfl, HB1.out⟩
    · have h1 := decF (show ¬ (3000 : Int) < n0 by omega)
      by_cases g2 : a1 < 0
      · have h2 := decT g2
        go_wp2_with fail
        go_ret
        exact ⟨rfl, HB1.out⟩
      · have h2 := decF g2
        by_cases g3 : (8 * n0 : Int) < a1
        · have h3 := decT g3
          go_wp2_with fail
          go_ret
          exact ⟨rfl, HB1.out⟩
        · have h3 := decF g3
          have h4 : (a2 == 0) = true := by simp; omega
          go_wp2_with fail
          go_ret
          exact ⟨rfl, HB1.out⟩
  · have h1 := decF (show ¬ (3000 : Int) < n0 by omega)
    have h2 := decF (show ¬ a1 < 0 by omega)
    have h3 := decF (show ¬ (8 * n0 : Int) < a1 by omega)
    have h4 : (a2 == 0) = false := by simp; omega
    go_wp2_with (first | (at_builtin; go_must (with_reducible refine wpList_app _ rfl _ _ rfl w.heap.size _ _ _ [] rfl (OwnB.empty _ HB1.out.size) _ _ _ l0 rfl ?hr ?hsz ?hb ?_)))
    case hr => exact R1.out.alloc' _
    case hsz => omega
    case hb => simp; exact Nat.le_succ_of_le HB1.out.size
    intro A' c' w2 hown hg _
    go_wp2_with fail
    obtain ⟨at_, rfl⟩ : ∃ at_ : Nat, a1 = at_ := ⟨a1.toNat, by omega⟩
    have hB2 : Below w.heap.size w w2 := (HB1.out.alloc HB1.out.size _).grown hg (by simp; exact Nat.le_succ_of_le HB1.out.size) (fun k hk => by simp [Value.ownBlock] at hk; subst hk; exact HB1.out.size)
    go_loopw [8, 9] (fun s8 s9 wr => ∃ (k m : Nat) (lx : List UInt8), k ≤ 32 ∧ s9 = .int .i64 k ∧ s8 = .bool (decide (m = 0)) ∧ m < 2 ^ k ∧ num lx = num l0 ^^^ (2 ^ at_ * m) ∧ OwnB wr w.heap.size A' n0 c' lx ∧ Below w.heap.size w wr) (fun _ s9 _ => 32 - (intOf s9).toNat)
    case atStart => exact ⟨0, 0, l0, by omega, rfl, rfl, by simp, by simp, by simpa using hown, hB2⟩
    case round =>
      obtain ⟨k, m, lx, hk, rfl, rfl, hm, hnum, hOwn, hBel⟩ := hrel
      have HM := Lib.hid hm
      have HN := Lib.hid hnum
      have HO := Lib.hid hOwn
      have HL := Lib.hid hBel
      clear hm hnum hOwn hBel hown hg hB2
      by_cases hk2 : k < 32
      · have hd1 := decT (show (k : Int) < 32 by omega)
        by_cases hbit : (a2 / 2 ^ k).tmod 2 = 1
        · have hd2 : ((a2 / 2 ^ k).tmod 2 == 1) = true := by simp [hbit]
          clear hbit
          by_cases hin : at_ + k < 8 * n0
          · have hd3 := decT (show (at_ : Int) + k < 8 * n0 by omega)
            have hq : (at_ + k) / 8 < n0 := by omega
            obtain ⟨g, hj, rfl, hgb, hgs, hc, hf, hy⟩ := HO.out.byte hq
            obtain ⟨u, hu, Hu⟩ := xor_pow8 lx[(at_ + k) / 8].toNat ((at_ + k) % 8) hy (by omega)
            have HF := Lib.hid (num_flip lx (at_ + k) hj u Hu.out)
            generalize lx[(at_ + k) / 8].toNat = y at *
            obtain ⟨m', hm1, hm2, hm3⟩ := flip_step (num l0) at_ k m HM.out
            have HM1 := Lib.hid hm1
            have HM2 := Lib.hid (decF hm2)
            have HM3 := Lib.hid hm3
            clear hm1 hm2 hm3
            go_wp2
            go_roundw
            case rel => exact ⟨k + 1, m', lx.set ((at_ + k) / 8) u, by omega, by go_num, by rw [HM2.out], HM1.out, by rw [HF.out, HN.out, HM3.out], HO.out.set_ _ _, HL.out.setCell hgb _⟩
            case measure => simp [intOf]; omega
          · have hd3 := decF (show ¬ (at_ : Int) + k < 8 * n0 by omega)
            go_wp2
            go_roundw
            case rel => exact ⟨k + 1, m, lx, by omega, by go_num, rfl, Nat.lt_of_lt_of_le HM.out (Nat.pow_le_pow_right (by omega) (by omega)), HN.out, HO.out, HL.out⟩
            case measure => simp [intOf]; omega
        · have hd2 : ((a2 / 2 ^ k).tmod 2 == 1) = false := by simp [hbit]
          clear hbit
          go_wp2
          go_roundw
          case rel => exact ⟨k + 1, m, lx, by omega, by go_num, rfl, Nat.lt_of_lt_of_le HM.out (Nat.pow_le_pow_right (by omega) (by omega)), HN.out, HO.out, HL.out⟩
          case measure => simp [intOf]; omega
      · have hd1 := decF (show ¬ (k : Int) < 32 by omega)
        have hz := zero26
        go_wp2_with fail
        (with_reducible refine (make_any _).mono ?_)
        rintro e w3 ⟨rfl, hb3⟩
        go_wp2_with (first
          | (with_reducible refine wpList_store_row rfl 26 _ _ rfl w3.heap.size (tabCells byteN) rfl rfl 26 (tabCells fun _ => 0) (heap_alloc_new w3 _) (tab_row _) (by rw [tabCells_size, tabCells_size]) (tabCells_one _) ?_))
        rw [World.setRow_alloc_new]
        simp only [Act.put]
        have hg4 : (w3.alloc (Obj.cells (tabCells byteN) 26)).drew.heap[w3.heap.size]? = _ := heap_alloc_new w3 (Obj.cells (tabCells byteN) 26)
        have HB4 : Hid (Below w.heap.size w (w3.alloc (Obj.cells (tabCells byteN) 26)).drew) := Lib.hid ((HL.out.trans (hb3.mono HL.out.size)).alloc (Nat.le_trans HL.out.size hb3.size) _).drew
        have RX4 : Hid (Rd (w3.alloc (Obj.cells (tabCells byteN) 26)).drew (w3.alloc (Obj.cells (tabCells byteN) 26)).drew.heap.size 1 A' n0 (bvs lx)) := Lib.hid (HO.out.rd.below' ((hb3.alloc hb3.size _).drew))
        have RB4 : Hid (Rd (w3.alloc (Obj.cells (tabCells byteN) 26)).drew (w3.alloc (Obj.cells (tabCells byteN) 26)).drew.heap.size 1 A0 n0 (bvs l0)) := Lib.hid ((R0'.out).below' HB4.out)
        have HT := Lib.hid (tells 4294967295 lx l0 at_ m (by rw [HO.out.len, hl]) (by omega) (Nat.lt_of_lt_of_le HM.out (show 2 ^ k ≤ 2 ^ 32 from Nat.pow_le_pow_right (by omega) hk)) HN.out)
        have x1 := Lib.hid (moreN_lt byteN_tab lx (s := 4294967295) (by omega))
        have x2 := Lib.hid (moreN_lt byteN_tab l0 (s := 4294967295) (by omega))
        have HQ : Hid (((ofN byteN lx : Int) == (ofN byteN l0 : Int)) = decide (m = 0) ∧ (ofN byteN lx == ofN byteN l0) = decide (m = 0)) := by
          have := HT.out
          have y1 := x1.out
          have y2 := x2.out
          unfold ofN
          constructor
          · rw [Bool.eq_iff_iff]; simp; rw [← this]; omega
          · rw [Bool.eq_iff_iff]; simp; rw [← this]; omega
        obtain ⟨q1, q2⟩ := HQ.out
        refine rb_start (by kernel_rfl) ?_
        refine rb_take_row 0 rfl (by kernel_rfl) (by kernel_rfl) (by kernel_rfl) (by rfl) 26 _ rfl _ rfl 26 (tabCells byteN) (0, 0) _ (hg4) (by simp) Try.underlying26 rfl (tab_row _) ?_
        (try simp only [Act.put, List.setIfInBounds_toArray, List.set_cons_zero, List.set_cons_succ])
        refine rb_take 1 (v := ?_) rfl (by kernel_rfl) (by kernel_rfl) (by kernel_rfl) (by rfl) ?_ ?_
        rotate_left
        · intro w' hb'
          have hcf := by first | exact bcellD hb' | exact bcell hb'
          obtain ⟨hcc, hff⟩ := hcf
          go_simp
          (try rfl)
        (try simp only [Act.put, List.setIfInBounds_toArray, List.set_cons_zero, List.set_cons_succ])
        refine rb_take_row 3 rfl (by kernel_rfl) (by kernel_rfl) (by kernel_rfl) (by rfl) 26 _ rfl _ rfl 26 (tabCells byteN) (0, 0) _ (hg4) (by simp) Try.underlying26 rfl (tab_row _) ?_
        (try simp only [Act.put, List.setIfInBounds_toArray, List.set_cons_zero, List.set_cons_succ])
        refine rb_take 4 (v := ?_) rfl (by kernel_rfl) (by kernel_rfl) (by kernel_rfl) (by rfl) ?_ ?_
        rotate_left
        · intro w' hb'
          have hcf := by first | exact bcellD hb' | exact bcell hb'
          obtain ⟨hcc, hff⟩ := hcf
          go_simp
          (try rfl)
        (try simp only [Act.put, List.setIfInBounds_toArray, List.set_cons_zero, List.set_cons_succ])
        refine rb_take 7 (v := ?_) rfl (by kernel_rfl) (by kernel_rfl) (by kernel_rfl) (by rfl) ?_ ?_
        rotate_left
        · intro w' hb'
          have hcf := by first | exact bcellD hb' | exact bcell hb'
          obtain ⟨hcc, hff⟩ := hcf
          go_simp
          (try rfl)
        (try simp only [Act.put, List.setIfInBounds_toArray, List.set_cons_zero, List.set_cons_succ])
        refine rb_move 2 rfl (by kernel_rfl) (by rfl) (fun K hK => ?_)
        have HK := Lib.hid hK
        clear hK
        go_simp
        (with_reducible refine (of_any byteN byteN_tab _ _ _ _ lx RX4.out (by omega)).mono ?_)
        rintro e w5 ⟨rfl, hb5⟩
        refine HK.out _ _ hb5 ?_
        clear HK K
        (try simp only [Act.put, List.setIfInBounds_toArray, List.set_cons_zero, List.set_cons_succ])
        refine rb_move 5 rfl (by kernel_rfl) (by rfl) (fun K hK => ?_)
        have HK := Lib.hid hK
        clear hK
        go_simp
        (with_reducible refine (of_any byteN byteN_tab _ _ _ _ l0 (RB4.out.below' hb5) (by omega)).mono ?_)
        rintro e w6 ⟨rfl, hb6⟩
        refine HK.out _ _ hb6 ?_
        clear HK K
        (try simp only [Act.put, List.setIfInBounds_toArray, List.set_cons_zero, List.set_cons_succ])
        refine rb_take 6 (v := ?_) rfl (by kernel_rfl) (by kernel_rfl) (by kernel_rfl) (by rfl) ?_ ?_
        rotate_left
        · intro w' hb'
          have hcf := by first | exact bcellD hb' | exact bcell hb'
          obtain ⟨hcc, hff⟩ := hcf
          go_simp
          (try rfl)
        (try simp only [Act.put, List.setIfInBounds_toArray, List.set_cons_zero, List.set_cons_succ])
        refine rb_take 8 (v := ?_) rfl (by kernel_rfl) (by kernel_rfl) (by kernel_rfl) (by rfl) ?_ ?_
        rotate_left
        · intro w' hb'
          have hcf := by first | exact bcellD hb' | exact bcell hb'
          obtain ⟨hcc, hff⟩ := hcf
          go_simp
          (try rfl)
        (try simp only [Act.put, List.setIfInBounds_toArray, List.set_cons_zero, List.set_cons_succ])
        refine rb_take 9 (v := ?_) rfl (by kernel_rfl) (by kernel_rfl) (by kernel_rfl) (by rfl) ?_ ?_
        rotate_left
        · intro w' hb'
          have hcf := by first | exact bcellD hb' | exact bcell hb'
          obtain ⟨hcc, hff⟩ := hcf
          go_simp
          (try rfl)
        (try simp only [Act.put, List.setIfInBounds_toArray, List.set_cons_zero, List.set_cons_succ])
        refine rb_done (by kernel_rfl) ?_
        go_wp2
        go_ret
        exact ⟨rfl, (HB4.out.trans (hb5.mono HB4.out.size)).trans (hb6.mono (Nat.le_trans HB4.out.size hb5.size))⟩
end Go.Proofs.Ytkihdgkcdnepbaa
