/- The law FrameTells, walked. No conditions. -/
import Derived.Test.YtkihdgkcdnepbaaFrameU
import Derived.Test.YtkihdgkcdnepbaaFrameQ
import Derived.Test.YtkihdgkcdnepbaaSumS
namespace Go.Proofs.Ytkihdgkcdnepbaa
set_option linter.unusedSimpArgs false
set_option linter.unusedVariables false
open Go.RowKit

theorem fgetN_zero (l lx b : List UInt8) (m : Nat) (h : fget byteN lx = if m = 0 then some b else none) : fgetN byteN lx 0 = (if m = 0 then b else [], if m = 0 then 0 + 8 + ((b.length : Nat) : Int) else 0, if m = 0 then 0 else 8) := by
  unfold fgetN
  rw [if_neg (by omega), show (0 : Int).toNat = 0 from rfl, List.drop_zero, h]
  split <;> simp_all

set_option maxRecDepth 100000 in
set_option maxHeartbeats 4000000 in
theorem walk_FrameTells (w : World) (A0 : Option Addr) (n0 c0 : Nat) (l0 : List UInt8) (rd0 : Rd w w.heap.size 1 A0 n0 (bvs l0)) (nc0 : n0 ≤ c0) (cm0 : c0 ≤ maxLen) (a1 : Int) (w1 : (Lit.int .i64 a1).wf = true) (a2 : Int) (w2 : (Lit.int .u32 a2).wf = true) :
    Calls Try.prog 7 #[.slice A0 n0 c0, .int .i64 a1, .int .u32 a2] w fun e w' => e = .returned (.bool true) ∧ Below w.heap.size w w' := by
  unfold maxLen at cm0
  have hl := rd0.blen
  have b1 := bounds_i64 w1
  have b2 := bounds_u32 w2
  have R0 := Lib.hid rd0
  clear rd0 w1 w2
  go_enter Try.func7, Try.ntmps7
  go_wp2_with fail
  (with_reducible refine (awake07_any _).mono ?_)
  rintro e w1 ⟨rfl, hb1⟩
  have HB1 := Lib.hid hb1
  clear hb1
  go_upto_region 3 with fail
  by_cases hbad : 3000 < n0 ∨ a1 < 0 ∨ a2 = 0
  · by_cases g1 : 3000 < n0
    · have h1 := decT (show (3000 : Int) < n0 by omega)
      go_wp2_with fail
      go_ret
      exact ⟨rfl, HB1.out⟩
    · have h1 := decF (show ¬ (3000 : Int) < n0 by omega)
      by_cases g2 : a1 < 0
      · have h2 := decT g2
        go_wp2_with fail
        go_ret
        exact ⟨rfl, HB1.out⟩
      · have h2 := decF g2
        have h4 : (a2 == 0) = true := by simp; omega
        go_wp2_with fail
        go_ret
        exact ⟨rfl, HB1.out⟩
  · have h1 := decF (show ¬ (3000 : Int) < n0 by omega)
    have h2 := decF (show ¬ a1 < 0 by omega)
    have h4 : (a2 == 0) = false := by simp; omega
    have hz := zero26
    go_wp2_with fail
    (with_reducible refine (made_any _).mono ?_)
    rintro e w3 ⟨rfl, hb3⟩
    have HB3 := Lib.hid (HB1.out.trans (hb3.mono HB1.out.size))
    clear hb3
    go_upto_region 6 with (first
      | (with_reducible refine wpList_store_row rfl 26 _ _ rfl w3.heap.size (tabCells byteN) rfl rfl 26 (tabCells fun _ => 0) (heap_alloc_new w3 _) (tab_row _) (by rw [tabCells_size, tabCells_size]) (tabCells_one _) ?_))
    rw [World.setRow_alloc_new]
    simp only [Act.put]
    have HG4 : Hid ((w3.alloc (Obj.cells (tabCells byteN) 26)).heap[w3.heap.size]? = _) := Lib.hid (heap_alloc_new w3 (Obj.cells (tabCells byteN) 26))
    have HB4 : Hid (Below w.heap.size w (w3.alloc (Obj.cells (tabCells byteN) 26))) := Lib.hid ((HB3.out.alloc HB3.out.size _))
    have HS4 : Hid (w3.heap.size < (w3.alloc (Obj.cells (tabCells byteN) 26)).heap.size) := Lib.hid (by simp)
    generalize (w3.alloc (Obj.cells (tabCells byteN) 26)) = w4 at *
    have hg4 := HG4.out
    go_wp2_with (first | (with_reducible refine wpList_load_row rfl 26 _ rfl w3.heap.size rfl 26 (tabCells byteN) (0, 0) _ HG4.out Try.underlying26 rfl (tab_row byteN) ?_))
    (with_reducible refine (fput_any none 0 0 [] byteN byteN_tab _ _ _ l0 _ Rd.none_ (R0.out.below' HB4.out) (by omega) (by omega)).mono ?_)
    rintro e w5 ⟨A5, n5, c5, rfl, ho5, hb5⟩
    rw [if_neg (by omega)] at ho5
    rw [if_neg (by omega)]
    rw [List.nil_append] at ho5
    have hn5 := ho5.len
    rw [frameN_len, hl] at hn5
    have O5 := Lib.hid ho5
    have HB5 := Lib.hid (HB4.out.trans (hb5.mono HB4.out.size))
    have HG5 := Lib.hid (blk_keep HG4.out hb5)
    clear ho5 hb5 hg4
    obtain ⟨at_, rfl⟩ : ∃ at_ : Nat, a1 = at_ := ⟨a1.toNat, by omega⟩
    go_upto_if 44 with fail
    go_cut [10, 11] (fun s10 s11 wx => ∃ fr E : Nat, s10 = .int .i64 fr ∧ s11 = .int .i64 E ∧ ((fr = 32 ∧ E = 64) ∨ (fr = 64 ∧ E = 8 * n5)) ∧ wx = w5)
    case first =>
      by_cases g1 : (at_ : Int) % 2 = 0
      · have d1 : ((at_ : Int) % 2 == 0) = true := by simp [g1]
        clear g1
        go_wp2_with fail
        go_meet
        exact ⟨32, 64, rfl, rfl, .inl ⟨rfl, rfl⟩, rfl⟩
      · have d1 : ((at_ : Int) % 2 == 0) = false := by simp [g1]
        clear g1
        go_wp2_with fail
        go_meet
        exact ⟨64, 8 * n5, rfl, by go_num, .inr ⟨rfl, rfl⟩, rfl⟩
    case rest =>
      obtain ⟨fr, E, rfl, rfl, hfE, rfl⟩ := hcut
      by_cases hEf : E ≤ fr
      · have d1 := decT (show (E : Int) ≤ fr by omega)
        have d2 : ((n5 : Int) == (n0 : Int) + 8) = true := by simp; omega
        go_wp2_with fail
        go_ret
        exact ⟨rfl, HB5.out⟩
      · have d1 := decF (show ¬ (E : Int) ≤ fr by omega)
        have d2 : ((n5 : Int) == (n0 : Int) + 8) = true := by simp; omega
        obtain ⟨F1, hF1⟩ : ∃ F1 : Nat, (fr : Int) + (at_ : Int) % (E - fr) = F1 := ⟨fr + at_ % (E - fr), by rw [show (E : Int) - fr = ((E - fr : Nat) : Int) by omega, Int.natCast_add, Int.natCast_emod]⟩
        have hF : fr ≤ F1 ∧ F1 < E := by
          rw [show (E : Int) - fr = ((E - fr : Nat) : Int) by omega, ← Int.natCast_emod] at hF1
          have := Nat.mod_lt at_ (show E - fr > 0 by omega)
          omega
        go_upto_region 12 with fail
        go_cut [12] (fun s12 wx => s12 = .int .i64 F1 ∧ wx = wc)
        case first =>
          go_wp2_with fail
          go_meet
          exact ⟨rfl, rfl⟩
        case rest =>
          obtain ⟨rfl, rfl⟩ := hcut
          have hb5 : F1 < 24064 ∧ n5 ≤ 3008 ∧ E ≤ 24064 := by omega
          clear hF1 hbad h2 d1 d2 hEf h1 h4 hz
          have hE : E ≤ 8 * n5 := by omega
          have ho := O5.out
          go_upto_region 14 with fail
          go_wp2_with fail
          go_loopw [13, 14] (fun s13 s14 wr => ∃ (k m : Nat) (lx : List UInt8), k ≤ 32 ∧ s14 = .int .i64 k ∧ s13 = .bool (decide (m = 0)) ∧ m < 2 ^ (min k (E - F1)) ∧ num lx = num (frameN byteN l0) ^^^ (2 ^ F1 * m) ∧ OwnB wr w4.heap.size A5 n5 c5 lx ∧ Below w4.heap.size wc wr) (fun _ s14 _ => 32 - (intOf s14).toNat)
          case atStart => exact ⟨0, 0, frameN byteN l0, by omega, rfl, rfl, by simp, by simp, ho, Below.refl _ _⟩
          case round =>
            obtain ⟨k, m, lx, hk, rfl, rfl, hm, hnum, hOwn, hBel⟩ := hrel
            have HM := Lib.hid hm
            have HN := Lib.hid hnum
            have HO := Lib.hid hOwn
            have HL := Lib.hid hBel
            clear hm hnum hOwn hBel ho
            by_cases hk2 : k < 32
            · have hd1 := decT (show (k : Int) < 32 by omega)
              by_cases hbit : (a2 / 2 ^ k).tmod 2 = 1
              · have hd2 : ((a2 / 2 ^ k).tmod 2 == 1) = true := by simp [hbit]
                clear hbit
                by_cases hin : F1 + k < E
                · have hd3 := decT (show (F1 : Int) + k < E by omega)
                  have hq : (F1 + k) / 8 < n5 := by omega
                  obtain ⟨g, hj, rfl, hgb, hgs, hc, hf, hy⟩ := HO.out.byte hq
                  obtain ⟨u, hu, Hu⟩ := xor_pow8 lx[(F1 + k) / 8].toNat ((F1 + k) % 8) hy (by omega)
                  have HF := Lib.hid (num_flip lx (F1 + k) hj u Hu.out)
                  generalize lx[(F1 + k) / 8].toNat = y at *
                  obtain ⟨m', hm1, hm2, hm3⟩ := flip_step (num (frameN byteN l0)) F1 k m (by have := HM.out; rwa [show min k (E - F1) = k by omega] at this)
                  have HM1 := Lib.hid hm1
                  have HM2 := Lib.hid (decF hm2)
                  have HM3 := Lib.hid hm3
                  clear hm1 hm2 hm3
                  go_wp2
                  go_roundw
                  case rel => exact ⟨k + 1, m', lx.set ((F1 + k) / 8) u, by omega, by go_num, by rw [HM2.out], by rw [show min (k + 1) (E - F1) = k + 1 by omega]; exact HM1.out, by rw [HF.out, HN.out, HM3.out], HO.out.set_ _ _, HL.out.setCell hgb _⟩
                  case measure => simp [intOf]; omega
                · have hd3 := decF (show ¬ (F1 : Int) + k < E by omega)
                  go_wp2
                  go_roundw
                  case rel => exact ⟨k + 1, m, lx, by omega, by go_num, rfl, Nat.lt_of_lt_of_le HM.out (Nat.pow_le_pow_right (by omega) (by omega)), HN.out, HO.out, HL.out⟩
                  case measure => simp [intOf]; omega
              · have hd2 : ((a2 / 2 ^ k).tmod 2 == 1) = false := by simp [hbit]
                clear hbit
                go_wp2
                go_roundw
                case rel => exact ⟨k + 1, m, lx, by omega, by go_num, rfl, Nat.lt_of_lt_of_le HM.out (Nat.pow_le_pow_right (by omega) (by omega)), HN.out, HO.out, HL.out⟩
                case measure => simp [intOf]; omega
            · have hd1 := decF (show ¬ (k : Int) < 32 by omega)
              have hlx := HO.out.len
              have HB6 := Lib.hid (HB5.out.trans (HL.out.mono HB4.out.size))
              have HG6 : Hid (wr.heap[w3.heap.size]? = some (Obj.cells (tabCells byteN) 26)) := Lib.hid ((HL.out.block w3.heap.size HS4.out).trans HG5.out)
              have HX := Lib.hid (fgetN_zero l0 lx l0 m (flip_fget l0 lx (by omega) (by omega) F1 m E HN.out (Nat.lt_of_lt_of_le HM.out (Nat.pow_le_pow_right (by omega) (by omega))) (Nat.lt_of_lt_of_le HM.out (show 2 ^ _ ≤ 2 ^ 32 from Nat.pow_le_pow_right (by omega) (by omega))) (by omega)))
              have hc5 := HO.out.cm
              unfold maxLen at hc5
              go_wp2_with (first | (with_reducible refine wpList_load_row rfl 26 _ rfl w3.heap.size rfl 26 (tabCells byteN) (0, 0) _ HG6.out Try.underlying26 rfl (tab_row byteN) ?_))
              (with_reducible refine (fget_any _ _ _ lx _ byteN byteN_tab _ HO.out.rd HO.out.nc (by omega) (by omega)).mono ?_)
              rintro e w7 ⟨A7, n7, c7, rfl, ho7, hb7⟩
              have HB7 := Lib.hid (HB6.out.trans (hb7.mono HB6.out.size))
              have H7 := Lib.hid ho7
              clear ho7 hb7
              by_cases h0 : m = 0
              · have dd := decT h0
                have HX2 : Hid (fgetN byteN lx 0 = (l0, 0 + 8 + ((l0.length : Nat) : Int), 0)) := Lib.hid (by rw [HX.out]; simp [h0])
                rw [HX2.out]
                clear h0
                go_wp2_with fail
                go_ret
                exact ⟨rfl, HB7.out⟩
              · have dd := decF h0
                have HX2 : Hid (fgetN byteN lx 0 = ([], 0, 8)) := Lib.hid (by rw [HX.out]; simp [h0])
                obtain rfl : n7 = 0 := by have := H7.out; rw [HX2.out] at this; exact this.len.symm
                rw [HX2.out]
                clear h0
                go_wp2_with fail
                go_ret
                exact ⟨rfl, HB7.out⟩
end Go.Proofs.Ytkihdgkcdnepbaa
