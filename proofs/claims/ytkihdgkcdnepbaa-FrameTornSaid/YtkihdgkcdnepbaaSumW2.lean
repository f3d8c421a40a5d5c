/- Sum, walks: the tables that are made, the sum bit by bit, and the chapter's example. No conditions. -/
import Derived.Test.YtkihdgkcdnepbaaSumW
import Derived.Deep.WholeRow
namespace Go.Proofs.Ytkihdgkcdnepbaa
set_option linter.unusedSimpArgs false
set_option linter.unusedVariables false
open Go.RowKit

theorem zero26 (w : World) : (zeroValue 26).run Try.prog w = .ok (.agg (tabCells fun _ => 0)) w := by kernel_rfl
theorem build26 (w : World) : (Instr.build 26 #[]).run Try.prog w = .ok (.agg (tabCells fun _ => 0)) w := by kernel_rfl
/-- The table as far as it is made. -/
def tabTo (k : Nat) : Array Value := tabCells fun i => if i < k then byteN i else 0
theorem tabTo_zero : tabTo 0 = tabCells fun _ => 0 := rfl
theorem tabCells_congr {f g : Nat → Nat} (h : ∀ i, i < 256 → f i = g i) : tabCells f = tabCells g := by
  have e : (List.range 256).map (fun i => Value.int .u32 (f i)) = (List.range 256).map (fun i => Value.int .u32 (g i)) :=
    List.map_congr_left fun i hi => by rw [h i (List.mem_range.1 hi)]
  unfold tabCells
  rw [e]
theorem tabTo_full : tabTo 256 = tabCells byteN := tabCells_congr fun _ hi => if_pos hi
theorem tabTo_set (k : Nat) (hk : k < 256) : (tabTo k).setIfInBounds k (.int .u32 (byteN k)) = tabTo (k + 1) := by
  apply Array.ext_getElem?
  intro i
  unfold tabTo
  rw [Array.getElem?_setIfInBounds, tabCells_size]
  by_cases hi : i < 256
  · rw [tabCells_get _ _ hi, tabCells_get _ _ hi]
    by_cases hik : k = i
    · subst hik; simp [hk]
    · rw [if_neg hik]
      by_cases h2 : i < k
      · simp [h2, show i < k + 1 by omega]
      · simp [h2, show ¬ i < k + 1 by omega]
  · have e1 := tabCells_size fun i => if i < k then byteN i else 0
    have e2 := tabCells_size fun i => if i < k + 1 then byteN i else 0
    rw [if_neg (by omega), Array.getElem?_eq_none (by omega), Array.getElem?_eq_none (by omega)]
theorem tabTo_info (k : Nat) : (Try.prog.info? 26).map (·.size) = some (tabTo k).size := tab_row _
theorem tabTo_one (k : Nat) : (tabTo k).all (·.oneCell') = true := tabCells_one _
theorem tabTo_same (j k : Nat) : (tabTo j).size = (tabTo k).size := by unfold tabTo; rw [tabCells_size, tabCells_size]
theorem tabTo_get (k i : Nat) (h : i < 256) : ∃ v, (tabTo k)[i]? = some v := ⟨_, tabCells_get _ _ h⟩
theorem tabTo_size (k : Nat) : (tabTo k).size = 256 := tabCells_size _

set_option maxRecDepth 100000 in
set_option maxHeartbeats 400000 in
theorem make_any (w : World) :
    Calls Try.prog 14 #[] w fun e w' => e = .returned (.agg (tabCells byteN)) ∧ Below w.heap.size w w' := by
  have hz := zero26
  rw [← tabTo_zero] at hz
  go_enter Try.func14, Try.ntmps14
  go_wp2
  go_loopw [5] (fun iv wr => ∃ k : Nat, k ≤ 256 ∧ iv = .int .i64 k ∧ wr = (w.alloc (.cells (tabTo 0) 26)).alloc (.cells (tabTo k) 26))  (fun iv _ => 256 - (intOf iv).toNat)
  case atStart => exact ⟨0, by omega, rfl, rfl⟩
  case round =>
    obtain ⟨k, hk, rfl, rfl⟩ := hrel
    by_cases hlt : k < 256
    · have hd := decT (show (k : Int) < 256 by omega)
      go_wp2
      go_loop [3, 10] (fun nv jv => ∃ j : Nat, j ≤ 8 ∧ jv = .int .i64 j ∧ nv = .int .u32 (halves j k)) (fun _ jv => 8 - (intOf jv).toNat)
      case atStart => exact ⟨0, by omega, rfl, rfl⟩
      case round =>
        obtain ⟨j, hj, rfl, rfl⟩ := hrel
        have hS := halves_lt j (n := k) (by omega)
        have HS := Lib.hid (halves_succ' j k)
        by_cases hlt2 : j < 8
        · have hd2 := decT (show (j : Int) < 8 by omega)
          generalize halves j k = S at *
          obtain ⟨u, hu, Hu⟩ : ∃ u : Nat, bits .xor .u32 ((S : Int) / 2) 3988292384 = (u : Int) ∧ Hid (u = S / 2 ^^^ 3988292384) := ⟨_, poly32 (S / 2) (by omega), rfl⟩
          have ha : bits .and .u32 (S : Int) 1 = ((S % 2 : Nat) : Int) := by rw [← nat_mask1]; exact u32_and_nat S 1 hS (by omega)
          by_cases ho : S % 2 = 1
          · have Ho := Lib.hid ho
            have he : ((S : Int) % 2 == 1) = true := by simp; omega
            clear ho
            go_wp2
            go_round
            case rel => exact ⟨j + 1, by omega, by go_num, nat_int_eq (by rw [HS.out, half_odd Ho.out, Hu.out])⟩
            case measure => simp [intOf]; omega
          · have Ho := Lib.hid (show S % 2 = 0 by omega)
            have he : ((S : Int) % 2 == 1) = false := by simp; omega
            clear ho
            go_wp2
            go_round
            case rel => exact ⟨j + 1, by omega, by go_num, int_eq (by rw [HS.out, half_even Ho.out]; omega)⟩
            case measure => simp [intOf]; omega
        · have hd2 := decF (show ¬ (j : Int) < 8 by omega)
          have HJ := Lib.hid (show halves j k = byteN k by rw [show j = 8 by omega]; rfl)
          have HT := Lib.hid (tabTo_set k hlt)
          obtain ⟨v, hv⟩ := tabTo_get k k hlt
          go_wp2
          go_roundw
          case rel => exact ⟨k + 1, by omega, by go_num, by rw [HJ.out, HT.out]⟩
          case measure => simp [intOf]; omega
    · have hd := decF (show ¬ (k : Int) < 256 by omega)
      obtain rfl : k = 256 := by omega
      go_wp2_with (first
        | (with_reducible refine wpList_load_row rfl 26 _ rfl (w.heap.size + 1) rfl 26 (tabTo 256) (0, 0) _ (heap_alloc2_new w _ _) Try.underlying26 rfl (tabTo_info 256) ?_)
        | (with_reducible refine wpList_store_row rfl 26 _ _ rfl w.heap.size (tabTo 256) rfl rfl 26 (tabTo 0) (heap_alloc2_old w _ _) (tabTo_info 256) (tabTo_same _ _) (tabTo_one _) ?_))
      refine bodyPost_ret (results_cell_row rfl _ _ w.heap.size 26 (tabTo 256) (0, 0) _ rfl (setRow_heap _ _ _ _ _ _ (heap_alloc2_old w _ _)) Try.underlying26 rfl (tabTo_info 256)) rfl ?_
      exact ⟨by rw [tabTo_full], below_setRow (((Below.refl _ _).alloc (Nat.le_refl _) _).alloc (by simp) _) (Nat.le_refl _) _⟩
theorem setRow_two (w : World) (A : Obj) (c c' : Array Value) (t : TypeId) : ((w.alloc A).alloc (.cells c t)).setRow (w.heap.size + 1) c' = (w.alloc A).alloc (.cells c' t) := by
  have := World.setRow_alloc_new (w.alloc A) c c' t
  rwa [World.size_alloc] at this

set_option maxRecDepth 100000 in
set_option maxHeartbeats 400000 in
theorem made_any (w : World) :
    Calls Try.prog 15 #[] w fun e w' => e = .returned (.agg (tabCells byteN)) ∧ Below w.heap.size w w' := by
  have hz := zero26
  have hb := build26
  rw [← tabTo_zero] at hz hb
  go_enter Try.func15, Try.ntmps15
  go_wp2_with (first
    | (with_reducible refine wpList_store_row rfl 26 _ _ rfl (w.heap.size + 1) (tabTo 0) rfl rfl 26 (tabTo 0) (heap_alloc2_new w _ _) (tabTo_info 0) (tabTo_same _ _) (tabTo_one _) ?_))
  go_loopw [2] (fun iv wr => ∃ k : Nat, k ≤ 256 ∧ iv = .int .i64 k ∧ wr = (w.alloc (.cells (tabTo 0) 26)).alloc (.cells (tabTo k) 26))  (fun iv _ => 256 - (intOf iv).toNat)
  case atStart => exact ⟨0, by omega, rfl, setRow_two _ _ _ _ _⟩
  case round =>
    obtain ⟨k, hk, rfl, rfl⟩ := hrel
    by_cases hlt : k < 256
    · have hd := decT (show (k : Int) < 256 by omega)
      have HT := Lib.hid (tabTo_set k hlt)
      obtain ⟨v, hv⟩ := tabTo_get k k hlt
      go_wp2_with fail
      (with_reducible refine (rbyte_any k hlt _ (by omega) _).mono ?_)
      rintro e w' ⟨rfl, rfl⟩
      go_wp2
      go_roundw
      case rel => exact ⟨k + 1, by omega, by go_num, by rw [HT.out]⟩
      case measure => simp [intOf]; omega
    · have hd := decF (show ¬ (k : Int) < 256 by omega)
      obtain rfl : k = 256 := by omega
      go_wp2_with (first
        | (with_reducible refine wpList_load_row rfl 26 _ rfl (w.heap.size + 1) rfl 26 (tabTo 256) (0, 0) _ (heap_alloc2_new w _ _) Try.underlying26 rfl (tabTo_info 256) ?_)
        | (with_reducible refine wpList_store_row rfl 26 _ _ rfl w.heap.size (tabTo 256) rfl rfl 26 (tabTo 0) (heap_alloc2_old w _ _) (tabTo_info 256) (tabTo_same _ _) (tabTo_one _) ?_))
      refine bodyPost_ret (results_cell_row rfl _ _ w.heap.size 26 (tabTo 256) (0, 0) _ rfl (setRow_heap _ _ _ _ _ _ (heap_alloc2_old w _ _)) Try.underlying26 rfl (tabTo_info 256)) rfl ?_
      exact ⟨by rw [tabTo_full], below_setRow (((Below.refl _ _).alloc (Nat.le_refl _) _).alloc (by simp) _) (Nat.le_refl _) _⟩

theorem bit1_odd {s c : Nat} (h : (s + c) % 2 = 1) : bit1 (s, c) = (s / 2 ^^^ 3988292384, c / 2) := by unfold bit1; rw [if_pos h]
theorem bit1_even {s c : Nat} (h : ¬ (s + c) % 2 = 1) : bit1 (s, c) = (s / 2, c / 2) := by unfold bit1; rw [if_neg h]
theorem bitsM_take (s : Nat) (l : List UInt8) (k : Nat) (h : k < l.length) : bitsM s (l.take (k + 1)) = (bit8 8 (bitsM s (l.take k), l[k].toNat)).1 := foldl_snoc_take _ _ _ _ h

set_option maxHeartbeats 400000 in
theorem bits_any (w : World) (A : Option Addr) (n c : Nat) (l : List UInt8) (h : Rd w w.heap.size 1 A n (bvs l)) (hn : n ≤ 9223372036854775807) :
    Calls Try.prog 17 #[.slice A n c] w fun e w' => e = .returned (.int .u32 (bitsN l)) ∧ w = w' := by
  have hl := h.blen
  have H := Lib.hid h
  clear h
  go_enter Try.func17, Try.ntmps17
  go_wp2
  go_loop [3, 4] (fun sv iv => ∃ k : Nat, k ≤ n ∧ iv = .int .i64 k ∧ sv = .int .u32 (bitsM 4294967295 (l.take k)))  (fun _ iv => n - (intOf iv).toNat)
  case atStart => exact ⟨0, by omega, rfl, rfl⟩
  case round =>
    obtain ⟨k, hk, rfl, rfl⟩ := hrel
    by_cases hlt : k < n
    · obtain ⟨b, off, hkl, rfl, hb, hc, hy⟩ := H.out.byte hlt
      have HS := Lib.hid (bitsM_take 4294967295 l k hkl)
      have hS := bitsM_lt (l.take k) (s := 4294967295) (by omega)
      generalize bitsM 4294967295 (l.take k) = S at *
      generalize l[k].toNat = y at *
      go_wp2
      go_loop [3, 5, 6] (fun sv cv jv => ∃ j : Nat, j ≤ 8 ∧ jv = .int .i64 j ∧ sv = .int .u32 ((bit8 j (S, y)).1 : Nat) ∧ cv = .int .u8 ((bit8 j (S, y)).2 : Nat)) (fun _ _ jv => 8 - (intOf jv).toNat)
      case atStart => exact ⟨0, by omega, rfl, rfl, rfl⟩
      case round =>
        obtain ⟨j, hj, rfl, rfl, rfl⟩ := hrel
        have HB := Lib.hid (bit8_succ' j (S, y))
        have hB := bit8_lt j (p := (S, y)) hS hy
        by_cases hlt2 : j < 8
        · have hd2 := decT (show (j : Int) < 8 by omega)
          generalize bit8 j (S, y) = p at *
          obtain ⟨x, z⟩ := p
          obtain ⟨hx, hz⟩ := hB
          simp only at hx hz ⊢
          obtain ⟨u, hu, Hu⟩ : ∃ u : Nat, bits .xor .u32 ((x : Int) / 2) 3988292384 = (u : Int) ∧ Hid (u = x / 2 ^^^ 3988292384) := ⟨_, poly32 (x / 2) (by omega), rfl⟩
          by_cases ho : (x + z) % 2 = 1
          · have Ho := Lib.hid ho
            have he : (((x : Int) + (z : Int)) % 2 == 1) = true := by simp; omega
            clear ho
            go_wp2
            go_round
            case rel => exact ⟨j + 1, by omega, by go_num, nat_int_eq (by rw [HB.out, bit1_odd Ho.out, Hu.out]), int_eq (by rw [HB.out, bit1_odd Ho.out]; simp)⟩
            case measure => simp [intOf]; omega
          · have Ho := Lib.hid ho
            have he : (((x : Int) + (z : Int)) % 2 == 1) = false := by simp; omega
            clear ho
            go_wp2
            go_round
            case rel => exact ⟨j + 1, by omega, by go_num, int_eq (by rw [HB.out, bit1_even Ho.out]; simp), int_eq (by rw [HB.out, bit1_even Ho.out]; simp)⟩
            case measure => simp [intOf]; omega
        · have hd2 := decF (show ¬ (j : Int) < 8 by omega)
          obtain rfl : j = 8 := by omega
          generalize bit8 8 (S, y) = p at *
          obtain ⟨x, z⟩ := p
          simp only at hB HS ⊢
          go_wp2
          go_round
          case rel => exact ⟨k + 1, by omega, by go_num, nat_int_eq HS.out.symm⟩
          case measure => simp [intOf]; omega
    · have hm := bitsM_lt (l.take k) (s := 4294967295) (by omega)
      have HE := Lib.hid (show l.take k = l from List.take_of_length_le (by omega))
      go_wp2
      go_ret
      exact ⟨ret_int (by rw [HE.out] at hm ⊢; unfold bitsN; omega), rfl⟩
end Go.Proofs.Ytkihdgkcdnepbaa
