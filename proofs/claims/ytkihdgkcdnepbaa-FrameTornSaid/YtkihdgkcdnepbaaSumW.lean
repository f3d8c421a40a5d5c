/- Sum, walks: what the functions of the package sum and its reference compute, as functions of lists of bytes. Conditions: tables of numbers below 2^32; slices shorter than 2^47. -/
import Derived.Test.YtkihdgkcdnepbaaProg
import Derived.Test.YtkihdgkcdnepbaaKit
import Derived.Test.YtkihdgkcdnepbaaSumP
namespace Go.Proofs.Ytkihdgkcdnepbaa
set_option linter.unusedSimpArgs false
set_option linter.unusedVariables false
open Go.RowKit

/-- A table as cells. -/
def tabCells (t : Nat → Nat) : Array Value := ((List.range 256).map fun i => Value.int .u32 (t i)).toArray
theorem tabCells_size (t : Nat → Nat) : (tabCells t).size = 256 := by simp [tabCells]
theorem tabCells_get (t : Nat → Nat) (i : Nat) (h : i < 256) : (tabCells t)[i]? = some (.int .u32 (t i)) := by simp [tabCells, h]
theorem tabCells_one (t : Nat → Nat) : (tabCells t).all (·.oneCell') = true := by
  rw [Array.all_eq_true]
  intro i hi
  simp [tabCells, Value.oneCell']
theorem tabCells_new (w : World) (t : Nat → Nat) (ty : TypeId) (i : Nat) (h : i < 256) : (w.alloc (.cells (tabCells t) ty)).cell? ⟨w.heap.size, i, none⟩ = some (.int .u32 (t i)) := by
  rw [cell_of_row _ _ _ _ ty (0, 0) (heap_alloc_new w _), tabCells_get t i h]

theorem xor8 (S y : Nat) (hy : y < 256) : ∃ x : Nat, bits .xor .u8 ((S : Int) % 256) (y : Int) = (x : Int) ∧ x < 256 ∧ Hid (x = S % 256 ^^^ y) :=
  ⟨_, u8_xor_nat (S % 256) y (by omega) hy, Nat.xor_lt_two_pow (n := 8) (by omega) (by omega), rfl⟩
theorem xor32 (z S : Nat) (hz : z < 4294967296) (hS : S < 4294967296) : ∃ u : Nat, bits .xor .u32 (z : Int) ((S : Int) / 256) = (u : Int) ∧ u < 4294967296 ∧ Hid (u = z ^^^ (S / 256)) :=
  ⟨_, u32_xor_nat z (S / 256) hz (by omega), xor_lt32 hz (by omega), rfl⟩
theorem xor8' (S y : Nat) (hy : y < 256) : ∃ x : Nat, bits .xor .u32 ((S : Int) % 256) (y : Int) = (x : Int) ∧ x < 256 ∧ Hid (x = S % 256 ^^^ y) :=
  ⟨_, u32_xor_nat (S % 256) y (by omega) (by omega), Nat.xor_lt_two_pow (n := 8) (by omega) (by omega), rfl⟩
theorem moreN_take (t : Nat → Nat) (s : Nat) (l : List UInt8) (k : Nat) (h : k < l.length) : moreN t s (l.take (k + 1)) = stepN t (moreN t s (l.take k)) l[k].toNat := foldl_snoc_take _ _ _ _ h

set_option maxHeartbeats 400000 in
theorem more_any (t : Nat → Nat) (ht : ∀ i, i < 256 → t i < 4294967296) (s : Nat) (hs : s < 4294967296) (si : Int) (hsi : si = (s : Nat)) (w : World) (A : Option Addr) (n c : Nat) (l : List UInt8)
    (h : Rd w w.heap.size 1 A n (bvs l)) (hn : n ≤ 9223372036854775807) :
    Calls Try.prog 19 #[.agg (tabCells t), .int .u32 si, .slice A n c] w fun e w' => e = .returned (.int .u32 (moreN t s l)) ∧ Below w.heap.size w w' := by
  subst hsi
  have hl := h.blen
  have H := Lib.hid h
  clear h
  go_enter Try.func19, Try.ntmps19
  go_wp2
  go_loop [1, 11] (fun sv iv => ∃ k : Nat, k ≤ n ∧ iv = .int .i64 k ∧ sv = .int .u32 (moreN t s (l.take k)))  (fun _ iv => n - (intOf iv).toNat)
  case atStart => exact ⟨0, Nat.zero_le _, rfl, rfl⟩
  case round =>
    obtain ⟨k, hk, rfl, rfl⟩ := hrel
    by_cases hlt : k < n
    · obtain ⟨b, off, hkl, rfl, hb, hc, hy⟩ := H.out.byte hlt
      have HS := Lib.hid (moreN_take t s l k hkl)
      have hS := moreN_lt ht (l.take k) hs
      generalize moreN t s (l.take k) = S at *
      generalize l[k].toNat = y at *
      obtain ⟨x, hx, hxl, Hx⟩ := xor8 S y hy
      have htx := ht x hxl
      have hcx := tabCells_new w t 26 x hxl
      obtain ⟨z, hz⟩ : ∃ z, z = t x := ⟨_, rfl⟩
      rw [← hz] at htx hcx
      have Hz := Lib.hid hz
      clear hz
      obtain ⟨u, hu, hul, Hu⟩ := xor32 z S htx hS
      go_wp2
      go_round
      case rel => exact ⟨k + 1, by omega, by go_num, nat_int_eq (by rw [HS.out, stepN, Hu.out, Hz.out, Hx.out])⟩
      case measure => simp [intOf]; omega
    · go_wp2
      go_ret
      exact ⟨ret_int (by rw [List.take_of_length_le (by omega)]), (Below.refl _ _).alloc (Nat.le_refl _) _⟩

set_option maxHeartbeats 400000 in
theorem rmore_any (t : Nat → Nat) (ht : ∀ i, i < 256 → t i < 4294967296) (s : Nat) (hs : s < 4294967296) (si : Int) (hsi : si = (s : Nat)) (w : World) (A : Option Addr) (n c : Nat) (l : List UInt8)
    (h : Rd w w.heap.size 1 A n (bvs l)) (hn : n ≤ 9223372036854775807) :
    Calls Try.prog 20 #[.agg (tabCells t), .int .u32 si, .slice A n c] w fun e w' => e = .returned (.int .u32 (moreN t s l)) ∧ Below w.heap.size w w' := by
  subst hsi
  have hl := h.blen
  have H := Lib.hid h
  clear h
  go_enter Try.func20, Try.ntmps20
  go_wp2
  go_loop [1, 7] (fun sv iv => ∃ k : Nat, k ≤ n ∧ iv = .int .i64 k ∧ sv = .int .u32 (moreN t s (l.take k)))  (fun _ iv => n - (intOf iv).toNat)
  case atStart => exact ⟨0, Nat.zero_le _, rfl, rfl⟩
  case round =>
    obtain ⟨k, hk, rfl, rfl⟩ := hrel
    by_cases hlt : k < n
    · obtain ⟨b, off, hkl, rfl, hb, hc, hy⟩ := H.out.byte hlt
      have HS := Lib.hid (moreN_take t s l k hkl)
      have hS := moreN_lt ht (l.take k) hs
      generalize moreN t s (l.take k) = S at *
      generalize l[k].toNat = y at *
      obtain ⟨x, hx, hxl, Hx⟩ := xor8' S y hy
      have htx := ht x hxl
      have hcx := tabCells_new w t 26 x hxl
      obtain ⟨z, hz⟩ : ∃ z, z = t x := ⟨_, rfl⟩
      rw [← hz] at htx hcx
      have Hz := Lib.hid hz
      clear hz
      obtain ⟨u, hu, hul, Hu⟩ := xor32 z S htx hS
      go_wp2
      go_round
      case rel => exact ⟨k + 1, by omega, by go_num, nat_int_eq (by rw [HS.out, stepN, Hu.out, Hz.out, Hx.out])⟩
      case measure => simp [intOf]; omega
    · go_wp2
      go_ret
      exact ⟨ret_int (by rw [List.take_of_length_le (by omega)]), (Below.refl _ _).alloc (Nat.le_refl _) _⟩

theorem not32_nat (S : Nat) (h : S < 4294967296) : 4294967295 ^^^ S = 4294967295 - S := by
  apply Nat.eq_of_testBit_eq; intro i
  rw [show 4294967295 - S = 2 ^ 32 - (S + 1) by omega, Nat.testBit_two_pow_sub_succ (by omega), Nat.testBit_xor, show 4294967295 = 2 ^ 32 - 1 by omega, Nat.testBit_two_pow_sub_one]
  by_cases hi : i < 32
  · simp [hi]
  · simp [hi, Nat.testBit_lt_two_pow (Nat.lt_of_lt_of_le (show S < 2 ^ 32 by omega) (Nat.pow_le_pow_right (by omega) (Nat.le_of_not_lt hi)))]
theorem not32 (S : Nat) (h : S < 4294967296) : bits .xor .u32 IntKind.u32.max (S : Int) = ((4294967295 - S : Nat) : Int) := by
  have e : IntKind.u32.max = ((4294967295 : Nat) : Int) := by decide
  rw [e, u32_xor_nat _ _ (by omega) h, not32_nat S h]
theorem Try.size26 : (Try.prog.info? 26).map (·.size) = some 256 := by kernel_rfl

/-- One arm: a whole table loaded out of the block w.heap.size of a world behind its box. -/
theorem tab_row (t : Nat → Nat) : (Try.prog.info? 26).map (·.size) = some (tabCells t).size := by rw [tabCells_size]; exact Try.size26

set_option maxHeartbeats 400000 in
theorem of_any (t : Nat → Nat) (ht : ∀ i, i < 256 → t i < 4294967296) (w : World) (A : Option Addr) (n c : Nat) (l : List UInt8)
    (h : Rd w w.heap.size 1 A n (bvs l)) (hn : n ≤ 9223372036854775807) :
    Calls Try.prog 16 #[.agg (tabCells t), .slice A n c] w fun e w' => e = .returned (.int .u32 (ofN t l)) ∧ Below w.heap.size w w' := by
  have hm := moreN_lt ht l (s := 4294967295) (by omega)
  have hx := not32 _ hm
  have H := Lib.hid (h.alloc' (.cells (tabCells t) 26))
  clear h
  go_enter Try.func16, Try.ntmps16
  go_wp2_with (first | (with_reducible refine wpList_load_row rfl 26 _ rfl w.heap.size rfl 26 (tabCells t) (0, 0) _ (heap_alloc_new w _) Try.underlying26 rfl (tab_row t) ?_))
  (with_reducible refine (more_any t ht 4294967295 (by omega) _ (by omega) _ A n c l H.out hn).mono ?_)
  rintro e w' ⟨rfl, hb⟩
  go_wp2
  go_ret
  exact ⟨rfl, ((Below.refl _ _).alloc (Nat.le_refl _) _).trans (hb.mono (by simp))⟩

set_option maxHeartbeats 400000 in
theorem rof_any (t : Nat → Nat) (ht : ∀ i, i < 256 → t i < 4294967296) (w : World) (A : Option Addr) (n c : Nat) (l : List UInt8)
    (h : Rd w w.heap.size 1 A n (bvs l)) (hn : n ≤ 9223372036854775807) :
    Calls Try.prog 18 #[.agg (tabCells t), .slice A n c] w fun e w' => e = .returned (.int .u32 (ofN t l)) ∧ Below w.heap.size w w' := by
  have hm := moreN_lt ht l (s := 4294967295) (by omega)
  have H := Lib.hid (h.alloc' (.cells (tabCells t) 26))
  clear h
  go_enter Try.func18, Try.ntmps18
  go_wp2_with (first | (with_reducible refine wpList_load_row rfl 26 _ rfl w.heap.size rfl 26 (tabCells t) (0, 0) _ (heap_alloc_new w _) Try.underlying26 rfl (tab_row t) ?_))
  (with_reducible refine (rmore_any t ht 4294967295 (by omega) _ (by omega) _ A n c l H.out hn).mono ?_)
  rintro e w' ⟨rfl, hb⟩
  have hu : (4294967295 : Int) - (moreN t 4294967295 l : Nat) = (ofN t l : Nat) := by unfold ofN; omega
  go_wp2
  go_ret
  exact ⟨rfl, ((Below.refl _ _).alloc (Nat.le_refl _) _).trans (hb.mono (by simp))⟩

set_option maxHeartbeats 400000 in
theorem on_any (t : Nat → Nat) (ht : ∀ i, i < 256 → t i < 4294967296) (s : Nat) (hs : s < 4294967296) (si : Int) (hsi : si = (s : Nat)) (w : World) (A : Option Addr) (n c : Nat) (l : List UInt8)
    (h : Rd w w.heap.size 1 A n (bvs l)) (hn : n ≤ 9223372036854775807) :
    Calls Try.prog 21 #[.agg (tabCells t), .int .u32 si, .slice A n c] w fun e w' => e = .returned (.int .u32 (onN t s l)) ∧ Below w.heap.size w w' := by
  subst hsi
  have hy := not32 _ hs
  have hm := moreN_lt ht l (s := 4294967295 - s) (by omega)
  have hx := not32 _ hm
  have H := Lib.hid (h.alloc' (.cells (tabCells t) 26))
  clear h
  go_enter Try.func21, Try.ntmps21
  go_wp2_with (first | (with_reducible refine wpList_load_row rfl 26 _ rfl w.heap.size rfl 26 (tabCells t) (0, 0) _ (heap_alloc_new w _) Try.underlying26 rfl (tab_row t) ?_))
  (with_reducible refine (more_any t ht (4294967295 - s) (by omega) _ (by omega) _ A n c l H.out hn).mono ?_)
  rintro e w' ⟨rfl, hb⟩
  go_wp2
  go_ret
  exact ⟨rfl, ((Below.refl _ _).alloc (Nat.le_refl _) _).trans (hb.mono (by simp))⟩

theorem poly32 (z : Nat) (hz : z < 4294967296) : bits .xor .u32 (z : Int) 3988292384 = ((z ^^^ 3988292384 : Nat) : Int) := u32_xor_nat z 3988292384 hz (by omega)
theorem half_odd {n : Nat} (h : n % 2 = 1) : half n = n / 2 ^^^ 3988292384 := by unfold half; rw [if_pos h]
theorem half_even {n : Nat} (h : n % 2 = 0) : half n = n / 2 := by unfold half; rw [if_neg (by omega)]

set_option maxHeartbeats 400000 in
theorem rbyte_any (c : Nat) (hc : c < 256) (ci : Int) (hci : ci = (c : Nat)) (w : World) :
    Calls Try.prog 42 #[.int .u8 ci] w fun e w' => e = .returned (.int .u32 (byteN c)) ∧ w = w' := by
  subst hci
  go_enter Try.func42, Try.ntmps42
  go_wp2
  go_loop [3, 4] (fun nv iv => ∃ k : Nat, k ≤ 8 ∧ iv = .int .i64 k ∧ nv = .int .u32 (halves k c))  (fun _ iv => 8 - (intOf iv).toNat)
  case atStart => exact ⟨0, by omega, rfl, rfl⟩
  case round =>
    obtain ⟨k, hk, rfl, rfl⟩ := hrel
    have hS := halves_lt k (n := c) (by omega)
    have HS := Lib.hid (halves_succ' k c)
    by_cases hlt : k < 8
    · generalize halves k c = S at *
      obtain ⟨u, hu, Hu⟩ : ∃ u : Nat, bits .xor .u32 ((S : Int) / 2) 3988292384 = (u : Int) ∧ Hid (u = S / 2 ^^^ 3988292384) := ⟨_, poly32 (S / 2) (by omega), rfl⟩
      by_cases ho : S % 2 = 1
      · have Ho := Lib.hid ho
        have hd : ((S : Int) % 2 == 1) = true := by simp; omega
        clear ho
        go_wp2
        go_round
        case rel => exact ⟨k + 1, by omega, by go_num, nat_int_eq (by rw [HS.out, half_odd Ho.out, Hu.out])⟩
        case measure => simp [intOf]; omega
      · have Ho := Lib.hid (show S % 2 = 0 by omega)
        have hd : ((S : Int) % 2 == 1) = false := by simp; omega
        clear ho
        go_wp2
        go_round
        case rel => exact ⟨k + 1, by omega, by go_num, int_eq (by rw [HS.out, half_even Ho.out]; omega)⟩
        case measure => simp [intOf]; omega
    · go_wp2
      go_ret
      exact ⟨ret_int (by rw [show k = 8 by omega]; rfl), rfl⟩
end Go.Proofs.Ytkihdgkcdnepbaa
