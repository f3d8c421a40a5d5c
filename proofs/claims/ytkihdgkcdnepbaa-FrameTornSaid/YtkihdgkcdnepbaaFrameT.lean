/- punnetref07.Same and punnetref07.Get, walked. No conditions. -/
import Derived.Test.YtkihdgkcdnepbaaFrameS
namespace Go.Proofs.Ytkihdgkcdnepbaa
set_option linter.unusedSimpArgs false
set_option linter.unusedVariables false
open Go.RowKit

theorem RdR.row {w : World} {n : Nat} {A : Option Addr} {rs : List (List UInt8)} (h : RdR w A n rs) {k : Nat} (hk : k < n) :
    ∃ (b off : Nat) (hl : k < rs.length) (A' : Option Addr) (n' c' : Nat), A = some ⟨b, off, none⟩ ∧ b < w.heap.size ∧ w.cell? ⟨b, off + k, none⟩ = some (.slice A' n' c') ∧ n' ≤ c' ∧ c' ≤ maxLen ∧ Hid (Rd w w.heap.size 1 A' n' (bvs rs[k])) := by
  have hl := h.len
  obtain ⟨vs, h1, h2⟩ := h
  obtain ⟨v, h3, A', n', c', rfl, h5, h6, h7, _⟩ := h2.2 k (by omega)
  obtain ⟨b, off, rfl, hb, hc⟩ := h1.2 (by omega)
  exact ⟨b, off, by omega, A', n', c', rfl, hb, by rw [hc k (by rw [h1.len1]; exact hk), h3], h5, h6, Lib.hid h7⟩
theorem take_succ_eq {α : Type} {a b : List α} {k : Nat} (ha : k < a.length) (hb : k < b.length) (h : a.take k = b.take k) (he : a[k] = b[k]) : a.take (k + 1) = b.take (k + 1) := by
  rw [List.take_succ_eq_append_getElem ha, List.take_succ_eq_append_getElem hb, h, he]

set_option maxHeartbeats 1000000 in
theorem same_any (A : Option Addr) (n c : Nat) (ra : List (List UInt8)) (B : Option Addr) (m d : Nat) (rb : List (List UInt8)) (w : World) (h1 : RdR w A n ra) (h2 : RdR w B m rb) (hn : n ≤ 4611686018427387904) (hm : m ≤ 4611686018427387904) :
    Calls Try.prog 34 #[.slice A n c, .slice B m d] w fun e w' => e = .returned (.bool (decide (ra = rb))) ∧ Below w.heap.size w w' := by
  have hla := h1.len
  have hlb := h2.len
  have RA := Lib.hid h1
  have RB := Lib.hid h2
  clear h1 h2
  go_enter Try.func34, Try.ntmps34
  by_cases hnm : n = m
  · subst hnm
    have d1 : ((n : Int) != n) = false := by simp
    go_wp2_with fail
    go_loopw [5] (fun s5 wr => ∃ k : Nat, k ≤ n ∧ s5 = .int .i64 k ∧ ra.take k = rb.take k ∧ Below w.heap.size w wr) (fun s5 _ => n - (intOf s5).toNat)
    case atStart => exact ⟨0, by omega, rfl, by simp, Below.refl _ _⟩
    case round =>
      obtain ⟨k, hk, rfl, hT, hB⟩ := hrel
      have HT := Lib.hid hT
      have HB := Lib.hid hB
      clear hT hB
      by_cases hk2 : k < n
      · have d2 := decT (show (k : Int) < n by omega)
        obtain ⟨b1, o1, k1, A1, n1, c1, rfl, hb1, hc1, _, _, R1⟩ := (RA.out.below HB.out).row hk2
        obtain ⟨b2, o2, k2, A2, n2, c2, rfl, hb2, hc2, _, _, R2⟩ := (RB.out.below HB.out).row hk2
        have HR : Hid (ra[k] = rb[k] → ra.take (k + 1) = rb.take (k + 1)) := Lib.hid (take_succ_eq k1 k2 HT.out)
        have HN : Hid (ra[k] ≠ rb[k] → ra ≠ rb) := Lib.hid fun h e => h (by subst e; rfl)
        generalize ra[k] = x1 at *
        generalize rb[k] = x2 at *
        go_wp2_with fail
        have S1 := Lib.hid fun w' (hb : Below wr.drew.heap.size wr.drew w') => str_of w' A1 n1 c1 _ _ (R1.out.drew.below' hb)
        have S2 := Lib.hid fun w' (hb : Below wr.drew.heap.size wr.drew w') => str_of w' A2 n2 c2 _ _ (R2.out.drew.below' hb)
        refine rb_start (by kernel_rfl) ?_
        refine rb_take 0 (v := ?_) rfl (by kernel_rfl) (by kernel_rfl) (by kernel_rfl) (by rfl) ?_ ?_
        rotate_left
        · intro w' hb'
          have hcf := by first | exact bcellD hb' | exact bcell hb'
          obtain ⟨hcc, hff⟩ := hcf
          have xS1 := S1.out w' hb'
          have xS2 := S2.out w' hb'
          go_simp
          (try rfl)
        (try simp only [Act.put, List.setIfInBounds_toArray, List.set_cons_zero, List.set_cons_succ])
        refine rb_take 1 (v := ?_) rfl (by kernel_rfl) (by kernel_rfl) (by kernel_rfl) (by rfl) ?_ ?_
        rotate_left
        · intro w' hb'
          have hcf := by first | exact bcellD hb' | exact bcell hb'
          obtain ⟨hcc, hff⟩ := hcf
          have xS1 := S1.out w' hb'
          have xS2 := S2.out w' hb'
          go_simp
          (try rfl)
        (try simp only [Act.put, List.setIfInBounds_toArray, List.set_cons_zero, List.set_cons_succ])
        refine rb_take 2 (v := ?_) rfl (by kernel_rfl) (by kernel_rfl) (by kernel_rfl) (by rfl) ?_ ?_
        rotate_left
        · intro w' hb'
          have hcf := by first | exact bcellD hb' | exact bcell hb'
          obtain ⟨hcc, hff⟩ := hcf
          have xS1 := S1.out w' hb'
          have xS2 := S2.out w' hb'
          go_simp
          (try rfl)
        (try simp only [Act.put, List.setIfInBounds_toArray, List.set_cons_zero, List.set_cons_succ])
        refine rb_take 3 (v := ?_) rfl (by kernel_rfl) (by kernel_rfl) (by kernel_rfl) (by rfl) ?_ ?_
        rotate_left
        · intro w' hb'
          have hcf := by first | exact bcellD hb' | exact bcell hb'
          obtain ⟨hcc, hff⟩ := hcf
          have xS1 := S1.out w' hb'
          have xS2 := S2.out w' hb'
          go_simp
          (try rfl)
        (try simp only [Act.put, List.setIfInBounds_toArray, List.set_cons_zero, List.set_cons_succ])
        refine rb_take 4 (v := ?_) rfl (by kernel_rfl) (by kernel_rfl) (by kernel_rfl) (by rfl) ?_ ?_
        rotate_left
        · intro w' hb'
          have hcf := by first | exact bcellD hb' | exact bcell hb'
          obtain ⟨hcc, hff⟩ := hcf
          have xS1 := S1.out w' hb'
          have xS2 := S2.out w' hb'
          go_simp
          (try rfl)
        (try simp only [Act.put, List.setIfInBounds_toArray, List.set_cons_zero, List.set_cons_succ])
        refine rb_take 5 (v := ?_) rfl (by kernel_rfl) (by kernel_rfl) (by kernel_rfl) (by rfl) ?_ ?_
        rotate_left
        · intro w' hb'
          have hcf := by first | exact bcellD hb' | exact bcell hb'
          obtain ⟨hcc, hff⟩ := hcf
          have xS1 := S1.out w' hb'
          have xS2 := S2.out w' hb'
          go_simp
          (try rfl)
        (try simp only [Act.put, List.setIfInBounds_toArray, List.set_cons_zero, List.set_cons_succ])
        refine rb_take 6 (v := ?_) rfl (by kernel_rfl) (by kernel_rfl) (by kernel_rfl) (by rfl) ?_ ?_
        rotate_left
        · intro w' hb'
          have hcf := by first | exact bcellD hb' | exact bcell hb'
          obtain ⟨hcc, hff⟩ := hcf
          have xS1 := S1.out w' hb'
          have xS2 := S2.out w' hb'
          go_simp
          (try rfl)
        (try simp only [Act.put, List.setIfInBounds_toArray, List.set_cons_zero, List.set_cons_succ])
        refine rb_take 7 (v := ?_) rfl (by kernel_rfl) (by kernel_rfl) (by kernel_rfl) (by rfl) ?_ ?_
        rotate_left
        · intro w' hb'
          have hcf := by first | exact bcellD hb' | exact bcell hb'
          obtain ⟨hcc, hff⟩ := hcf
          have xS1 := S1.out w' hb'
          have xS2 := S2.out w' hb'
          go_simp
          (try rfl)
        (try simp only [Act.put, List.setIfInBounds_toArray, List.set_cons_zero, List.set_cons_succ])
        refine rb_take 8 (v := ?_) rfl (by kernel_rfl) (by kernel_rfl) (by kernel_rfl) (by rfl) ?_ ?_
        rotate_left
        · intro w' hb'
          have hcf := by first | exact bcellD hb' | exact bcell hb'
          obtain ⟨hcc, hff⟩ := hcf
          have xS1 := S1.out w' hb'
          have xS2 := S2.out w' hb'
          go_simp
          (try rfl)
        (try simp only [Act.put, List.setIfInBounds_toArray, List.set_cons_zero, List.set_cons_succ])
        refine rb_take 9 (v := ?_) rfl (by kernel_rfl) (by kernel_rfl) (by kernel_rfl) (by rfl) ?_ ?_
        rotate_left
        · intro w' hb'
          have hcf := by first | exact bcellD hb' | exact bcell hb'
          obtain ⟨hcc, hff⟩ := hcf
          have xS1 := S1.out w' hb'
          have xS2 := S2.out w' hb'
          go_simp
          (try rfl)
        (try simp only [Act.put, List.setIfInBounds_toArray, List.set_cons_zero, List.set_cons_succ])
        refine rb_take 10 (v := ?_) rfl (by kernel_rfl) (by kernel_rfl) (by kernel_rfl) (by rfl) ?_ ?_
        rotate_left
        · intro w' hb'
          have hcf := by first | exact bcellD hb' | exact bcell hb'
          obtain ⟨hcc, hff⟩ := hcf
          have xS1 := S1.out w' hb'
          have xS2 := S2.out w' hb'
          go_simp
          (try rfl)
        (try simp only [Act.put, List.setIfInBounds_toArray, List.set_cons_zero, List.set_cons_succ])
        refine rb_done (by kernel_rfl) ?_
        go_wp2
        · have hne : x1 ≠ x2 := by
            have h' : (!x1 == x2) = true := by assumption
            simpa using h'
          have HE := Lib.hid (decF (HN.out hne))
          go_ret
          exact ⟨by rw [HE.out]; rfl, HB.out.drew⟩
        · have heq : x1 = x2 := by
            have h' : (!x1 == x2) = false := by assumption
            simpa using h'
          go_roundw
          case rel => exact ⟨k + 1, by omega, by go_num, HR.out heq, HB.out.drew⟩
          case measure => simp [intOf]; omega
      · have d2 := decF (show ¬ (k : Int) < n by omega)
        have HE := Lib.hid (decT (show ra = rb by have := HT.out; rwa [List.take_of_length_le (by omega), List.take_of_length_le (by omega)] at this))
        go_wp2_with fail
        go_ret
        exact ⟨by rw [HE.out]; rfl, HB.out⟩
  · have d1 : ((n : Int) != m) = true := by simp; omega
    have HE := Lib.hid (decF (show ¬ ra = rb by intro e; subst e; omega))
    go_wp2_with fail
    go_ret
    exact ⟨by rw [HE.out]; rfl, Below.refl _ _⟩

/-- What punnetref07.Get leaves. -/
def RetRG (w : World) (Bd : Nat) (t : Nat → Nat) (l : List UInt8) (k : Nat) (e : Ending) (w' : World) : Prop :=
  Below w.heap.size w w' ∧ match fget t (l.drop k) with
    | none => e = .returned (.tuple #[.slice none 0 0, .int .i64 0, .bool false])
    | some b => ∃ A n c, e = .returned (.tuple #[.slice A n c, .int .i64 ((k + 8 + b.length : Nat) : Int), .bool true]) ∧ n ≤ c ∧ c ≤ maxLen ∧ Rd w Bd 1 A n (bvs b)

set_option maxHeartbeats 2000000 in
theorem rgetF_any (A0 : Option Addr) (n0 c0 : Nat) (l0 : List UInt8) (k : Nat) (t : Nat → Nat) (ht : ∀ i, i < 256 → t i < 4294967296) (w : World) (Bd : Nat) (hBd : Bd ≤ w.heap.size)
    (h00 : Rd w Bd 1 A0 n0 (bvs l0)) (hk : k ≤ n0) (hnc : n0 ≤ c0) (hn0 : n0 ≤ 1000000000000) (hc63 : c0 ≤ maxLen) :
    Calls Try.prog 35 #[.slice A0 n0 c0, .int .i64 k, .agg (tabCells t)] w (RetRG w Bd t l0 k) := by
  have h0 := h00.more hBd
  have RBd := Lib.hid h00
  clear h00
  have hc64 := hc63
  unfold maxLen at hc64
  have hl0 := h0.blen
  have R00 := Lib.hid h0
  have R0 := Lib.hid (h0.alloc' (Obj.cells (tabCells t) 26))
  have B0 := Lib.hid ((Below.refl w.heap.size w).alloc (Nat.le_refl _) (Obj.cells (tabCells t) 26))
  have HG0 := Lib.hid (heap_alloc_new w (Obj.cells (tabCells t) 26))
  have hkc : k ≤ c0 := by omega
  have hdl : (l0.drop k).length = n0 - k := by rw [List.length_drop, hl0]
  have HDL := Lib.hid hdl
  clear hdl h0
  go_enter Try.func35, Try.ntmps35
  by_cases g3 : n0 - k < 8
  · have d3 := decT (show ((n0 - k : Nat) : Int) < 8 by omega)
    have d3' := decT (show (n0 : Int) - k < 8 by omega)
    have HE := Lib.hid (show fget t (l0.drop k) = none by rw [fget, if_pos (by rw [HDL.out]; omega)])
    go_wp2_with fail
    all_goals
      go_ret3
      refine ⟨B0.out, ?_⟩
      rw [HE.out]
      rfl
  · obtain ⟨b, off, hkl, rfl, hb, hcc, hy⟩ := R00.out.byte (show k < n0 by omega)
    clear hcc hy
    have q1 : ¬ c0 = k := by omega
    have d3 := decF (show ¬ ((n0 - k : Nat) : Int) < 8 by omega)
    have d3' := decF (show ¬ (n0 : Int) - k < 8 by omega)
    have RW := Lib.hid (R00.out.sub k (n0 - k) (by omega))
    rw [List.take_of_length_le (by rw [HDL.out]; omega)] at RW
    have RR := Lib.hid (R0.out.sub k (n0 - k) (by omega))
    rw [List.take_of_length_le (by rw [HDL.out]; omega)] at RR
    obtain ⟨r, hr⟩ : ∃ r, l0.drop k = r := ⟨_, rfl⟩
    have HR := Lib.hid hr
    rw [hr] at HDL RR RW
    clear hr
    have HN4 := Lib.hid (num4 r (by rw [HDL.out]; omega))
    obtain ⟨b', off', k0, e, _, c0', y0⟩ := RR.out.byte (show 0 < n0 - k by omega)
    injection e with e; injection e with e1 e2; subst e1 e2
    obtain ⟨b', off', k1, e, _, c1', y1⟩ := RR.out.byte (show 1 < n0 - k by omega)
    injection e with e; injection e with e1 e2; subst e1 e2
    obtain ⟨b', off', k2, e, _, c2', y2⟩ := RR.out.byte (show 2 < n0 - k by omega)
    injection e with e; injection e with e1 e2; subst e1 e2
    obtain ⟨b', off', k3, e, hbb, c3', y3⟩ := RR.out.byte (show 3 < n0 - k by omega)
    injection e with e; injection e with e1 e2; subst e1 e2
    rw [Nat.add_zero] at c0'
    generalize r[0].toNat = a0 at *
    generalize r[1].toNat = a1 at *
    generalize r[2].toNat = a2 at *
    generalize r[3].toNat = a3 at *
    have i0 : (0 : Int) < ((n0 - k : Nat) : Int) := by omega
    have i1 : (1 : Int) < ((n0 - k : Nat) : Int) := by omega
    have i2 : (2 : Int) < ((n0 - k : Nat) : Int) := by omega
    have i3 : (3 : Int) < ((n0 - k : Nat) : Int) := by omega
    have i0' : 0 < n0 - k := by omega
    have i1' : 1 < n0 - k := by omega
    have i2' : 2 < n0 - k := by omega
    have i3' : 3 < n0 - k := by omega
    obtain ⟨N, hN⟩ : ∃ N, N = a0 + 256 * a1 + 65536 * a2 + 16777216 * a3 := ⟨_, rfl⟩
    have HN := Lib.hid (HN4.out.trans hN.symm)
    go_upto_region 4 with fail
    go_cut [10] (fun s wx => s = .int .i64 N ∧ wx = (w.alloc (Obj.cells (tabCells t) 26)).drew)
    case first =>
      refine rb_start (by kernel_rfl) ?_
      refine rb_take 0 (v := ?_) rfl (by kernel_rfl) (by kernel_rfl) (by kernel_rfl) (by rfl) ?_ ?_
      rotate_left
      · intro w' hb'
        have hcf := by first | exact bcellD hb' | exact bcell hb'
        obtain ⟨hcc, hff⟩ := hcf
        go_simp
        (try rfl)
      (try simp only [Act.put, List.setIfInBounds_toArray, List.set_cons_zero, List.set_cons_succ])
      refine rb_take 1 (v := ?_) rfl (by kernel_rfl) (by kernel_rfl) (by kernel_rfl) (by rfl) ?_ ?_
      rotate_left
      · intro w' hb'
        have hcf := by first | exact bcellD hb' | exact bcell hb'
        obtain ⟨hcc, hff⟩ := hcf
        go_simp
        (try rfl)
      (try simp only [Act.put, List.setIfInBounds_toArray, List.set_cons_zero, List.set_cons_succ])
      refine rb_take 2 (v := ?_) rfl (by kernel_rfl) (by kernel_rfl) (by kernel_rfl) (by rfl) ?_ ?_
      rotate_left
      · intro w' hb'
        have hcf := by first | exact bcellD hb' | exact bcell hb'
        obtain ⟨hcc, hff⟩ := hcf
        go_simp
        (try rfl)
      (try simp only [Act.put, List.setIfInBounds_toArray, List.set_cons_zero, List.set_cons_succ])
      refine rb_take 3 (v := ?_) rfl (by kernel_rfl) (by kernel_rfl) (by kernel_rfl) (by rfl) ?_ ?_
      rotate_left
      · intro w' hb'
        have hcf := by first | exact bcellD hb' | exact bcell hb'
        obtain ⟨hcc, hff⟩ := hcf
        go_simp
        (try rfl)
      (try simp only [Act.put, List.setIfInBounds_toArray, List.set_cons_zero, List.set_cons_succ])
      refine rb_take 4 (v := ?_) rfl (by kernel_rfl) (by kernel_rfl) (by kernel_rfl) (by rfl) ?_ ?_
      rotate_left
      · intro w' hb'
        have hcf := by first | exact bcellD hb' | exact bcell hb'
        obtain ⟨hcc, hff⟩ := hcf
        go_simp
        (try rfl)
      (try simp only [Act.put, List.setIfInBounds_toArray, List.set_cons_zero, List.set_cons_succ])
      refine rb_take 5 (v := ?_) rfl (by kernel_rfl) (by kernel_rfl) (by kernel_rfl) (by rfl) ?_ ?_
      rotate_left
      · intro w' hb'
        have hcf := by first | exact bcellD hb' | exact bcell hb'
        obtain ⟨hcc, hff⟩ := hcf
        go_simp
        (try rfl)
      (try simp only [Act.put, List.setIfInBounds_toArray, List.set_cons_zero, List.set_cons_succ])
      refine rb_take 6 (v := ?_) rfl (by kernel_rfl) (by kernel_rfl) (by kernel_rfl) (by rfl) ?_ ?_
      rotate_left
      · intro w' hb'
        have hcf := by first | exact bcellD hb' | exact bcell hb'
        obtain ⟨hcc, hff⟩ := hcf
        go_simp
        (try rfl)
      (try simp only [Act.put, List.setIfInBounds_toArray, List.set_cons_zero, List.set_cons_succ])
      refine rb_take 7 (v := ?_) rfl (by kernel_rfl) (by kernel_rfl) (by kernel_rfl) (by rfl) ?_ ?_
      rotate_left
      · intro w' hb'
        have hcf := by first | exact bcellD hb' | exact bcell hb'
        obtain ⟨hcc, hff⟩ := hcf
        go_simp
        (try rfl)
      (try simp only [Act.put, List.setIfInBounds_toArray, List.set_cons_zero, List.set_cons_succ])
      refine rb_take 8 (v := ?_) rfl (by kernel_rfl) (by kernel_rfl) (by kernel_rfl) (by rfl) ?_ ?_
      rotate_left
      · intro w' hb'
        have hcf := by first | exact bcellD hb' | exact bcell hb'
        obtain ⟨hcc, hff⟩ := hcf
        go_simp
        (try rfl)
      (try simp only [Act.put, List.setIfInBounds_toArray, List.set_cons_zero, List.set_cons_succ])
      refine rb_take 9 (v := ?_) rfl (by kernel_rfl) (by kernel_rfl) (by kernel_rfl) (by rfl) ?_ ?_
      rotate_left
      · intro w' hb'
        have hcf := by first | exact bcellD hb' | exact bcell hb'
        obtain ⟨hcc, hff⟩ := hcf
        go_simp
        (try rfl)
      (try simp only [Act.put, List.setIfInBounds_toArray, List.set_cons_zero, List.set_cons_succ])
      refine rb_take 10 (v := ?_) rfl (by kernel_rfl) (by kernel_rfl) (by kernel_rfl) (by rfl) ?_ ?_
      rotate_left
      · intro w' hb'
        have hcf := by first | exact bcellD hb' | exact bcell hb'
        obtain ⟨hcc, hff⟩ := hcf
        go_simp
        (try rfl)
      (try simp only [Act.put, List.setIfInBounds_toArray, List.set_cons_zero, List.set_cons_succ])
      refine rb_take 11 (v := ?_) rfl (by kernel_rfl) (by kernel_rfl) (by kernel_rfl) (by rfl) ?_ ?_
      rotate_left
      · intro w' hb'
        have hcf := by first | exact bcellD hb' | exact bcell hb'
        obtain ⟨hcc, hff⟩ := hcf
        go_simp
        (try rfl)
      (try simp only [Act.put, List.setIfInBounds_toArray, List.set_cons_zero, List.set_cons_succ])
      refine rb_take 12 (v := ?_) rfl (by kernel_rfl) (by kernel_rfl) (by kernel_rfl) (by rfl) ?_ ?_
      rotate_left
      · intro w' hb'
        have hcf := by first | exact bcellD hb' | exact bcell hb'
        obtain ⟨hcc, hff⟩ := hcf
        go_simp
        (try rfl)
      (try simp only [Act.put, List.setIfInBounds_toArray, List.set_cons_zero, List.set_cons_succ])
      refine rb_take 13 (v := ?_) rfl (by kernel_rfl) (by kernel_rfl) (by kernel_rfl) (by rfl) ?_ ?_
      rotate_left
      · intro w' hb'
        have hcf := by first | exact bcellD hb' | exact bcell hb'
        obtain ⟨hcc, hff⟩ := hcf
        go_simp
        (try rfl)
      (try simp only [Act.put, List.setIfInBounds_toArray, List.set_cons_zero, List.set_cons_succ])
      refine rb_take 14 (v := ?_) rfl (by kernel_rfl) (by kernel_rfl) (by kernel_rfl) (by rfl) ?_ ?_
      rotate_left
      · intro w' hb'
        have hcf := by first | exact bcellD hb' | exact bcell hb'
        obtain ⟨hcc, hff⟩ := hcf
        go_simp
        (try rfl)
      (try simp only [Act.put, List.setIfInBounds_toArray, List.set_cons_zero, List.set_cons_succ])
      refine rb_take 15 (v := ?_) rfl (by kernel_rfl) (by kernel_rfl) (by kernel_rfl) (by rfl) ?_ ?_
      rotate_left
      · intro w' hb'
        have hcf := by first | exact bcellD hb' | exact bcell hb'
        obtain ⟨hcc, hff⟩ := hcf
        go_simp
        (try rfl)
      (try simp only [Act.put, List.setIfInBounds_toArray, List.set_cons_zero, List.set_cons_succ])
      refine rb_take 16 (v := ?_) rfl (by kernel_rfl) (by kernel_rfl) (by kernel_rfl) (by rfl) ?_ ?_
      rotate_left
      · intro w' hb'
        have hcf := by first | exact bcellD hb' | exact bcell hb'
        obtain ⟨hcc, hff⟩ := hcf
        go_simp
        (try rfl)
      (try simp only [Act.put, List.setIfInBounds_toArray, List.set_cons_zero, List.set_cons_succ])
      refine rb_take 17 (v := ?_) rfl (by kernel_rfl) (by kernel_rfl) (by kernel_rfl) (by rfl) ?_ ?_
      rotate_left
      · intro w' hb'
        have hcf := by first | exact bcellD hb' | exact bcell hb'
        obtain ⟨hcc, hff⟩ := hcf
        go_simp
        (try rfl)
      (try simp only [Act.put, List.setIfInBounds_toArray, List.set_cons_zero, List.set_cons_succ])
      refine rb_take 18 (v := ?_) rfl (by kernel_rfl) (by kernel_rfl) (by kernel_rfl) (by rfl) ?_ ?_
      rotate_left
      · intro w' hb'
        have hcf := by first | exact bcellD hb' | exact bcell hb'
        obtain ⟨hcc, hff⟩ := hcf
        go_simp
        (try rfl)
      (try simp only [Act.put, List.setIfInBounds_toArray, List.set_cons_zero, List.set_cons_succ])
      refine rb_take 19 (v := ?_) rfl (by kernel_rfl) (by kernel_rfl) (by kernel_rfl) (by rfl) ?_ ?_
      rotate_left
      · intro w' hb'
        have hcf := by first | exact bcellD hb' | exact bcell hb'
        obtain ⟨hcc, hff⟩ := hcf
        go_simp
        (try rfl)
      (try simp only [Act.put, List.setIfInBounds_toArray, List.set_cons_zero, List.set_cons_succ])
      refine rb_take 20 (v := ?_) rfl (by kernel_rfl) (by kernel_rfl) (by kernel_rfl) (by rfl) ?_ ?_
      rotate_left
      · intro w' hb'
        have hcf := by first | exact bcellD hb' | exact bcell hb'
        obtain ⟨hcc, hff⟩ := hcf
        go_simp
        (try rfl)
      (try simp only [Act.put, List.setIfInBounds_toArray, List.set_cons_zero, List.set_cons_succ])
      refine rb_take 21 (v := ?_) rfl (by kernel_rfl) (by kernel_rfl) (by kernel_rfl) (by rfl) ?_ ?_
      rotate_left
      · intro w' hb'
        have hcf := by first | exact bcellD hb' | exact bcell hb'
        obtain ⟨hcc, hff⟩ := hcf
        go_simp
        (try rfl)
      (try simp only [Act.put, List.setIfInBounds_toArray, List.set_cons_zero, List.set_cons_succ])
      refine rb_take 22 (v := ?_) rfl (by kernel_rfl) (by kernel_rfl) (by kernel_rfl) (by rfl) ?_ ?_
      rotate_left
      · intro w' hb'
        have hcf := by first | exact bcellD hb' | exact bcell hb'
        obtain ⟨hcc, hff⟩ := hcf
        go_simp
        (try rfl)
      (try simp only [Act.put, List.setIfInBounds_toArray, List.set_cons_zero, List.set_cons_succ])
      refine rb_done (by kernel_rfl) ?_
      have z0 : IntKind.i64.wrap (a0 : Int) = a0 := IntWalk.i64_in _ (by omega)
      have z1 : IntKind.i64.wrap (a1 : Int) = a1 := IntWalk.i64_in _ (by omega)
      have z2 : IntKind.i64.wrap (a2 : Int) = a2 := IntWalk.i64_in _ (by omega)
      have z3 : IntKind.i64.wrap (a3 : Int) = a3 := IntWalk.i64_in _ (by omega)
      have p1 : IntKind.i64.wrap (256 * (a1 : Int)) = 256 * (a1 : Int) := IntWalk.i64_in _ (by omega)
      have p2 : IntKind.i64.wrap (65536 * (a2 : Int)) = 65536 * (a2 : Int) := IntWalk.i64_in _ (by omega)
      have p3 : IntKind.i64.wrap (16777216 * (a3 : Int)) = 16777216 * (a3 : Int) := IntWalk.i64_in _ (by omega)
      have s1 : IntKind.i64.wrap ((a0 : Int) + 256 * (a1 : Int)) = (a0 : Int) + 256 * (a1 : Int) := IntWalk.i64_in _ (by omega)
      have s2 : IntKind.i64.wrap ((a0 : Int) + 256 * (a1 : Int) + 65536 * (a2 : Int)) = (a0 : Int) + 256 * (a1 : Int) + 65536 * (a2 : Int) := IntWalk.i64_in _ (by omega)
      have s3 : IntKind.i64.wrap ((a0 : Int) + 256 * (a1 : Int) + 65536 * (a2 : Int) + 16777216 * (a3 : Int)) = N := by rw [IntWalk.i64_in _ (by omega)]; omega
      simp only [z0, z1, z2, z3, p1, p2, p3, s1, s2, s3]
      clear z0 z1 z2 z3 p1 p2 p3 s1 s2 s3
      go_wp2_with fail
      go_meet
      exact ⟨int_eq (by omega), rfl⟩
    case rest =>
      obtain ⟨rfl, rfl⟩ := hcut
      have hNb : N < 4294967296 := by omega
      clear hN HN4 c0' c1' c2' c3' i0 i1 i2 i3 i0' i1' i2' i3' y0 y1 y2 y3
      have HE0 := Lib.hid (show 60000 < N ∨ n0 - k < 8 + N → fget t (l0.drop k) = none by
        intro h
        rw [HR.out, fget, if_neg (by rw [HDL.out]; omega), HN.out, if_pos (by rw [HDL.out]; exact h)])
      by_cases g4 : 60000 < N
      · have d4 := decT (show (60000 : Int) < N by omega)
        have HE := Lib.hid (HE0.out (.inl g4))
        go_wp2_with fail
        go_ret3
        refine ⟨B0.out.drew, ?_⟩
        rw [HE.out]
        rfl
      · have d4 := decF (show ¬ (60000 : Int) < N by omega)
        by_cases g5 : n0 - k < 8 + N
        · have d5 := decT (show ((n0 - k : Nat) : Int) < 8 + N by omega)
          have HE := Lib.hid (HE0.out (.inr g5))
          go_wp2_with fail
          go_ret3
          refine ⟨B0.out.drew, ?_⟩
          rw [HE.out]
          rfl
        · have d5 := decF (show ¬ ((n0 - k : Nat) : Int) < 8 + N by omega)
          have hNk : 8 + N ≤ n0 - k := by omega
          have hNc : (8 : Int) + N ≤ ((c0 - k : Nat) : Int) := by omega
          have hNc' : 8 + N ≤ c0 - k := by omega
          have h8c : 8 ≤ c0 - k := by omega
          obtain ⟨AD, hAD⟩ : ∃ AD, (if c0 - k = 8 then some (⟨b, off + k, none⟩ : Addr) else some ⟨b, off + k + 8, none⟩) = AD := ⟨_, rfl⟩
          have RDB : Hid (Rd w Bd 1 AD N (bvs ((r.drop 8).take N))) := by
            rw [← hAD]
            split
            · obtain rfl : N = 0 := by omega
              exact Rd.none_
            · have h9 := (RBd.out.sub k (n0 - k) (by omega)).sub 8 N (by omega)
              rwa [HR.out, List.take_of_length_le (l := r) (by rw [HDL.out]; omega)] at h9
          have RD := Lib.hid (RDB.out.more hBd)
          go_wp2_with fail
          have B1 := Lib.hid B0.out.drew
          have hbl : ((r.drop 8).take N).length = N := by rw [List.length_take, List.length_drop, HDL.out]; omega
          have HF := Lib.hid (frame_iff t r (by rw [HN.out, HDL.out]; omega))
          rw [HN.out] at HF
          have HFG := Lib.hid (show fget t (l0.drop k) = if num ((r.drop 4).take 4) = ofN t (r.take 4 ++ (r.drop 8).take N) then some ((r.drop 8).take N) else none by
            rw [HR.out, fget, if_neg (by rw [HDL.out]; omega), HN.out, if_neg (by rw [HDL.out]; omega)])
          have HT8 := Lib.hid ((RW.out.btake (k := 8 + N) (by omega)).below' B1.out)
          have q9 : IntKind.i64.wrap (8 + (N : Int)) = 8 + (N : Int) := IntWalk.i64_in _ (by omega)
          have q2 : ((8 : Int) + N).toNat = 8 + N := by omega
          have q3 : (0 : Int) ≤ 8 + N := by omega
          have q4 : 0 ≤ 8 + N := by omega
          have hg1 : ((w.alloc (Obj.cells (tabCells t) 26)).drew).drew.heap[w.heap.size]? = _ := HG0.out
          generalize (r.drop 8).take N = body at *
          generalize r.take (8 + N) = whole at *
          have HRD := Lib.hid ((RD.out.below' B1.out).below' (Below.refl _ _).drew)
          refine rb_start (by kernel_rfl) ?_
          have S2 := Lib.hid fun w' (hb : Below (w.alloc (Obj.cells (tabCells t) 26)).drew.drew.heap.size (w.alloc (Obj.cells (tabCells t) 26)).drew.drew w') => str_of w' _ _ (c0 - k) _ _ (HT8.out.drew.below' hb)
          refine rb_take_row 0 rfl (by kernel_rfl) (by kernel_rfl) (by kernel_rfl) (by rfl) 26 _ rfl _ rfl 26 (tabCells t) (0, 0) _ (hg1) (by simp) Try.underlying26 rfl (tab_row _) ?_
          (try simp only [Act.put, List.setIfInBounds_toArray, List.set_cons_zero, List.set_cons_succ])
          refine rb_take 1 (v := ?_) rfl (by kernel_rfl) (by kernel_rfl) (by kernel_rfl) (by rfl) ?_ ?_
          rotate_left
          · intro w' hb'
            have hcf := by first | exact bcellD hb' | exact bcell hb'
            obtain ⟨hcc, hff⟩ := hcf
            have xS2 := S2.out w' hb'
            go_simp
            (try rfl)
          (try simp only [Act.put, List.setIfInBounds_toArray, List.set_cons_zero, List.set_cons_succ])
          refine rb_take 4 (v := ?_) rfl (by kernel_rfl) (by kernel_rfl) (by kernel_rfl) (by rfl) ?_ ?_
          rotate_left
          · intro w' hb'
            have hcf := by first | exact bcellD hb' | exact bcell hb'
            obtain ⟨hcc, hff⟩ := hcf
            have xS2 := S2.out w' hb'
            go_simp
            (try rfl)
          (try simp only [Act.put, List.setIfInBounds_toArray, List.set_cons_zero, List.set_cons_succ])
          refine rb_take 5 (v := ?_) rfl (by kernel_rfl) (by kernel_rfl) (by kernel_rfl) (by rfl) ?_ ?_
          rotate_left
          · intro w' hb'
            have hcf := by first | exact bcellD hb' | exact bcell hb'
            obtain ⟨hcc, hff⟩ := hcf
            have xS2 := S2.out w' hb'
            go_simp
            (try rfl)
          (try simp only [Act.put, List.setIfInBounds_toArray, List.set_cons_zero, List.set_cons_succ])
          refine rb_take 6 (v := ?_) rfl (by kernel_rfl) (by kernel_rfl) (by kernel_rfl) (by rfl) ?_ ?_
          rotate_left
          · intro w' hb'
            have hcf := by first | exact bcellD hb' | exact bcell hb'
            obtain ⟨hcc, hff⟩ := hcf
            have xS2 := S2.out w' hb'
            go_simp
            (try rfl)
          (try simp only [Act.put, List.setIfInBounds_toArray, List.set_cons_zero, List.set_cons_succ])
          refine rb_take 7 (v := ?_) rfl (by kernel_rfl) (by kernel_rfl) (by kernel_rfl) (by rfl) ?_ ?_
          rotate_left
          · intro w' hb'
            have hcf := by first | exact bcellD hb' | exact bcell hb'
            obtain ⟨hcc, hff⟩ := hcf
            have xS2 := S2.out w' hb'
            go_simp
            (try rfl)
          (try simp only [Act.put, List.setIfInBounds_toArray, List.set_cons_zero, List.set_cons_succ])
          refine rb_take 8 (v := ?_) rfl (by kernel_rfl) (by kernel_rfl) (by kernel_rfl) (by rfl) ?_ ?_
          rotate_left
          · intro w' hb'
            have hcf := by first | exact bcellD hb' | exact bcell hb'
            obtain ⟨hcc, hff⟩ := hcf
            have xS2 := S2.out w' hb'
            go_simp
            (try rfl)
          (try simp only [Act.put, List.setIfInBounds_toArray, List.set_cons_zero, List.set_cons_succ])
          refine rb_move 2 rfl (by kernel_rfl) (by rfl) (fun K hK => ?_)
          have HK := Lib.hid hK
          clear hK
          go_simp
          (with_reducible refine (rframe_any t ht _ _ _ body _ HRD.out (by omega)).mono ?_)
          rintro e w7 ⟨A7, n7, c7, rfl, ho7, hb7⟩
          refine HK.out _ _ hb7 ?_
          clear HK K
          (try simp only [Act.put, List.setIfInBounds_toArray, List.set_cons_zero, List.set_cons_succ])
          have S1 := Lib.hid fun w' (hb : Below w7.heap.size w7 w') => str_of w' A7 n7 c7 _ _ (ho7.rd.below' hb)
          refine rb_take 3 (v := ?_) rfl (by kernel_rfl) (by kernel_rfl) (by kernel_rfl) (by rfl) ?_ ?_
          rotate_left
          · intro w' hb'
            have hcf := by first | exact bcellD hb' | exact bcell hb'
            obtain ⟨hcc, hff⟩ := hcf
            have xS1 := S1.out w' hb'
            go_simp
            (try rfl)
          (try simp only [Act.put, List.setIfInBounds_toArray, List.set_cons_zero, List.set_cons_succ])
          refine rb_take 9 (v := ?_) rfl (by kernel_rfl) (by kernel_rfl) (by kernel_rfl) (by rfl) ?_ ?_
          rotate_left
          · intro w' hb'
            have hcf := by first | exact bcellD hb' | exact bcell hb'
            obtain ⟨hcc, hff⟩ := hcf
            have xS1 := S1.out w' hb'
            go_simp
            (try rfl)
          (try simp only [Act.put, List.setIfInBounds_toArray, List.set_cons_zero, List.set_cons_succ])
          refine rb_done (by kernel_rfl) ?_
          have B7 := Lib.hid (B1.out.drew.trans (hb7.mono B1.out.drew.size))
          clear hb7 ho7
          clear q9 q2 q3 q4
          go_wp2
          · have hne : frameN t body ≠ whole := by
              have h' : (!frameN t body == whole) = true := by assumption
              simpa using h'
            have HE := Lib.hid (show fget t (l0.drop k) = none by rw [HFG.out, if_neg (fun h => hne (HF.out.2 h))])
            go_ret3
            refine ⟨B7.out, ?_⟩
            rw [HE.out]
            rfl
          · have heq : frameN t body = whole := by
              have h' : (!frameN t body == whole) = false := by assumption
              simpa using h'
            have HE := Lib.hid (show fget t (l0.drop k) = some body by rw [HFG.out, if_pos (HF.out.1 heq)])
            go_ret3
            refine ⟨B7.out, ?_⟩
            rw [HE.out]
            refine ⟨AD, N, c0 - k - 8, ?_, by omega, by omega, RDB.out⟩
            rw [hbl]
            have hx : (k : Int) + 8 + N = ((k + 8 + N : Nat) : Int) := by omega
            first | rw [← hx]; rfl | (simp; omega)
end Go.Proofs.Ytkihdgkcdnepbaa
