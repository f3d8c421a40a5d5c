/- Frame, walks: low, number, Put, Size of the package frame. Conditions: numbers in their ranges, slices shorter than 2^46. -/
import Derived.Test.YtkihdgkcdnepbaaFrameP
import Derived.Test.YtkihdgkcdnepbaaCodeK
import Derived.Test.YtkihdgkcdnepbaaSumL
namespace Go.Proofs.Ytkihdgkcdnepbaa
set_option linter.unusedSimpArgs false
set_option linter.unusedVariables false
open Go.RowKit

theorem leB4 (u : Nat) : leB 4 u = [byteOf (u % 256), byteOf (u / 256 % 256), byteOf (u / 65536 % 256), byteOf (u / 16777216 % 256)] := by
  simp only [leB, Nat.div_div_eq_div_mul]
set_option maxHeartbeats 400000 in
theorem low_any (u : Nat) (ui : Int) (hu : ui = (u : Nat)) (w : World) (h : u < 4294967296) : Calls Try.prog 43 #[.int .u32 ui] w (RetB w (leB 4 u)) := by
  subst hu
  go_enter Try.func43, Try.ntmps43
  go_wp2_with fail
  go_ret
  refine ⟨_, _, _, rfl, OwnB.lit w (Nat.le_refl _) (leB 4 u) _ 4 ?_ (leB_len 4 u) (by unfold maxLen; omega), (Below.refl _ _).alloc (Nat.le_refl _) _⟩
  rw [leB4]
  simp only [bvs, bv, List.map_cons, List.map_nil, byteOf_toNat (show u % 256 < 256 by omega), byteOf_toNat (show u / 256 % 256 < 256 by omega), byteOf_toNat (show u / 65536 % 256 < 256 by omega), byteOf_toNat (show u / 16777216 % 256 < 256 by omega)]
  simp
  try omega

theorem num4 (l : List UInt8) (h : 4 ≤ l.length) : num (l.take 4) = l[0].toNat + 256 * l[1].toNat + 65536 * l[2].toNat + 16777216 * l[3].toNat := by
  obtain ⟨a, b, c, d, r, rfl⟩ : ∃ a b c d r, l = a :: b :: c :: d :: r := by
    match l, h with
    | a :: b :: c :: d :: r, _ => exact ⟨a, b, c, d, r, rfl⟩
  simp [num]
  omega
set_option maxHeartbeats 1000000 in
theorem number_any (A : Option Addr) (n c : Nat) (l : List UInt8) (w : World) (h : Rd w w.heap.size 1 A n (bvs l)) (h4 : 4 ≤ n) (hn : n ≤ 4611686018427387904) :
    Calls Try.prog 44 #[.slice A n c] w fun e w' => e = .returned (.int .u32 (num (l.take 4))) ∧ Below w.heap.size w w' := by
  have hl := h.blen
  obtain ⟨b, off, k0, rfl, hb, c0, y0⟩ := h.byte (show 0 < n by omega)
  obtain ⟨b', off', k1, e, _, c1, y1⟩ := h.byte (show 1 < n by omega)
  injection e with e; injection e with e1 e2; subst e1 e2
  obtain ⟨b', off', k2, e, _, c2, y2⟩ := h.byte (show 2 < n by omega)
  injection e with e; injection e with e1 e2; subst e1 e2
  obtain ⟨b', off', k3, e, _, c3, y3⟩ := h.byte (show 3 < n by omega)
  injection e with e; injection e with e1 e2; subst e1 e2
  have HN := Lib.hid (num4 l (by omega))
  rw [Nat.add_zero] at c0
  generalize l[0].toNat = a0 at *
  generalize l[1].toNat = a1 at *
  generalize l[2].toNat = a2 at *
  generalize l[3].toNat = a3 at *
  have x1 : bits .or .u32 (a0 : Int) ((a1 : Int) * 256) = ((a0 + a1 * 256 : Nat) : Int) := by
    rw [show (a1 : Int) * 256 = ((a1 * 256 : Nat) : Int) by omega, u32_or_nat _ _ (by omega) (by omega), Nat.or_comm, nat_join 8 (a1 * 256) a0 (by omega) (by omega), Nat.add_comm]
  obtain ⟨v1, hv1⟩ : ∃ v, v = a0 + a1 * 256 := ⟨_, rfl⟩
  rw [← hv1] at x1
  have l1 : v1 < 65536 := by omega
  have x2 : bits .or .u32 (v1 : Int) ((a2 : Int) * 65536) = ((v1 + a2 * 65536 : Nat) : Int) := by
    rw [show (a2 : Int) * 65536 = ((a2 * 65536 : Nat) : Int) by omega, u32_or_nat _ _ (by omega) (by omega), Nat.or_comm, nat_join 16 (a2 * 65536) v1 (by omega) (by omega), Nat.add_comm]
  obtain ⟨v2, hv2⟩ : ∃ v, v = v1 + a2 * 65536 := ⟨_, rfl⟩
  rw [← hv2] at x2
  have l2 : v2 < 16777216 := by omega
  have x3 : bits .or .u32 (v2 : Int) ((a3 : Int) * 16777216) = ((v2 + a3 * 16777216 : Nat) : Int) := by
    rw [show (a3 : Int) * 16777216 = ((a3 * 16777216 : Nat) : Int) by omega, u32_or_nat _ _ (by omega) (by omega), Nat.or_comm, nat_join 24 (a3 * 16777216) v2 (by omega) (by omega), Nat.add_comm]
  obtain ⟨v3, hv3⟩ : ∃ v, v = v2 + a3 * 16777216 := ⟨_, rfl⟩
  rw [← hv3] at x3
  have HV := Lib.hid (show num (l.take 4) = v3 by rw [HN.out]; omega)
  clear hv1 hv2 hv3
  have i0 : (0 : Int) < n := by omega
  have i0' : 0 < n := by omega
  have i1' : 1 < n := by omega
  have i2' : 2 < n := by omega
  have i3' : 3 < n := by omega
  have i1 : (1 : Int) < n := by omega
  have i2 : (2 : Int) < n := by omega
  have i3 : (3 : Int) < n := by omega
  go_enter Try.func44, Try.ntmps44
  go_wp2_with fail
  refine rb_start (by kernel_rfl) ?_
  refine rb_take 0 (v := ?_) rfl (by kernel_rfl) (by kernel_rfl) (by kernel_rfl) (by rfl) ?_ ?_
  rotate_left
  · intro w' hb'
    have hcf := by first | exact bcellD hb' | exact bcell hb'
    obtain ⟨hcc, hff⟩ := hcf
    go_simp
    (try rfl)
  (try simp only [Act.put, List.setIfInBounds_toArray, List.set_cons_zero, List.set_cons_succ])
  refine rb_take 1 (v := ?_) rfl (by kernel_rfl) (by kernel_rfl) (by kernel_rfl) (by rfl) ?_ ?_
  rotate_left
  · intro w' hb'
    have hcf := by first | exact bcellD hb' | exact bcell hb'
    obtain ⟨hcc, hff⟩ := hcf
    go_simp
    (try rfl)
  (try simp only [Act.put, List.setIfInBounds_toArray, List.set_cons_zero, List.set_cons_succ])
  refine rb_take 2 (v := ?_) rfl (by kernel_rfl) (by kernel_rfl) (by kernel_rfl) (by rfl) ?_ ?_
  rotate_left
  · intro w' hb'
    have hcf := by first | exact bcellD hb' | exact bcell hb'
    obtain ⟨hcc, hff⟩ := hcf
    go_simp
    (try rfl)
  (try simp only [Act.put, List.setIfInBounds_toArray, List.set_cons_zero, List.set_cons_succ])
  refine rb_take 3 (v := ?_) rfl (by kernel_rfl) (by kernel_rfl) (by kernel_rfl) (by rfl) ?_ ?_
  rotate_left
  · intro w' hb'
    have hcf := by first | exact bcellD hb' | exact bcell hb'
    obtain ⟨hcc, hff⟩ := hcf
    go_simp
    (try rfl)
  (try simp only [Act.put, List.setIfInBounds_toArray, List.set_cons_zero, List.set_cons_succ])
  refine rb_take 4 (v := ?_) rfl (by kernel_rfl) (by kernel_rfl) (by kernel_rfl) (by rfl) ?_ ?_
  rotate_left
  · intro w' hb'
    have hcf := by first | exact bcellD hb' | exact bcell hb'
    obtain ⟨hcc, hff⟩ := hcf
    go_simp
    (try rfl)
  (try simp only [Act.put, List.setIfInBounds_toArray, List.set_cons_zero, List.set_cons_succ])
  refine rb_take 5 (v := ?_) rfl (by kernel_rfl) (by kernel_rfl) (by kernel_rfl) (by rfl) ?_ ?_
  rotate_left
  · intro w' hb'
    have hcf := by first | exact bcellD hb' | exact bcell hb'
    obtain ⟨hcc, hff⟩ := hcf
    go_simp
    (try rfl)
  (try simp only [Act.put, List.setIfInBounds_toArray, List.set_cons_zero, List.set_cons_succ])
  refine rb_take 6 (v := ?_) rfl (by kernel_rfl) (by kernel_rfl) (by kernel_rfl) (by rfl) ?_ ?_
  rotate_left
  · intro w' hb'
    have hcf := by first | exact bcellD hb' | exact bcell hb'
    obtain ⟨hcc, hff⟩ := hcf
    go_simp
    (try rfl)
  (try simp only [Act.put, List.setIfInBounds_toArray, List.set_cons_zero, List.set_cons_succ])
  refine rb_take 7 (v := ?_) rfl (by kernel_rfl) (by kernel_rfl) (by kernel_rfl) (by rfl) ?_ ?_
  rotate_left
  · intro w' hb'
    have hcf := by first | exact bcellD hb' | exact bcell hb'
    obtain ⟨hcc, hff⟩ := hcf
    go_simp
    (try rfl)
  (try simp only [Act.put, List.setIfInBounds_toArray, List.set_cons_zero, List.set_cons_succ])
  refine rb_take 8 (v := ?_) rfl (by kernel_rfl) (by kernel_rfl) (by kernel_rfl) (by rfl) ?_ ?_
  rotate_left
  · intro w' hb'
    have hcf := by first | exact bcellD hb' | exact bcell hb'
    obtain ⟨hcc, hff⟩ := hcf
    go_simp
    (try rfl)
  (try simp only [Act.put, List.setIfInBounds_toArray, List.set_cons_zero, List.set_cons_succ])
  refine rb_take 9 (v := ?_) rfl (by kernel_rfl) (by kernel_rfl) (by kernel_rfl) (by rfl) ?_ ?_
  rotate_left
  · intro w' hb'
    have hcf := by first | exact bcellD hb' | exact bcell hb'
    obtain ⟨hcc, hff⟩ := hcf
    go_simp
    (try rfl)
  (try simp only [Act.put, List.setIfInBounds_toArray, List.set_cons_zero, List.set_cons_succ])
  refine rb_take 10 (v := ?_) rfl (by kernel_rfl) (by kernel_rfl) (by kernel_rfl) (by rfl) ?_ ?_
  rotate_left
  · intro w' hb'
    have hcf := by first | exact bcellD hb' | exact bcell hb'
    obtain ⟨hcc, hff⟩ := hcf
    go_simp
    (try rfl)
  (try simp only [Act.put, List.setIfInBounds_toArray, List.set_cons_zero, List.set_cons_succ])
  refine rb_take 11 (v := ?_) rfl (by kernel_rfl) (by kernel_rfl) (by kernel_rfl) (by rfl) ?_ ?_
  rotate_left
  · intro w' hb'
    have hcf := by first | exact bcellD hb' | exact bcell hb'
    obtain ⟨hcc, hff⟩ := hcf
    go_simp
    (try rfl)
  (try simp only [Act.put, List.setIfInBounds_toArray, List.set_cons_zero, List.set_cons_succ])
  refine rb_take 12 (v := ?_) rfl (by kernel_rfl) (by kernel_rfl) (by kernel_rfl) (by rfl) ?_ ?_
  rotate_left
  · intro w' hb'
    have hcf := by first | exact bcellD hb' | exact bcell hb'
    obtain ⟨hcc, hff⟩ := hcf
    go_simp
    (try rfl)
  (try simp only [Act.put, List.setIfInBounds_toArray, List.set_cons_zero, List.set_cons_succ])
  refine rb_take 13 (v := ?_) rfl (by kernel_rfl) (by kernel_rfl) (by kernel_rfl) (by rfl) ?_ ?_
  rotate_left
  · intro w' hb'
    have hcf := by first | exact bcellD hb' | exact bcell hb'
    obtain ⟨hcc, hff⟩ := hcf
    go_simp
    (try rfl)
  (try simp only [Act.put, List.setIfInBounds_toArray, List.set_cons_zero, List.set_cons_succ])
  refine rb_take 14 (v := ?_) rfl (by kernel_rfl) (by kernel_rfl) (by kernel_rfl) (by rfl) ?_ ?_
  rotate_left
  · intro w' hb'
    have hcf := by first | exact bcellD hb' | exact bcell hb'
    obtain ⟨hcc, hff⟩ := hcf
    go_simp
    (try rfl)
  (try simp only [Act.put, List.setIfInBounds_toArray, List.set_cons_zero, List.set_cons_succ])
  refine rb_take 15 (v := ?_) rfl (by kernel_rfl) (by kernel_rfl) (by kernel_rfl) (by rfl) ?_ ?_
  rotate_left
  · intro w' hb'
    have hcf := by first | exact bcellD hb' | exact bcell hb'
    obtain ⟨hcc, hff⟩ := hcf
    go_simp
    (try rfl)
  (try simp only [Act.put, List.setIfInBounds_toArray, List.set_cons_zero, List.set_cons_succ])
  refine rb_take 16 (v := ?_) rfl (by kernel_rfl) (by kernel_rfl) (by kernel_rfl) (by rfl) ?_ ?_
  rotate_left
  · intro w' hb'
    have hcf := by first | exact bcellD hb' | exact bcell hb'
    obtain ⟨hcc, hff⟩ := hcf
    go_simp
    (try rfl)
  (try simp only [Act.put, List.setIfInBounds_toArray, List.set_cons_zero, List.set_cons_succ])
  refine rb_take 17 (v := ?_) rfl (by kernel_rfl) (by kernel_rfl) (by kernel_rfl) (by rfl) ?_ ?_
  rotate_left
  · intro w' hb'
    have hcf := by first | exact bcellD hb' | exact bcell hb'
    obtain ⟨hcc, hff⟩ := hcf
    go_simp
    (try rfl)
  (try simp only [Act.put, List.setIfInBounds_toArray, List.set_cons_zero, List.set_cons_succ])
  refine rb_take 18 (v := ?_) rfl (by kernel_rfl) (by kernel_rfl) (by kernel_rfl) (by rfl) ?_ ?_
  rotate_left
  · intro w' hb'
    have hcf := by first | exact bcellD hb' | exact bcell hb'
    obtain ⟨hcc, hff⟩ := hcf
    go_simp
    (try rfl)
  (try simp only [Act.put, List.setIfInBounds_toArray, List.set_cons_zero, List.set_cons_succ])
  refine rb_take 19 (v := ?_) rfl (by kernel_rfl) (by kernel_rfl) (by kernel_rfl) (by rfl) ?_ ?_
  rotate_left
  · intro w' hb'
    have hcf := by first | exact bcellD hb' | exact bcell hb'
    obtain ⟨hcc, hff⟩ := hcf
    go_simp
    (try rfl)
  (try simp only [Act.put, List.setIfInBounds_toArray, List.set_cons_zero, List.set_cons_succ])
  refine rb_take 20 (v := ?_) rfl (by kernel_rfl) (by kernel_rfl) (by kernel_rfl) (by rfl) ?_ ?_
  rotate_left
  · intro w' hb'
    have hcf := by first | exact bcellD hb' | exact bcell hb'
    obtain ⟨hcc, hff⟩ := hcf
    go_simp
    (try rfl)
  (try simp only [Act.put, List.setIfInBounds_toArray, List.set_cons_zero, List.set_cons_succ])
  refine rb_take 21 (v := ?_) rfl (by kernel_rfl) (by kernel_rfl) (by kernel_rfl) (by rfl) ?_ ?_
  rotate_left
  · intro w' hb'
    have hcf := by first | exact bcellD hb' | exact bcell hb'
    obtain ⟨hcc, hff⟩ := hcf
    go_simp
    (try rfl)
  (try simp only [Act.put, List.setIfInBounds_toArray, List.set_cons_zero, List.set_cons_succ])
  refine rb_take 22 (v := ?_) rfl (by kernel_rfl) (by kernel_rfl) (by kernel_rfl) (by rfl) ?_ ?_
  rotate_left
  · intro w' hb'
    have hcf := by first | exact bcellD hb' | exact bcell hb'
    obtain ⟨hcc, hff⟩ := hcf
    go_simp
    (try rfl)
  (try simp only [Act.put, List.setIfInBounds_toArray, List.set_cons_zero, List.set_cons_succ])
  refine rb_done (by kernel_rfl) ?_
  go_wp2_with fail
  go_ret
  have z0 : IntKind.u32.wrap (a0 : Int) = a0 := IntWalk.u32_in _ (by omega)
  have z1 : IntKind.u32.wrap (a1 : Int) = a1 := IntWalk.u32_in _ (by omega)
  have z2 : IntKind.u32.wrap (a2 : Int) = a2 := IntWalk.u32_in _ (by omega)
  have z3 : IntKind.u32.wrap (a3 : Int) = a3 := IntWalk.u32_in _ (by omega)
  have p1 : IntKind.u32.wrap ((a1 : Int) * 256) = (a1 : Int) * 256 := IntWalk.u32_in _ (by omega)
  have p2 : IntKind.u32.wrap ((a2 : Int) * 65536) = (a2 : Int) * 65536 := IntWalk.u32_in _ (by omega)
  have p3 : IntKind.u32.wrap ((a3 : Int) * 16777216) = (a3 : Int) * 16777216 := IntWalk.u32_in _ (by omega)
  exact ⟨ret_int (by rw [HV.out, z0, z1, z2, z3, p1, p2, p3, x1, x2, x3]), (Below.refl _ _).drew⟩

def RetBC (w : World) (l : List UInt8) (code : Int) (e : Ending) (w' : World) : Prop := ∃ A n c, e = .returned (.tuple #[.slice A n c, .int .i64 code]) ∧ OwnB w' w.heap.size A n c l ∧ Below w.heap.size w w'

set_option maxHeartbeats 2000000 in
theorem fput_any (A0 : Option Addr) (n0 c0 : Nat) (l0 : List UInt8) (t : Nat → Nat) (ht : ∀ i, i < 256 → t i < 4294967296) (A2 : Option Addr) (n2 c2 : Nat) (l2 : List UInt8) (w : World)
    (h0 : Rd w w.heap.size 1 A0 n0 (bvs l0)) (h2 : Rd w w.heap.size 1 A2 n2 (bvs l2)) (hn0 : n0 ≤ 35184372088832) (hn2 : n2 ≤ 4611686018427387904) :
    Calls Try.prog 28 #[.slice A0 n0 c0, .agg (tabCells t), .slice A2 n2 c2] w (RetBC w (if 60000 < n2 then [] else l0 ++ frameN t l2) (if 60000 < n2 then 14 else 0)) := by
  have hl0 := h0.blen
  have hl2 := h2.blen
  have R0 := Lib.hid (h0.alloc' (Obj.cells (tabCells t) 26))
  have R2 := Lib.hid (h2.alloc' (Obj.cells (tabCells t) 26))
  have B0 := Lib.hid ((Below.refl w.heap.size w).alloc (Nat.le_refl _) (Obj.cells (tabCells t) 26))
  have hg0 := heap_alloc_new w (Obj.cells (tabCells t) 26)
  clear h0 h2
  by_cases hbig : 60000 < n2
  · rw [if_pos hbig, if_pos hbig]
    have d1 := decT (show (60000 : Int) < n2 by omega)
    go_enter Try.func28, Try.ntmps28
    go_wp2_with fail
    go_ret2
    exact ⟨none, 0, 0, rfl, OwnB.nil_ _ _, B0.out⟩
  · rw [if_neg hbig, if_neg hbig]
    have d1 := decF (show ¬ (60000 : Int) < n2 by omega)
    have HG0 := Lib.hid hg0
    clear hg0
    go_enter Try.func28, Try.ntmps28
    go_wp2_with fail
    (with_reducible refine (low_any n2 _ (by omega) _ (by omega)).mono ?_)
    rintro e w1 ⟨A3, n3, c3, rfl, hO3, hB⟩
    have hn3 := hO3.len
    rw [leB_len] at hn3
    subst hn3
    have B01 := Lib.hid hB
    have B1 := Lib.hid (B0.out.trans (hB.mono B0.out.size))
    have O3 := Lib.hid hO3
    clear hB hO3
    go_wp2_with (first | (at_make; (with_reducible refine wpList_mk _ rfl _ _ rfl w1.heap.size _ _ _ (n0 + 8 + n2) rfl rfl ?_ ?_ ?_ ?_)))
    · omega
    · omega
    · exact Nat.le_refl _
    intro w2 ho2 hg2
    have B12 := Lib.hid (below_of_grown hg2)
    have O2 := Lib.hid ho2
    clear ho2 hg2
    go_wp2_with (first | (at_builtin; (with_reducible refine wpList_app _ rfl _ _ rfl w1.heap.size _ _ _ [] rfl O2.out _ _ _ l0 rfl ?_ ?_ ?_ ?_)))
    · exact (R0.out.below' B01.out).below' B12.out
    · omega
    · exact B12.out.size
    intro A4 c4 w4 ho4 hg4 _
    have B14 := Lib.hid (B12.out.grown hg4 B12.out.size fun k hk => (O2.out.lt k hk).1)
    have O4 := Lib.hid ho4
    clear ho4 hg4
    go_wp2_with (first | (at_builtin; (with_reducible refine wpList_app _ rfl _ _ rfl w1.heap.size _ _ _ l0 rfl O4.out _ _ _ (leB 4 n2) rfl ?_ ?_ ?_ ?_)))
    · exact O3.out.rd.below' B14.out
    · omega
    · exact B14.out.size
    intro A5 c5 w5 ho5 hg5 _
    have B15 := Lib.hid (B14.out.grown hg5 B14.out.size fun k hk => (O4.out.lt k hk).1)
    have O5 := Lib.hid ho5
    clear ho5 hg5
    have HG5 := Lib.hid (blk_keep (blk_keep HG0.out B01.out) B15.out)
    go_wp2_with fail
    have hsz := ofN_lt (t := t) (leB 4 n2)
    have HS := Lib.hid (show onN t (ofN t (leB 4 n2)) l2 = ofN t (leB 4 l2.length ++ l2) by rw [onN_ofN ht, hl2])
    have hne : some w.heap.size ≠ (Value.slice A5 (n0 + 4) c5).ownBlock := by
      intro h
      have h1 := (O5.out.lt _ h.symm).1
      have h2 := B01.out.size
      simp at h2
      omega
    have hg5 : w5.drew.heap[w.heap.size]? = _ := HG5.out
    refine rb_startg ((Value.slice A5 (n0 + 4) c5).ownBlock) (by kernel_rfl) ?_
    refine rb_takeg 0 (v := ?_) rfl (by kernel_rfl) (by kernel_rfl) (by kernel_rfl) (by rfl) ?_ ?_
    rotate_left
    · intro w' hb'
      have hcf := by first | exact gcellD hb' | exact gcell hb'
      obtain ⟨hcc, hff⟩ := hcf
      go_simp
      (try rfl)
    (try simp only [Act.put, List.setIfInBounds_toArray, List.set_cons_zero, List.set_cons_succ])
    refine rb_take_row 1 rfl (by kernel_rfl) (by kernel_rfl) (by kernel_rfl) (by rfl) 26 _ rfl _ rfl 26 (tabCells t) (0, 0) _ (hg5) (hne) Try.underlying26 rfl (tab_row _) ?_
    (try simp only [Act.put, List.setIfInBounds_toArray, List.set_cons_zero, List.set_cons_succ])
    refine rb_take_row 2 rfl (by kernel_rfl) (by kernel_rfl) (by kernel_rfl) (by rfl) 26 _ rfl _ rfl 26 (tabCells t) (0, 0) _ (hg5) (hne) Try.underlying26 rfl (tab_row _) ?_
    (try simp only [Act.put, List.setIfInBounds_toArray, List.set_cons_zero, List.set_cons_succ])
    refine rb_takeg 3 (v := ?_) rfl (by kernel_rfl) (by kernel_rfl) (by kernel_rfl) (by rfl) ?_ ?_
    rotate_left
    · intro w' hb'
      have hcf := by first | exact gcellD hb' | exact gcell hb'
      obtain ⟨hcc, hff⟩ := hcf
      go_simp
      (try rfl)
    (try simp only [Act.put, List.setIfInBounds_toArray, List.set_cons_zero, List.set_cons_succ])
    refine rb_takeg 5 (v := ?_) rfl (by kernel_rfl) (by kernel_rfl) (by kernel_rfl) (by rfl) ?_ ?_
    rotate_left
    · intro w' hb'
      have hcf := by first | exact gcellD hb' | exact gcell hb'
      obtain ⟨hcc, hff⟩ := hcf
      go_simp
      (try rfl)
    (try simp only [Act.put, List.setIfInBounds_toArray, List.set_cons_zero, List.set_cons_succ])
    refine rb_move 4 rfl (by kernel_rfl) (by rfl) (fun K hK => ?_)
    have HK := Lib.hid hK
    clear hK
    go_simp
    (with_reducible refine (of_any t ht _ _ _ _ (leB 4 n2) (O3.out.rd.below' B15.out.drew) (by omega)).mono ?_)
    rintro e w6 ⟨rfl, hb6⟩
    refine HK.out _ _ hb6 ?_
    clear HK K
    (try simp only [Act.put, List.setIfInBounds_toArray, List.set_cons_zero, List.set_cons_succ])
    have B16 := Lib.hid (B15.out.drew.trans (hb6.mono B15.out.size))
    have O6 := Lib.hid (O5.out.drew.below hb6)
    clear hb6
    refine rb_move 6 rfl (by kernel_rfl) (by rfl) (fun K hK => ?_)
    have HK := Lib.hid hK
    clear hK
    go_simp
    (with_reducible refine (on_any t ht (ofN t (leB 4 n2)) hsz _ rfl _ _ _ _ l2 ((R2.out.below' B01.out).below' B16.out) (by omega)).mono ?_)
    rintro e w7 ⟨rfl, hb7⟩
    refine HK.out _ _ hb7 ?_
    clear HK K
    (try simp only [Act.put, List.setIfInBounds_toArray, List.set_cons_zero, List.set_cons_succ])
    have B17 := Lib.hid (B16.out.trans (hb7.mono B16.out.size))
    have O7 := Lib.hid (O6.out.below hb7)
    clear hb7
    refine rb_move 7 rfl (by kernel_rfl) (by rfl) (fun K hK => ?_)
    have HK := Lib.hid hK
    clear hK
    go_simp
    (with_reducible refine (low_any (onN t (ofN t (leB 4 n2)) l2) _ rfl _ (by rw [HS.out]; exact ofN_lt _)).mono ?_)
    rintro e w8 ⟨A8, n8, c8, rfl, ho8, hb8⟩
    refine HK.out _ _ hb8 ?_
    clear HK K
    (try simp only [Act.put, List.setIfInBounds_toArray, List.set_cons_zero, List.set_cons_succ])
    have B18 := Lib.hid (B17.out.trans (hb8.mono B17.out.size))
    have O8 := Lib.hid (O7.out.below hb8)
    clear hb8
    have hn8 := ho8.len
    rw [leB_len] at hn8
    subst hn8
    refine rb_moveg 8 rfl (by kernel_rfl) (by rfl) (fun K hK => ?_)
    have HK := Lib.hid hK
    clear hK
    refine wp_app _ _ _ rfl w1.heap.size A5 (n0 + 4) c5 (l0 ++ leB 4 n2) rfl O8.out _ _ _ _ rfl ho8.rd (by omega) B18.out.size ?_
    intro A9 c9 w9 ho9 hg9 _
    refine HK.out _ _ hg9 ?_
    clear HK K
    (try simp only [Act.put, List.setIfInBounds_toArray, List.set_cons_zero, List.set_cons_succ])
    have B19 := Lib.hid (B18.out.grown hg9 B18.out.size fun k hk => (O8.out.lt k hk).1)
    have O9 := Lib.hid ho9
    clear ho9 hg9
    refine rb_takeg 9 (v := ?_) rfl (by kernel_rfl) (by kernel_rfl) (by kernel_rfl) (by rfl) ?_ ?_
    rotate_left
    · intro w' hb'
      have hcf := by first | exact gcellD hb' | exact gcell hb'
      obtain ⟨hcc, hff⟩ := hcf
      go_simp
      (try rfl)
    (try simp only [Act.put, List.setIfInBounds_toArray, List.set_cons_zero, List.set_cons_succ])
    refine rb_done (by kernel_rfl) ?_
    go_wp2_with (first | (at_builtin; (with_reducible refine wpList_app _ rfl _ _ rfl w1.heap.size _ _ _ _ rfl O9.out _ _ _ l2 rfl ?_ ?_ ?_ ?_)))
    · exact (R2.out.below' B01.out).below' B19.out
    · omega
    · exact B19.out.size
    intro A10 c10 w10 ho10 hg10 _
    have B1A := Lib.hid (B19.out.grown hg10 B19.out.size fun k hk => (O9.out.lt k hk).1)
    have O10 := Lib.hid ho10
    clear ho10 hg10
    go_wp2_with fail
    go_ret2
    refine ⟨_, _, _, rfl, ?_, B1.out.trans (B1A.out.mono B1.out.size)⟩
    have := O10.out.base_le B1.out.size
    rw [HS.out] at this
    unfold frameN
    rw [hl2] at this ⊢
    simpa [List.append_assoc] using this
end Go.Proofs.Ytkihdgkcdnepbaa
