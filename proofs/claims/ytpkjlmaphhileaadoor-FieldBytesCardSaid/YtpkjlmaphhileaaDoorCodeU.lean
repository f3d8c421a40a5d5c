/- Code, walks: Put of the reference; the chapter's examples; the law CodeTurns. Conditions: int64 numbers. -/
import Derived.Test.YtpkjlmaphhileaaDoorCodeV
import Derived.Laws.BytesString
import Derived.Deep.DeepCutAuto
namespace Go.Proofs.YtpkjlmaphhileaaDoor
set_option linter.unusedSimpArgs false
set_option linter.unusedVariables false
set_option maxRecDepth 100000
open Go.RowKit

set_option maxHeartbeats 1000000 in
theorem rput_any (f z : Int) (w : World) (hf1 : -9223372036854775808 ≤ f) (hf2 : f ≤ 9223372036854775807) (h1 : -9223372036854775808 ≤ z) (h2 : z ≤ 9223372036854775807) :
    Calls Tryd.prog 52 #[.int .i64 f, .int .i64 z] w (RetB w (putN f z)) := by
  have O2 := Lib.hid (OwnB.empty (base := w.heap.size) w (Nat.le_refl _))
  have B2 := Lib.hid ((Below.refl w.heap.size w).alloc (Nat.le_refl _) (Obj.cells #[] 5))
  by_cases g1 : f = 1
  · have e1 : (f == 1) = true := by simp [g1]
    have e2 : (f == 2) = false := by simp [g1]
    have HP := Lib.hid (show putN f z = leB 8 (u64N z) by unfold putN; rw [if_pos g1])
    have hwz : IntKind.u64.wrap z = (u64N z : Nat) := by rw [IntKind.wrap_u64]; unfold u64N; omega
    have hU := u64N_lt z
    generalize putN f z = p at *
    generalize u64N z = U at *
    clear g1
    go_enter Tryd.func52, Tryd.ntmps52
    go_wp2_with fail
    go_loopw [5, 6, 7] (fun s8 s9 s27 wr => ∃ (k u n' c' : Nat) (A' : Option Addr), k ≤ 8 ∧ s27 = .int .i64 k ∧ s9 = .int .u64 u ∧ u = U / 256 ^ k ∧ s8 = .slice A' n' c' ∧ OwnB wr w.heap.size A' n' c' ((leB 8 U).take k) ∧ Below w.heap.size w wr) (fun _ _ s27 _ => 8 - (intOf s27).toNat)
    case atStart => exact ⟨0, U, _, _, _, by omega, rfl, rfl, by simp, rfl, by simpa using O2.out, B2.out⟩
    case round =>
      obtain ⟨k, u, n', c', A', hk, rfl, rfl, hu, rfl, hO, hB⟩ := hrel
      have HU := Lib.hid hu
      have O3 := Lib.hid hO
      have B3 := Lib.hid hB
      have hn' := hO.len
      rw [List.length_take, leB_len] at hn'
      have hn2 : n' ≤ 8 := by omega
      have hu64 : u < 18446744073709551616 := by rw [hu]; exact Nat.lt_of_le_of_lt (Nat.div_le_self _ _) hU
      clear hu hO hB hn'
      by_cases hk2 : k < 8
      · have hd := decT (show (k : Int) < 8 by omega)
        have hb8 := byteOf_toNat (show u % 256 < 256 by omega)
        have HB8 := Lib.hid hb8
        clear hb8
        go_wp2_with (first | (at_builtin; (with_reducible refine wpList_app _ rfl _ _ rfl w.heap.size _ _ _ _ rfl (O3.out.alloc _) _ _ _ [byteOf (u % 256)] rfl ?_ ?_ ?_ ?_)))
        · first | exact Rd.one _ _ _ (by rw [HB8.out]; try omega) | exact Rd.one' _ _ _ (by rw [HB8.out]; try omega)
        · omega
        · first | exact Nat.le_succ_of_le B3.out.size | (simp; exact Nat.le_succ_of_le B3.out.size)
        intro A4 c4 w4 ho4 hg4 _
        have B4 := Lib.hid ((B3.out.alloc B3.out.size _).grown hg4 (by simp; exact Nat.le_succ_of_le B3.out.size) fun k hk => (O3.out.lt k hk).1)
        have O4 := Lib.hid ho4
        clear ho4 hg4
        go_wp2_with fail
        go_roundw
        case rel => exact ⟨k + 1, u / 256, _, _, _, by omega, by go_num, int_eq (by omega), by rw [HU.out, Nat.div_div_eq_div_mul, Nat.pow_succ], rfl, by rw [leB_take U k hk2, ← HU.out]; exact O4.out, B4.out⟩
        case measure => simp [intOf]; omega
      · have hd := decF (show ¬ (k : Int) < 8 by omega)
        go_wp2_with fail
        go_ret
        exact ⟨_, _, _, rfl, by rw [HP.out, show leB 8 U = (leB 8 U).take k from (List.take_of_length_le (by rw [leB_len]; omega)).symm]; exact O3.out, B3.out⟩
  · have e1 : (f == 1) = false := by simp [g1]
    by_cases g2 : f = 2
    · have e2 : (f == 2) = true := by simp [g2]
      have HP := Lib.hid (show putN f z = vary 9 (turnN z) by unfold putN; rw [if_neg g1, if_pos g2])
      have hT := turnN_lt h1 h2
      generalize putN f z = p at *
      clear g1 g2
      go_enter Tryd.func52, Tryd.ntmps52
      go_wp2_with fail
      (with_reducible refine (rturn_any z _ h1 h2).mono ?_)
      rintro e w' ⟨rfl, rfl⟩
      go_wp2_with fail
      go_loopw [5, 8] (fun s5 s8 wr => ∃ (x j n' c' : Nat) (A' : Option Addr) (d : List UInt8), s8 = .int .u64 x ∧ s5 = .slice A' n' c' ∧ x < 2 * 128 ^ j ∧ d.length + j = 9 ∧ vary 9 (turnN z) = d ++ vary j x ∧ OwnB wr w.heap.size A' n' c' d ∧ Below w.heap.size w wr) (fun _ s8 _ => (intOf s8).toNat)
      case atStart => exact ⟨turnN z, 9, _, _, _, [], rfl, rfl, by show turnN z < 2 * 128 ^ 9; omega, rfl, rfl, by simpa using O2.out, B2.out⟩
      case round =>
        obtain ⟨x, j, n', c', A', d, rfl, rfl, hu, hd, hv, hO, hB⟩ := hrel
        have HU := Lib.hid hu
        have HV := Lib.hid hv
        have O3 := Lib.hid hO
        have B3 := Lib.hid hB
        have hn' := hO.len
        have hn2 : n' ≤ 10 := by omega
        have hu64 : x < 18446744073709551616 := by
          have h9 : 128 ^ j ≤ 128 ^ 9 := Nat.pow_le_pow_right (by omega) (by omega)
          have : (128 : Nat) ^ 9 = 9223372036854775808 := by decide
          omega
        clear hu hv hO hB hn'
        by_cases hz : x < 128
        · have hd2 := decF (show ¬ (128 : Int) ≤ x by omega)
          have HZ := Lib.hid (show vary j x = [byteOf x] by cases j with | zero => rfl | succ j => rw [vary, if_pos hz])
          have HB8 := Lib.hid (byteOf_toNat (show x < 256 by omega))
          go_wp2_with (first | (at_builtin; (with_reducible refine wpList_app _ rfl _ _ rfl w.heap.size _ _ _ _ rfl (O3.out.alloc _) _ _ _ [byteOf x] rfl ?_ ?_ ?_ ?_)))
          · first | exact Rd.one _ _ _ (by rw [HB8.out]; try omega) | exact Rd.one' _ _ _ (by rw [HB8.out]; try omega)
          · omega
          · first | exact Nat.le_succ_of_le B3.out.size | (simp; exact Nat.le_succ_of_le B3.out.size)
          intro A4 c4 w4 ho4 hg4 _
          have B4 := Lib.hid ((B3.out.alloc B3.out.size _).grown hg4 (by simp; exact Nat.le_succ_of_le B3.out.size) fun k hk => (O3.out.lt k hk).1)
          have O4 := Lib.hid ho4
          clear ho4 hg4
          go_wp2_with fail
          go_ret
          exact ⟨_, _, _, rfl, by rw [HP.out, HV.out, HZ.out]; exact O4.out, B4.out⟩
        · have hd2 := decT (show (128 : Int) ≤ x by omega)
          obtain ⟨i, rfl⟩ : ∃ i, j = i + 1 := by
            cases j with
            | zero => have := HU.out; simp at this; omega
            | succ i => exact ⟨i, rfl⟩
          have HZ := Lib.hid (show vary (i + 1) x = byteOf (128 + x % 128) :: vary i (x / 128) by rw [vary, if_neg hz])
          have HU2 := Lib.hid (show x / 128 < 2 * 128 ^ i by have := HU.out; rw [Nat.pow_succ] at this; omega)
          have HB8 := Lib.hid (byteOf_toNat (show 128 + x % 128 < 256 by omega))
          go_wp2_with (first | (at_builtin; (with_reducible refine wpList_app _ rfl _ _ rfl w.heap.size _ _ _ _ rfl (O3.out.alloc _) _ _ _ [byteOf (128 + x % 128)] rfl ?_ ?_ ?_ ?_)))
          · first | exact Rd.one _ _ _ (by rw [HB8.out]; try omega) | exact Rd.one' _ _ _ (by rw [HB8.out]; try omega)
          · omega
          · first | exact Nat.le_succ_of_le B3.out.size | (simp; exact Nat.le_succ_of_le B3.out.size)
          intro A4 c4 w4 ho4 hg4 _
          have B4 := Lib.hid ((B3.out.alloc B3.out.size _).grown hg4 (by simp; exact Nat.le_succ_of_le B3.out.size) fun k hk => (O3.out.lt k hk).1)
          have O4 := Lib.hid ho4
          clear ho4 hg4
          go_wp2_with fail
          go_roundw
          case rel => exact ⟨x / 128, i, _, _, _, d ++ [byteOf (128 + x % 128)], int_eq (by omega), rfl, HU2.out, by rw [List.length_append]; simp; omega, by rw [HV.out, HZ.out, List.append_assoc]; rfl, O4.out, B4.out⟩
          case measure => simp [intOf]; omega
    · have e2 : (f == 2) = false := by simp [g2]
      have HP := Lib.hid (show putN f z = [] by unfold putN; rw [if_neg g1, if_neg g2])
      generalize putN f z = p at *
      clear g1 g2
      go_enter Tryd.func52, Tryd.ntmps52
      go_wp2_with fail
      go_ret
      exact ⟨_, _, _, rfl, by rw [HP.out]; simpa using O2.out, B2.out⟩

theorem foldl_push (l : List UInt8) : ∀ s : ByteArray, ((l.map fun b => ((b.toNat : Nat) : Int)).foldl (fun r n => r.push (UInt8.ofNat n.toNat)) s) = ⟨s.data ++ l.toArray⟩ := by
  induction l with
  | nil => intro s; simp
  | cons b l ih =>
    intro s
    simp only [List.map_cons, List.foldl_cons]
    rw [ih]
    simp [ByteArray.push]
/-- string(b). -/
theorem str_of (w : World) (A : Option Addr) (n c B : Nat) (l : List UInt8) (h : Rd w B 1 A n (bvs l)) : (convert 43 9 (.slice A n c)).run Tryd.prog w = .ok (.string ⟨l.toArray⟩) w := by
  rw [run_convert_bytes_string w _ _ _ A n c Tryd.underlying43 Tryd.underlying5 Tryd.underlying9]
  have hl := h.blen
  have e : bvs l = (l.map fun b => ((b.toNat : Nat) : Int)).map (Value.int .u8) := by simp [bvs, bv]
  have fin : ∀ ad : Addr, (∀ j v, (bvs l)[j]? = some v → w.cell? (ad.add j) = some v) → (Conv.bytesToString (.slice (some ad) n c)).run Tryd.prog w = .ok (.string ⟨l.toArray⟩) w := by
    intro ad hc
    have hload := run_loadCells_list (P := Tryd.prog) w ad (bvs l) hc
    rw [bvs_len, hl] at hload
    rw [run_bytesToString w ad n c _ (by rw [← e]; exact hload), foldl_push]
    rw [show ByteArray.empty.data = #[] from rfl, Array.empty_append]
  cases A with
  | none =>
    have hn : n = 0 := by
      rcases Nat.eq_zero_or_pos n with h0 | h0
      · exact h0
      · obtain ⟨b, off, h', _⟩ := h.2 h0
        cases h'
    subst hn
    have hl0 : l = [] := List.eq_nil_of_length_eq_zero hl
    subst hl0
    simp [Conv.bytesToString]
    try rfl
  | some ad =>
    refine fin ad fun j v hv => ?_
    have hj := (List.getElem?_eq_some_iff.1 hv).1
    rw [bvs_len, hl] at hj
    obtain ⟨b, off, h', _, hc⟩ := h.2 (by omega)
    injection h' with h'
    subst h'
    have ha : (⟨b, off, none⟩ : Addr).add j = ⟨b, off + j, none⟩ := by unfold Addr.add; split <;> simp_all
    rw [ha, hc j (by rw [bvs_len]; omega), hv]

theorem p1 : putN 1 300 = [44, 1, 0, 0, 0, 0, 0, 0] := by decide +kernel
theorem p2 : putN 2 300 = [216, 4] := by decide +kernel
theorem p3 : putN 2 (-1) = [1] := by decide +kernel
end Go.Proofs.YtpkjlmaphhileaaDoor
