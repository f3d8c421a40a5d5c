/- A part of a proof. -/
import Derived.Deep.DeepCutAuto
import Derived.Laws.BytesString
import Derived.Test.YtlapcfnmmpbeeaaGreatPO06
set_option linter.unusedSimpArgs false
set_option linter.unusedVariables false
namespace Go.Proofs.YtlapcfnmmpbeeaaGreat
set_option maxRecDepth 100000
open Go.RowKit
set_option maxHeartbeats 1000000 in
theorem jLa (f z : Int) (w : World) (hf1 : -9223372036854775808 ≤ f) (hf2 : f ≤ 9223372036854775807) (h1 : -9223372036854775808 ≤ z) (h2 : z ≤ 9223372036854775807) :
    Calls Tryz.prog 104 #[.int .i64 f, .int .i64 z] w (RetB w (putN f z)) := by
  have O2 := Lib.hid (OwnB.empty (base := w.heap.size) w (Nat.le_refl _))
  have B2 := Lib.hid ((Below.refl w.heap.size w).alloc (Nat.le_refl _) (Obj.cells #[] 5))
  by_cases g1 : f = 1
  · have e1 : (f == 1) = true := by simp [g1]
    have e2 : (f == 2) = false := by simp [g1]
    have HP := Lib.hid (show putN f z = leB 8 (u64N z) by unfold putN; rw [if_pos g1])
    have hwz : IntKind.u64.wrap z = (u64N z : Nat) := by rw [IntKind.wrap_u64]; unfold u64N; omega
    have hU := u64N_lt z
    generalize putN f z = p at *
    generalize u64N z = U at *
    clear g1
    go_enter Tryz.func104, Tryz.ntmps104
    go_wp2_with fail
    go_loopw [5, 6, 7] (fun s8 s9 s27 wr => ∃ (k u n' c' : Nat) (A' : Option Addr), k ≤ 8 ∧ s27 = .int .i64 k ∧ s9 = .int .u64 u ∧ u = U / 256 ^ k ∧ s8 = .slice A' n' c' ∧ OwnB wr w.heap.size A' n' c' ((leB 8 U).take k) ∧ Below w.heap.size w wr) (fun _ _ s27 _ => 8 - (intOf s27).toNat)
    case atStart => exact ⟨0, U, _, _, _, by omega, rfl, rfl, by simp, rfl, by simpa using O2.out, B2.out⟩
    case round =>
      obtain ⟨k, u, n', c', A', hk, rfl, rfl, hu, rfl, hO, hB⟩ := hrel
      have HU := Lib.hid hu
      have O3 := Lib.hid hO
      have B3 := Lib.hid hB
      have hn' := hO.len
      rw [List.length_take, jBc] at hn'
      have hn2 : n' ≤ 8 := by omega
      have hu64 : u < 18446744073709551616 := by rw [hu]; exact Nat.lt_of_le_of_lt (Nat.div_le_self _ _) hU
      clear hu hO hB hn'
      by_cases hk2 : k < 8
      · have hd := decT (show (k : Int) < 8 by omega)
        have hb8 := jAF (show u % 256 < 256 by omega)
        have HB8 := Lib.hid hb8
        clear hb8
        go_wp2_with (first | (at_builtin; (with_reducible refine jDd _ rfl _ _ rfl w.heap.size _ _ _ _ rfl (O3.out.alloc _) _ _ _ [jCn (u % 256)] rfl ?_ ?_ ?_ ?_)))
        · first | exact Rd.one _ _ _ (by rw [HB8.out]; try omega) | exact Rd.one' _ _ _ (by rw [HB8.out]; try omega)
        · omega
        · first | exact Nat.le_succ_of_le B3.out.size | (simp; exact Nat.le_succ_of_le B3.out.size)
        intro A4 c4 w4 ho4 hg4 _
        have B4 := Lib.hid ((B3.out.alloc B3.out.size _).grown hg4 (by simp; exact Nat.le_succ_of_le B3.out.size) fun k hk => (O3.out.lt k hk).1)
        have O4 := Lib.hid ho4
        clear ho4 hg4
        go_wp2_with fail
        go_roundw
        case rel => exact ⟨k + 1, u / 256, _, _, _, by omega, by go_num, jFW (by omega), by rw [HU.out, Nat.div_div_eq_div_mul, Nat.pow_succ], rfl, by rw [jKu U k hk2, ← HU.out]; exact O4.out, B4.out⟩
        case measure => simp [intOf]; omega
      have hd := decF (show ¬ (k : Int) < 8 by omega)
      go_wp2_with fail
      go_ret
      exact ⟨_, _, _, rfl, by rw [HP.out, show leB 8 U = (leB 8 U).take k from (List.take_of_length_le (by rw [jBc]; omega)).symm]; exact O3.out, B3.out⟩
  have e1 : (f == 1) = false := by simp [g1]
  by_cases g2 : f = 2
  · have e2 : (f == 2) = true := by simp [g2]
    have HP := Lib.hid (show putN f z = vary 9 (jDt z) by unfold putN; rw [if_neg g1, if_pos g2])
    have hT := jH5 h1 h2
    generalize putN f z = p at *
    clear g1 g2
    go_enter Tryz.func104, Tryz.ntmps104
    go_wp2_with fail
    (with_reducible refine (jL3 z _ h1 h2).mono ?_)
    rintro e w' ⟨rfl, rfl⟩
    go_wp2_with fail
    go_loopw [5, 8] (fun s5 s8 wr => ∃ (x j n' c' : Nat) (A' : Option Addr) (d : List UInt8), s8 = .int .u64 x ∧ s5 = .slice A' n' c' ∧ x < 2 * 128 ^ j ∧ d.length + j = 9 ∧ vary 9 (jDt z) = d ++ vary j x ∧ OwnB wr w.heap.size A' n' c' d ∧ Below w.heap.size w wr) (fun _ s8 _ => (intOf s8).toNat)
    case atStart => exact ⟨jDt z, 9, _, _, _, [], rfl, rfl, by show jDt z < 2 * 128 ^ 9; omega, rfl, rfl, by simpa using O2.out, B2.out⟩
    case round =>
      obtain ⟨x, j, n', c', A', d, rfl, rfl, hu, hd, hv, hO, hB⟩ := hrel
      have HU := Lib.hid hu
      have HV := Lib.hid hv
      have O3 := Lib.hid hO
      have B3 := Lib.hid hB
      have hn' := hO.len
      have hn2 : n' ≤ 10 := by omega
      have hu64 : x < 18446744073709551616 := by
        have h9 : 128 ^ j ≤ 128 ^ 9 := Nat.pow_le_pow_right (by omega) (by omega)
        have : (128 : Nat) ^ 9 = 9223372036854775808 := by decide
        omega
      clear hu hv hO hB hn'
      by_cases hz : x < 128
      · have hd2 := decF (show ¬ (128 : Int) ≤ x by omega)
        have HZ := Lib.hid (show vary j x = [jCn x] by cases j with | zero => rfl | succ j => rw [vary, if_pos hz])
        have HB8 := Lib.hid (jAF (show x < 256 by omega))
        go_wp2_with (first | (at_builtin; (with_reducible refine jDd _ rfl _ _ rfl w.heap.size _ _ _ _ rfl (O3.out.alloc _) _ _ _ [jCn x] rfl ?_ ?_ ?_ ?_)))
        · first | exact Rd.one _ _ _ (by rw [HB8.out]; try omega) | exact Rd.one' _ _ _ (by rw [HB8.out]; try omega)
        · omega
        · first | exact Nat.le_succ_of_le B3.out.size | (simp; exact Nat.le_succ_of_le B3.out.size)
        intro A4 c4 w4 ho4 hg4 _
        have B4 := Lib.hid ((B3.out.alloc B3.out.size _).grown hg4 (by simp; exact Nat.le_succ_of_le B3.out.size) fun k hk => (O3.out.lt k hk).1)
        have O4 := Lib.hid ho4
        clear ho4 hg4
        go_wp2_with fail
        go_ret
        exact ⟨_, _, _, rfl, by rw [HP.out, HV.out, HZ.out]; exact O4.out, B4.out⟩
      have hd2 := decT (show (128 : Int) ≤ x by omega)
      obtain ⟨i, rfl⟩ : ∃ i, j = i + 1 := by
        cases j with
        | zero => have := HU.out; simp at this; omega
        | succ i => exact ⟨i, rfl⟩
      have HZ := Lib.hid (show vary (i + 1) x = jCn (128 + x % 128) :: vary i (x / 128) by rw [vary, if_neg hz])
      have HU2 := Lib.hid (show x / 128 < 2 * 128 ^ i by have := HU.out; rw [Nat.pow_succ] at this; omega)
      have HB8 := Lib.hid (jAF (show 128 + x % 128 < 256 by omega))
      go_wp2_with (first | (at_builtin; (with_reducible refine jDd _ rfl _ _ rfl w.heap.size _ _ _ _ rfl (O3.out.alloc _) _ _ _ [jCn (128 + x % 128)] rfl ?_ ?_ ?_ ?_)))
      · first | exact Rd.one _ _ _ (by rw [HB8.out]; try omega) | exact Rd.one' _ _ _ (by rw [HB8.out]; try omega)
      · omega
      · first | exact Nat.le_succ_of_le B3.out.size | (simp; exact Nat.le_succ_of_le B3.out.size)
      intro A4 c4 w4 ho4 hg4 _
      have B4 := Lib.hid ((B3.out.alloc B3.out.size _).grown hg4 (by simp; exact Nat.le_succ_of_le B3.out.size) fun k hk => (O3.out.lt k hk).1)
      have O4 := Lib.hid ho4
      clear ho4 hg4
      go_wp2_with fail
      go_roundw
      case rel => exact ⟨x / 128, i, _, _, _, d ++ [jCn (128 + x % 128)], jFW (by omega), rfl, HU2.out, by rw [List.length_append]; simp; omega, by rw [HV.out, HZ.out, List.append_assoc]; rfl, O4.out, B4.out⟩
      case measure => simp [intOf]; omega
  have e2 : (f == 2) = false := by simp [g2]
  have HP := Lib.hid (show putN f z = [] by unfold putN; rw [if_neg g1, if_neg g2])
  generalize putN f z = p at *
  clear g1 g2
  go_enter Tryz.func104, Tryz.ntmps104
  go_wp2_with fail
  go_ret
  exact ⟨_, _, _, rfl, by rw [HP.out]; simpa using O2.out, B2.out⟩
theorem jLu (l : List UInt8) : ∀ s : ByteArray, ((l.map fun b => ((b.toNat : Nat) : Int)).foldl (fun r n => r.push (UInt8.ofNat n.toNat)) s) = ⟨s.data ++ l.toArray⟩ := by
  induction l with
  | nil => intro s; simp
  | cons b l ih =>
    intro s; simp only [List.map_cons, List.foldl_cons]; rw [ih]; simp [ByteArray.push]
theorem str_of (w : World) (A : Option Addr) (n c B : Nat) (l : List UInt8) (h : Rd w B 1 A n (bvs l)) : (convert 52 9 (.slice A n c)).run Tryz.prog w = .ok (.string ⟨l.toArray⟩) w := by
  rw [run_convert_bytes_string w _ _ _ A n c Tryz.underlying52 Tryz.underlying5 Tryz.underlying9]
  have hl := h.blen
  have e : bvs l = (l.map fun b => ((b.toNat : Nat) : Int)).map (Value.int .u8) := by simp [bvs, bv]
  have fin : ∀ ad : Addr, (∀ j v, (bvs l)[j]? = some v → w.cell? (ad.add j) = some v) → (Conv.bytesToString (.slice (some ad) n c)).run Tryz.prog w = .ok (.string ⟨l.toArray⟩) w := by
    intro ad hc
    have hload := run_loadCells_list (P := Tryz.prog) w ad (bvs l) hc
    rw [jDh, hl] at hload
    rw [run_bytesToString w ad n c _ (by rw [← e]; exact hload), jLu]
    rw [show ByteArray.empty.data = #[] from rfl, Array.empty_append]
  cases A with
  | none =>
    have hn : n = 0 := by
      rcases Nat.eq_zero_or_pos n with h0 | h0
      · exact h0
      obtain ⟨b, off, h', _⟩ := h.2 h0
      cases h'
    subst hn
    have hl0 : l = [] := List.eq_nil_of_length_eq_zero hl
    subst hl0
    simp [Conv.bytesToString]
    try rfl
  | some ad =>
    refine fin ad fun j v hv => ?_
    have hj := (List.getElem?_eq_some_iff.1 hv).1
    rw [jDh, hl] at hj
    obtain ⟨b, off, h', _, hc⟩ := h.2 (by omega)
    injection h' with h'
    subst h'
    have ha : (⟨b, off, none⟩ : Addr).add j = ⟨b, off + j, none⟩ := by unfold Addr.add; split <;> simp_all
    rw [ha, hc j (by rw [jDh]; omega), hv]
theorem p1 : putN 1 300 = [44, 1, 0, 0, 0, 0, 0, 0] := by decide +kernel
set_option maxRecDepth 100000
def t3 (p : Int × Int × Int) : Value := .tuple #[.int .i64 p.1, .int .i64 p.2.1, .int .i64 p.2.2]
def fixG (l : List UInt8) (k : Nat) : Int × Int × Int := if (l.drop k).length < 8 then (0, 0, 8) else (i64Z (num ((l.drop k).take 8)), k + 8, 0)
def varG (l : List UInt8) (k : Nat) : Int × Int × Int := match gv (l.drop k) 0 0 with | none => (0, 0, 8) | some (u, s) => (jEg u, (k + s : Nat), 0)
def getN (l : List UInt8) (at_ f : Int) : Int × Int × Int :=
  if (f ≠ 1 ∧ f ≠ 2) ∨ at_ < 0 ∨ (l.length : Int) < at_ then (0, 0, 2) else if f = 1 then fixG l at_.toNat else varG l at_.toNat
theorem jLH (a b : List UInt8) : num (a ++ b) = num a + 256 ^ a.length * num b := by
  induction a with
  | nil => simp [num]
  | cons x a ih =>
    rw [List.cons_append, num, ih, num, List.length_cons, Nat.pow_succ, Nat.mul_add, Nat.mul_comm (256 ^ a.length) 256, Nat.mul_assoc, Nat.add_assoc]
theorem num_take (l : List UInt8) (k : Nat) (h : k < l.length) : num (l.take (k + 1)) = num (l.take k) + 256 ^ k * l[k].toNat := by
  rw [List.take_succ_eq_append_getElem h, jLH, List.length_take, show min k l.length = k by omega]
  simp [num]
theorem jKL (u y e : Nat) (hu : u < 2 ^ e) (hu2 : u < 18446744073709551616) (hy : y * 2 ^ e < 18446744073709551616) : bits .or .u64 (u : Int) (IntKind.u64.wrap ((y : Int) * 2 ^ e)) = ((u + y * 2 ^ e : Nat) : Int) := by
  have e1 : IntKind.u64.wrap ((y : Int) * 2 ^ e) = ((y * 2 ^ e : Nat) : Int) := by
    rw [Int.natCast_mul, Int.natCast_pow, IntKind.wrap_u64]
    have : ((y * 2 ^ e : Nat) : Int) < 18446744073709551616 := by omega
    rw [Int.natCast_mul, Int.natCast_pow] at this
    exact Int.emod_eq_of_lt (Int.mul_nonneg (by omega) (Int.le_of_lt (Int.pow_pos (by decide)))) this
  rw [e1, u64_or_nat _ _ hu2 hy, Nat.or_comm, nat_join e _ u (Nat.mul_mod_left _ _) hu, Nat.add_comm]
theorem pow256 (i : Nat) : (256 : Nat) ^ i = 2 ^ (8 * i) := by rw [Nat.pow_mul]
theorem jLO (i : Nat) : (128 : Nat) ^ i = 2 ^ (7 * i) := by rw [Nat.pow_mul]
theorem jKy (l : List UInt8) (k i : Nat) (h : k + i < l.length) : (l.drop k)[i]'(by rw [List.length_drop]; omega) = l[k + i] := by rw [List.getElem_drop]
theorem jGB (l : List UInt8) (i : Nat) : num (l.take i) < 256 ^ i := by
  refine Nat.lt_of_lt_of_le (jIX _) (Nat.pow_le_pow_right (by omega) ?_); rw [List.length_take]; omega
theorem step256 (y i : Nat) (hy : y < 256) (hi : i < 8) : y * 2 ^ (8 * i) < 18446744073709551616 := by
  have h1 : 2 ^ (8 * i) ≤ 2 ^ 56 := Nat.pow_le_pow_right (by omega) (by omega)
  have h2 : y * 2 ^ (8 * i) ≤ 255 * 2 ^ 56 := Nat.mul_le_mul (by omega) h1
  omega
set_option maxHeartbeats 1000000 in
theorem jIW (A : Option Addr) (n c : Nat) (l : List UInt8) (k : Nat) (ki : Int) (hki : ki = (k : Nat)) (w : World) (h : Rd w w.heap.size 1 A n (bvs l)) (hn : n ≤ 4611686018427387904) (hk : k ≤ n) :
    Calls Tryz.prog 163 #[.slice A n c, .int .i64 ki] w fun e w' => e = .returned (t3 (fixG l k)) ∧ w = w' := by
  subst hki
  have hl := h.blen
  have H := Lib.hid h
  clear h
  by_cases hs : n - k < 8
  · have hd := decT (show (n : Int) - k < 8 by omega)
    have HF := Lib.hid (show fixG l k = (0, 0, 8) by unfold fixG; rw [if_pos (by rw [List.length_drop]; omega)])
    go_enter Tryz.func163, Tryz.ntmps163
    go_wp2_with fail
    go_ret3
    exact ⟨by rw [HF.out]; rfl, rfl⟩
  have hd := decF (show ¬ (n : Int) - k < 8 by omega)
  have HF := Lib.hid (show fixG l k = (i64Z (num ((l.drop k).take 8)), (k : Int) + 8, 0) by unfold fixG; rw [if_neg (by rw [List.length_drop]; omega)])
  go_enter Tryz.func163, Tryz.ntmps163
  go_wp2_with fail
  go_loop [7, 14] (fun s7 s14 => ∃ (i u : Nat), i ≤ 8 ∧ s14 = .int .i64 i ∧ s7 = .int .u64 u ∧ u = num ((l.drop k).take i)) (fun _ s14 => 8 - (intOf s14).toNat)
  case atStart => exact ⟨0, 0, by omega, rfl, rfl, rfl⟩
  case round =>
    obtain ⟨i, u, hi, rfl, rfl, hu⟩ := hrel
    have HU := Lib.hid hu
    clear hu
    by_cases hi2 : i < 8
    · have hd2 := decT (show (i : Int) < 8 by omega)
      obtain ⟨b, off, hkl, rfl, hb, hc, hy⟩ := H.out.byte (show k + i < n by omega)
      have HN := Lib.hid (num_take (l.drop k) i (by rw [List.length_drop]; omega))
      rw [jKy l k i hkl] at HN
      have hu1 := jGB (l.drop k) i
      rw [← HU.out, pow256] at hu1
      generalize l[k + i].toNat = y at *
      have hx := jKL u y (8 * i) hu1 (Nat.lt_of_lt_of_le hu1 (by have : 2 ^ (8 * i) ≤ 2 ^ 64 := Nat.pow_le_pow_right (by omega) (by omega); omega)) (step256 y i hy hi2)
      obtain ⟨u', hu'⟩ : ∃ u', u' = u + y * 2 ^ (8 * i) := ⟨_, rfl⟩
      rw [← hu'] at hx
      have HU' := Lib.hid hu'
      clear hu' hu1
      go_wp2
      go_round
      case rel => exact ⟨i + 1, u', by omega, by go_num, rfl, by rw [HN.out, HU'.out, HU.out, pow256, Nat.mul_comm]⟩
      case measure => simp [intOf]; omega
    have hd2 := decF (show ¬ (i : Int) < 8 by omega)
    have hu1 := jGB (l.drop k) i
    obtain rfl : i = 8 := by omega
    rw [← HU.out] at hu1
    have hu2 : u < 18446744073709551616 := by omega
    have hi64 : IntKind.i64.wrap (u : Int) = i64Z u := by rw [IntKind.wrap_i64]; unfold i64Z; split <;> omega
    have hi65 : wrap64 (u : Int) = i64Z u := by rw [← hi64]; exact (IntWalk.i64_left _).symm
    clear hu1
    go_wp2
    go_ret3
    exact ⟨by rw [HF.out, ← HU.out]; rfl, rfl⟩
theorem and127 (c : Nat) (h : c < 256) : bits .and .u8 (c : Int) 127 = ((c % 128 : Nat) : Int) := by rw [← nat_mask7]; exact u8_and_nat c 127 h (by omega)
theorem jMs (y k : Nat) (hy : y < 128) (hk : k ≤ 9) (h9 : k = 9 → y ≤ 1) : y * 2 ^ (7 * k) < 18446744073709551616 := by
  by_cases e : k = 9
  · subst e; have := h9 rfl; omega
  have h1 : 2 ^ (7 * k) ≤ 2 ^ 56 := Nat.pow_le_pow_right (by omega) (by omega)
  have h2 : y * 2 ^ (7 * k) ≤ 127 * 2 ^ 56 := Nat.mul_le_mul (by omega) h1
  omega
theorem gv_at (l : List UInt8) (j : Nat) (h : j < l.length) (k u : Nat) : gv (l.drop j) k u = if k = 9 ∧ 1 < l[j].toNat then none
    else if 128 ≤ l[j].toNat then gv (l.drop (j + 1)) (k + 1) (u + l[j].toNat % 128 * 128 ^ k)
    else if l[j].toNat = 0 ∧ 0 < k then none else some (u + l[j].toNat % 128 * 128 ^ k, k + 1) := by
  rw [List.drop_eq_getElem_cons h, gv]
set_option maxHeartbeats 1000000 in
theorem jJN (A : Option Addr) (n c : Nat) (l : List UInt8) (k : Nat) (ki : Int) (hki : ki = (k : Nat)) (w : World) (h : Rd w w.heap.size 1 A n (bvs l)) (hn : n ≤ 4611686018427387904) (hk : k ≤ n) :
    Calls Tryz.prog 164 #[.slice A n c, .int .i64 ki] w fun e w' => e = .returned (t3 (varG l k)) ∧ w = w' := by
  subst hki
  have hl := h.blen
  have H := Lib.hid h
  clear h
  go_enter Tryz.func164, Tryz.ntmps164
  go_wp2_with fail
  refine jFR 0 (fun a' w' => ∃ u : Nat → Value, a' = { tmps := #[u 0, u 1, u 2, u 3, u 4, u 5, u 6, u 7, u 8, u 9, u 10, u 11, u 12, u 13, u 14, u 15, u 16, u 17, u 18, u 19, u 20, u 21, u 22, u 23, u 24, u 25, u 26, u 27, u 28, u 29, u 30, u 31, u 32, u 33, u 34, u 35, u 36, u 37, u 38, u 39, u 40, u 41, u 42, u 43, u 44, u 45, u 46, u 47, u 48, u 49, u 50], defers := [] } ∧ (w' = w ∧ u 0 = .slice A n c ∧ u 1 = .int .i64 k ∧ ∃ s x : Nat, s ≤ 9 ∧ x < 128 ^ s ∧ u 7 = .int .u64 x ∧ u 8 = .int .i64 s ∧ gv (l.drop k) 0 0 = gv (l.drop (k + s)) s x ∧ k + s ≤ n)) (fun a' w' => 10 - (intOf (a'.tmps.getD 8 undef)).toNat) rfl ?_ ?_
  · intro Qv HG HJ0 HQ
    go_wp2_with fail
    go_step3
    apply_assumption
    refine HG.out _ _ ?_; refine jgive rfl ?_; exact ⟨rfl, rfl, rfl, 0, 0, by omega, by simp, rfl, rfl, rfl, hk⟩
  rintro a' w' ⟨u, rfl, hw, hs0, hs1, s, x, hs, hx, hs7, hs8, hg, hle⟩; rw [hs0, hs1, hs7, hs8]
  clear hs0 hs1 hs7 hs8
  subst hw
  intro Qv HJ HQ
  have HX := Lib.hid hx
  have HG := Lib.hid hg
  clear hx hg
  by_cases hend : n ≤ k + s
  · have hd := decT (show (n : Int) ≤ k + s by omega)
    have HF := Lib.hid (show varG l k = (0, 0, 8) by unfold varG; rw [HG.out, List.drop_eq_nil_of_le (by omega)]; rfl)
    go_wp2_with fail
    refine HQ.out _ _ _ ?_ (by simp)
    go_ret3
    exact ⟨by rw [HF.out]; rfl, rfl⟩
  have hd := decF (show ¬ (n : Int) ≤ k + s by omega)
  obtain ⟨b, off, hkl, rfl, hb, hc, hy⟩ := H.out.byte (show k + s < n by omega)
  have HV := Lib.hid (gv_at l (k + s) hkl s x)
  generalize l[k + s].toNat = y at *
  obtain ⟨v, hv⟩ : ∃ v, v = y % 128 := ⟨_, rfl⟩
  have ha : bits .and .u8 (y : Int) 127 = (v : Nat) := by rw [hv]; exact and127 y hy
  have hv128 : v < 128 := by omega
  have HVV := Lib.hid hv
  clear hv
  by_cases g1 : s = 9 ∧ 1 < y
  · have HF := Lib.hid (show varG l k = (0, 0, 8) by unfold varG; rw [HG.out, HV.out, if_pos g1])
    have d1 : ((s : Int) == 9) = true := by simp; omega
    have d2 := decT (show (1 : Int) < y by omega)
    clear g1
    go_wp2_with fail
    refine HQ.out _ _ _ ?_ (by simp)
    go_ret3
    exact ⟨by rw [HF.out]; rfl, rfl⟩
  have HV2 := Lib.hid (HV.out.trans (if_neg g1))
  have hx64 : x < 18446744073709551616 := by
    have h0 := HX.out
    have h1 : 128 ^ s ≤ 128 ^ 9 := Nat.pow_le_pow_right (by omega) hs
    have h2 : (128 : Nat) ^ 9 = 9223372036854775808 := by decide
    omega
  have hsh := jKL x v (7 * s) (by rw [← jLO]; exact HX.out) hx64 (jMs v s (by omega) hs (by have := HVV.out; omega))
  obtain ⟨x', hx'⟩ : ∃ x', x' = x + v * 2 ^ (7 * s) := ⟨_, rfl⟩
  rw [← hx'] at hsh
  have HX' := Lib.hid (show x' = x + y % 128 * 128 ^ s by rw [hx', jLO, HVV.out])
  have HXL := Lib.hid (show s < 9 → x' < 128 ^ (s + 1) by
    intro _
    have := HX.out
    rw [HX'.out, Nat.pow_succ]
    have h2 : y % 128 * 128 ^ s ≤ 127 * 128 ^ s := Nat.mul_le_mul_right _ (by omega)
    omega)
  have HX64 := Lib.hid (show x' < 18446744073709551616 by
    rw [hx']
    have hvv := HVV.out
    have h1 := jMs v s (by omega) hs (by omega)
    have h0 := HX.out
    rw [jLO] at h0
    by_cases e : s = 9
    · subst e
      have : v ≤ 1 := by omega
      omega
    have h3 : 2 ^ (7 * s) ≤ 2 ^ 56 := Nat.pow_le_pow_right (by omega) (by omega)
    have h4 : v * 2 ^ (7 * s) ≤ 127 * 2 ^ 56 := Nat.mul_le_mul (by omega) h3
    omega)
  clear hx'
  by_cases g2 : 128 ≤ y
  · have d2 := decT (show (128 : Int) ≤ y by omega)
    have d1 : ((s : Int) == 9) = false := by simp; omega
    have HV3 := Lib.hid (HV2.out.trans (if_pos g2))
    have h9 : s < 9 := by omega
    clear g1
    go_wp2_with fail
    go_step3
    refine HJ.out _ _ ?_ ?_
    · refine jgive rfl ?_; exact ⟨rfl, rfl, rfl, s + 1, x', by omega, HXL.out h9, rfl, by go_num, by rw [HG.out, HV3.out, HX'.out, Nat.add_assoc], by omega⟩
    simp [intOf]; omega
  have d2 := decF (show ¬ (128 : Int) ≤ y by omega)
  have HV3 := Lib.hid (HV2.out.trans (if_neg g2))
  by_cases g3 : y = 0 ∧ 0 < s
  · have HF := Lib.hid (show varG l k = (0, 0, 8) by unfold varG; rw [HG.out, HV3.out, if_pos g3])
    have d3 : ((y : Int) == 0) = true := by simp; omega
    have d4 := decT (show (1 : Int) < s + 1 by omega)
    have d4' := decT (show (0 : Int) < s by omega)
    have d5 := decF (show ¬ (1 : Int) < y by omega)
    clear g1 g3
    by_cases e9 : s = 9
    · have d1 : ((s : Int) == 9) = true := by simp; omega
      clear e9
      go_wp2_with fail
      refine HQ.out _ _ _ ?_ (by simp)
      go_ret3
      exact ⟨by rw [HF.out]; rfl, rfl⟩
    have d1 : ((s : Int) == 9) = false := by simp; omega
    clear e9
    go_wp2_with fail
    refine HQ.out _ _ _ ?_ (by simp)
    go_ret3
    exact ⟨by rw [HF.out]; rfl, rfl⟩
  have HF := Lib.hid (show varG l k = (jEg x', ((k + (s + 1) : Nat) : Int), 0) by unfold varG; rw [HG.out, HV3.out, if_neg g3, HX'.out])
  have HD : Hid (∃ b1 b2 b3 b4 : Bool, ((s : Int) == 9) = b1 ∧ decide ((1 : Int) < y) = b2 ∧ ((y : Int) == 0) = b3 ∧ decide ((0 : Int) < s) = b4 ∧ decide ((1 : Int) < s + 1) = b4 ∧ (b1 && b2) = false ∧ (b3 && b4) = false) := by
    refine ⟨_, _, _, _, rfl, rfl, rfl, rfl, ?_, ?_, ?_⟩
    · rw [decide_eq_decide]; omega
    · rw [Bool.and_eq_false_iff]; simp; omega
    rw [Bool.and_eq_false_iff]; simp; omega
  obtain ⟨b1, b2, b3, b4, d1, d3, d4, d5, d6, q1, q2⟩ := HD.out
  clear g1 g3 HD
  cases b1 <;> cases b2 <;> cases b3 <;> cases b4 <;> first
    | (exfalso; revert q1; decide)
    | (exfalso; revert q2; decide)
    | (clear q1 q2
       go_wp2_with fail
       (with_reducible refine (back_any x' _ rfl _ HX64.out).mono ?_)
       rintro e w' ⟨rfl, rfl⟩
       go_wp2_with fail
       refine HQ.out _ _ _ ?_ (by simp)
       go_ret3
       refine ⟨?_, rfl⟩; rw [HF.out]; simp [t3]
       try omega)
end Go.Proofs.YtlapcfnmmpbeeaaGreat
