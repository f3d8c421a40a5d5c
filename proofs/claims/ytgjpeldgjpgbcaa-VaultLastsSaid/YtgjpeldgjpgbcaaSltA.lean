/- Slots: what a file's bytes have, walked over abstract states. Conditions: tables of numbers below 2^32. -/
import Derived.Test.YtgjpeldgjpgbcaaLogA
namespace Go.Proofs.Ytgjpeldgjpgbcaa
set_option linter.unusedSimpArgs false
set_option linter.unusedVariables false
set_option maxRecDepth 100000
open Go.RowKit

theorem or64 (a b c : Nat) (ha : a < 2 ^ c) (h : a + b * 2 ^ c < 18446744073709551616) : bits .or .u64 (a : Int) ((b * 2 ^ c : Nat) : Int) = ((a + b * 2 ^ c : Nat) : Int) := by
  rw [u64_or_nat a (b * 2 ^ c) (by omega) (by omega)]
  congr 1
  rw [Nat.or_comm, Nat.mul_comm, ← Nat.two_pow_add_eq_or_of_lt ha, Nat.add_comm]
theorem num8 (l : List UInt8) (h : 8 ≤ l.length) : num (l.take 8) = l[0].toNat + l[1].toNat * 2 ^ 8 + l[2].toNat * 2 ^ 16 + l[3].toNat * 2 ^ 24 + l[4].toNat * 2 ^ 32 + l[5].toNat * 2 ^ 40 + l[6].toNat * 2 ^ 48 + l[7].toNat * 2 ^ 56 := by
  match l, h with
  | a :: b :: c :: d :: e :: f :: g :: i :: r, _ => simp [num]; omega
theorem numApp8 (a b : List UInt8) : num (a ++ b) = num a + 256 ^ a.length * num b := by
  induction a with
  | nil => simp [num]
  | cons x a ih => simp only [List.cons_append, num, ih, List.length_cons, Nat.pow_succ]; rw [Nat.mul_add, Nat.add_assoc, ← Nat.mul_assoc, Nat.mul_comm 256 (256 ^ a.length)]
theorem take8_num (l : List UInt8) (k : Nat) (h : k < l.length) : num (l.take (k + 1)) = num (l.take k) + l[k].toNat * 2 ^ (8 * k) := by
  rw [List.take_succ_eq_append_getElem h, numApp8]
  rw [List.length_take, show min k l.length = k by omega, show (256 : Nat) = 2 ^ 8 from rfl, ← Nat.pow_mul, Nat.mul_comm]
  simp [num]
theorem num_take_lt8 (l : List UInt8) (k : Nat) : num (l.take k) < 2 ^ (8 * k) := by
  have := num_lt (l.take k)
  rw [List.length_take, show (256 : Nat) = 2 ^ 8 from rfl, ← Nat.pow_mul] at this
  exact Nat.lt_of_lt_of_le this (Nat.pow_le_pow_right (by decide) (by omega))
theorem pow8_le {k : Nat} (h : k < 8) : 2 ^ (8 * k) * 256 ≤ 18446744073709551616 := by
  have : 2 ^ (8 * k) ≤ 2 ^ (8 * 7) := Nat.pow_le_pow_right (by decide) (by omega)
  have e : 2 ^ (8 * 7) * 256 = 18446744073709551616 := by decide
  omega
theorem step8_lt {a b k : Nat} (ha : a < 2 ^ (8 * k)) (hb : b < 256) (hk : k < 8) : a + b * 2 ^ (8 * k) < 18446744073709551616 := by
  have h1 := pow8_le hk
  have h2 : b * 2 ^ (8 * k) ≤ 255 * 2 ^ (8 * k) := Nat.mul_le_mul_right _ (by omega)
  omega
theorem snumber_c (l : List UInt8) (h : 8 ≤ l.length) : AC Try.prog 95 [.sl (byA l)] (fun r => r = .s (.sc (.int .u64 ((num (l.take 8) : Nat) : Int)))) := by
  refine AC.of' 19 0 Try.func95 rfl ?_
  change AW _ _ _ _ []
  refine AW.seq ?_
  refine AW.region ?_
  refine AL.ra ?_
  refine AL.nil ?_
  change AW _ _ _ _ _
  refine AW.seq ?_
  refine AW.region ?_
  refine AL.ra ?_
  refine AL.nil ?_
  change AW _ _ _ _ _
  refine AW.seq ?_
  refine AW.seq ?_
  refine AW.region ?_
  refine AL.rm ?_
  refine AL.nil ?_
  change AW _ _ _ _ _
  refine AW.block ?_
  refine AW.loopM (ι := Nat) [4, 6, 7, 8, 9, 10, 11, 12, 13, 14, 15, 16, 17, 18] (fun k => [(5, .sc (.int .i64 (k : Int))), (3, .sc (.int .u64 ((num (l.take k) : Nat) : Int)))]) [] (fun k => []) (fun k => k ≤ 8) (fun k => 8 - k) 0 (Nat.zero_le _) (by simp only [anys, upds, offs, List.set_cons_zero, List.set_cons_succ]; repeat (first | exact Wk.nil | refine Wk.same ?_ | refine Wk.any ?_)) (by simp only [anys, upds, offs, List.set_cons_zero, List.set_cons_succ]; repeat (first | exact Sk.nil _ | refine Sk.same _ ?_ | refine Sk.scr _ (by decide) ?_)) ?_
  rintro k gs hJ
  refine AW.norm (by simp only [anys, upds, offs, List.set_cons_zero, List.set_cons_succ]; rfl) (by (try simp only [anys, upds, offs, List.set_cons_zero, List.set_cons_succ]); (try rfl)) ?_
  refine AW.seq ?_
  refine AW.region ?_
  refine AL.r (rd_bin rfl rfl rfl (fun _ => rfl)) ?_
  refine AL.nil ?_
  change AW _ _ _ _ _
  refine AW.seq ?_
  refine AW.cd rfl (fun h6 => ?_) (fun h6 => ?_)
  ·skip
   refine AW.skip ?_
   change AW _ _ _ _ _
   refine AW.seq ?_
   refine AW.block ?_
   refine AW.seq ?_
   refine AW.region ?_
   refine AL.rm ?_
   refine AL.ra ?_
   refine AL.nil ?_
   change AW _ _ _ _ _
   refine AW.region ?_
   have hkl : k < l.length := (by omega)
   have hy : l[k].toNat < 256 := UInt8.toNat_lt _
   have hS := num_take_lt8 l k
   have hst := step8_lt hS hy (by omega)
   refine AL.rm ?_
   refine AL.rm ?_
   refine AL.rm ?_
   refine AL.r (rd_iaddr_sl rfl el_29 rfl rfl rfl (get_mapA (by omega)) rfl) ?_
   refine AL.r (rd_load_ep rfl ag_5 rfl rfl) ?_
   refine AL.r (rd_conv_int rfl iss_5 ik_117 rfl (wrap_u64 _ (by omega))) ?_
   refine AL.rm ?_
   refine AL.r (rd_arith_mul rfl rfl rfl (by first | exact IntWalk.i64_in _ (by omega) | rfl)) ?_
   refine AL.r (rd_shl (c := 8 * k) rfl rfl rfl rfl (by omega) (by show _ ≤ 64; omega) (wrap_u64 _ (by omega))) ?_
   refine AL.r (rd_or rfl rfl rfl (or64 _ _ (8 * k) hS hst)) ?_
   refine AL.ra ?_
   refine AL.nil ?_
   change AW _ _ _ _ _
   refine AW.region ?_
   rw [← take8_num l k hkl]
   refine AL.r (rd_arith_add rfl rfl rfl (by first | exact IntWalk.i64_in _ (by omega) | rfl)) ?_
   refine AL.rm ?_
   refine AL.nil ?_
   refine ⟨k + 1, ?_, by first | omega | (simp only []; omega), ?_, ?_⟩
   ·show k + 1 ≤ 8; omega
   ·simp only [anys, upds, offs, List.set_cons_zero, List.set_cons_succ]; repeat (first | exact Wk.nil | refine Wk.same ?_ | refine Wk.any ?_)
   ·simp only [anys, upds, offs, List.set_cons_zero, List.set_cons_succ]; repeat (first | exact Sk.nil _ | refine Sk.same _ ?_ | refine Sk.scr _ (by decide) ?_)
  ·skip
   refine AW.exit ?_
   change AW _ _ _ _ _
   refine AW.seq ?_
   refine AW.region ?_
   refine AL.rm ?_
   refine AL.ra ?_
   refine AL.nil ?_
   change AW _ _ _ _ _
   refine AW.ret ?_
   change ResA _ _ _ _ _
   refine res1 rfl (ResV.tmp rfl) rfl ?_
   rw [show k = 8 by omega]
def okN (n : Nat) : Bool := decide (1 ≤ n ∧ n ≤ 4611686018427387904)
/-- What a slot's bytes have. -/
def slotN (t : Nat → Nat) (b : List UInt8) : Nat × List UInt8 := match fget t b with | none => (0, []) | some x => if 8 + x.length ≠ b.length ∨ x.length < 8 then (0, []) else if num (x.take 8) < 1 ∨ 4611686018427387904 < num (x.take 8) then (0, []) else (num (x.take 8), x.drop 8)
theorem slot_none {t : Nat → Nat} {b : List UInt8} (h : fget t b = none) : slotN t b = (0, []) := by unfold slotN; rw [h]
theorem slot_off {t : Nat → Nat} {b x : List UInt8} (h : fget t b = some x) (h2 : 8 + x.length ≠ b.length ∨ x.length < 8) : slotN t b = (0, []) := by unfold slotN; rw [h]; simp only [if_pos h2]
theorem slot_bad {t : Nat → Nat} {b x : List UInt8} (h : fget t b = some x) (h2 : ¬(8 + x.length ≠ b.length ∨ x.length < 8)) (h3 : num (x.take 8) < 1 ∨ 4611686018427387904 < num (x.take 8)) : slotN t b = (0, []) := by unfold slotN; rw [h]; simp only [if_neg h2, if_pos h3]
theorem slot_is {t : Nat → Nat} {b x : List UInt8} (h : fget t b = some x) (h2 : ¬(8 + x.length ≠ b.length ∨ x.length < 8)) (h3 : ¬(num (x.take 8) < 1 ∨ 4611686018427387904 < num (x.take 8))) : slotN t b = (num (x.take 8), x.drop 8) := by unfold slotN; rw [h]; simp only [if_neg h2, if_neg h3]
theorem slot_z {t : Nat → Nat} {b : List UInt8} (h : ¬ gC t b 0 = 0) : slotN t b = (0, []) := slot_none (by have := gC_ne h; rwa [List.drop_zero] at this)
theorem slot_e {t : Nat → Nat} {b : List UInt8} (h : gC t b 0 = 0) (h2 : ¬ gE t b 0 = (b.length : Int)) : slotN t b = (0, []) := by
  obtain ⟨x, hx⟩ := gC_zero h
  obtain ⟨_, e2, _⟩ := g_some hx
  rw [e2] at h2
  rw [List.drop_zero] at hx
  exact slot_off hx (.inl (by omega))
theorem slot_s {t : Nat → Nat} {b : List UInt8} (h : gC t b 0 = 0) (h2 : ((gB t b 0).length : Int) < 8) : slotN t b = (0, []) := by
  obtain ⟨x, hx⟩ := gC_zero h
  obtain ⟨e1, _, _⟩ := g_some hx
  rw [e1] at h2
  rw [List.drop_zero] at hx
  exact slot_off hx (.inr (by omega))
theorem slot_le (t : Nat → Nat) (b : List UInt8) : (slotN t b).1 ≤ 4611686018427387904 ∧ (slotN t b).2.length ≤ b.length := by
  unfold slotN
  split
  · simp
  · rename_i x hx
    have := (fget_some hx).2.1
    split
    · simp
    · split
      · simp
      · refine ⟨by omega, ?_⟩
        simp only [List.length_drop]
        omega
section
variable (t : Nat → Nat) (ht : ∀ i, i < 256 → t i < 4294967296)
include ht
theorem slook_c (b : List UInt8) (hb : b.length ≤ 1099511627776) : AC Try.prog 83 [.sl (byA b), .sc (tabV t)] (fun r => r = .s (.tu [.sc (.int .i64 ((slotN t b).1 : Int)), .sl (byA (slotN t b).2)])) := by
  refine AC.of' 40 1 Try.func83 rfl ?_
  change AW _ _ _ _ [TK.mk 0 .off]
  refine AW.seq ?_
  refine AW.region ?_
  refine AL.op rfl (AOpB.op (op_tabbox 0 rfl rfl rfl ?_))
  refine AL.n ?_
  refine AL.ra ?_
  refine AL.ra ?_
  refine AL.nil ?_
  change AW _ _ _ _ _
  refine AW.seq ?_
  refine AW.region ?_
  refine AL.rm ?_
  refine AL.r (rd_tab0 rfl ag_53 rfl rfl) ?_
  refine AL.op rfl (AOpB.op (op_call (fgetc t ht b 0 (Nat.zero_le _) hb) rfl (by kernel_rfl) rfl (none) ?_))
  rintro r rfl
  refine AL.n ?_
  refine AL.rm ?_
  refine AL.r (rd_extract rfl rfl rfl) ?_
  refine AL.r (rd_extract rfl rfl rfl) ?_
  refine AL.r (rd_extract rfl rfl rfl) ?_
  refine AL.ra ?_
  refine AL.ra ?_
  refine AL.ra ?_
  refine AL.nil ?_
  change AW _ _ _ _ _
  refine AW.seq ?_
  refine AW.seq ?_
  refine AW.region ?_
  refine AL.rm ?_
  refine AL.r (rd_bin rfl rfl rfl (fun _ => rfl)) ?_
  refine AL.rm ?_
  refine AL.fk (d := 19) rfl (fun h19 => ?_) (fun h19 => ?_)
  ·skip
   refine AL.n ?_
   refine AL.rf ?_
   refine AL.rf ?_
   refine AL.rf ?_
   refine AL.rf ?_
   refine AL.r (rd_pick_t rfl rfl rfl) ?_
   refine AL.rm ?_
   refine AL.rf ?_
   refine AL.rf ?_
   refine AL.rf ?_
   refine AL.r (rd_pick_t rfl rfl rfl) ?_
   refine AL.nil ?_
   change AW _ _ _ _ _
   refine AW.cond_t rfl ?_
   refine AW.seq ?_
   refine AW.region ?_
   refine AL.ra ?_
   refine AL.ra ?_
   refine AL.nil ?_
   change AW _ _ _ _ _
   refine AW.ret ?_
   change ResA _ _ _ _ _
   refine res2 rfl (ResV.tmp rfl) rfl (ResV.tmp rfl) rfl ?_
   first | (rw [slot_z h19]; rfl) | (rw [slot_e h19 h25]; rfl) | (rw [slot_s h19 h29]; rfl)
  ·skip
   refine AL.n ?_
   refine AL.ro (rd_move rfl rfl) ?_
   refine AL.ro (rd_move rfl rfl) ?_
   refine AL.ro (rd_len_sl rfl el_29 rfl) ?_
   refine AL.ro (rd_bin rfl rfl rfl (fun _ => rfl)) ?_
   refine AL.r (rd_pick_f rfl rfl rfl) ?_
   refine AL.rm ?_
   refine AL.fk (d := 25) rfl (fun h25 => ?_) (fun h25 => ?_)
   ·skip
    refine AL.n ?_
    refine AL.rf ?_
    refine AL.rf ?_
    refine AL.rf ?_
    refine AL.r (rd_pick_t rfl rfl rfl) ?_
    refine AL.nil ?_
    change AW _ _ _ _ _
    refine AW.cond_t rfl ?_
    refine AW.seq ?_
    refine AW.region ?_
    refine AL.ra ?_
    refine AL.ra ?_
    refine AL.nil ?_
    change AW _ _ _ _ _
    refine AW.ret ?_
    change ResA _ _ _ _ _
    refine res2 rfl (ResV.tmp rfl) rfl (ResV.tmp rfl) rfl ?_
    first | (rw [slot_z h19]; rfl) | (rw [slot_e h19 h25]; rfl) | (rw [slot_s h19 h29]; rfl)
   ·skip
    refine AL.n ?_
    refine AL.ro (rd_move rfl rfl) ?_
    refine AL.ro (rd_len_sl rfl el_29 rfl) ?_
    refine AL.ro (rd_bin rfl rfl rfl (fun _ => rfl)) ?_
    refine AL.r (rd_pick_f rfl rfl rfl) ?_
    refine AL.nil ?_
    change AW _ _ _ _ _
    refine AW.cd rfl (fun h29 => ?_) (fun h29 => ?_)
    ·skip
     refine AW.seq ?_
     refine AW.region ?_
     refine AL.ra ?_
     refine AL.ra ?_
     refine AL.nil ?_
     change AW _ _ _ _ _
     refine AW.ret ?_
     change ResA _ _ _ _ _
     refine res2 rfl (ResV.tmp rfl) rfl (ResV.tmp rfl) rfl ?_
     first | (rw [slot_z h19]; rfl) | (rw [slot_e h19 h25]; rfl) | (rw [slot_s h19 h29]; rfl)
    ·skip
     refine AW.skip ?_
     change AW _ _ _ _ _
     refine AW.seq ?_
     refine AW.region ?_
     obtain ⟨x, hx⟩ := gC_zero h19
     obtain ⟨e1, e2, e3⟩ := g_some hx
     rw [e1] at h29 ⊢; rw [e2] at h25
     rw [List.drop_zero] at hx
     refine AL.rm ?_
     refine AL.op rfl (AOpB.op (op_call (snumber_c x (by omega)) rfl (by kernel_rfl) rfl (none) ?_))
     rintro r rfl
     refine AL.n ?_
     refine AL.ra ?_
     refine AL.nil ?_
     change AW _ _ _ _ _
     refine AW.seq ?_
     refine AW.seq ?_
     refine AW.region ?_
     refine AL.rm ?_
     refine AL.r (rd_bin rfl rfl rfl (fun _ => rfl)) ?_
     refine AL.rm ?_
     refine AL.fk (d := 34) rfl (fun h34 => ?_) (fun h34 => ?_)
     ·skip
      refine AL.n ?_
      refine AL.rf ?_
      refine AL.rf ?_
      refine AL.r (rd_pick_t rfl rfl rfl) ?_
      refine AL.nil ?_
      change AW _ _ _ _ _
      refine AW.cond_t rfl ?_
      refine AW.seq ?_
      refine AW.region ?_
      refine AL.ra ?_
      refine AL.ra ?_
      refine AL.nil ?_
      change AW _ _ _ _ _
      refine AW.ret ?_
      change ResA _ _ _ _ _
      refine res2 rfl (ResV.tmp rfl) rfl (ResV.tmp rfl) rfl ?_
      (rw [slot_bad hx (by omega) (by omega)]; rfl)
     ·skip
      refine AL.n ?_
      refine AL.ro (rd_move rfl rfl) ?_
      refine AL.ro (rd_bin rfl rfl rfl (fun _ => rfl)) ?_
      refine AL.r (rd_pick_f rfl rfl rfl) ?_
      refine AL.nil ?_
      change AW _ _ _ _ _
      refine AW.cd rfl (fun h37 => ?_) (fun h37 => ?_)
      ·skip
       refine AW.seq ?_
       refine AW.region ?_
       refine AL.ra ?_
       refine AL.ra ?_
       refine AL.nil ?_
       change AW _ _ _ _ _
       refine AW.ret ?_
       change ResA _ _ _ _ _
       refine res2 rfl (ResV.tmp rfl) rfl (ResV.tmp rfl) rfl ?_
       (rw [slot_bad hx (by omega) (by omega)]; rfl)
      ·skip
       refine AW.skip ?_
       change AW _ _ _ _ _
       refine AW.seq ?_
       refine AW.draw (by kernel_rfl) ?_
       have hnn := num_lt (x.take 8)
       refine AD.r 0 rfl (rd_move rfl rfl) rfl ?_
       refine AD.r 1 rfl (rd_conv_int rfl iss_117 ik_2 rfl (wrap_i64 _ (by omega))) rfl ?_
       refine AD.r 2 rfl (rd_move rfl rfl) rfl ?_
       refine AD.r 3 rfl (rd_by_from rfl el_29 rfl rfl (m := 8) rfl (by omega)) rfl ?_
       refine AD.r 4 rfl (rd_assign rfl rfl) rfl ?_
       refine AD.r 5 rfl (rd_assign rfl rfl) rfl ?_
       refine AD.done (by kernel_rfl) ?_
       change AW _ _ _ _ _
       refine AW.ret ?_
       change ResA _ _ _ _ _
       refine res2 rfl (ResV.tmp rfl) rfl (ResV.tmp rfl) rfl ?_
       rw [slot_is hx (by omega) (by omega)]
end
end Go.Proofs.Ytgjpeldgjpgbcaa
