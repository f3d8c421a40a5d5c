/- Slots: the reference's Slot, Counts, Put, walked over abstract states. Conditions: tables of numbers below 2^32. -/
import Derived.Test.YtgjpeldgjpgbcaaSltE
namespace Go.Proofs.Ytgjpeldgjpgbcaa
set_option linter.unusedSimpArgs false
set_option linter.unusedVariables false
set_option maxRecDepth 100000
open Go.RowKit

/-- Eight bytes from the last one on. -/
theorem num_drop_step (l : List UInt8) (j : Nat) (h : j < 8) (hl : 8 ≤ l.length) : num ((l.take 8).drop (j + 1)) * 256 + l[j].toNat = num ((l.take 8).drop j) := by
  have e : (l.take 8).drop j = l[j] :: (l.take 8).drop (j + 1) := by
    rw [List.drop_eq_getElem_cons (by rw [List.length_take]; omega)]
    congr 1
    exact List.getElem_take
  rw [e, num]
  omega
theorem num_drop_lt (l : List UInt8) (j : Nat) (h : j < 8) : num ((l.take 8).drop (j + 1)) * 256 < 18446744073709551616 := by
  have h1 := num_lt ((l.take 8).drop (j + 1))
  have h2 : ((l.take 8).drop (j + 1)).length ≤ 7 := by rw [List.length_drop, List.length_take]; omega
  have h3 : 256 ^ ((l.take 8).drop (j + 1)).length ≤ 256 ^ 7 := Nat.pow_le_pow_right (by decide) h2
  have h4 : 256 ^ 7 * 256 = 18446744073709551616 := by decide
  omega
theorem rs_c {t : Nat → Nat} {b : List UInt8} (h : (fget t b).isSome = true) : gC t b 0 = 0 := by
  obtain ⟨x, hx⟩ := Option.isSome_iff_exists.1 h
  exact (g_some (k := 0) (by rw [List.drop_zero]; exact hx)).2.2
theorem rs_z {t : Nat → Nat} {b : List UInt8} (h : (fget t b).isSome = false) : slotN t b = (0, []) := slot_none (by simpa using h)
theorem rs_e {t : Nat → Nat} {b : List UInt8} (h : (fget t b).isSome = true) (h2 : ¬ gE t b 0 = (b.length : Int)) : slotN t b = (0, []) := slot_e (rs_c h) h2
theorem rs_s {t : Nat → Nat} {b : List UInt8} (h : (fget t b).isSome = true) (h2 : ((gB t b 0).length : Int) < 8) : slotN t b = (0, []) := slot_s (rs_c h) h2
section
variable (t : Nat → Nat) (ht : ∀ i, i < 256 → t i < 4294967296)
include ht
theorem rslot_c (b : List UInt8) (hb : b.length ≤ 1099511627776) : AC Try.prog 84 [.sc (tabV t), .sl (byA b)] (fun r => r = .s (.tu [.sc (.int .i64 ((slotN t b).1 : Int)), .sl (byA (slotN t b).2)])) := by
  refine AC.of' 51 1 Try.func84 rfl ?_
  change AW _ _ _ _ [TK.mk 0 .off]
  refine AW.seq ?_
  refine AW.region ?_
  refine AL.op rfl (AOpB.op (op_tabbox 0 rfl rfl rfl ?_))
  refine AL.n ?_
  refine AL.ra ?_
  refine AL.ra ?_
  refine AL.nil ?_
  change AW _ _ _ _ _
  refine AW.seq ?_
  refine AW.region ?_
  refine AL.rm ?_
  refine AL.r (rd_tab0 rfl ag_53 rfl rfl) ?_
  refine AL.op rfl (AOpB.op (op_call (rget_c t ht b 0 (Nat.zero_le _) hb) rfl (by kernel_rfl) rfl (none) ?_))
  rintro r rfl
  refine AL.n ?_
  refine AL.rm ?_
  refine AL.r (rd_extract rfl rfl rfl) ?_
  refine AL.r (rd_extract rfl rfl rfl) ?_
  refine AL.r (rd_extract rfl rfl rfl) ?_
  refine AL.ra ?_
  refine AL.ra ?_
  refine AL.ra ?_
  refine AL.nil ?_
  change AW _ _ _ _ _
  refine AW.seq ?_
  refine AW.seq ?_
  refine AW.region ?_
  refine AL.rm ?_
  refine AL.r (rd_un rfl rfl (fun _ => rfl)) ?_
  refine AL.rm ?_
  refine AL.fk (d := 20) rfl (fun h20 => ?_) (fun h20 => ?_)
  ·skip
   refine AL.n ?_
   refine AL.rf ?_
   refine AL.rf ?_
   refine AL.rf ?_
   refine AL.rf ?_
   refine AL.r (rd_pick_t rfl rfl rfl) ?_
   refine AL.rm ?_
   refine AL.rf ?_
   refine AL.rf ?_
   refine AL.rf ?_
   refine AL.r (rd_pick_t rfl rfl rfl) ?_
   refine AL.nil ?_
   change AW _ _ _ _ _
   refine AW.cond_t rfl ?_
   refine AW.seq ?_
   refine AW.region ?_
   refine AL.ra ?_
   refine AL.ra ?_
   refine AL.nil ?_
   change AW _ _ _ _ _
   refine AW.ret ?_
   change ResA _ _ _ _ _
   refine res2 rfl (ResV.tmp rfl) rfl (ResV.tmp rfl) rfl ?_
   first | (rw [rs_z h20]; rfl) | (rw [rs_e h20 h26]; rfl) | (rw [rs_s h20 h30]; rfl)
  ·skip
   refine AL.n ?_
   refine AL.ro (rd_move rfl rfl) ?_
   refine AL.ro (rd_move rfl rfl) ?_
   refine AL.ro (rd_len_sl rfl el_29 rfl) ?_
   refine AL.ro (rd_bin rfl rfl rfl (fun _ => rfl)) ?_
   refine AL.r (rd_pick_f rfl rfl rfl) ?_
   refine AL.rm ?_
   refine AL.fk (d := 26) rfl (fun h26 => ?_) (fun h26 => ?_)
   ·skip
    refine AL.n ?_
    refine AL.rf ?_
    refine AL.rf ?_
    refine AL.rf ?_
    refine AL.r (rd_pick_t rfl rfl rfl) ?_
    refine AL.nil ?_
    change AW _ _ _ _ _
    refine AW.cond_t rfl ?_
    refine AW.seq ?_
    refine AW.region ?_
    refine AL.ra ?_
    refine AL.ra ?_
    refine AL.nil ?_
    change AW _ _ _ _ _
    refine AW.ret ?_
    change ResA _ _ _ _ _
    refine res2 rfl (ResV.tmp rfl) rfl (ResV.tmp rfl) rfl ?_
    first | (rw [rs_z h20]; rfl) | (rw [rs_e h20 h26]; rfl) | (rw [rs_s h20 h30]; rfl)
   ·skip
    refine AL.n ?_
    refine AL.ro (rd_move rfl rfl) ?_
    refine AL.ro (rd_len_sl rfl el_29 rfl) ?_
    refine AL.ro (rd_bin rfl rfl rfl (fun _ => rfl)) ?_
    refine AL.r (rd_pick_f rfl rfl rfl) ?_
    refine AL.nil ?_
    change AW _ _ _ _ _
    refine AW.cd rfl (fun h30 => ?_) (fun h30 => ?_)
    ·skip
     refine AW.seq ?_
     refine AW.region ?_
     refine AL.ra ?_
     refine AL.ra ?_
     refine AL.nil ?_
     change AW _ _ _ _ _
     refine AW.ret ?_
     change ResA _ _ _ _ _
     refine res2 rfl (ResV.tmp rfl) rfl (ResV.tmp rfl) rfl ?_
     first | (rw [rs_z h20]; rfl) | (rw [rs_e h20 h26]; rfl) | (rw [rs_s h20 h30]; rfl)
    ·skip
     refine AW.skip ?_
     change AW _ _ _ _ _
     refine AW.seq ?_
     refine AW.region ?_
     obtain ⟨x, hx⟩ := Option.isSome_iff_exists.1 h20
     obtain ⟨e1, e2, e3⟩ := g_some (k := 0) (by rw [List.drop_zero]; exact hx)
     rw [e1] at h30 ⊢; rw [e2] at h26
     refine AL.ra ?_
     refine AL.nil ?_
     change AW _ _ _ _ _
     refine AW.seq ?_
     refine AW.seq ?_
     refine AW.region ?_
     rw [show (AV.sc (Value.int .u64 0)) = .sc (.int .u64 ((num ((x.take 8).drop 8) : Nat) : Int)) by rw [List.drop_of_length_le (by rw [List.length_take]; omega)]; rfl]
     refine AL.ra ?_
     refine AL.nil ?_
     change AW _ _ _ _ _
     refine AW.block ?_
     refine AW.loopM (ι := Nat) [31, 32, 33, 34, 35, 36, 37, 38, 39, 40, 41, 42] (fun j => [(10, .sc (.int .i64 ((j : Int) - 1))), (9, .sc (.int .u64 ((num ((x.take 8).drop j) : Nat) : Int)))]) [] (fun j => []) (fun j => j ≤ 8) (fun j => j) 8 (Nat.le_refl _) (by simp only [anys, upds, offs, List.set_cons_zero, List.set_cons_succ]; repeat (first | exact Wk.nil | refine Wk.same ?_ | refine Wk.any ?_)) (by simp only [anys, upds, offs, List.set_cons_zero, List.set_cons_succ]; repeat (first | exact Sk.nil _ | refine Sk.same _ ?_ | refine Sk.scr _ (by decide) ?_)) ?_
     rintro j gs hJ
     refine AW.norm (by simp only [anys, upds, offs, List.set_cons_zero, List.set_cons_succ]; rfl) (by (try simp only [anys, upds, offs, List.set_cons_zero, List.set_cons_succ]); (try rfl)) ?_
     refine AW.seq ?_
     refine AW.seq ?_
     refine AW.region ?_
     refine AL.rm ?_
     refine AL.r (rd_bin rfl rfl rfl (fun _ => rfl)) ?_
     refine AL.nil ?_
     change AW _ _ _ _ _
     refine AW.cd rfl (fun h32 => ?_) (fun h32 => ?_)
     ·skip
      refine AW.skip ?_
      change AW _ _ _ _ _
      refine AW.seq ?_
      refine AW.block ?_
      refine AW.region ?_
      obtain ⟨q, rfl⟩ : ∃ q, j = q + 1 := ⟨j - 1, (by omega)⟩
      have hxl : 8 ≤ x.length := (by omega)
      have hlt := num_drop_lt x q (by omega)
      have hy : x[q].toNat < 256 := UInt8.toNat_lt _
      have hst := num_drop_step x q (by omega) hxl
      have hn8 := num_lt (x.take 8)
      refine AL.rm ?_
      refine AL.r (rd_arith_mul rfl rfl rfl (wrap_u64 (num ((x.take 8).drop (q + 1)) * 256) (by omega))) ?_
      refine AL.rm ?_
      refine AL.rm ?_
      refine AL.r (rd_iaddr_sl rfl el_29 rfl rfl (show (((q + 1 : Nat) : Int) - 1) = ((q : Nat) : Int) by omega) (get_mapA (by omega)) rfl) ?_
      refine AL.r (rd_load_ep rfl ag_5 rfl rfl) ?_
      refine AL.r (rd_conv_int rfl iss_5 ik_117 rfl (wrap_u64 _ (by omega))) ?_
      refine AL.r (rd_arith_add rfl rfl rfl (wrap_u64 (num ((x.take 8).drop (q + 1)) * 256 + x[q].toNat) (by omega))) ?_
      refine AL.ra ?_
      refine AL.nil ?_
      change AW _ _ _ _ _
      refine AW.region ?_
      rw [hst]
      refine AL.rm ?_
      refine AL.r (rd_arith_sub rfl rfl rfl (by first | exact IntWalk.i64_in _ (by omega) | rfl)) ?_
      rw [show (((q + 1 : Nat) : Int) - 1 - 1) = (q : Int) - 1 by omega]
      refine AL.ra ?_
      refine AL.nil ?_
      refine ⟨q, ?_, by first | omega | (simp only []; omega), ?_, ?_⟩
      ·show q ≤ 8; omega
      ·simp only [anys, upds, offs, List.set_cons_zero, List.set_cons_succ]; repeat (first | exact Wk.nil | refine Wk.same ?_ | refine Wk.any ?_)
      ·simp only [anys, upds, offs, List.set_cons_zero, List.set_cons_succ]; repeat (first | exact Sk.nil _ | refine Sk.same _ ?_ | refine Sk.scr _ (by decide) ?_)
     ·skip
      refine AW.exit ?_
      change AW _ _ _ _ _
      refine AW.seq ?_
      refine AW.seq ?_
      refine AW.region ?_
      have hj0 : j = 0 := (by omega)
      subst hj0
      have hnn := num_lt (x.take 8)
      rw [List.drop_zero]
      refine AL.rm ?_
      refine AL.r (rd_bin rfl rfl rfl (fun _ => rfl)) ?_
      refine AL.rm ?_
      refine AL.fk (d := 45) rfl (fun h45 => ?_) (fun h45 => ?_)
      ·skip
       refine AL.n ?_
       refine AL.rf ?_
       refine AL.rf ?_
       refine AL.r (rd_pick_t rfl rfl rfl) ?_
       refine AL.nil ?_
       change AW _ _ _ _ _
       refine AW.cond_t rfl ?_
       refine AW.seq ?_
       refine AW.region ?_
       refine AL.ra ?_
       refine AL.ra ?_
       refine AL.nil ?_
       change AW _ _ _ _ _
       refine AW.ret ?_
       change ResA _ _ _ _ _
       refine res2 rfl (ResV.tmp rfl) rfl (ResV.tmp rfl) rfl ?_
       (rw [slot_bad hx (by omega) (by omega)]; rfl)
      ·skip
       refine AL.n ?_
       refine AL.ro (rd_move rfl rfl) ?_
       refine AL.ro (rd_bin rfl rfl rfl (fun _ => rfl)) ?_
       refine AL.r (rd_pick_f rfl rfl rfl) ?_
       refine AL.nil ?_
       change AW _ _ _ _ _
       refine AW.cd rfl (fun h48 => ?_) (fun h48 => ?_)
       ·skip
        refine AW.seq ?_
        refine AW.region ?_
        refine AL.ra ?_
        refine AL.ra ?_
        refine AL.nil ?_
        change AW _ _ _ _ _
        refine AW.ret ?_
        change ResA _ _ _ _ _
        refine res2 rfl (ResV.tmp rfl) rfl (ResV.tmp rfl) rfl ?_
        (rw [slot_bad hx (by omega) (by omega)]; rfl)
       ·skip
        refine AW.skip ?_
        change AW _ _ _ _ _
        refine AW.seq ?_
        refine AW.draw (by kernel_rfl) ?_
        refine AD.r 0 rfl (rd_move rfl rfl) rfl ?_
        refine AD.r 1 rfl (rd_conv_int rfl iss_117 ik_2 rfl (wrap_i64 _ (by omega))) rfl ?_
        refine AD.r 2 rfl (rd_move rfl rfl) rfl ?_
        refine AD.r 3 rfl (rd_by_from rfl el_29 rfl rfl (m := 8) rfl (by omega)) rfl ?_
        refine AD.r 4 rfl (rd_assign rfl rfl) rfl ?_
        refine AD.r 5 rfl (rd_assign rfl rfl) rfl ?_
        refine AD.done (by kernel_rfl) ?_
        change AW _ _ _ _ _
        refine AW.ret ?_
        change ResA _ _ _ _ _
        refine res2 rfl (ResV.tmp rfl) rfl (ResV.tmp rfl) rfl ?_
        rw [slot_is hx (by omega) (by omega)]
end
end Go.Proofs.Ytgjpeldgjpgbcaa
