/- The disk's other functions, over abstract states. -/
import Derived.Test.YtgjpeldgjpgbcaaDskD
namespace Go.Proofs.Ytgjpeldgjpgbcaa
set_option linter.unusedSimpArgs false
set_option linter.unusedVariables false
set_option maxRecDepth 100000
open Go.RowKit

def syncD (d : DiskD) : DiskD := if d.dark = true then d else if burnN d 1 = 0 then burnD d 1 else settleD (burnD d 1) d.waits
def syncR (d : DiskD) : Int := if d.dark = true then 10 else if burnN d 1 = 0 then 10 else 0
def fuseD (d : DiskD) (n : Int) : DiskD := { d with fused := decide (n ≥ 0), fuse := if n < 0 then 0 else n }
def crashD (d : DiskD) (keep : Int) : DiskD := { settleD d keep with n := (settleD d keep).l, nf := fun _ => false, fused := false, fuse := 0, dark := false }
section
variable {d : DiskD}
theorem sync_dark (h : d.dark = true) : syncR d = 10 ∧ syncD d = d := by simp only [syncR, syncD, h, if_true, and_self]
theorem sync_burn (h : d.dark = false) (h2 : burnN d 1 = 0) : syncR d = 10 ∧ syncD d = burnD d 1 := by simp only [syncR, syncD, h, h2, if_true, if_false, Bool.false_eq_true, and_self]
theorem sync_go (h : d.dark = false) (h2 : ¬ burnN d 1 = 0) : syncR d = 0 ∧ syncD d = settleD (burnD d 1) d.waits := by simp only [syncR, syncD, h, h2, if_true, if_false, Bool.false_eq_true, and_self]
end
section
variable (d : DiskD) (g g1 g2 g3 g4 g5 g6 g7 g8 g9 : Nat)
theorem sync_c (h : d.Fit) (hok : okq d.q (d.l, d.lf)) (hb : ∀ i, (d.l i).length + qb d.q ≤ 1099511627776) : ACo Try.prog 20 [.bx 0 g 0] (diskT g g1 g2 g3 g4 g5 g6 g7 g8 g9 d)
    (fun y os' => y = .sc (.int .i64 (syncR d)) ∧ DiskAt g (syncD d) os') := by
  have hw := h.w
  refine ACo.of (t0 := [.bx 0 g 0, AV.sc undef, AV.sc undef, AV.sc undef, AV.sc undef, AV.sc undef, AV.sc undef, AV.sc undef, AV.sc undef, AV.sc undef, AV.sc undef, AV.sc undef, AV.sc undef, AV.sc undef, AV.sc undef, AV.sc undef, AV.sc undef, AV.sc undef, AV.sc undef, AV.sc undef]) (st0 := [⟨g, .box 99 [.sc (.int .i64 d.room), .ow 1 g1, .ow 2 g2, .ow 3 g3, .ow 4 g4, .ow 5 g5, .ow 6 g6, .ow 7 g7, .ow 8 g8, .ow 9 g9, .sc (.int .i64 d.waits), .sc (.int .i64 d.done), .sc (.bool d.fused), .sc (.int .i64 d.fuse), .sc (.bool d.dark)]⟩, ⟨g1, owM (d.nf 0) 5 1 (byA (d.n 0))⟩, ⟨g2, owM (d.nf 1) 5 1 (byA (d.n 1))⟩, ⟨g3, owM (d.nf 2) 5 1 (byA (d.n 2))⟩, ⟨g4, owM (d.nf 3) 5 1 (byA (d.n 3))⟩, ⟨g5, owM (d.lf 0) 5 1 (byA (d.l 0))⟩, ⟨g6, owM (d.lf 1) 5 1 (byA (d.l 1))⟩, ⟨g7, owM (d.lf 2) 5 1 (byA (d.l 2))⟩, ⟨g8, owM (d.lf 3) 5 1 (byA (d.l 3))⟩, ⟨g9, owM true 102 4 (d.q.map DeedD.cs)⟩]) 0 Try.func20 rfl rfl rfl 10 rfl ?_
  refine AW.seq ?_
  refine AW.region ?_
  refine AL.r (rd_assign rfl rfl) ?_
  refine AL.nil ?_
  change AW _ _ _ _ _
  refine AW.seq ?_
  refine AW.seq ?_
  refine AW.region ?_
  refine AL.r (rd_move rfl rfl) ?_
  refine AL.r (rd_peq_bx rfl pt_25 rfl rfl rfl) ?_
  refine AL.nil ?_
  change AW _ _ _ _ _
  refine AW.cond_f rfl ?_
  refine AW.skip ?_
  change AW _ _ _ _ _
  refine AW.seq ?_
  refine AW.seq ?_
  refine AW.region ?_
  refine AL.r (rd_move rfl rfl) ?_
  refine AL.r (rd_nilc_bx rfl rfl rfl) ?_
  refine AL.r (rd_faddr_bx rfl fo_99_8 rfl rfl ⟨_, _, rfl⟩) ?_
  refine AL.r (rd_load_bx rfl ag_4 rfl rfl rfl) ?_
  refine AL.r (rd_move rfl rfl) ?_
  refine AL.fork (d := 9) rfl (fun h9 => ?_) (fun h9 => ?_)
  · (try simp only [decide_eq_true_eq, decide_eq_false_iff_not, beq_iff_eq, beq_eq_false_iff_ne, bne_iff_ne, bne_eq_false_iff_eq, Bool.not_eq_true', Bool.not_eq_false', ne_eq, Bool.not_eq_eq_eq_not, Bool.not_true, Bool.not_false, gt_iff_lt, ge_iff_le, Bool.not_not] at h9)
    refine AL.n ?_
    refine AL.rf ?_
    refine AL.rf ?_
    refine AL.rf ?_
    refine AL.r (rd_pick_t rfl rfl rfl) ?_
    refine AL.nil ?_
    change AW _ _ _ _ _
    refine AW.cond_t rfl ?_
    refine AW.seq ?_
    refine AW.region ?_
    refine AL.r (rd_assign rfl rfl) ?_
    refine AL.nil ?_
    change AW _ _ _ _ _
    refine AW.ret ?_
    repeat with_reducible first | refine thenA_ret ?_ | refine inBlockA_ret ?_
    with_reducible first | refine retO_ret ?_ | refine retO_normal ?_
    refine reso1 rfl (Nat.le_of_ble_eq_true rfl) (by simp only [cleanS, cle_owM, cle_own, cle_nown, cle_obj, cle_off, cle_box, okC, liveA, List.take_succ_cons, List.take_zero, List.all_cons, List.all_nil, List.getElem?_cons_zero, List.getElem?_cons_succ, isO_owM, isO_own, isO_nown, TC.isB, beq_self_eq_true, Bool.and_self, Bool.and_true, ok1, ok2, List.map_cons, List.map_nil]) (ResV.tmp rfl) rfl (by simp only [cleanS, cle_owM, cle_own, cle_nown, cle_obj, cle_off, cle_box, okC, liveA, List.take_succ_cons, List.take_zero, List.all_cons, List.all_nil, List.getElem?_cons_zero, List.getElem?_cons_succ, isO_owM, isO_own, isO_nown, TC.isB, beq_self_eq_true, Bool.and_self, Bool.and_true, ok1, ok2, List.map_cons, List.map_nil]) ?_
    first | (have e := sync_dark h9; exact ⟨by first | rfl | (rw [e.1]; done) | (rw [e.1]; rfl), by rw [e.2]; exact ⟨_, _, _, _, _, _, _, _, _, by first | rfl | (simp only [diskT, pushD, cutD1, Int.toNat_natCast, List.map_append, List.map_cons, List.map_nil, DeedD.cs]; rfl)⟩⟩) | (have e := sync_burn h9 h13; exact ⟨by first | rfl | (rw [e.1]; done) | (rw [e.1]; rfl), by rw [e.2]; exact ⟨_, _, _, _, _, _, _, _, _, by first | rfl | (simp only [diskT, pushD, cutD1, Int.toNat_natCast, List.map_append, List.map_cons, List.map_nil, DeedD.cs]; rfl)⟩⟩) | (have e := sync_go h9 h13; exact ⟨by first | rfl | (rw [e.1]; done) | (rw [e.1]; rfl), by rw [e.2]; exact ⟨_, _, _, _, _, _, _, _, _, by first | rfl | (simp only [diskT, pushD, cutD1, Int.toNat_natCast, List.map_append, List.map_cons, List.map_nil, DeedD.cs]; rfl)⟩⟩)
  · (try simp only [decide_eq_true_eq, decide_eq_false_iff_not, beq_iff_eq, beq_eq_false_iff_ne, bne_iff_ne, bne_eq_false_iff_eq, Bool.not_eq_true', Bool.not_eq_false', ne_eq, Bool.not_eq_eq_eq_not, Bool.not_true, Bool.not_false, gt_iff_lt, ge_iff_le, Bool.not_not] at h9)
    refine AL.n ?_
    refine AL.ro (rd_move rfl rfl) ?_
    refine AL.on rfl rfl rfl (op_callo (burn_c d g g1 g2 g3 g4 g5 g6 g7 g8 g9 1 h.fuse (by omega)) rfl (by kernel_rfl) [0, 1, 2, 3, 4, 5, 6, 7, 8, 9] (by decide) (by simp only [diskT, List.map_cons, List.map_nil, renT, renC_owM, renC_box, renC_own, renC_nown, renC_obj, renC_off, ren0, List.getD_cons_zero, List.getD_cons_succ]; exact ⟨rfl, rfl, rfl, rfl, rfl, rfl, rfl, rfl, rfl, rfl, trivial⟩) rfl (by simp only [diskT, cleanS, cle_owM, cle_own, cle_nown, cle_obj, cle_off, cle_box, okC, liveA, List.take_succ_cons, List.take_zero, List.all_cons, List.all_nil, List.getElem?_cons_zero, List.getElem?_cons_succ, isO_owM, isO_own, isO_nown, TC.isB, beq_self_eq_true, Bool.and_self, Bool.and_true, ok1, ok2, List.map_cons, List.map_nil]) (by simp only [diskT, cleanS, cle_owM, cle_own, cle_nown, cle_obj, cle_off, cle_box, okC, liveA, List.take_succ_cons, List.take_zero, List.all_cons, List.all_nil, List.getElem?_cons_zero, List.getElem?_cons_succ, isO_owM, isO_own, isO_nown, TC.isB, beq_self_eq_true, Bool.and_self, Bool.and_true, ok1, ok2, List.map_cons, List.map_nil]) ?_)
    rintro y os' ⟨rfl, rfl⟩
    refine AL.no ?_ (by (try simp only [diskT, putA, evA, List.getD_cons_zero, List.getD_cons_succ, List.set_cons_zero, List.set_cons_succ, List.length_map, KR, splA, List.map_cons, List.map_nil, List.length_append, List.length_cons, List.length_nil, List.drop_zero, csS_len, csS_take, csS_drop, csS_app, byA_len, byA_take, byA_drop, byA_app, ← List.map_take, ← List.map_drop, ← List.map_append, List.take_succ_cons, List.take_zero, List.drop_succ_cons, List.cons_append, List.nil_append, Nat.zero_add, Nat.reduceAdd, Nat.reduceMul, Nat.add_zero, Nat.mul_one, putT, renT, renC_owM, renC_box, renC_own, renC_nown, renC_obj, renC_off, ren2, ren1, ren0, ok1, ok2]); (try rfl)) (by (try simp only [diskT, putA, evA, List.getD_cons_zero, List.getD_cons_succ, List.set_cons_zero, List.set_cons_succ, List.length_map, KR, splA, List.map_cons, List.map_nil, List.length_append, List.length_cons, List.length_nil, List.drop_zero, csS_len, csS_take, csS_drop, csS_app, byA_len, byA_take, byA_drop, byA_app, ← List.map_take, ← List.map_drop, ← List.map_append, List.take_succ_cons, List.take_zero, List.drop_succ_cons, List.cons_append, List.nil_append, Nat.zero_add, Nat.reduceAdd, Nat.reduceMul, Nat.add_zero, Nat.mul_one, putT, renT, renC_owM, renC_box, renC_own, renC_nown, renC_obj, renC_off, ren2, ren1, ren0, ok1, ok2]); (try rfl))
    refine AL.ro (rd_bin rfl rfl rfl (fun _ => rfl)) ?_
    refine AL.r (rd_pick_f rfl rfl rfl) ?_
    refine AL.nil ?_
    change AW _ _ _ _ _
    refine AW.cond rfl (fun h13 => ?_) (fun h13 => ?_)
    · (try simp only [decide_eq_true_eq, decide_eq_false_iff_not, beq_iff_eq, beq_eq_false_iff_ne, bne_iff_ne, bne_eq_false_iff_eq, Bool.not_eq_true', Bool.not_eq_false', ne_eq, Bool.not_eq_eq_eq_not, Bool.not_true, Bool.not_false, gt_iff_lt, ge_iff_le, Bool.not_not] at h13)
      refine AW.seq ?_
      refine AW.region ?_
      refine AL.r (rd_assign rfl rfl) ?_
      refine AL.nil ?_
      change AW _ _ _ _ _
      refine AW.ret ?_
      repeat with_reducible first | refine thenA_ret ?_ | refine inBlockA_ret ?_
      with_reducible first | refine retO_ret ?_ | refine retO_normal ?_
      refine reso1 rfl (Nat.le_of_ble_eq_true rfl) (by simp only [cleanS, cle_owM, cle_own, cle_nown, cle_obj, cle_off, cle_box, okC, liveA, List.take_succ_cons, List.take_zero, List.all_cons, List.all_nil, List.getElem?_cons_zero, List.getElem?_cons_succ, isO_owM, isO_own, isO_nown, TC.isB, beq_self_eq_true, Bool.and_self, Bool.and_true, ok1, ok2, List.map_cons, List.map_nil]) (ResV.tmp rfl) rfl (by simp only [cleanS, cle_owM, cle_own, cle_nown, cle_obj, cle_off, cle_box, okC, liveA, List.take_succ_cons, List.take_zero, List.all_cons, List.all_nil, List.getElem?_cons_zero, List.getElem?_cons_succ, isO_owM, isO_own, isO_nown, TC.isB, beq_self_eq_true, Bool.and_self, Bool.and_true, ok1, ok2, List.map_cons, List.map_nil]) ?_
      first | (have e := sync_dark h9; exact ⟨by first | rfl | (rw [e.1]; done) | (rw [e.1]; rfl), by rw [e.2]; exact ⟨_, _, _, _, _, _, _, _, _, by first | rfl | (simp only [diskT, pushD, cutD1, Int.toNat_natCast, List.map_append, List.map_cons, List.map_nil, DeedD.cs]; rfl)⟩⟩) | (have e := sync_burn h9 h13; exact ⟨by first | rfl | (rw [e.1]; done) | (rw [e.1]; rfl), by rw [e.2]; exact ⟨_, _, _, _, _, _, _, _, _, by first | rfl | (simp only [diskT, pushD, cutD1, Int.toNat_natCast, List.map_append, List.map_cons, List.map_nil, DeedD.cs]; rfl)⟩⟩) | (have e := sync_go h9 h13; exact ⟨by first | rfl | (rw [e.1]; done) | (rw [e.1]; rfl), by rw [e.2]; exact ⟨_, _, _, _, _, _, _, _, _, by first | rfl | (simp only [diskT, pushD, cutD1, Int.toNat_natCast, List.map_append, List.map_cons, List.map_nil, DeedD.cs]; rfl)⟩⟩)
    · (try simp only [decide_eq_true_eq, decide_eq_false_iff_not, beq_iff_eq, beq_eq_false_iff_ne, bne_iff_ne, bne_eq_false_iff_eq, Bool.not_eq_true', Bool.not_eq_false', ne_eq, Bool.not_eq_eq_eq_not, Bool.not_true, Bool.not_false, gt_iff_lt, ge_iff_le, Bool.not_not] at h13)
      refine AW.skip ?_
      change AW _ _ _ _ _
      refine AW.seq ?_
      refine AW.region ?_
      refine AL.r (rd_move rfl rfl) ?_
      refine AL.r (rd_move rfl rfl) ?_
      refine AL.r (rd_nilc_bx rfl rfl rfl) ?_
      refine AL.r (rd_faddr_bx rfl fo_99_4 rfl rfl ⟨_, _, rfl⟩) ?_
      refine AL.r (rd_load_bx rfl ag_3 rfl rfl rfl) ?_
      refine AL.op rfl (op_callo (settle_c (burnD d 1) g g1 g2 g3 g4 g5 g6 g7 g8 g9 h.q d.waits (by omega) hok hb) rfl (by kernel_rfl) [0, 1, 2, 3, 4, 5, 6, 7, 8, 9] (by decide) (by simp only [diskT, List.map_cons, List.map_nil, renT, renC_owM, renC_box, renC_own, renC_nown, renC_obj, renC_off, ren0, List.getD_cons_zero, List.getD_cons_succ]; exact ⟨rfl, rfl, rfl, rfl, rfl, rfl, rfl, rfl, rfl, rfl, trivial⟩) rfl (by simp only [diskT, cleanS, cle_owM, cle_own, cle_nown, cle_obj, cle_off, cle_box, okC, liveA, List.take_succ_cons, List.take_zero, List.all_cons, List.all_nil, List.getElem?_cons_zero, List.getElem?_cons_succ, isO_owM, isO_own, isO_nown, TC.isB, beq_self_eq_true, Bool.and_self, Bool.and_true, ok1, ok2, List.map_cons, List.map_nil]) (by simp only [diskT, cleanS, cle_owM, cle_own, cle_nown, cle_obj, cle_off, cle_box, okC, liveA, List.take_succ_cons, List.take_zero, List.all_cons, List.all_nil, List.getElem?_cons_zero, List.getElem?_cons_succ, isO_owM, isO_own, isO_nown, TC.isB, beq_self_eq_true, Bool.and_self, Bool.and_true, ok1, ok2, List.map_cons, List.map_nil]) ?_)
      rintro y os' ⟨rfl, a1, a2, a3, a4, a5, a6, a7, a8, a9, rfl⟩
      refine AL.no ?_ (by (try simp only [diskT, putA, evA, List.getD_cons_zero, List.getD_cons_succ, List.set_cons_zero, List.set_cons_succ, List.length_map, KR, splA, List.map_cons, List.map_nil, List.length_append, List.length_cons, List.length_nil, List.drop_zero, csS_len, csS_take, csS_drop, csS_app, byA_len, byA_take, byA_drop, byA_app, ← List.map_take, ← List.map_drop, ← List.map_append, List.take_succ_cons, List.take_zero, List.drop_succ_cons, List.cons_append, List.nil_append, Nat.zero_add, Nat.reduceAdd, Nat.reduceMul, Nat.add_zero, Nat.mul_one, putT, renT, renC_owM, renC_box, renC_own, renC_nown, renC_obj, renC_off, ren2, ren1, ren0, ok1, ok2]); (try rfl)) (by (try simp only [diskT, putA, evA, List.getD_cons_zero, List.getD_cons_succ, List.set_cons_zero, List.set_cons_succ, List.length_map, KR, splA, List.map_cons, List.map_nil, List.length_append, List.length_cons, List.length_nil, List.drop_zero, csS_len, csS_take, csS_drop, csS_app, byA_len, byA_take, byA_drop, byA_app, ← List.map_take, ← List.map_drop, ← List.map_append, List.take_succ_cons, List.take_zero, List.drop_succ_cons, List.cons_append, List.nil_append, Nat.zero_add, Nat.reduceAdd, Nat.reduceMul, Nat.add_zero, Nat.mul_one, putT, renT, renC_owM, renC_box, renC_own, renC_nown, renC_obj, renC_off, ren2, ren1, ren0, ok1, ok2]); (try rfl))
      refine AL.nil ?_
      change AW _ _ _ _ _
      refine AW.seq ?_
      refine AW.region ?_
      refine AL.r (rd_assign rfl rfl) ?_
      refine AL.nil ?_
      change AW _ _ _ _ _
      refine AW.ret ?_
      repeat with_reducible first | refine thenA_ret ?_ | refine inBlockA_ret ?_
      with_reducible first | refine retO_ret ?_ | refine retO_normal ?_
      refine reso1 rfl (Nat.le_of_ble_eq_true rfl) (by simp only [cleanS, cle_owM, cle_own, cle_nown, cle_obj, cle_off, cle_box, okC, liveA, List.take_succ_cons, List.take_zero, List.all_cons, List.all_nil, List.getElem?_cons_zero, List.getElem?_cons_succ, isO_owM, isO_own, isO_nown, TC.isB, beq_self_eq_true, Bool.and_self, Bool.and_true, ok1, ok2, List.map_cons, List.map_nil]) (ResV.tmp rfl) rfl (by simp only [cleanS, cle_owM, cle_own, cle_nown, cle_obj, cle_off, cle_box, okC, liveA, List.take_succ_cons, List.take_zero, List.all_cons, List.all_nil, List.getElem?_cons_zero, List.getElem?_cons_succ, isO_owM, isO_own, isO_nown, TC.isB, beq_self_eq_true, Bool.and_self, Bool.and_true, ok1, ok2, List.map_cons, List.map_nil]) ?_
      first | (have e := sync_dark h9; exact ⟨by first | rfl | (rw [e.1]; done) | (rw [e.1]; rfl), by rw [e.2]; exact ⟨_, _, _, _, _, _, _, _, _, by first | rfl | (simp only [diskT, pushD, cutD1, Int.toNat_natCast, List.map_append, List.map_cons, List.map_nil, DeedD.cs]; rfl)⟩⟩) | (have e := sync_burn h9 h13; exact ⟨by first | rfl | (rw [e.1]; done) | (rw [e.1]; rfl), by rw [e.2]; exact ⟨_, _, _, _, _, _, _, _, _, by first | rfl | (simp only [diskT, pushD, cutD1, Int.toNat_natCast, List.map_append, List.map_cons, List.map_nil, DeedD.cs]; rfl)⟩⟩) | (have e := sync_go h9 h13; exact ⟨by first | rfl | (rw [e.1]; done) | (rw [e.1]; rfl), by rw [e.2]; exact ⟨_, _, _, _, _, _, _, _, _, by first | rfl | (simp only [diskT, pushD, cutD1, Int.toNat_natCast, List.map_append, List.map_cons, List.map_nil, DeedD.cs]; rfl)⟩⟩)
theorem fuse_c (n : Int) : ACo Try.prog 28 [.bx 0 g 0, .sc (.int .i64 n)] (diskT g g1 g2 g3 g4 g5 g6 g7 g8 g9 d)
    (fun y os' => y = .tu [] ∧ os' = diskT g g1 g2 g3 g4 g5 g6 g7 g8 g9 (fuseD d n)) := by
  refine ACo.of (t0 := [.bx 0 g 0, .sc (.int .i64 n), AV.sc undef, AV.sc undef, AV.sc undef, AV.sc undef, AV.sc undef, AV.sc undef, AV.sc undef, AV.sc undef, AV.sc undef, AV.sc undef, AV.sc undef, AV.sc undef, AV.sc undef, AV.sc undef]) (st0 := [⟨g, .box 99 [.sc (.int .i64 d.room), .ow 1 g1, .ow 2 g2, .ow 3 g3, .ow 4 g4, .ow 5 g5, .ow 6 g6, .ow 7 g7, .ow 8 g8, .ow 9 g9, .sc (.int .i64 d.waits), .sc (.int .i64 d.done), .sc (.bool d.fused), .sc (.int .i64 d.fuse), .sc (.bool d.dark)]⟩, ⟨g1, owM (d.nf 0) 5 1 (byA (d.n 0))⟩, ⟨g2, owM (d.nf 1) 5 1 (byA (d.n 1))⟩, ⟨g3, owM (d.nf 2) 5 1 (byA (d.n 2))⟩, ⟨g4, owM (d.nf 3) 5 1 (byA (d.n 3))⟩, ⟨g5, owM (d.lf 0) 5 1 (byA (d.l 0))⟩, ⟨g6, owM (d.lf 1) 5 1 (byA (d.l 1))⟩, ⟨g7, owM (d.lf 2) 5 1 (byA (d.l 2))⟩, ⟨g8, owM (d.lf 3) 5 1 (byA (d.l 3))⟩, ⟨g9, owM true 102 4 (d.q.map DeedD.cs)⟩]) 0 Try.func28 rfl rfl rfl 10 rfl ?_
  refine AW.seq ?_
  refine AW.seq ?_
  refine AW.region ?_
  refine AL.r (rd_move rfl rfl) ?_
  refine AL.r (rd_peq_bx rfl pt_25 rfl rfl rfl) ?_
  refine AL.nil ?_
  change AW _ _ _ _ _
  refine AW.cond_f rfl ?_
  refine AW.skip ?_
  change AW _ _ _ _ _
  refine AW.seq ?_
  refine AW.region ?_
  refine AL.r (rd_move rfl rfl) ?_
  refine AL.r (rd_move rfl rfl) ?_
  refine AL.r (rd_bin rfl rfl rfl (fun _ => rfl)) ?_
  refine AL.r (rd_nilc_bx rfl rfl rfl) ?_
  refine AL.r (rd_faddr_bx rfl fo_99_6 rfl rfl ⟨_, _, rfl⟩) ?_
  refine AL.op rfl (op_store rfl rfl rfl rfl rfl rfl sz_4 (Nat.le_of_ble_eq_true rfl) ?_)
  refine AL.no ?_
  refine AL.nil ?_
  change AW _ _ _ _ _
  refine AW.region ?_
  refine AL.r (rd_move rfl rfl) ?_
  refine AL.r (rd_move rfl rfl) ?_
  refine AL.r (rd_max rfl rfl rfl (rfl)) ?_
  refine AL.r (rd_nilc_bx rfl rfl rfl) ?_
  refine AL.r (rd_faddr_bx rfl fo_99_7 rfl rfl ⟨_, _, rfl⟩) ?_
  refine AL.op rfl (op_store rfl rfl rfl rfl rfl rfl sz_3 (Nat.le_of_ble_eq_true rfl) ?_)
  refine AL.no ?_
  refine AL.nil ?_
  repeat with_reducible first | refine thenA_ret ?_ | refine inBlockA_ret ?_
  with_reducible first | refine retO_ret ?_ | refine retO_normal ?_
  refine reso0 rfl (Nat.le_of_ble_eq_true rfl) (by simp only [cleanS, cle_owM, cle_own, cle_nown, cle_obj, cle_off, cle_box, okC, liveA, List.take_succ_cons, List.take_zero, List.all_cons, List.all_nil, List.getElem?_cons_zero, List.getElem?_cons_succ, isO_owM, isO_own, isO_nown, TC.isB, beq_self_eq_true, Bool.and_self, Bool.and_true, ok1, ok2, List.map_cons, List.map_nil])   ?_
  exact ⟨rfl, rfl⟩
theorem crash_c (hq : d.q.length ≤ 1099511627776) (keep : Int) (hk : -9223372036854775808 ≤ keep ∧ keep < 9223372036854775808) (hok : okq d.q (d.l, d.lf)) (hb : ∀ i, (d.l i).length + qb d.q ≤ 1099511627776) (hs : ∀ i, ((settleD d keep).l i).length ≤ 1099511627776) : ACo Try.prog 23 [.bx 0 g 0, .sc (.int .i64 keep)] (diskT g g1 g2 g3 g4 g5 g6 g7 g8 g9 d)
    (fun y os' => y = .tu [] ∧ DiskAt g (crashD d keep) os') := by
  have hs0 := hs 0; have hs1 := hs 1; have hs2 := hs 2; have hs3 := hs 3
  refine ACo.of (t0 := [.bx 0 g 0, .sc (.int .i64 keep), AV.sc undef, AV.sc undef, AV.sc undef, AV.sc undef, AV.sc undef, AV.sc undef, AV.sc undef, AV.sc undef, AV.sc undef, AV.sc undef, AV.sc undef, AV.sc undef, AV.sc undef, AV.sc undef, AV.sc undef, AV.sc undef, AV.sc undef, AV.sc undef, AV.sc undef, AV.sc undef, AV.sc undef, AV.sc undef, AV.sc undef, AV.sc undef, AV.sc undef, AV.sc undef, AV.sc undef, AV.sc undef, AV.sc undef, AV.sc undef, AV.sc undef, AV.sc undef, AV.sc undef, AV.sc undef]) (st0 := [⟨g, .box 99 [.sc (.int .i64 d.room), .ow 1 g1, .ow 2 g2, .ow 3 g3, .ow 4 g4, .ow 5 g5, .ow 6 g6, .ow 7 g7, .ow 8 g8, .ow 9 g9, .sc (.int .i64 d.waits), .sc (.int .i64 d.done), .sc (.bool d.fused), .sc (.int .i64 d.fuse), .sc (.bool d.dark)]⟩, ⟨g1, owM (d.nf 0) 5 1 (byA (d.n 0))⟩, ⟨g2, owM (d.nf 1) 5 1 (byA (d.n 1))⟩, ⟨g3, owM (d.nf 2) 5 1 (byA (d.n 2))⟩, ⟨g4, owM (d.nf 3) 5 1 (byA (d.n 3))⟩, ⟨g5, owM (d.lf 0) 5 1 (byA (d.l 0))⟩, ⟨g6, owM (d.lf 1) 5 1 (byA (d.l 1))⟩, ⟨g7, owM (d.lf 2) 5 1 (byA (d.l 2))⟩, ⟨g8, owM (d.lf 3) 5 1 (byA (d.l 3))⟩, ⟨g9, owM true 102 4 (d.q.map DeedD.cs)⟩, TK.mk 0 .off, TK.mk 0 .off]) 2 Try.func23 rfl rfl rfl 10 rfl ?_
  refine AW.seq ?_
  refine AW.seq ?_
  refine AW.region ?_
  refine AL.r (rd_move rfl rfl) ?_
  refine AL.r (rd_peq_bx rfl pt_25 rfl rfl rfl) ?_
  refine AL.nil ?_
  change AW _ _ _ _ _
  refine AW.cond_f rfl ?_
  refine AW.skip ?_
  change AW _ _ _ _ _
  refine AW.seq ?_
  refine AW.region ?_
  refine AL.r (rd_move rfl rfl) ?_
  refine AL.r (rd_move rfl rfl) ?_
  refine AL.op rfl (op_callo (settle_c d g g1 g2 g3 g4 g5 g6 g7 g8 g9 hq keep hk hok hb) rfl (by kernel_rfl) [0, 1, 2, 3, 4, 5, 6, 7, 8, 9] (by decide) (by simp only [diskT, List.map_cons, List.map_nil, renT, renC_owM, renC_box, renC_own, renC_nown, renC_obj, renC_off, ren0, List.getD_cons_zero, List.getD_cons_succ]; exact ⟨rfl, rfl, rfl, rfl, rfl, rfl, rfl, rfl, rfl, rfl, trivial⟩) rfl (by simp only [diskT, cleanS, cle_owM, cle_own, cle_nown, cle_obj, cle_off, cle_box, okC, liveA, List.take_succ_cons, List.take_zero, List.all_cons, List.all_nil, List.getElem?_cons_zero, List.getElem?_cons_succ, isO_owM, isO_own, isO_nown, TC.isB, beq_self_eq_true, Bool.and_self, Bool.and_true, ok1, ok2, List.map_cons, List.map_nil]) (by simp only [diskT, cleanS, cle_owM, cle_own, cle_nown, cle_obj, cle_off, cle_box, okC, liveA, List.take_succ_cons, List.take_zero, List.all_cons, List.all_nil, List.getElem?_cons_zero, List.getElem?_cons_succ, isO_owM, isO_own, isO_nown, TC.isB, beq_self_eq_true, Bool.and_self, Bool.and_true, ok1, ok2, List.map_cons, List.map_nil]) ?_)
  rintro y os' ⟨rfl, a1, a2, a3, a4, a5, a6, a7, a8, a9, rfl⟩
  refine AL.no ?_ (by (try simp only [diskT, putA, evA, List.getD_cons_zero, List.getD_cons_succ, List.set_cons_zero, List.set_cons_succ, List.length_map, KR, splA, List.map_cons, List.map_nil, List.length_append, List.length_cons, List.length_nil, List.drop_zero, csS_len, csS_take, csS_drop, csS_app, byA_len, byA_take, byA_drop, byA_app, ← List.map_take, ← List.map_drop, ← List.map_append, List.take_succ_cons, List.take_zero, List.drop_succ_cons, List.cons_append, List.nil_append, Nat.zero_add, Nat.reduceAdd, Nat.reduceMul, Nat.add_zero, Nat.mul_one, putT, renT, renC_owM, renC_box, renC_own, renC_nown, renC_obj, renC_off, ren2, ren1, ren0, ok1, ok2]); (try rfl)) (by (try simp only [diskT, putA, evA, List.getD_cons_zero, List.getD_cons_succ, List.set_cons_zero, List.set_cons_succ, List.length_map, KR, splA, List.map_cons, List.map_nil, List.length_append, List.length_cons, List.length_nil, List.drop_zero, csS_len, csS_take, csS_drop, csS_app, byA_len, byA_take, byA_drop, byA_app, ← List.map_take, ← List.map_drop, ← List.map_append, List.take_succ_cons, List.take_zero, List.drop_succ_cons, List.cons_append, List.nil_append, Nat.zero_add, Nat.reduceAdd, Nat.reduceMul, Nat.add_zero, Nat.mul_one, putT, renT, renC_owM, renC_box, renC_own, renC_nown, renC_obj, renC_off, ren2, ren1, ren0, ok1, ok2]); (try rfl))
  refine AL.nil ?_
  change AW _ _ _ _ _
  refine AW.seq ?_
  refine AW.seq ?_
  refine AW.region ?_
  refine AL.r (rd_move rfl rfl) ?_
  refine AL.nil ?_
  change AW _ _ _ _ _
  refine AW.block ?_
  refine AW.unroll 5 ?_
  change AW _ _ _ _ _
  refine AW.seq ?_
  refine AW.region ?_
  refine AL.r (rd_bin rfl rfl rfl (fun _ => rfl)) ?_
  refine AL.nil ?_
  change AW _ _ _ _ _
  refine AW.seq ?_
  refine AW.cond_t rfl ?_
  refine AW.skip ?_
  change AW _ _ _ _ _
  refine AW.seq ?_
  refine AW.block ?_
  refine AW.seq ?_
  refine AW.region ?_
  refine AL.r (rd_move rfl rfl) ?_
  refine AL.r (rd_assign rfl rfl) ?_
  refine AL.nil ?_
  change AW _ _ _ _ _
  apply AW.drawS (by kernel_rfl)
  · skip
    refine ADA.r 0 rfl (ARdP.a (rdP_move rfl rfl)) rfl ?_
    refine ADA.r 1 rfl (ARdP.a (rdP_move rfl rfl)) rfl ?_
    refine ADA.r 3 rfl (ARdP.a (rdP_move rfl rfl)) rfl ?_
    refine ADA.r 4 rfl (ARdP.a (rdP_move rfl rfl)) rfl ?_
    refine ADA.r 5 rfl (ARdP.a (rdP_nilc_bx rfl rfl rfl)) rfl ?_
    refine ADA.r 6 rfl (ARdP.a (rdP_faddr_bx rfl fo_99_2 rfl rfl ⟨_, _, rfl⟩)) rfl ?_
    refine ADA.r 7 rfl (ARdP.a (rdP_iaddr_bx (i := 0) rfl ar_37 rfl rfl rfl (by first | rfl | omega) (by decide))) rfl ?_
    refine ADA.r 10 rfl (ARdP.a (rdP_nilc_bx rfl rfl rfl)) rfl ?_
    refine ADA.r 11 rfl (ARdP.a (rdP_faddr_bx rfl fo_99_1 rfl rfl ⟨_, _, rfl⟩)) rfl ?_
    refine ADA.b ?_
    refine ADB.all (is := [2, 8]) (by kernel_rfl) (by simp) ?_
    intro i hi
    simp only [List.mem_cons, List.not_mem_nil, or_false] at hi
    rcases hi with rfl | rfl
    · skip
      refine ⟨_, rfl, rfl, AOpB.op (bs_own 1 rfl ap_29 ze_5 rfl rfl rfl ?_)⟩
      refine ADB.n ?_
      refine ADB.move 8 rfl (by kernel_rfl) rfl (AOpB.op (ARd.opB (rd_load_bx rfl ag_29 rfl rfl rfl) ?_))
      refine ADB.n ?_
      refine ADB.move 9 rfl (by kernel_rfl) rfl (op_append rfl ap_29 rfl rfl (src_owM rfl rfl) (by simp only [byA_len, List.length_nil]; omega) (by simp only [byA_len, List.length_nil]; omega) ?_)
      refine ADB.n ?_
      refine ADB.r 12 rfl (rdP_iaddr_bx (i := 0) rfl ar_37 rfl rfl rfl (by first | rfl | omega) (by decide)) rfl ?_
      refine ADB.move 13 rfl (by kernel_rfl) rfl (op_store rfl rfl rfl rfl rfl (by first | exact live_owM rfl | exact live_own rfl | exact live_nown rfl | rfl) sz_29 (Nat.le_of_ble_eq_true rfl) ?_)
      refine ADB.n ?_
      refine ADB.done (by kernel_rfl) ?_
      exact ⟨rfl, rfl⟩
    · skip
      refine ⟨_, rfl, rfl, AOpB.op (ARd.opB (rd_load_bx rfl ag_29 rfl rfl rfl) ?_)⟩
      refine ADB.n ?_
      refine ADB.move 2 rfl (by kernel_rfl) rfl (AOpB.op (bs_own 1 rfl ap_29 ze_5 rfl rfl rfl ?_))
      refine ADB.n ?_
      refine ADB.move 9 rfl (by kernel_rfl) rfl (op_append rfl ap_29 rfl rfl (src_owM rfl rfl) (by simp only [byA_len, List.length_nil]; omega) (by simp only [byA_len, List.length_nil]; omega) ?_)
      refine ADB.n ?_
      refine ADB.r 12 rfl (rdP_iaddr_bx (i := 0) rfl ar_37 rfl rfl rfl (by first | rfl | omega) (by decide)) rfl ?_
      refine ADB.move 13 rfl (by kernel_rfl) rfl (op_store rfl rfl rfl rfl rfl (by first | exact live_owM rfl | exact live_own rfl | exact live_nown rfl | rfl) sz_29 (Nat.le_of_ble_eq_true rfl) ?_)
      refine ADB.n ?_
      refine ADB.done (by kernel_rfl) ?_
      exact ⟨rfl, rfl⟩
  skip
  change AW _ _ _ _ _
  refine AW.region ?_
  refine AL.r (rd_arith_add rfl rfl rfl (rfl : _ = (1 : Int))) ?_
  refine AL.r (rd_move rfl rfl) ?_
  refine AL.nil ?_
  change AW _ _ _ _ _
  refine AW.seq ?_
  refine AW.region ?_
  refine AL.r (rd_bin rfl rfl rfl (fun _ => rfl)) ?_
  refine AL.nil ?_
  change AW _ _ _ _ _
  refine AW.seq ?_
  refine AW.cond_t rfl ?_
  refine AW.skip ?_
  change AW _ _ _ _ _
  refine AW.seq ?_
  refine AW.block ?_
  refine AW.seq ?_
  refine AW.region ?_
  refine AL.r (rd_move rfl rfl) ?_
  refine AL.r (rd_assign rfl rfl) ?_
  refine AL.nil ?_
  change AW _ _ _ _ _
  apply AW.drawS (by kernel_rfl)
  · skip
    refine ADA.r 0 rfl (ARdP.a (rdP_move rfl rfl)) rfl ?_
    refine ADA.r 1 rfl (ARdP.a (rdP_move rfl rfl)) rfl ?_
    refine ADA.r 3 rfl (ARdP.a (rdP_move rfl rfl)) rfl ?_
    refine ADA.r 4 rfl (ARdP.a (rdP_move rfl rfl)) rfl ?_
    refine ADA.r 5 rfl (ARdP.a (rdP_nilc_bx rfl rfl rfl)) rfl ?_
    refine ADA.r 6 rfl (ARdP.a (rdP_faddr_bx rfl fo_99_2 rfl rfl ⟨_, _, rfl⟩)) rfl ?_
    refine ADA.r 7 rfl (ARdP.a (rdP_iaddr_bx (i := 1) rfl ar_37 rfl rfl rfl (by first | rfl | omega) (by decide))) rfl ?_
    refine ADA.r 10 rfl (ARdP.a (rdP_nilc_bx rfl rfl rfl)) rfl ?_
    refine ADA.r 11 rfl (ARdP.a (rdP_faddr_bx rfl fo_99_1 rfl rfl ⟨_, _, rfl⟩)) rfl ?_
    refine ADA.b ?_
    refine ADB.all (is := [2, 8]) (by kernel_rfl) (by simp) ?_
    intro i hi
    simp only [List.mem_cons, List.not_mem_nil, or_false] at hi
    rcases hi with rfl | rfl
    · skip
      refine ⟨_, rfl, rfl, AOpB.op (bs_own 2 rfl ap_29 ze_5 rfl rfl rfl ?_)⟩
      refine ADB.n ?_
      refine ADB.move 8 rfl (by kernel_rfl) rfl (AOpB.op (ARd.opB (rd_load_bx rfl ag_29 rfl rfl rfl) ?_))
      refine ADB.n ?_
      refine ADB.move 9 rfl (by kernel_rfl) rfl (op_append rfl ap_29 rfl rfl (src_owM rfl rfl) (by simp only [byA_len, List.length_nil]; omega) (by simp only [byA_len, List.length_nil]; omega) ?_)
      refine ADB.n ?_
      refine ADB.r 12 rfl (rdP_iaddr_bx (i := 1) rfl ar_37 rfl rfl rfl (by first | rfl | omega) (by decide)) rfl ?_
      refine ADB.move 13 rfl (by kernel_rfl) rfl (op_store rfl rfl rfl rfl rfl (by first | exact live_owM rfl | exact live_own rfl | exact live_nown rfl | rfl) sz_29 (Nat.le_of_ble_eq_true rfl) ?_)
      refine ADB.n ?_
      refine ADB.done (by kernel_rfl) ?_
      exact ⟨rfl, rfl⟩
    · skip
      refine ⟨_, rfl, rfl, AOpB.op (ARd.opB (rd_load_bx rfl ag_29 rfl rfl rfl) ?_)⟩
      refine ADB.n ?_
      refine ADB.move 2 rfl (by kernel_rfl) rfl (AOpB.op (bs_own 2 rfl ap_29 ze_5 rfl rfl rfl ?_))
      refine ADB.n ?_
      refine ADB.move 9 rfl (by kernel_rfl) rfl (op_append rfl ap_29 rfl rfl (src_owM rfl rfl) (by simp only [byA_len, List.length_nil]; omega) (by simp only [byA_len, List.length_nil]; omega) ?_)
      refine ADB.n ?_
      refine ADB.r 12 rfl (rdP_iaddr_bx (i := 1) rfl ar_37 rfl rfl rfl (by first | rfl | omega) (by decide)) rfl ?_
      refine ADB.move 13 rfl (by kernel_rfl) rfl (op_store rfl rfl rfl rfl rfl (by first | exact live_owM rfl | exact live_own rfl | exact live_nown rfl | rfl) sz_29 (Nat.le_of_ble_eq_true rfl) ?_)
      refine ADB.n ?_
      refine ADB.done (by kernel_rfl) ?_
      exact ⟨rfl, rfl⟩
  skip
  change AW _ _ _ _ _
  refine AW.region ?_
  refine AL.r (rd_arith_add rfl rfl rfl (rfl : _ = (2 : Int))) ?_
  refine AL.r (rd_move rfl rfl) ?_
  refine AL.nil ?_
  change AW _ _ _ _ _
  refine AW.seq ?_
  refine AW.region ?_
  refine AL.r (rd_bin rfl rfl rfl (fun _ => rfl)) ?_
  refine AL.nil ?_
  change AW _ _ _ _ _
  refine AW.seq ?_
  refine AW.cond_t rfl ?_
  refine AW.skip ?_
  change AW _ _ _ _ _
  refine AW.seq ?_
  refine AW.block ?_
  refine AW.seq ?_
  refine AW.region ?_
  refine AL.r (rd_move rfl rfl) ?_
  refine AL.r (rd_assign rfl rfl) ?_
  refine AL.nil ?_
  change AW _ _ _ _ _
  apply AW.drawS (by kernel_rfl)
  · skip
    refine ADA.r 0 rfl (ARdP.a (rdP_move rfl rfl)) rfl ?_
    refine ADA.r 1 rfl (ARdP.a (rdP_move rfl rfl)) rfl ?_
    refine ADA.r 3 rfl (ARdP.a (rdP_move rfl rfl)) rfl ?_
    refine ADA.r 4 rfl (ARdP.a (rdP_move rfl rfl)) rfl ?_
    refine ADA.r 5 rfl (ARdP.a (rdP_nilc_bx rfl rfl rfl)) rfl ?_
    refine ADA.r 6 rfl (ARdP.a (rdP_faddr_bx rfl fo_99_2 rfl rfl ⟨_, _, rfl⟩)) rfl ?_
    refine ADA.r 7 rfl (ARdP.a (rdP_iaddr_bx (i := 2) rfl ar_37 rfl rfl rfl (by first | rfl | omega) (by decide))) rfl ?_
    refine ADA.r 10 rfl (ARdP.a (rdP_nilc_bx rfl rfl rfl)) rfl ?_
    refine ADA.r 11 rfl (ARdP.a (rdP_faddr_bx rfl fo_99_1 rfl rfl ⟨_, _, rfl⟩)) rfl ?_
    refine ADA.b ?_
    refine ADB.all (is := [2, 8]) (by kernel_rfl) (by simp) ?_
    intro i hi
    simp only [List.mem_cons, List.not_mem_nil, or_false] at hi
    rcases hi with rfl | rfl
    · skip
      refine ⟨_, rfl, rfl, AOpB.op (bs_own 3 rfl ap_29 ze_5 rfl rfl rfl ?_)⟩
      refine ADB.n ?_
      refine ADB.move 8 rfl (by kernel_rfl) rfl (AOpB.op (ARd.opB (rd_load_bx rfl ag_29 rfl rfl rfl) ?_))
      refine ADB.n ?_
      refine ADB.move 9 rfl (by kernel_rfl) rfl (op_append rfl ap_29 rfl rfl (src_owM rfl rfl) (by simp only [byA_len, List.length_nil]; omega) (by simp only [byA_len, List.length_nil]; omega) ?_)
      refine ADB.n ?_
      refine ADB.r 12 rfl (rdP_iaddr_bx (i := 2) rfl ar_37 rfl rfl rfl (by first | rfl | omega) (by decide)) rfl ?_
      refine ADB.move 13 rfl (by kernel_rfl) rfl (op_store rfl rfl rfl rfl rfl (by first | exact live_owM rfl | exact live_own rfl | exact live_nown rfl | rfl) sz_29 (Nat.le_of_ble_eq_true rfl) ?_)
      refine ADB.n ?_
      refine ADB.done (by kernel_rfl) ?_
      exact ⟨rfl, rfl⟩
    · skip
      refine ⟨_, rfl, rfl, AOpB.op (ARd.opB (rd_load_bx rfl ag_29 rfl rfl rfl) ?_)⟩
      refine ADB.n ?_
      refine ADB.move 2 rfl (by kernel_rfl) rfl (AOpB.op (bs_own 3 rfl ap_29 ze_5 rfl rfl rfl ?_))
      refine ADB.n ?_
      refine ADB.move 9 rfl (by kernel_rfl) rfl (op_append rfl ap_29 rfl rfl (src_owM rfl rfl) (by simp only [byA_len, List.length_nil]; omega) (by simp only [byA_len, List.length_nil]; omega) ?_)
      refine ADB.n ?_
      refine ADB.r 12 rfl (rdP_iaddr_bx (i := 2) rfl ar_37 rfl rfl rfl (by first | rfl | omega) (by decide)) rfl ?_
      refine ADB.move 13 rfl (by kernel_rfl) rfl (op_store rfl rfl rfl rfl rfl (by first | exact live_owM rfl | exact live_own rfl | exact live_nown rfl | rfl) sz_29 (Nat.le_of_ble_eq_true rfl) ?_)
      refine ADB.n ?_
      refine ADB.done (by kernel_rfl) ?_
      exact ⟨rfl, rfl⟩
  skip
  change AW _ _ _ _ _
  refine AW.region ?_
  refine AL.r (rd_arith_add rfl rfl rfl (rfl : _ = (3 : Int))) ?_
  refine AL.r (rd_move rfl rfl) ?_
  refine AL.nil ?_
  change AW _ _ _ _ _
  refine AW.seq ?_
  refine AW.region ?_
  refine AL.r (rd_bin rfl rfl rfl (fun _ => rfl)) ?_
  refine AL.nil ?_
  change AW _ _ _ _ _
  refine AW.seq ?_
  refine AW.cond_t rfl ?_
  refine AW.skip ?_
  change AW _ _ _ _ _
  refine AW.seq ?_
  refine AW.block ?_
  refine AW.seq ?_
  refine AW.region ?_
  refine AL.r (rd_move rfl rfl) ?_
  refine AL.r (rd_assign rfl rfl) ?_
  refine AL.nil ?_
  change AW _ _ _ _ _
  apply AW.drawS (by kernel_rfl)
  · skip
    refine ADA.r 0 rfl (ARdP.a (rdP_move rfl rfl)) rfl ?_
    refine ADA.r 1 rfl (ARdP.a (rdP_move rfl rfl)) rfl ?_
    refine ADA.r 3 rfl (ARdP.a (rdP_move rfl rfl)) rfl ?_
    refine ADA.r 4 rfl (ARdP.a (rdP_move rfl rfl)) rfl ?_
    refine ADA.r 5 rfl (ARdP.a (rdP_nilc_bx rfl rfl rfl)) rfl ?_
    refine ADA.r 6 rfl (ARdP.a (rdP_faddr_bx rfl fo_99_2 rfl rfl ⟨_, _, rfl⟩)) rfl ?_
    refine ADA.r 7 rfl (ARdP.a (rdP_iaddr_bx (i := 3) rfl ar_37 rfl rfl rfl (by first | rfl | omega) (by decide))) rfl ?_
    refine ADA.r 10 rfl (ARdP.a (rdP_nilc_bx rfl rfl rfl)) rfl ?_
    refine ADA.r 11 rfl (ARdP.a (rdP_faddr_bx rfl fo_99_1 rfl rfl ⟨_, _, rfl⟩)) rfl ?_
    refine ADA.b ?_
    refine ADB.all (is := [2, 8]) (by kernel_rfl) (by simp) ?_
    intro i hi
    simp only [List.mem_cons, List.not_mem_nil, or_false] at hi
    rcases hi with rfl | rfl
    · skip
      refine ⟨_, rfl, rfl, AOpB.op (bs_own 4 rfl ap_29 ze_5 rfl rfl rfl ?_)⟩
      refine ADB.n ?_
      refine ADB.move 8 rfl (by kernel_rfl) rfl (AOpB.op (ARd.opB (rd_load_bx rfl ag_29 rfl rfl rfl) ?_))
      refine ADB.n ?_
      refine ADB.move 9 rfl (by kernel_rfl) rfl (op_append rfl ap_29 rfl rfl (src_owM rfl rfl) (by simp only [byA_len, List.length_nil]; omega) (by simp only [byA_len, List.length_nil]; omega) ?_)
      refine ADB.n ?_
      refine ADB.r 12 rfl (rdP_iaddr_bx (i := 3) rfl ar_37 rfl rfl rfl (by first | rfl | omega) (by decide)) rfl ?_
      refine ADB.move 13 rfl (by kernel_rfl) rfl (op_store rfl rfl rfl rfl rfl (by first | exact live_owM rfl | exact live_own rfl | exact live_nown rfl | rfl) sz_29 (Nat.le_of_ble_eq_true rfl) ?_)
      refine ADB.n ?_
      refine ADB.done (by kernel_rfl) ?_
      exact ⟨rfl, rfl⟩
    · skip
      refine ⟨_, rfl, rfl, AOpB.op (ARd.opB (rd_load_bx rfl ag_29 rfl rfl rfl) ?_)⟩
      refine ADB.n ?_
      refine ADB.move 2 rfl (by kernel_rfl) rfl (AOpB.op (bs_own 4 rfl ap_29 ze_5 rfl rfl rfl ?_))
      refine ADB.n ?_
      refine ADB.move 9 rfl (by kernel_rfl) rfl (op_append rfl ap_29 rfl rfl (src_owM rfl rfl) (by simp only [byA_len, List.length_nil]; omega) (by simp only [byA_len, List.length_nil]; omega) ?_)
      refine ADB.n ?_
      refine ADB.r 12 rfl (rdP_iaddr_bx (i := 3) rfl ar_37 rfl rfl rfl (by first | rfl | omega) (by decide)) rfl ?_
      refine ADB.move 13 rfl (by kernel_rfl) rfl (op_store rfl rfl rfl rfl rfl (by first | exact live_owM rfl | exact live_own rfl | exact live_nown rfl | rfl) sz_29 (Nat.le_of_ble_eq_true rfl) ?_)
      refine ADB.n ?_
      refine ADB.done (by kernel_rfl) ?_
      exact ⟨rfl, rfl⟩
  skip
  change AW _ _ _ _ _
  refine AW.region ?_
  refine AL.r (rd_arith_add rfl rfl rfl (rfl : _ = (4 : Int))) ?_
  refine AL.r (rd_move rfl rfl) ?_
  refine AL.nil ?_
  change AW _ _ _ _ _
  refine AW.seq ?_
  refine AW.region ?_
  refine AL.r (rd_bin rfl rfl rfl (fun _ => rfl)) ?_
  refine AL.nil ?_
  change AW _ _ _ _ _
  refine AW.seq ?_
  refine AW.cond_f rfl ?_
  refine AW.exit ?_
  change AW _ _ _ _ _
  refine AW.region ?_
  refine AL.r (rd_move rfl rfl) ?_
  refine AL.r (rd_move rfl rfl) ?_
  refine AL.r (rd_move rfl rfl) ?_
  refine AL.r (rd_nilc_bx rfl rfl rfl) ?_
  refine AL.r (rd_faddr_bx rfl fo_99_6 rfl rfl ⟨_, _, rfl⟩) ?_
  refine AL.op rfl (op_store rfl rfl rfl rfl rfl rfl sz_4 (Nat.le_of_ble_eq_true rfl) ?_)
  refine AL.no ?_
  refine AL.r (rd_nilc_bx rfl rfl rfl) ?_
  refine AL.r (rd_faddr_bx rfl fo_99_7 rfl rfl ⟨_, _, rfl⟩) ?_
  refine AL.op rfl (op_store rfl rfl rfl rfl rfl rfl sz_3 (Nat.le_of_ble_eq_true rfl) ?_)
  refine AL.no ?_
  refine AL.r (rd_nilc_bx rfl rfl rfl) ?_
  refine AL.r (rd_faddr_bx rfl fo_99_8 rfl rfl ⟨_, _, rfl⟩) ?_
  refine AL.op rfl (op_store rfl rfl rfl rfl rfl rfl sz_4 (Nat.le_of_ble_eq_true rfl) ?_)
  refine AL.no ?_
  refine AL.nil ?_
  repeat with_reducible first | refine thenA_ret ?_ | refine inBlockA_ret ?_
  with_reducible first | refine retO_ret ?_ | refine retO_normal ?_
  refine reso0 rfl (Nat.le_of_ble_eq_true rfl) (by simp only [cleanS, cle_owM, cle_own, cle_nown, cle_obj, cle_off, cle_box, okC, liveA, List.take_succ_cons, List.take_zero, List.all_cons, List.all_nil, List.getElem?_cons_zero, List.getElem?_cons_succ, isO_owM, isO_own, isO_nown, TC.isB, beq_self_eq_true, Bool.and_self, Bool.and_true, ok1, ok2, List.map_cons, List.map_nil])   ?_
  exact ⟨rfl, a1 + 1 + 1, a2 + 1 + 1, a3 + 1 + 1, a4 + 1 + 1, a5, a6, a7, a8, a9, by simp only [diskT, crashD, owM_f, List.take_succ_cons, List.take_zero]⟩
theorem dark_c : ACo Try.prog 30 [.bx 0 g 0] (diskT g g1 g2 g3 g4 g5 g6 g7 g8 g9 d) (fun y os' => y = .sc (.bool d.dark) ∧ os' = diskT g g1 g2 g3 g4 g5 g6 g7 g8 g9 d) := by
  refine ACo.of (t0 := [.bx 0 g 0, AV.sc undef, AV.sc undef, AV.sc undef, AV.sc undef, AV.sc undef, AV.sc undef, AV.sc undef, AV.sc undef, AV.sc undef, AV.sc undef]) (st0 := [⟨g, .box 99 [.sc (.int .i64 d.room), .ow 1 g1, .ow 2 g2, .ow 3 g3, .ow 4 g4, .ow 5 g5, .ow 6 g6, .ow 7 g7, .ow 8 g8, .ow 9 g9, .sc (.int .i64 d.waits), .sc (.int .i64 d.done), .sc (.bool d.fused), .sc (.int .i64 d.fuse), .sc (.bool d.dark)]⟩, ⟨g1, owM (d.nf 0) 5 1 (byA (d.n 0))⟩, ⟨g2, owM (d.nf 1) 5 1 (byA (d.n 1))⟩, ⟨g3, owM (d.nf 2) 5 1 (byA (d.n 2))⟩, ⟨g4, owM (d.nf 3) 5 1 (byA (d.n 3))⟩, ⟨g5, owM (d.lf 0) 5 1 (byA (d.l 0))⟩, ⟨g6, owM (d.lf 1) 5 1 (byA (d.l 1))⟩, ⟨g7, owM (d.lf 2) 5 1 (byA (d.l 2))⟩, ⟨g8, owM (d.lf 3) 5 1 (byA (d.l 3))⟩, ⟨g9, owM true 102 4 (d.q.map DeedD.cs)⟩]) 0 Try.func30 rfl rfl rfl 10 rfl ?_
  refine AW.seq ?_
  refine AW.region ?_
  refine AL.r (rd_assign rfl rfl) ?_
  refine AL.nil ?_
  change AW _ _ _ _ _
  refine AW.seq ?_
  refine AW.region ?_
  refine AL.r (rd_move rfl rfl) ?_
  refine AL.r (rd_pne_bx rfl pt_25 rfl rfl rfl) ?_
  refine AL.r (rd_move rfl rfl) ?_
  refine AL.ro (rd_move rfl rfl) ?_
  refine AL.ro (rd_nilc_bx rfl rfl rfl) ?_
  refine AL.ro (rd_faddr_bx rfl fo_99_8 rfl rfl ⟨_, _, rfl⟩) ?_
  refine AL.ro (rd_load_bx rfl ag_4 rfl rfl rfl) ?_
  refine AL.r (rd_pick_t rfl rfl rfl) ?_
  refine AL.r (rd_assign rfl rfl) ?_
  refine AL.nil ?_
  change AW _ _ _ _ _
  refine AW.ret ?_
  repeat with_reducible first | refine thenA_ret ?_ | refine inBlockA_ret ?_
  with_reducible first | refine retO_ret ?_ | refine retO_normal ?_
  refine reso1 rfl (Nat.le_of_ble_eq_true rfl) (by simp only [cleanS, cle_owM, cle_own, cle_nown, cle_obj, cle_off, cle_box, okC, liveA, List.take_succ_cons, List.take_zero, List.all_cons, List.all_nil, List.getElem?_cons_zero, List.getElem?_cons_succ, isO_owM, isO_own, isO_nown, TC.isB, beq_self_eq_true, Bool.and_self, Bool.and_true, ok1, ok2, List.map_cons, List.map_nil]) (ResV.tmp rfl) rfl (by simp only [cleanS, cle_owM, cle_own, cle_nown, cle_obj, cle_off, cle_box, okC, liveA, List.take_succ_cons, List.take_zero, List.all_cons, List.all_nil, List.getElem?_cons_zero, List.getElem?_cons_succ, isO_owM, isO_own, isO_nown, TC.isB, beq_self_eq_true, Bool.and_self, Bool.and_true, ok1, ok2, List.map_cons, List.map_nil]) ?_
  exact ⟨rfl, rfl⟩
theorem waits_c : ACo Try.prog 29 [.bx 0 g 0] (diskT g g1 g2 g3 g4 g5 g6 g7 g8 g9 d) (fun y os' => y = .sc (.int .i64 d.waits) ∧ os' = diskT g g1 g2 g3 g4 g5 g6 g7 g8 g9 d) := by
  refine ACo.of (t0 := [.bx 0 g 0, AV.sc undef, AV.sc undef, AV.sc undef, AV.sc undef, AV.sc undef, AV.sc undef, AV.sc undef, AV.sc undef]) (st0 := [⟨g, .box 99 [.sc (.int .i64 d.room), .ow 1 g1, .ow 2 g2, .ow 3 g3, .ow 4 g4, .ow 5 g5, .ow 6 g6, .ow 7 g7, .ow 8 g8, .ow 9 g9, .sc (.int .i64 d.waits), .sc (.int .i64 d.done), .sc (.bool d.fused), .sc (.int .i64 d.fuse), .sc (.bool d.dark)]⟩, ⟨g1, owM (d.nf 0) 5 1 (byA (d.n 0))⟩, ⟨g2, owM (d.nf 1) 5 1 (byA (d.n 1))⟩, ⟨g3, owM (d.nf 2) 5 1 (byA (d.n 2))⟩, ⟨g4, owM (d.nf 3) 5 1 (byA (d.n 3))⟩, ⟨g5, owM (d.lf 0) 5 1 (byA (d.l 0))⟩, ⟨g6, owM (d.lf 1) 5 1 (byA (d.l 1))⟩, ⟨g7, owM (d.lf 2) 5 1 (byA (d.l 2))⟩, ⟨g8, owM (d.lf 3) 5 1 (byA (d.l 3))⟩, ⟨g9, owM true 102 4 (d.q.map DeedD.cs)⟩]) 0 Try.func29 rfl rfl rfl 10 rfl ?_
  refine AW.seq ?_
  refine AW.region ?_
  refine AL.r (rd_assign rfl rfl) ?_
  refine AL.nil ?_
  change AW _ _ _ _ _
  refine AW.seq ?_
  refine AW.seq ?_
  refine AW.region ?_
  refine AL.r (rd_move rfl rfl) ?_
  refine AL.r (rd_peq_bx rfl pt_25 rfl rfl rfl) ?_
  refine AL.nil ?_
  change AW _ _ _ _ _
  refine AW.cond_f rfl ?_
  refine AW.skip ?_
  change AW _ _ _ _ _
  refine AW.seq ?_
  refine AW.region ?_
  refine AL.r (rd_move rfl rfl) ?_
  refine AL.r (rd_nilc_bx rfl rfl rfl) ?_
  refine AL.r (rd_faddr_bx rfl fo_99_4 rfl rfl ⟨_, _, rfl⟩) ?_
  refine AL.r (rd_load_bx rfl ag_3 rfl rfl rfl) ?_
  refine AL.r (rd_assign rfl rfl) ?_
  refine AL.nil ?_
  change AW _ _ _ _ _
  refine AW.ret ?_
  repeat with_reducible first | refine thenA_ret ?_ | refine inBlockA_ret ?_
  with_reducible first | refine retO_ret ?_ | refine retO_normal ?_
  refine reso1 rfl (Nat.le_of_ble_eq_true rfl) (by simp only [cleanS, cle_owM, cle_own, cle_nown, cle_obj, cle_off, cle_box, okC, liveA, List.take_succ_cons, List.take_zero, List.all_cons, List.all_nil, List.getElem?_cons_zero, List.getElem?_cons_succ, isO_owM, isO_own, isO_nown, TC.isB, beq_self_eq_true, Bool.and_self, Bool.and_true, ok1, ok2, List.map_cons, List.map_nil]) (ResV.tmp rfl) rfl (by simp only [cleanS, cle_owM, cle_own, cle_nown, cle_obj, cle_off, cle_box, okC, liveA, List.take_succ_cons, List.take_zero, List.all_cons, List.all_nil, List.getElem?_cons_zero, List.getElem?_cons_succ, isO_owM, isO_own, isO_nown, TC.isB, beq_self_eq_true, Bool.and_self, Bool.and_true, ok1, ok2, List.map_cons, List.map_nil]) ?_
  exact ⟨rfl, rfl⟩
def readR (d : DiskD) (i : Nat) : AV := if d.dark = true then .tu [.sl [], .sc (.int .i64 10)] else .tu [.sl (byA (d.n i)), .sc (.int .i64 0)]
theorem read_c0 (h : d.Fit) : ACo Try.prog 25 [.bx 0 g 0, .sc (.int .i64 0)] (diskT g g1 g2 g3 g4 g5 g6 g7 g8 g9 d)
    (fun y os' => y = readR d 0 ∧ os' = diskT g g1 g2 g3 g4 g5 g6 g7 g8 g9 d) := by
  have hnn := h.n 0
  refine ACo.of (t0 := [.bx 0 g 0, .sc (.int .i64 0), AV.sc undef, AV.sc undef, AV.sc undef, AV.sc undef, AV.sc undef, AV.sc undef, AV.sc undef, AV.sc undef, AV.sc undef, AV.sc undef, AV.sc undef, AV.sc undef, AV.sc undef, AV.sc undef, AV.sc undef, AV.sc undef, AV.sc undef, AV.sc undef, AV.sc undef, AV.sc undef, AV.sc undef, AV.sc undef, AV.sc undef, AV.sc undef, AV.sc undef, AV.sc undef, AV.sc undef, AV.sc undef, AV.sc undef, AV.sc undef, AV.sc undef, AV.sc undef, AV.sc undef, AV.sc undef]) (st0 := [⟨g, .box 99 [.sc (.int .i64 d.room), .ow 1 g1, .ow 2 g2, .ow 3 g3, .ow 4 g4, .ow 5 g5, .ow 6 g6, .ow 7 g7, .ow 8 g8, .ow 9 g9, .sc (.int .i64 d.waits), .sc (.int .i64 d.done), .sc (.bool d.fused), .sc (.int .i64 d.fuse), .sc (.bool d.dark)]⟩, ⟨g1, owM (d.nf 0) 5 1 (byA (d.n 0))⟩, ⟨g2, owM (d.nf 1) 5 1 (byA (d.n 1))⟩, ⟨g3, owM (d.nf 2) 5 1 (byA (d.n 2))⟩, ⟨g4, owM (d.nf 3) 5 1 (byA (d.n 3))⟩, ⟨g5, owM (d.lf 0) 5 1 (byA (d.l 0))⟩, ⟨g6, owM (d.lf 1) 5 1 (byA (d.l 1))⟩, ⟨g7, owM (d.lf 2) 5 1 (byA (d.l 2))⟩, ⟨g8, owM (d.lf 3) 5 1 (byA (d.l 3))⟩, ⟨g9, owM true 102 4 (d.q.map DeedD.cs)⟩, TK.mk 0 .off, TK.mk 0 .off]) 2 Try.func25 rfl rfl rfl 10 rfl ?_
  refine AW.seq ?_
  refine AW.region ?_
  refine AL.r (rd_assign rfl rfl) ?_
  refine AL.r (rd_assign rfl rfl) ?_
  refine AL.nil ?_
  change AW _ _ _ _ _
  refine AW.seq ?_
  refine AW.seq ?_
  refine AW.region ?_
  refine AL.r (rd_move rfl rfl) ?_
  refine AL.r (rd_peq_bx rfl pt_25 rfl rfl rfl) ?_
  refine AL.nil ?_
  change AW _ _ _ _ _
  refine AW.cond_f rfl ?_
  refine AW.skip ?_
  change AW _ _ _ _ _
  refine AW.seq ?_
  refine AW.seq ?_
  refine AW.region ?_
  refine AL.r (rd_move rfl rfl) ?_
  refine AL.op rfl (AOpB.op (op_call (right_in (by decide)) rfl (by kernel_rfl) rfl (none) ?_))
  rintro r rfl
  refine AL.no ?_
  refine AL.r (rd_un rfl rfl (fun _ => rfl)) ?_
  refine AL.nil ?_
  change AW _ _ _ _ _
  refine AW.cond_f rfl ?_
  refine AW.skip ?_
  change AW _ _ _ _ _
  refine AW.seq ?_
  refine AW.seq ?_
  refine AW.region ?_
  refine AL.r (rd_move rfl rfl) ?_
  refine AL.r (rd_nilc_bx rfl rfl rfl) ?_
  refine AL.r (rd_faddr_bx rfl fo_99_8 rfl rfl ⟨_, _, rfl⟩) ?_
  refine AL.r (rd_load_bx rfl ag_4 rfl rfl rfl) ?_
  refine AL.nil ?_
  change AW _ _ _ _ _
  refine AW.cond rfl (fun h16 => ?_) (fun h16 => ?_)
  · (try simp only [decide_eq_true_eq, decide_eq_false_iff_not, beq_iff_eq, beq_eq_false_iff_ne, bne_iff_ne, bne_eq_false_iff_eq, Bool.not_eq_true', Bool.not_eq_false', ne_eq, Bool.not_eq_eq_eq_not, Bool.not_true, Bool.not_false, gt_iff_lt, ge_iff_le, Bool.not_not] at h16)
    refine AW.seq ?_
    refine AW.region ?_
    refine AL.r (rd_assign rfl rfl) ?_
    refine AL.r (rd_assign rfl rfl) ?_
    refine AL.nil ?_
    change AW _ _ _ _ _
    refine AW.ret ?_
    repeat with_reducible first | refine thenA_ret ?_ | refine inBlockA_ret ?_
    with_reducible first | refine retO_ret ?_ | refine retO_normal ?_
    refine reso2 rfl (Nat.le_of_ble_eq_true rfl) (by simp only [cleanS, cle_owM, cle_own, cle_nown, cle_obj, cle_off, cle_box, okC, liveA, List.take_succ_cons, List.take_zero, List.all_cons, List.all_nil, List.getElem?_cons_zero, List.getElem?_cons_succ, isO_owM, isO_own, isO_nown, TC.isB, beq_self_eq_true, Bool.and_self, Bool.and_true, ok1, ok2, List.map_cons, List.map_nil]) (ResV.tmp rfl) rfl (ResV.tmp rfl) rfl (by simp only [cleanS, cle_owM, cle_own, cle_nown, cle_obj, cle_off, cle_box, okC, liveA, List.take_succ_cons, List.take_zero, List.all_cons, List.all_nil, List.getElem?_cons_zero, List.getElem?_cons_succ, isO_owM, isO_own, isO_nown, TC.isB, beq_self_eq_true, Bool.and_self, Bool.and_true, ok1, ok2, List.map_cons, List.map_nil]) ?_
    exact ⟨by simp [readR, h16, byA, List.take_of_length_le], rfl⟩
  · (try simp only [decide_eq_true_eq, decide_eq_false_iff_not, beq_iff_eq, beq_eq_false_iff_ne, bne_iff_ne, bne_eq_false_iff_eq, Bool.not_eq_true', Bool.not_eq_false', ne_eq, Bool.not_eq_eq_eq_not, Bool.not_true, Bool.not_false, gt_iff_lt, ge_iff_le, Bool.not_not] at h16)
    refine AW.skip ?_
    change AW _ _ _ _ _
    refine AW.seq ?_
    refine AW.region ?_
    refine AL.r (rd_move rfl rfl) ?_
    refine AL.r (rd_move rfl rfl) ?_
    refine AL.r (rd_nilc_bx rfl rfl rfl) ?_
    refine AL.r (rd_faddr_bx rfl fo_99_1 rfl rfl ⟨_, _, rfl⟩) ?_
    refine AL.r (rd_iaddr_bx (i := 0) rfl ar_37 rfl rfl rfl (by first | rfl | omega) (by decide)) ?_
    refine AL.r (rd_load_bx rfl ag_29 rfl rfl rfl) ?_
    refine AL.r (rd_len_owM rfl el_29 rfl rfl) ?_
    refine AL.r (rd_assign rfl rfl) ?_
    refine AL.nil ?_
    change AW _ _ _ _ _
    refine AW.seq ?_
    refine AW.region ?_
    refine AL.op rfl (AOpB.op (bs_own 10 rfl ap_29 ze_5 rfl rfl rfl ?_))
    refine AL.no ?_
    refine AL.r (rd_move rfl rfl) ?_
    refine AL.r (rd_move rfl rfl) ?_
    refine AL.r (rd_nilc_bx rfl rfl rfl) ?_
    refine AL.r (rd_faddr_bx rfl fo_99_1 rfl rfl ⟨_, _, rfl⟩) ?_
    refine AL.r (rd_iaddr_bx (i := 0) rfl ar_37 rfl rfl rfl (by first | rfl | omega) (by decide)) ?_
    refine AL.r (rd_load_bx rfl ag_29 rfl rfl rfl) ?_
    refine AL.op rfl (op_append rfl ap_29 rfl rfl (src_owM rfl rfl) (by simp only [byA_len, List.length_nil]; omega) (by simp only [byA_len, List.length_nil]; omega) ?_)
    refine AL.no ?_
    refine AL.r (rd_assign rfl rfl) ?_
    refine AL.nil ?_
    change AW _ _ _ _ _
    refine AW.seq ?_
    refine AW.region ?_
    refine AL.settle 7 rfl rfl (by first | rfl | exact cont_owM _ _ _ _) ?_
    refine AL.no ?_
    refine AL.r (rd_move rfl rfl) ?_
    refine AL.r (rd_move rfl rfl) ?_
    refine AL.r (rd_move rfl rfl) ?_
    refine AL.r (rd_slice3_sl rfl el_29 rfl rfl rfl rfl rfl (by simp [byA_len])) ?_
    refine AL.r (rd_assign rfl rfl) ?_
    refine AL.r (rd_assign rfl rfl) ?_
    refine AL.nil ?_
    change AW _ _ _ _ _
    refine AW.ret ?_
    repeat with_reducible first | refine thenA_ret ?_ | refine inBlockA_ret ?_
    with_reducible first | refine retO_ret ?_ | refine retO_normal ?_
    refine reso2 rfl (Nat.le_of_ble_eq_true rfl) (by simp only [cleanS, cle_owM, cle_own, cle_nown, cle_obj, cle_off, cle_box, okC, liveA, List.take_succ_cons, List.take_zero, List.all_cons, List.all_nil, List.getElem?_cons_zero, List.getElem?_cons_succ, isO_owM, isO_own, isO_nown, TC.isB, beq_self_eq_true, Bool.and_self, Bool.and_true, ok1, ok2, List.map_cons, List.map_nil]) (ResV.tmp rfl) rfl (ResV.tmp rfl) rfl (by simp only [cleanS, cle_owM, cle_own, cle_nown, cle_obj, cle_off, cle_box, okC, liveA, List.take_succ_cons, List.take_zero, List.all_cons, List.all_nil, List.getElem?_cons_zero, List.getElem?_cons_succ, isO_owM, isO_own, isO_nown, TC.isB, beq_self_eq_true, Bool.and_self, Bool.and_true, ok1, ok2, List.map_cons, List.map_nil]) ?_
    exact ⟨by simp [readR, h16, byA, List.take_of_length_le], rfl⟩
theorem read_c1 (h : d.Fit) : ACo Try.prog 25 [.bx 0 g 0, .sc (.int .i64 1)] (diskT g g1 g2 g3 g4 g5 g6 g7 g8 g9 d)
    (fun y os' => y = readR d 1 ∧ os' = diskT g g1 g2 g3 g4 g5 g6 g7 g8 g9 d) := by
  have hnn := h.n 1
  refine ACo.of (t0 := [.bx 0 g 0, .sc (.int .i64 1), AV.sc undef, AV.sc undef, AV.sc undef, AV.sc undef, AV.sc undef, AV.sc undef, AV.sc undef, AV.sc undef, AV.sc undef, AV.sc undef, AV.sc undef, AV.sc undef, AV.sc undef, AV.sc undef, AV.sc undef, AV.sc undef, AV.sc undef, AV.sc undef, AV.sc undef, AV.sc undef, AV.sc undef, AV.sc undef, AV.sc undef, AV.sc undef, AV.sc undef, AV.sc undef, AV.sc undef, AV.sc undef, AV.sc undef, AV.sc undef, AV.sc undef, AV.sc undef, AV.sc undef, AV.sc undef]) (st0 := [⟨g, .box 99 [.sc (.int .i64 d.room), .ow 1 g1, .ow 2 g2, .ow 3 g3, .ow 4 g4, .ow 5 g5, .ow 6 g6, .ow 7 g7, .ow 8 g8, .ow 9 g9, .sc (.int .i64 d.waits), .sc (.int .i64 d.done), .sc (.bool d.fused), .sc (.int .i64 d.fuse), .sc (.bool d.dark)]⟩, ⟨g1, owM (d.nf 0) 5 1 (byA (d.n 0))⟩, ⟨g2, owM (d.nf 1) 5 1 (byA (d.n 1))⟩, ⟨g3, owM (d.nf 2) 5 1 (byA (d.n 2))⟩, ⟨g4, owM (d.nf 3) 5 1 (byA (d.n 3))⟩, ⟨g5, owM (d.lf 0) 5 1 (byA (d.l 0))⟩, ⟨g6, owM (d.lf 1) 5 1 (byA (d.l 1))⟩, ⟨g7, owM (d.lf 2) 5 1 (byA (d.l 2))⟩, ⟨g8, owM (d.lf 3) 5 1 (byA (d.l 3))⟩, ⟨g9, owM true 102 4 (d.q.map DeedD.cs)⟩, TK.mk 0 .off, TK.mk 0 .off]) 2 Try.func25 rfl rfl rfl 10 rfl ?_
  refine AW.seq ?_
  refine AW.region ?_
  refine AL.r (rd_assign rfl rfl) ?_
  refine AL.r (rd_assign rfl rfl) ?_
  refine AL.nil ?_
  change AW _ _ _ _ _
  refine AW.seq ?_
  refine AW.seq ?_
  refine AW.region ?_
  refine AL.r (rd_move rfl rfl) ?_
  refine AL.r (rd_peq_bx rfl pt_25 rfl rfl rfl) ?_
  refine AL.nil ?_
  change AW _ _ _ _ _
  refine AW.cond_f rfl ?_
  refine AW.skip ?_
  change AW _ _ _ _ _
  refine AW.seq ?_
  refine AW.seq ?_
  refine AW.region ?_
  refine AL.r (rd_move rfl rfl) ?_
  refine AL.op rfl (AOpB.op (op_call (right_in (by decide)) rfl (by kernel_rfl) rfl (none) ?_))
  rintro r rfl
  refine AL.no ?_
  refine AL.r (rd_un rfl rfl (fun _ => rfl)) ?_
  refine AL.nil ?_
  change AW _ _ _ _ _
  refine AW.cond_f rfl ?_
  refine AW.skip ?_
  change AW _ _ _ _ _
  refine AW.seq ?_
  refine AW.seq ?_
  refine AW.region ?_
  refine AL.r (rd_move rfl rfl) ?_
  refine AL.r (rd_nilc_bx rfl rfl rfl) ?_
  refine AL.r (rd_faddr_bx rfl fo_99_8 rfl rfl ⟨_, _, rfl⟩) ?_
  refine AL.r (rd_load_bx rfl ag_4 rfl rfl rfl) ?_
  refine AL.nil ?_
  change AW _ _ _ _ _
  refine AW.cond rfl (fun h16 => ?_) (fun h16 => ?_)
  · (try simp only [decide_eq_true_eq, decide_eq_false_iff_not, beq_iff_eq, beq_eq_false_iff_ne, bne_iff_ne, bne_eq_false_iff_eq, Bool.not_eq_true', Bool.not_eq_false', ne_eq, Bool.not_eq_eq_eq_not, Bool.not_true, Bool.not_false, gt_iff_lt, ge_iff_le, Bool.not_not] at h16)
    refine AW.seq ?_
    refine AW.region ?_
    refine AL.r (rd_assign rfl rfl) ?_
    refine AL.r (rd_assign rfl rfl) ?_
    refine AL.nil ?_
    change AW _ _ _ _ _
    refine AW.ret ?_
    repeat with_reducible first | refine thenA_ret ?_ | refine inBlockA_ret ?_
    with_reducible first | refine retO_ret ?_ | refine retO_normal ?_
    refine reso2 rfl (Nat.le_of_ble_eq_true rfl) (by simp only [cleanS, cle_owM, cle_own, cle_nown, cle_obj, cle_off, cle_box, okC, liveA, List.take_succ_cons, List.take_zero, List.all_cons, List.all_nil, List.getElem?_cons_zero, List.getElem?_cons_succ, isO_owM, isO_own, isO_nown, TC.isB, beq_self_eq_true, Bool.and_self, Bool.and_true, ok1, ok2, List.map_cons, List.map_nil]) (ResV.tmp rfl) rfl (ResV.tmp rfl) rfl (by simp only [cleanS, cle_owM, cle_own, cle_nown, cle_obj, cle_off, cle_box, okC, liveA, List.take_succ_cons, List.take_zero, List.all_cons, List.all_nil, List.getElem?_cons_zero, List.getElem?_cons_succ, isO_owM, isO_own, isO_nown, TC.isB, beq_self_eq_true, Bool.and_self, Bool.and_true, ok1, ok2, List.map_cons, List.map_nil]) ?_
    exact ⟨by simp [readR, h16, byA, List.take_of_length_le], rfl⟩
  · (try simp only [decide_eq_true_eq, decide_eq_false_iff_not, beq_iff_eq, beq_eq_false_iff_ne, bne_iff_ne, bne_eq_false_iff_eq, Bool.not_eq_true', Bool.not_eq_false', ne_eq, Bool.not_eq_eq_eq_not, Bool.not_true, Bool.not_false, gt_iff_lt, ge_iff_le, Bool.not_not] at h16)
    refine AW.skip ?_
    change AW _ _ _ _ _
    refine AW.seq ?_
    refine AW.region ?_
    refine AL.r (rd_move rfl rfl) ?_
    refine AL.r (rd_move rfl rfl) ?_
    refine AL.r (rd_nilc_bx rfl rfl rfl) ?_
    refine AL.r (rd_faddr_bx rfl fo_99_1 rfl rfl ⟨_, _, rfl⟩) ?_
    refine AL.r (rd_iaddr_bx (i := 1) rfl ar_37 rfl rfl rfl (by first | rfl | omega) (by decide)) ?_
    refine AL.r (rd_load_bx rfl ag_29 rfl rfl rfl) ?_
    refine AL.r (rd_len_owM rfl el_29 rfl rfl) ?_
    refine AL.r (rd_assign rfl rfl) ?_
    refine AL.nil ?_
    change AW _ _ _ _ _
    refine AW.seq ?_
    refine AW.region ?_
    refine AL.op rfl (AOpB.op (bs_own 10 rfl ap_29 ze_5 rfl rfl rfl ?_))
    refine AL.no ?_
    refine AL.r (rd_move rfl rfl) ?_
    refine AL.r (rd_move rfl rfl) ?_
    refine AL.r (rd_nilc_bx rfl rfl rfl) ?_
    refine AL.r (rd_faddr_bx rfl fo_99_1 rfl rfl ⟨_, _, rfl⟩) ?_
    refine AL.r (rd_iaddr_bx (i := 1) rfl ar_37 rfl rfl rfl (by first | rfl | omega) (by decide)) ?_
    refine AL.r (rd_load_bx rfl ag_29 rfl rfl rfl) ?_
    refine AL.op rfl (op_append rfl ap_29 rfl rfl (src_owM rfl rfl) (by simp only [byA_len, List.length_nil]; omega) (by simp only [byA_len, List.length_nil]; omega) ?_)
    refine AL.no ?_
    refine AL.r (rd_assign rfl rfl) ?_
    refine AL.nil ?_
    change AW _ _ _ _ _
    refine AW.seq ?_
    refine AW.region ?_
    refine AL.settle 7 rfl rfl (by first | rfl | exact cont_owM _ _ _ _) ?_
    refine AL.no ?_
    refine AL.r (rd_move rfl rfl) ?_
    refine AL.r (rd_move rfl rfl) ?_
    refine AL.r (rd_move rfl rfl) ?_
    refine AL.r (rd_slice3_sl rfl el_29 rfl rfl rfl rfl rfl (by simp [byA_len])) ?_
    refine AL.r (rd_assign rfl rfl) ?_
    refine AL.r (rd_assign rfl rfl) ?_
    refine AL.nil ?_
    change AW _ _ _ _ _
    refine AW.ret ?_
    repeat with_reducible first | refine thenA_ret ?_ | refine inBlockA_ret ?_
    with_reducible first | refine retO_ret ?_ | refine retO_normal ?_
    refine reso2 rfl (Nat.le_of_ble_eq_true rfl) (by simp only [cleanS, cle_owM, cle_own, cle_nown, cle_obj, cle_off, cle_box, okC, liveA, List.take_succ_cons, List.take_zero, List.all_cons, List.all_nil, List.getElem?_cons_zero, List.getElem?_cons_succ, isO_owM, isO_own, isO_nown, TC.isB, beq_self_eq_true, Bool.and_self, Bool.and_true, ok1, ok2, List.map_cons, List.map_nil]) (ResV.tmp rfl) rfl (ResV.tmp rfl) rfl (by simp only [cleanS, cle_owM, cle_own, cle_nown, cle_obj, cle_off, cle_box, okC, liveA, List.take_succ_cons, List.take_zero, List.all_cons, List.all_nil, List.getElem?_cons_zero, List.getElem?_cons_succ, isO_owM, isO_own, isO_nown, TC.isB, beq_self_eq_true, Bool.and_self, Bool.and_true, ok1, ok2, List.map_cons, List.map_nil]) ?_
    exact ⟨by simp [readR, h16, byA, List.take_of_length_le], rfl⟩
theorem read_c2 (h : d.Fit) : ACo Try.prog 25 [.bx 0 g 0, .sc (.int .i64 2)] (diskT g g1 g2 g3 g4 g5 g6 g7 g8 g9 d)
    (fun y os' => y = readR d 2 ∧ os' = diskT g g1 g2 g3 g4 g5 g6 g7 g8 g9 d) := by
  have hnn := h.n 2
  refine ACo.of (t0 := [.bx 0 g 0, .sc (.int .i64 2), AV.sc undef, AV.sc undef, AV.sc undef, AV.sc undef, AV.sc undef, AV.sc undef, AV.sc undef, AV.sc undef, AV.sc undef, AV.sc undef, AV.sc undef, AV.sc undef, AV.sc undef, AV.sc undef, AV.sc undef, AV.sc undef, AV.sc undef, AV.sc undef, AV.sc undef, AV.sc undef, AV.sc undef, AV.sc undef, AV.sc undef, AV.sc undef, AV.sc undef, AV.sc undef, AV.sc undef, AV.sc undef, AV.sc undef, AV.sc undef, AV.sc undef, AV.sc undef, AV.sc undef, AV.sc undef]) (st0 := [⟨g, .box 99 [.sc (.int .i64 d.room), .ow 1 g1, .ow 2 g2, .ow 3 g3, .ow 4 g4, .ow 5 g5, .ow 6 g6, .ow 7 g7, .ow 8 g8, .ow 9 g9, .sc (.int .i64 d.waits), .sc (.int .i64 d.done), .sc (.bool d.fused), .sc (.int .i64 d.fuse), .sc (.bool d.dark)]⟩, ⟨g1, owM (d.nf 0) 5 1 (byA (d.n 0))⟩, ⟨g2, owM (d.nf 1) 5 1 (byA (d.n 1))⟩, ⟨g3, owM (d.nf 2) 5 1 (byA (d.n 2))⟩, ⟨g4, owM (d.nf 3) 5 1 (byA (d.n 3))⟩, ⟨g5, owM (d.lf 0) 5 1 (byA (d.l 0))⟩, ⟨g6, owM (d.lf 1) 5 1 (byA (d.l 1))⟩, ⟨g7, owM (d.lf 2) 5 1 (byA (d.l 2))⟩, ⟨g8, owM (d.lf 3) 5 1 (byA (d.l 3))⟩, ⟨g9, owM true 102 4 (d.q.map DeedD.cs)⟩, TK.mk 0 .off, TK.mk 0 .off]) 2 Try.func25 rfl rfl rfl 10 rfl ?_
  refine AW.seq ?_
  refine AW.region ?_
  refine AL.r (rd_assign rfl rfl) ?_
  refine AL.r (rd_assign rfl rfl) ?_
  refine AL.nil ?_
  change AW _ _ _ _ _
  refine AW.seq ?_
  refine AW.seq ?_
  refine AW.region ?_
  refine AL.r (rd_move rfl rfl) ?_
  refine AL.r (rd_peq_bx rfl pt_25 rfl rfl rfl) ?_
  refine AL.nil ?_
  change AW _ _ _ _ _
  refine AW.cond_f rfl ?_
  refine AW.skip ?_
  change AW _ _ _ _ _
  refine AW.seq ?_
  refine AW.seq ?_
  refine AW.region ?_
  refine AL.r (rd_move rfl rfl) ?_
  refine AL.op rfl (AOpB.op (op_call (right_in (by decide)) rfl (by kernel_rfl) rfl (none) ?_))
  rintro r rfl
  refine AL.no ?_
  refine AL.r (rd_un rfl rfl (fun _ => rfl)) ?_
  refine AL.nil ?_
  change AW _ _ _ _ _
  refine AW.cond_f rfl ?_
  refine AW.skip ?_
  change AW _ _ _ _ _
  refine AW.seq ?_
  refine AW.seq ?_
  refine AW.region ?_
  refine AL.r (rd_move rfl rfl) ?_
  refine AL.r (rd_nilc_bx rfl rfl rfl) ?_
  refine AL.r (rd_faddr_bx rfl fo_99_8 rfl rfl ⟨_, _, rfl⟩) ?_
  refine AL.r (rd_load_bx rfl ag_4 rfl rfl rfl) ?_
  refine AL.nil ?_
  change AW _ _ _ _ _
  refine AW.cond rfl (fun h16 => ?_) (fun h16 => ?_)
  · (try simp only [decide_eq_true_eq, decide_eq_false_iff_not, beq_iff_eq, beq_eq_false_iff_ne, bne_iff_ne, bne_eq_false_iff_eq, Bool.not_eq_true', Bool.not_eq_false', ne_eq, Bool.not_eq_eq_eq_not, Bool.not_true, Bool.not_false, gt_iff_lt, ge_iff_le, Bool.not_not] at h16)
    refine AW.seq ?_
    refine AW.region ?_
    refine AL.r (rd_assign rfl rfl) ?_
    refine AL.r (rd_assign rfl rfl) ?_
    refine AL.nil ?_
    change AW _ _ _ _ _
    refine AW.ret ?_
    repeat with_reducible first | refine thenA_ret ?_ | refine inBlockA_ret ?_
    with_reducible first | refine retO_ret ?_ | refine retO_normal ?_
    refine reso2 rfl (Nat.le_of_ble_eq_true rfl) (by simp only [cleanS, cle_owM, cle_own, cle_nown, cle_obj, cle_off, cle_box, okC, liveA, List.take_succ_cons, List.take_zero, List.all_cons, List.all_nil, List.getElem?_cons_zero, List.getElem?_cons_succ, isO_owM, isO_own, isO_nown, TC.isB, beq_self_eq_true, Bool.and_self, Bool.and_true, ok1, ok2, List.map_cons, List.map_nil]) (ResV.tmp rfl) rfl (ResV.tmp rfl) rfl (by simp only [cleanS, cle_owM, cle_own, cle_nown, cle_obj, cle_off, cle_box, okC, liveA, List.take_succ_cons, List.take_zero, List.all_cons, List.all_nil, List.getElem?_cons_zero, List.getElem?_cons_succ, isO_owM, isO_own, isO_nown, TC.isB, beq_self_eq_true, Bool.and_self, Bool.and_true, ok1, ok2, List.map_cons, List.map_nil]) ?_
    exact ⟨by simp [readR, h16, byA, List.take_of_length_le], rfl⟩
  · (try simp only [decide_eq_true_eq, decide_eq_false_iff_not, beq_iff_eq, beq_eq_false_iff_ne, bne_iff_ne, bne_eq_false_iff_eq, Bool.not_eq_true', Bool.not_eq_false', ne_eq, Bool.not_eq_eq_eq_not, Bool.not_true, Bool.not_false, gt_iff_lt, ge_iff_le, Bool.not_not] at h16)
    refine AW.skip ?_
    change AW _ _ _ _ _
    refine AW.seq ?_
    refine AW.region ?_
    refine AL.r (rd_move rfl rfl) ?_
    refine AL.r (rd_move rfl rfl) ?_
    refine AL.r (rd_nilc_bx rfl rfl rfl) ?_
    refine AL.r (rd_faddr_bx rfl fo_99_1 rfl rfl ⟨_, _, rfl⟩) ?_
    refine AL.r (rd_iaddr_bx (i := 2) rfl ar_37 rfl rfl rfl (by first | rfl | omega) (by decide)) ?_
    refine AL.r (rd_load_bx rfl ag_29 rfl rfl rfl) ?_
    refine AL.r (rd_len_owM rfl el_29 rfl rfl) ?_
    refine AL.r (rd_assign rfl rfl) ?_
    refine AL.nil ?_
    change AW _ _ _ _ _
    refine AW.seq ?_
    refine AW.region ?_
    refine AL.op rfl (AOpB.op (bs_own 10 rfl ap_29 ze_5 rfl rfl rfl ?_))
    refine AL.no ?_
    refine AL.r (rd_move rfl rfl) ?_
    refine AL.r (rd_move rfl rfl) ?_
    refine AL.r (rd_nilc_bx rfl rfl rfl) ?_
    refine AL.r (rd_faddr_bx rfl fo_99_1 rfl rfl ⟨_, _, rfl⟩) ?_
    refine AL.r (rd_iaddr_bx (i := 2) rfl ar_37 rfl rfl rfl (by first | rfl | omega) (by decide)) ?_
    refine AL.r (rd_load_bx rfl ag_29 rfl rfl rfl) ?_
    refine AL.op rfl (op_append rfl ap_29 rfl rfl (src_owM rfl rfl) (by simp only [byA_len, List.length_nil]; omega) (by simp only [byA_len, List.length_nil]; omega) ?_)
    refine AL.no ?_
    refine AL.r (rd_assign rfl rfl) ?_
    refine AL.nil ?_
    change AW _ _ _ _ _
    refine AW.seq ?_
    refine AW.region ?_
    refine AL.settle 7 rfl rfl (by first | rfl | exact cont_owM _ _ _ _) ?_
    refine AL.no ?_
    refine AL.r (rd_move rfl rfl) ?_
    refine AL.r (rd_move rfl rfl) ?_
    refine AL.r (rd_move rfl rfl) ?_
    refine AL.r (rd_slice3_sl rfl el_29 rfl rfl rfl rfl rfl (by simp [byA_len])) ?_
    refine AL.r (rd_assign rfl rfl) ?_
    refine AL.r (rd_assign rfl rfl) ?_
    refine AL.nil ?_
    change AW _ _ _ _ _
    refine AW.ret ?_
    repeat with_reducible first | refine thenA_ret ?_ | refine inBlockA_ret ?_
    with_reducible first | refine retO_ret ?_ | refine retO_normal ?_
    refine reso2 rfl (Nat.le_of_ble_eq_true rfl) (by simp only [cleanS, cle_owM, cle_own, cle_nown, cle_obj, cle_off, cle_box, okC, liveA, List.take_succ_cons, List.take_zero, List.all_cons, List.all_nil, List.getElem?_cons_zero, List.getElem?_cons_succ, isO_owM, isO_own, isO_nown, TC.isB, beq_self_eq_true, Bool.and_self, Bool.and_true, ok1, ok2, List.map_cons, List.map_nil]) (ResV.tmp rfl) rfl (ResV.tmp rfl) rfl (by simp only [cleanS, cle_owM, cle_own, cle_nown, cle_obj, cle_off, cle_box, okC, liveA, List.take_succ_cons, List.take_zero, List.all_cons, List.all_nil, List.getElem?_cons_zero, List.getElem?_cons_succ, isO_owM, isO_own, isO_nown, TC.isB, beq_self_eq_true, Bool.and_self, Bool.and_true, ok1, ok2, List.map_cons, List.map_nil]) ?_
    exact ⟨by simp [readR, h16, byA, List.take_of_length_le], rfl⟩
theorem read_c3 (h : d.Fit) : ACo Try.prog 25 [.bx 0 g 0, .sc (.int .i64 3)] (diskT g g1 g2 g3 g4 g5 g6 g7 g8 g9 d)
    (fun y os' => y = readR d 3 ∧ os' = diskT g g1 g2 g3 g4 g5 g6 g7 g8 g9 d) := by
  have hnn := h.n 3
  refine ACo.of (t0 := [.bx 0 g 0, .sc (.int .i64 3), AV.sc undef, AV.sc undef, AV.sc undef, AV.sc undef, AV.sc undef, AV.sc undef, AV.sc undef, AV.sc undef, AV.sc undef, AV.sc undef, AV.sc undef, AV.sc undef, AV.sc undef, AV.sc undef, AV.sc undef, AV.sc undef, AV.sc undef, AV.sc undef, AV.sc undef, AV.sc undef, AV.sc undef, AV.sc undef, AV.sc undef, AV.sc undef, AV.sc undef, AV.sc undef, AV.sc undef, AV.sc undef, AV.sc undef, AV.sc undef, AV.sc undef, AV.sc undef, AV.sc undef, AV.sc undef]) (st0 := [⟨g, .box 99 [.sc (.int .i64 d.room), .ow 1 g1, .ow 2 g2, .ow 3 g3, .ow 4 g4, .ow 5 g5, .ow 6 g6, .ow 7 g7, .ow 8 g8, .ow 9 g9, .sc (.int .i64 d.waits), .sc (.int .i64 d.done), .sc (.bool d.fused), .sc (.int .i64 d.fuse), .sc (.bool d.dark)]⟩, ⟨g1, owM (d.nf 0) 5 1 (byA (d.n 0))⟩, ⟨g2, owM (d.nf 1) 5 1 (byA (d.n 1))⟩, ⟨g3, owM (d.nf 2) 5 1 (byA (d.n 2))⟩, ⟨g4, owM (d.nf 3) 5 1 (byA (d.n 3))⟩, ⟨g5, owM (d.lf 0) 5 1 (byA (d.l 0))⟩, ⟨g6, owM (d.lf 1) 5 1 (byA (d.l 1))⟩, ⟨g7, owM (d.lf 2) 5 1 (byA (d.l 2))⟩, ⟨g8, owM (d.lf 3) 5 1 (byA (d.l 3))⟩, ⟨g9, owM true 102 4 (d.q.map DeedD.cs)⟩, TK.mk 0 .off, TK.mk 0 .off]) 2 Try.func25 rfl rfl rfl 10 rfl ?_
  refine AW.seq ?_
  refine AW.region ?_
  refine AL.r (rd_assign rfl rfl) ?_
  refine AL.r (rd_assign rfl rfl) ?_
  refine AL.nil ?_
  change AW _ _ _ _ _
  refine AW.seq ?_
  refine AW.seq ?_
  refine AW.region ?_
  refine AL.r (rd_move rfl rfl) ?_
  refine AL.r (rd_peq_bx rfl pt_25 rfl rfl rfl) ?_
  refine AL.nil ?_
  change AW _ _ _ _ _
  refine AW.cond_f rfl ?_
  refine AW.skip ?_
  change AW _ _ _ _ _
  refine AW.seq ?_
  refine AW.seq ?_
  refine AW.region ?_
  refine AL.r (rd_move rfl rfl) ?_
  refine AL.op rfl (AOpB.op (op_call (right_in (by decide)) rfl (by kernel_rfl) rfl (none) ?_))
  rintro r rfl
  refine AL.no ?_
  refine AL.r (rd_un rfl rfl (fun _ => rfl)) ?_
  refine AL.nil ?_
  change AW _ _ _ _ _
  refine AW.cond_f rfl ?_
  refine AW.skip ?_
  change AW _ _ _ _ _
  refine AW.seq ?_
  refine AW.seq ?_
  refine AW.region ?_
  refine AL.r (rd_move rfl rfl) ?_
  refine AL.r (rd_nilc_bx rfl rfl rfl) ?_
  refine AL.r (rd_faddr_bx rfl fo_99_8 rfl rfl ⟨_, _, rfl⟩) ?_
  refine AL.r (rd_load_bx rfl ag_4 rfl rfl rfl) ?_
  refine AL.nil ?_
  change AW _ _ _ _ _
  refine AW.cond rfl (fun h16 => ?_) (fun h16 => ?_)
  · (try simp only [decide_eq_true_eq, decide_eq_false_iff_not, beq_iff_eq, beq_eq_false_iff_ne, bne_iff_ne, bne_eq_false_iff_eq, Bool.not_eq_true', Bool.not_eq_false', ne_eq, Bool.not_eq_eq_eq_not, Bool.not_true, Bool.not_false, gt_iff_lt, ge_iff_le, Bool.not_not] at h16)
    refine AW.seq ?_
    refine AW.region ?_
    refine AL.r (rd_assign rfl rfl) ?_
    refine AL.r (rd_assign rfl rfl) ?_
    refine AL.nil ?_
    change AW _ _ _ _ _
    refine AW.ret ?_
    repeat with_reducible first | refine thenA_ret ?_ | refine inBlockA_ret ?_
    with_reducible first | refine retO_ret ?_ | refine retO_normal ?_
    refine reso2 rfl (Nat.le_of_ble_eq_true rfl) (by simp only [cleanS, cle_owM, cle_own, cle_nown, cle_obj, cle_off, cle_box, okC, liveA, List.take_succ_cons, List.take_zero, List.all_cons, List.all_nil, List.getElem?_cons_zero, List.getElem?_cons_succ, isO_owM, isO_own, isO_nown, TC.isB, beq_self_eq_true, Bool.and_self, Bool.and_true, ok1, ok2, List.map_cons, List.map_nil]) (ResV.tmp rfl) rfl (ResV.tmp rfl) rfl (by simp only [cleanS, cle_owM, cle_own, cle_nown, cle_obj, cle_off, cle_box, okC, liveA, List.take_succ_cons, List.take_zero, List.all_cons, List.all_nil, List.getElem?_cons_zero, List.getElem?_cons_succ, isO_owM, isO_own, isO_nown, TC.isB, beq_self_eq_true, Bool.and_self, Bool.and_true, ok1, ok2, List.map_cons, List.map_nil]) ?_
    exact ⟨by simp [readR, h16, byA, List.take_of_length_le], rfl⟩
  · (try simp only [decide_eq_true_eq, decide_eq_false_iff_not, beq_iff_eq, beq_eq_false_iff_ne, bne_iff_ne, bne_eq_false_iff_eq, Bool.not_eq_true', Bool.not_eq_false', ne_eq, Bool.not_eq_eq_eq_not, Bool.not_true, Bool.not_false, gt_iff_lt, ge_iff_le, Bool.not_not] at h16)
    refine AW.skip ?_
    change AW _ _ _ _ _
    refine AW.seq ?_
    refine AW.region ?_
    refine AL.r (rd_move rfl rfl) ?_
    refine AL.r (rd_move rfl rfl) ?_
    refine AL.r (rd_nilc_bx rfl rfl rfl) ?_
    refine AL.r (rd_faddr_bx rfl fo_99_1 rfl rfl ⟨_, _, rfl⟩) ?_
    refine AL.r (rd_iaddr_bx (i := 3) rfl ar_37 rfl rfl rfl (by first | rfl | omega) (by decide)) ?_
    refine AL.r (rd_load_bx rfl ag_29 rfl rfl rfl) ?_
    refine AL.r (rd_len_owM rfl el_29 rfl rfl) ?_
    refine AL.r (rd_assign rfl rfl) ?_
    refine AL.nil ?_
    change AW _ _ _ _ _
    refine AW.seq ?_
    refine AW.region ?_
    refine AL.op rfl (AOpB.op (bs_own 10 rfl ap_29 ze_5 rfl rfl rfl ?_))
    refine AL.no ?_
    refine AL.r (rd_move rfl rfl) ?_
    refine AL.r (rd_move rfl rfl) ?_
    refine AL.r (rd_nilc_bx rfl rfl rfl) ?_
    refine AL.r (rd_faddr_bx rfl fo_99_1 rfl rfl ⟨_, _, rfl⟩) ?_
    refine AL.r (rd_iaddr_bx (i := 3) rfl ar_37 rfl rfl rfl (by first | rfl | omega) (by decide)) ?_
    refine AL.r (rd_load_bx rfl ag_29 rfl rfl rfl) ?_
    refine AL.op rfl (op_append rfl ap_29 rfl rfl (src_owM rfl rfl) (by simp only [byA_len, List.length_nil]; omega) (by simp only [byA_len, List.length_nil]; omega) ?_)
    refine AL.no ?_
    refine AL.r (rd_assign rfl rfl) ?_
    refine AL.nil ?_
    change AW _ _ _ _ _
    refine AW.seq ?_
    refine AW.region ?_
    refine AL.settle 7 rfl rfl (by first | rfl | exact cont_owM _ _ _ _) ?_
    refine AL.no ?_
    refine AL.r (rd_move rfl rfl) ?_
    refine AL.r (rd_move rfl rfl) ?_
    refine AL.r (rd_move rfl rfl) ?_
    refine AL.r (rd_slice3_sl rfl el_29 rfl rfl rfl rfl rfl (by simp [byA_len])) ?_
    refine AL.r (rd_assign rfl rfl) ?_
    refine AL.r (rd_assign rfl rfl) ?_
    refine AL.nil ?_
    change AW _ _ _ _ _
    refine AW.ret ?_
    repeat with_reducible first | refine thenA_ret ?_ | refine inBlockA_ret ?_
    with_reducible first | refine retO_ret ?_ | refine retO_normal ?_
    refine reso2 rfl (Nat.le_of_ble_eq_true rfl) (by simp only [cleanS, cle_owM, cle_own, cle_nown, cle_obj, cle_off, cle_box, okC, liveA, List.take_succ_cons, List.take_zero, List.all_cons, List.all_nil, List.getElem?_cons_zero, List.getElem?_cons_succ, isO_owM, isO_own, isO_nown, TC.isB, beq_self_eq_true, Bool.and_self, Bool.and_true, ok1, ok2, List.map_cons, List.map_nil]) (ResV.tmp rfl) rfl (ResV.tmp rfl) rfl (by simp only [cleanS, cle_owM, cle_own, cle_nown, cle_obj, cle_off, cle_box, okC, liveA, List.take_succ_cons, List.take_zero, List.all_cons, List.all_nil, List.getElem?_cons_zero, List.getElem?_cons_succ, isO_owM, isO_own, isO_nown, TC.isB, beq_self_eq_true, Bool.and_self, Bool.and_true, ok1, ok2, List.map_cons, List.map_nil]) ?_
    exact ⟨by simp [readR, h16, byA, List.take_of_length_le], rfl⟩
end
-- a disk that isn't there
theorem nil_fuse (n : Int) : AC Try.prog 28 [.sc (.pointer none), .sc (.int .i64 n)] (fun r => r = .s (.tu [])) := by
  refine AC.of (t0 := [.sc (.pointer none), .sc (.int .i64 n), AV.sc undef, AV.sc undef, AV.sc undef, AV.sc undef, AV.sc undef, AV.sc undef, AV.sc undef, AV.sc undef, AV.sc undef, AV.sc undef, AV.sc undef, AV.sc undef, AV.sc undef, AV.sc undef]) 0 Try.func28 rfl rfl ?_
  change AW _ _ _ _ []
  refine AW.seq ?_
  refine AW.seq ?_
  refine AW.region ?_
  refine AL.r (rd_move rfl rfl) ?_
  refine AL.r (rd_peq_nil rfl pt_25 rfl rfl) ?_
  refine AL.nil ?_
  change AW _ _ _ _ _
  refine AW.cond_t rfl ?_
  refine AW.ret ?_
  change ResA _ _ _ _ _
  refine res0 rfl ?_
  rfl
theorem nil_crash (n : Int) : AC Try.prog 23 [.sc (.pointer none), .sc (.int .i64 n)] (fun r => r = .s (.tu [])) := by
  refine AC.of (t0 := [.sc (.pointer none), .sc (.int .i64 n), AV.sc undef, AV.sc undef, AV.sc undef, AV.sc undef, AV.sc undef, AV.sc undef, AV.sc undef, AV.sc undef, AV.sc undef, AV.sc undef, AV.sc undef, AV.sc undef, AV.sc undef, AV.sc undef, AV.sc undef, AV.sc undef, AV.sc undef, AV.sc undef, AV.sc undef, AV.sc undef, AV.sc undef, AV.sc undef, AV.sc undef, AV.sc undef, AV.sc undef, AV.sc undef, AV.sc undef, AV.sc undef, AV.sc undef, AV.sc undef, AV.sc undef, AV.sc undef, AV.sc undef, AV.sc undef]) 2 Try.func23 rfl rfl ?_
  change AW _ _ _ _ [TK.mk 0 .off, TK.mk 0 .off]
  refine AW.seq ?_
  refine AW.seq ?_
  refine AW.region ?_
  refine AL.r (rd_move rfl rfl) ?_
  refine AL.r (rd_peq_nil rfl pt_25 rfl rfl) ?_
  refine AL.nil ?_
  change AW _ _ _ _ _
  refine AW.cond_t rfl ?_
  refine AW.ret ?_
  change ResA _ _ _ _ _
  refine res0 rfl ?_
  rfl
theorem nil_read (f : Int) : AC Try.prog 25 [.sc (.pointer none), .sc (.int .i64 f)] (fun r => r = .s (.tu [.sl [], .sc (.int .i64 1)])) := by
  refine AC.of (t0 := [.sc (.pointer none), .sc (.int .i64 f), AV.sc undef, AV.sc undef, AV.sc undef, AV.sc undef, AV.sc undef, AV.sc undef, AV.sc undef, AV.sc undef, AV.sc undef, AV.sc undef, AV.sc undef, AV.sc undef, AV.sc undef, AV.sc undef, AV.sc undef, AV.sc undef, AV.sc undef, AV.sc undef, AV.sc undef, AV.sc undef, AV.sc undef, AV.sc undef, AV.sc undef, AV.sc undef, AV.sc undef, AV.sc undef, AV.sc undef, AV.sc undef, AV.sc undef, AV.sc undef, AV.sc undef, AV.sc undef, AV.sc undef, AV.sc undef]) 2 Try.func25 rfl rfl ?_
  change AW _ _ _ _ [TK.mk 0 .off, TK.mk 0 .off]
  refine AW.seq ?_
  refine AW.region ?_
  refine AL.r (rd_assign rfl rfl) ?_
  refine AL.r (rd_assign rfl rfl) ?_
  refine AL.nil ?_
  change AW _ _ _ _ _
  refine AW.seq ?_
  refine AW.seq ?_
  refine AW.region ?_
  refine AL.r (rd_move rfl rfl) ?_
  refine AL.r (rd_peq_nil rfl pt_25 rfl rfl) ?_
  refine AL.nil ?_
  change AW _ _ _ _ _
  refine AW.cond_t rfl ?_
  refine AW.seq ?_
  refine AW.region ?_
  refine AL.r (rd_assign rfl rfl) ?_
  refine AL.r (rd_assign rfl rfl) ?_
  refine AL.nil ?_
  change AW _ _ _ _ _
  refine AW.ret ?_
  change ResA _ _ _ _ _
  refine res2 rfl (ResV.tmp rfl) rfl (ResV.tmp rfl) rfl ?_
  rfl
theorem nil_append (f : Int) (b : List UInt8) : AC Try.prog 19 [.sc (.pointer none), .sc (.int .i64 f), .sl (byA b)] (fun r => r = .s (.sc (.int .i64 1))) := by
  refine AC.of (t0 := [.sc (.pointer none), .sc (.int .i64 f), .sl (byA b), AV.sc undef, AV.sc undef, AV.sc undef, AV.sc undef, AV.sc undef, AV.sc undef, AV.sc undef, AV.sc undef, AV.sc undef, AV.sc undef, AV.sc undef, AV.sc undef, AV.sc undef, AV.sc undef, AV.sc undef, AV.sc undef, AV.sc undef, AV.sc undef, AV.sc undef, AV.sc undef, AV.sc undef, AV.sc undef, AV.sc undef, AV.sc undef, AV.sc undef, AV.sc undef, AV.sc undef, AV.sc undef, AV.sc undef, AV.sc undef, AV.sc undef, AV.sc undef, AV.sc undef, AV.sc undef, AV.sc undef, AV.sc undef, AV.sc undef, AV.sc undef, AV.sc undef, AV.sc undef, AV.sc undef, AV.sc undef, AV.sc undef, AV.sc undef, AV.sc undef, AV.sc undef, AV.sc undef, AV.sc undef, AV.sc undef, AV.sc undef, AV.sc undef, AV.sc undef, AV.sc undef, AV.sc undef, AV.sc undef, AV.sc undef, AV.sc undef, AV.sc undef, AV.sc undef, AV.sc undef, AV.sc undef, AV.sc undef, AV.sc undef, AV.sc undef, AV.sc undef, AV.sc undef, AV.sc undef, AV.sc undef]) 5 Try.func19 rfl rfl ?_
  change AW _ _ _ _ [TK.mk 0 .off, TK.mk 0 .off, TK.mk 0 .off, TK.mk 0 .off, TK.mk 0 .off]
  refine AW.seq ?_
  refine AW.region ?_
  refine AL.r (rd_assign rfl rfl) ?_
  refine AL.nil ?_
  change AW _ _ _ _ _
  refine AW.seq ?_
  refine AW.seq ?_
  refine AW.region ?_
  refine AL.r (rd_move rfl rfl) ?_
  refine AL.r (rd_peq_nil rfl pt_25 rfl rfl) ?_
  refine AL.nil ?_
  change AW _ _ _ _ _
  refine AW.cond_t rfl ?_
  refine AW.seq ?_
  refine AW.region ?_
  refine AL.r (rd_assign rfl rfl) ?_
  refine AL.nil ?_
  change AW _ _ _ _ _
  refine AW.ret ?_
  change ResA _ _ _ _ _
  refine res1 rfl (ResV.tmp rfl) rfl ?_
  rfl
theorem nil_cut (f n : Int) : AC Try.prog 26 [.sc (.pointer none), .sc (.int .i64 f), .sc (.int .i64 n)] (fun r => r = .s (.sc (.int .i64 1))) := by
  refine AC.of (t0 := [.sc (.pointer none), .sc (.int .i64 f), .sc (.int .i64 n), AV.sc undef, AV.sc undef, AV.sc undef, AV.sc undef, AV.sc undef, AV.sc undef, AV.sc undef, AV.sc undef, AV.sc undef, AV.sc undef, AV.sc undef, AV.sc undef, AV.sc undef, AV.sc undef, AV.sc undef, AV.sc undef, AV.sc undef, AV.sc undef, AV.sc undef, AV.sc undef, AV.sc undef, AV.sc undef, AV.sc undef, AV.sc undef, AV.sc undef, AV.sc undef, AV.sc undef, AV.sc undef, AV.sc undef, AV.sc undef, AV.sc undef, AV.sc undef, AV.sc undef, AV.sc undef, AV.sc undef, AV.sc undef, AV.sc undef, AV.sc undef, AV.sc undef, AV.sc undef, AV.sc undef, AV.sc undef, AV.sc undef, AV.sc undef, AV.sc undef, AV.sc undef, AV.sc undef, AV.sc undef, AV.sc undef, AV.sc undef, AV.sc undef, AV.sc undef, AV.sc undef, AV.sc undef, AV.sc undef, AV.sc undef, AV.sc undef, AV.sc undef, AV.sc undef, AV.sc undef, AV.sc undef, AV.sc undef, AV.sc undef, AV.sc undef, AV.sc undef]) 2 Try.func26 rfl rfl ?_
  change AW _ _ _ _ [TK.mk 0 .off, TK.mk 0 .off]
  refine AW.seq ?_
  refine AW.region ?_
  refine AL.r (rd_assign rfl rfl) ?_
  refine AL.nil ?_
  change AW _ _ _ _ _
  refine AW.seq ?_
  refine AW.seq ?_
  refine AW.region ?_
  refine AL.r (rd_move rfl rfl) ?_
  refine AL.r (rd_peq_nil rfl pt_25 rfl rfl) ?_
  refine AL.nil ?_
  change AW _ _ _ _ _
  refine AW.cond_t rfl ?_
  refine AW.seq ?_
  refine AW.region ?_
  refine AL.r (rd_assign rfl rfl) ?_
  refine AL.nil ?_
  change AW _ _ _ _ _
  refine AW.ret ?_
  change ResA _ _ _ _ _
  refine res1 rfl (ResV.tmp rfl) rfl ?_
  rfl
theorem nil_sync : AC Try.prog 20 [.sc (.pointer none)] (fun r => r = .s (.sc (.int .i64 1))) := by
  refine AC.of (t0 := [.sc (.pointer none), AV.sc undef, AV.sc undef, AV.sc undef, AV.sc undef, AV.sc undef, AV.sc undef, AV.sc undef, AV.sc undef, AV.sc undef, AV.sc undef, AV.sc undef, AV.sc undef, AV.sc undef, AV.sc undef, AV.sc undef, AV.sc undef, AV.sc undef, AV.sc undef, AV.sc undef]) 0 Try.func20 rfl rfl ?_
  change AW _ _ _ _ []
  refine AW.seq ?_
  refine AW.region ?_
  refine AL.r (rd_assign rfl rfl) ?_
  refine AL.nil ?_
  change AW _ _ _ _ _
  refine AW.seq ?_
  refine AW.seq ?_
  refine AW.region ?_
  refine AL.r (rd_move rfl rfl) ?_
  refine AL.r (rd_peq_nil rfl pt_25 rfl rfl) ?_
  refine AL.nil ?_
  change AW _ _ _ _ _
  refine AW.cond_t rfl ?_
  refine AW.seq ?_
  refine AW.region ?_
  refine AL.r (rd_assign rfl rfl) ?_
  refine AL.nil ?_
  change AW _ _ _ _ _
  refine AW.ret ?_
  change ResA _ _ _ _ _
  refine res1 rfl (ResV.tmp rfl) rfl ?_
  rfl
theorem nil_size (f : Int) : AC Try.prog 31 [.sc (.pointer none), .sc (.int .i64 f)] (fun r => r = .s (.sc (.int .i64 0))) := by
  refine AC.of (t0 := [.sc (.pointer none), .sc (.int .i64 f), AV.sc undef, AV.sc undef, AV.sc undef, AV.sc undef, AV.sc undef, AV.sc undef, AV.sc undef, AV.sc undef, AV.sc undef, AV.sc undef, AV.sc undef, AV.sc undef, AV.sc undef, AV.sc undef, AV.sc undef, AV.sc undef, AV.sc undef]) 0 Try.func31 rfl rfl ?_
  change AW _ _ _ _ []
  refine AW.seq ?_
  refine AW.region ?_
  refine AL.r (rd_assign rfl rfl) ?_
  refine AL.nil ?_
  change AW _ _ _ _ _
  refine AW.seq ?_
  refine AW.seq ?_
  refine AW.region ?_
  refine AL.r (rd_move rfl rfl) ?_
  refine AL.r (rd_peq_nil rfl pt_25 rfl rfl) ?_
  refine AL.r (rd_move rfl rfl) ?_
  refine AL.rf ?_
  refine AL.rf ?_
  refine AL.rf ?_
  refine AL.r (rd_pick_t rfl rfl rfl) ?_
  refine AL.nil ?_
  change AW _ _ _ _ _
  refine AW.cond_t rfl ?_
  refine AW.seq ?_
  refine AW.region ?_
  refine AL.r (rd_assign rfl rfl) ?_
  refine AL.nil ?_
  change AW _ _ _ _ _
  refine AW.ret ?_
  change ResA _ _ _ _ _
  refine res1 rfl (ResV.tmp rfl) rfl ?_
  rfl
theorem nil_dark : AC Try.prog 30 [.sc (.pointer none)] (fun r => r = .s (.sc (.bool false))) := by
  refine AC.of (t0 := [.sc (.pointer none), AV.sc undef, AV.sc undef, AV.sc undef, AV.sc undef, AV.sc undef, AV.sc undef, AV.sc undef, AV.sc undef, AV.sc undef, AV.sc undef]) 0 Try.func30 rfl rfl ?_
  change AW _ _ _ _ []
  refine AW.seq ?_
  refine AW.region ?_
  refine AL.r (rd_assign rfl rfl) ?_
  refine AL.nil ?_
  change AW _ _ _ _ _
  refine AW.seq ?_
  refine AW.region ?_
  refine AL.r (rd_move rfl rfl) ?_
  refine AL.r (rd_pne_nil rfl pt_25 rfl rfl) ?_
  refine AL.r (rd_move rfl rfl) ?_
  refine AL.rf ?_
  refine AL.rf ?_
  refine AL.rf ?_
  refine AL.rf ?_
  refine AL.r (rd_pick_f rfl rfl rfl) ?_
  refine AL.r (rd_assign rfl rfl) ?_
  refine AL.nil ?_
  change AW _ _ _ _ _
  refine AW.ret ?_
  change ResA _ _ _ _ _
  refine res1 rfl (ResV.tmp rfl) rfl ?_
  rfl
theorem nil_left : AC Try.prog 32 [.sc (.pointer none)] (fun r => r = .s (.sc (.int .i64 0))) := by
  refine AC.of (t0 := [.sc (.pointer none), AV.sc undef, AV.sc undef, AV.sc undef, AV.sc undef, AV.sc undef, AV.sc undef, AV.sc undef, AV.sc undef, AV.sc undef, AV.sc undef, AV.sc undef, AV.sc undef, AV.sc undef, AV.sc undef, AV.sc undef, AV.sc undef, AV.sc undef, AV.sc undef, AV.sc undef, AV.sc undef, AV.sc undef, AV.sc undef, AV.sc undef, AV.sc undef]) 0 Try.func32 rfl rfl ?_
  change AW _ _ _ _ []
  refine AW.seq ?_
  refine AW.region ?_
  refine AL.r (rd_assign rfl rfl) ?_
  refine AL.nil ?_
  change AW _ _ _ _ _
  refine AW.seq ?_
  refine AW.seq ?_
  refine AW.region ?_
  refine AL.r (rd_move rfl rfl) ?_
  refine AL.r (rd_peq_nil rfl pt_25 rfl rfl) ?_
  refine AL.nil ?_
  change AW _ _ _ _ _
  refine AW.cond_t rfl ?_
  refine AW.seq ?_
  refine AW.region ?_
  refine AL.r (rd_assign rfl rfl) ?_
  refine AL.nil ?_
  change AW _ _ _ _ _
  refine AW.ret ?_
  change ResA _ _ _ _ _
  refine res1 rfl (ResV.tmp rfl) rfl ?_
  rfl
theorem nil_room : AC Try.prog 33 [.sc (.pointer none)] (fun r => r = .s (.sc (.int .i64 0))) := by
  refine AC.of (t0 := [.sc (.pointer none), AV.sc undef, AV.sc undef, AV.sc undef, AV.sc undef, AV.sc undef, AV.sc undef, AV.sc undef, AV.sc undef]) 0 Try.func33 rfl rfl ?_
  change AW _ _ _ _ []
  refine AW.seq ?_
  refine AW.region ?_
  refine AL.r (rd_assign rfl rfl) ?_
  refine AL.nil ?_
  change AW _ _ _ _ _
  refine AW.seq ?_
  refine AW.seq ?_
  refine AW.region ?_
  refine AL.r (rd_move rfl rfl) ?_
  refine AL.r (rd_peq_nil rfl pt_25 rfl rfl) ?_
  refine AL.nil ?_
  change AW _ _ _ _ _
  refine AW.cond_t rfl ?_
  refine AW.seq ?_
  refine AW.region ?_
  refine AL.r (rd_assign rfl rfl) ?_
  refine AL.nil ?_
  change AW _ _ _ _ _
  refine AW.ret ?_
  change ResA _ _ _ _ _
  refine res1 rfl (ResV.tmp rfl) rfl ?_
  rfl
theorem nil_waits : AC Try.prog 29 [.sc (.pointer none)] (fun r => r = .s (.sc (.int .i64 0))) := by
  refine AC.of (t0 := [.sc (.pointer none), AV.sc undef, AV.sc undef, AV.sc undef, AV.sc undef, AV.sc undef, AV.sc undef, AV.sc undef, AV.sc undef]) 0 Try.func29 rfl rfl ?_
  change AW _ _ _ _ []
  refine AW.seq ?_
  refine AW.region ?_
  refine AL.r (rd_assign rfl rfl) ?_
  refine AL.nil ?_
  change AW _ _ _ _ _
  refine AW.seq ?_
  refine AW.seq ?_
  refine AW.region ?_
  refine AL.r (rd_move rfl rfl) ?_
  refine AL.r (rd_peq_nil rfl pt_25 rfl rfl) ?_
  refine AL.nil ?_
  change AW _ _ _ _ _
  refine AW.cond_t rfl ?_
  refine AW.seq ?_
  refine AW.region ?_
  refine AL.r (rd_assign rfl rfl) ?_
  refine AL.nil ?_
  change AW _ _ _ _ _
  refine AW.ret ?_
  change ResA _ _ _ _ _
  refine res1 rfl (ResV.tmp rfl) rfl ?_
  rfl
theorem nil_deeds : AC Try.prog 34 [.sc (.pointer none)] (fun r => r = .s (.sc (.int .i64 0))) := by
  refine AC.of (t0 := [.sc (.pointer none), AV.sc undef, AV.sc undef, AV.sc undef, AV.sc undef, AV.sc undef, AV.sc undef, AV.sc undef, AV.sc undef]) 0 Try.func34 rfl rfl ?_
  change AW _ _ _ _ []
  refine AW.seq ?_
  refine AW.region ?_
  refine AL.r (rd_assign rfl rfl) ?_
  refine AL.nil ?_
  change AW _ _ _ _ _
  refine AW.seq ?_
  refine AW.seq ?_
  refine AW.region ?_
  refine AL.r (rd_move rfl rfl) ?_
  refine AL.r (rd_peq_nil rfl pt_25 rfl rfl) ?_
  refine AL.nil ?_
  change AW _ _ _ _ _
  refine AW.cond_t rfl ?_
  refine AW.seq ?_
  refine AW.region ?_
  refine AL.r (rd_assign rfl rfl) ?_
  refine AL.nil ?_
  change AW _ _ _ _ _
  refine AW.ret ?_
  change ResA _ _ _ _ _
  refine res1 rfl (ResV.tmp rfl) rfl ?_
  rfl
end Go.Proofs.Ytgjpeldgjpgbcaa
