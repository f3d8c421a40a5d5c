/- The disk's small functions: right, burn, Left, over abstract states. -/
import Derived.Test.YtgjpeldgjpgbcaaDskA
namespace Go.Proofs.Ytgjpeldgjpgbcaa
set_option linter.unusedSimpArgs false
set_option linter.unusedVariables false
set_option maxRecDepth 100000
open Go.RowKit

theorem right_c (f : Int) : AC Try.prog 69 [.sc (.int .i64 f)] (fun r => r = .s (.sc (.bool (decide (0 ≤ f ∧ f < 4))))) := by
  refine AC.of (t0 := [.sc (.int .i64 f), AV.sc undef, AV.sc undef, AV.sc undef, AV.sc undef, AV.sc undef, AV.sc undef, AV.sc undef, AV.sc undef]) 0 Try.func69 rfl rfl ?_
  change AW _ _ _ _ []
  refine AW.seq ?_
  refine AW.region ?_
  refine AL.r (rd_assign rfl rfl) ?_
  refine AL.nil ?_
  change AW _ _ _ _ _
  refine AW.seq ?_
  refine AW.region ?_
  refine AL.r (rd_move rfl rfl) ?_
  refine AL.r (rd_bin rfl rfl rfl (fun _ => rfl)) ?_
  refine AL.r (rd_move rfl rfl) ?_
  refine AL.fork (d := 5) rfl (fun h5 => ?_) (fun h5 => ?_)
  · (try simp only [decide_eq_true_eq, decide_eq_false_iff_not, beq_iff_eq, beq_eq_false_iff_ne, bne_iff_ne, bne_eq_false_iff_eq, Bool.not_eq_true', Bool.not_eq_false', ne_eq, Bool.not_eq_eq_eq_not, Bool.not_true, Bool.not_false, gt_iff_lt, ge_iff_le, Bool.not_not] at h5)
    refine AL.n ?_
    refine AL.ro (rd_move rfl rfl) ?_
    refine AL.ro (rd_bin rfl rfl rfl (fun _ => rfl)) ?_
    refine AL.r (rd_pick_t rfl rfl rfl) ?_
    refine AL.r (rd_assign rfl rfl) ?_
    refine AL.nil ?_
    change AW _ _ _ _ _
    refine AW.ret ?_
    change ResA _ _ _ _ _
    refine res1 rfl (ResV.tmp rfl) rfl ?_
    simp_all <;> omega
  · (try simp only [decide_eq_true_eq, decide_eq_false_iff_not, beq_iff_eq, beq_eq_false_iff_ne, bne_iff_ne, bne_eq_false_iff_eq, Bool.not_eq_true', Bool.not_eq_false', ne_eq, Bool.not_eq_eq_eq_not, Bool.not_true, Bool.not_false, gt_iff_lt, ge_iff_le, Bool.not_not] at h5)
    refine AL.n ?_
    refine AL.rf ?_
    refine AL.rf ?_
    refine AL.r (rd_pick_f rfl rfl rfl) ?_
    refine AL.r (rd_assign rfl rfl) ?_
    refine AL.nil ?_
    change AW _ _ _ _ _
    refine AW.ret ?_
    change ResA _ _ _ _ _
    refine res1 rfl (ResV.tmp rfl) rfl ?_
    simp_all <;> omega
theorem right_in {f : Int} (h : 0 ≤ f ∧ f < 4) : AC Try.prog 69 [.sc (.int .i64 f)] (fun r => r = .s (.sc (.bool true))) := (right_c f).mono fun r hr => by rw [hr, decide_eq_true h]
theorem right_out {f : Int} (h : ¬(0 ≤ f ∧ f < 4)) : AC Try.prog 69 [.sc (.int .i64 f)] (fun r => r = .s (.sc (.bool false))) := (right_c f).mono fun r hr => by rw [hr, decide_eq_false h]

def burnN (d : DiskD) (n : Int) : Int := if d.fused = true ∧ n > d.fuse then d.fuse else n
def burnD (d : DiskD) (n : Int) : DiskD := { d with done := IntKind.i64.wrap (d.done + burnN d n), fuse := if d.fused then d.fuse - burnN d n else d.fuse, dark := if d.fused = true ∧ n > d.fuse then true else d.dark }
section
variable (d : DiskD) (g g1 g2 g3 g4 g5 g6 g7 g8 g9 : Nat)
theorem burn_c (n : Int) (hf : 0 ≤ d.fuse ∧ d.fuse < 9223372036854775808) (hn : 0 ≤ n) : ACo Try.prog 70 [.bx 0 g 0, .sc (.int .i64 n)] (diskT g g1 g2 g3 g4 g5 g6 g7 g8 g9 d)
    (fun y os' => y = .sc (.int .i64 (burnN d n)) ∧ os' = diskT g g1 g2 g3 g4 g5 g6 g7 g8 g9 (burnD d n)) := by
  refine ACo.of (t0 := [.bx 0 g 0, .sc (.int .i64 n), AV.sc undef, AV.sc undef, AV.sc undef, AV.sc undef, AV.sc undef, AV.sc undef, AV.sc undef, AV.sc undef, AV.sc undef, AV.sc undef, AV.sc undef, AV.sc undef, AV.sc undef, AV.sc undef, AV.sc undef, AV.sc undef, AV.sc undef, AV.sc undef, AV.sc undef, AV.sc undef, AV.sc undef, AV.sc undef, AV.sc undef, AV.sc undef, AV.sc undef, AV.sc undef, AV.sc undef, AV.sc undef, AV.sc undef, AV.sc undef, AV.sc undef, AV.sc undef, AV.sc undef, AV.sc undef, AV.sc undef, AV.sc undef, AV.sc undef, AV.sc undef, AV.sc undef, AV.sc undef, AV.sc undef, AV.sc undef, AV.sc undef]) (st0 := [⟨g, .box 99 [.sc (.int .i64 d.room), .ow 1 g1, .ow 2 g2, .ow 3 g3, .ow 4 g4, .ow 5 g5, .ow 6 g6, .ow 7 g7, .ow 8 g8, .ow 9 g9, .sc (.int .i64 d.waits), .sc (.int .i64 d.done), .sc (.bool d.fused), .sc (.int .i64 d.fuse), .sc (.bool d.dark)]⟩, ⟨g1, owM (d.nf 0) 5 1 (byA (d.n 0))⟩, ⟨g2, owM (d.nf 1) 5 1 (byA (d.n 1))⟩, ⟨g3, owM (d.nf 2) 5 1 (byA (d.n 2))⟩, ⟨g4, owM (d.nf 3) 5 1 (byA (d.n 3))⟩, ⟨g5, owM (d.lf 0) 5 1 (byA (d.l 0))⟩, ⟨g6, owM (d.lf 1) 5 1 (byA (d.l 1))⟩, ⟨g7, owM (d.lf 2) 5 1 (byA (d.l 2))⟩, ⟨g8, owM (d.lf 3) 5 1 (byA (d.l 3))⟩, ⟨g9, owM true 102 4 (d.q.map DeedD.cs)⟩]) 0 Try.func70 rfl rfl rfl 10 rfl ?_
  refine AW.seq ?_
  refine AW.region ?_
  refine AL.r (rd_assign rfl rfl) ?_
  refine AL.nil ?_
  change AW _ _ _ _ _
  refine AW.seq ?_
  refine AW.seq ?_
  refine AW.region ?_
  refine AL.r (rd_move rfl rfl) ?_
  refine AL.r (rd_nilc_bx rfl rfl rfl) ?_
  refine AL.r (rd_faddr_bx rfl fo_99_6 rfl rfl ⟨_, _, rfl⟩) ?_
  refine AL.r (rd_load_bx rfl ag_4 rfl rfl rfl) ?_
  refine AL.r (rd_move rfl rfl) ?_
  refine AL.fork (d := 9) rfl (fun h9 => ?_) (fun h9 => ?_)
  · (try simp only [decide_eq_true_eq, decide_eq_false_iff_not, beq_iff_eq, beq_eq_false_iff_ne, bne_iff_ne, bne_eq_false_iff_eq, Bool.not_eq_true', Bool.not_eq_false', ne_eq, Bool.not_eq_eq_eq_not, Bool.not_true, Bool.not_false, gt_iff_lt, ge_iff_le, Bool.not_not] at h9)
    refine AL.n ?_
    refine AL.ro (rd_move rfl rfl) ?_
    refine AL.ro (rd_move rfl rfl) ?_
    refine AL.ro (rd_nilc_bx rfl rfl rfl) ?_
    refine AL.ro (rd_faddr_bx rfl fo_99_7 rfl rfl ⟨_, _, rfl⟩) ?_
    refine AL.ro (rd_load_bx rfl ag_3 rfl rfl rfl) ?_
    refine AL.ro (rd_bin rfl rfl rfl (fun _ => rfl)) ?_
    refine AL.r (rd_pick_t rfl rfl rfl) ?_
    refine AL.nil ?_
    change AW _ _ _ _ _
    refine AW.cond rfl (fun h16 => ?_) (fun h16 => ?_)
    · (try simp only [decide_eq_true_eq, decide_eq_false_iff_not, beq_iff_eq, beq_eq_false_iff_ne, bne_iff_ne, bne_eq_false_iff_eq, Bool.not_eq_true', Bool.not_eq_false', ne_eq, Bool.not_eq_eq_eq_not, Bool.not_true, Bool.not_false, gt_iff_lt, ge_iff_le, Bool.not_not] at h16)
      refine AW.seq ?_
      refine AW.region ?_
      refine AL.r (rd_move rfl rfl) ?_
      refine AL.r (rd_nilc_bx rfl rfl rfl) ?_
      refine AL.r (rd_faddr_bx rfl fo_99_7 rfl rfl ⟨_, _, rfl⟩) ?_
      refine AL.r (rd_load_bx rfl ag_3 rfl rfl rfl) ?_
      refine AL.r (rd_assign rfl rfl) ?_
      refine AL.nil ?_
      change AW _ _ _ _ _
      refine AW.region ?_
      refine AL.r (rd_move rfl rfl) ?_
      refine AL.r (rd_nilc_bx rfl rfl rfl) ?_
      refine AL.r (rd_faddr_bx rfl fo_99_8 rfl rfl ⟨_, _, rfl⟩) ?_
      refine AL.op rfl (op_store rfl rfl rfl rfl rfl rfl sz_4 (Nat.le_of_ble_eq_true rfl) ?_)
      refine AL.no ?_
      refine AL.nil ?_
      change AW _ _ _ _ _
      refine AW.seq ?_
      refine AW.seq ?_
      refine AW.region ?_
      refine AL.r (rd_move rfl rfl) ?_
      refine AL.r (rd_nilc_bx rfl rfl rfl) ?_
      refine AL.r (rd_faddr_bx rfl fo_99_6 rfl rfl ⟨_, _, rfl⟩) ?_
      refine AL.r (rd_load_bx rfl ag_4 rfl rfl rfl) ?_
      refine AL.nil ?_
      change AW _ _ _ _ _
      refine AW.cond rfl (fun h27 => ?_) (fun h27 => ?_)
      · (try simp only [decide_eq_true_eq, decide_eq_false_iff_not, beq_iff_eq, beq_eq_false_iff_ne, bne_iff_ne, bne_eq_false_iff_eq, Bool.not_eq_true', Bool.not_eq_false', ne_eq, Bool.not_eq_eq_eq_not, Bool.not_true, Bool.not_false, gt_iff_lt, ge_iff_le, Bool.not_not] at h27)
        refine AW.region ?_
        refine AL.r (rd_move rfl rfl) ?_
        refine AL.r (rd_nilc_bx rfl rfl rfl) ?_
        refine AL.r (rd_faddr_bx rfl fo_99_7 rfl rfl ⟨_, _, rfl⟩) ?_
        refine AL.r (rd_load_bx rfl ag_3 rfl rfl rfl) ?_
        refine AL.r (rd_move rfl rfl) ?_
        refine AL.r (rd_arith_sub rfl rfl rfl (by first | exact IntWalk.i64_in _ (by omega) | rfl)) ?_
        refine AL.r (rd_nilc_bx rfl rfl rfl) ?_
        refine AL.r (rd_faddr_bx rfl fo_99_7 rfl rfl ⟨_, _, rfl⟩) ?_
        refine AL.op rfl (op_store rfl rfl rfl rfl rfl rfl sz_3 (Nat.le_of_ble_eq_true rfl) ?_)
        refine AL.no ?_
        refine AL.nil ?_
        change AW _ _ _ _ _
        refine AW.seq ?_
        refine AW.region ?_
        refine AL.r (rd_move rfl rfl) ?_
        refine AL.r (rd_nilc_bx rfl rfl rfl) ?_
        refine AL.r (rd_faddr_bx rfl fo_99_5 rfl rfl ⟨_, _, rfl⟩) ?_
        refine AL.r (rd_load_bx rfl ag_3 rfl rfl rfl) ?_
        refine AL.r (rd_move rfl rfl) ?_
        refine AL.r (rd_arith_add rfl rfl rfl (rfl)) ?_
        refine AL.r (rd_nilc_bx rfl rfl rfl) ?_
        refine AL.r (rd_faddr_bx rfl fo_99_5 rfl rfl ⟨_, _, rfl⟩) ?_
        refine AL.op rfl (op_store rfl rfl rfl rfl rfl rfl sz_3 (Nat.le_of_ble_eq_true rfl) ?_)
        refine AL.no ?_
        refine AL.nil ?_
        change AW _ _ _ _ _
        refine AW.seq ?_
        refine AW.region ?_
        refine AL.r (rd_move rfl rfl) ?_
        refine AL.r (rd_assign rfl rfl) ?_
        refine AL.nil ?_
        change AW _ _ _ _ _
        refine AW.ret ?_
        repeat with_reducible first | refine thenA_ret ?_ | refine inBlockA_ret ?_
        with_reducible first | refine retO_ret ?_ | refine retO_normal ?_
        refine reso1 rfl (Nat.le_of_ble_eq_true rfl) (by simp only [cleanS, cle_owM, cle_own, cle_nown, cle_obj, cle_off, cle_box, okC, liveA, List.take_succ_cons, List.take_zero, List.all_cons, List.all_nil, List.getElem?_cons_zero, List.getElem?_cons_succ, isO_owM, isO_own, isO_nown, TC.isB, beq_self_eq_true, Bool.and_self, Bool.and_true, ok1, ok2, List.map_cons, List.map_nil]) (ResV.tmp rfl) rfl (by simp only [cleanS, cle_owM, cle_own, cle_nown, cle_obj, cle_off, cle_box, okC, liveA, List.take_succ_cons, List.take_zero, List.all_cons, List.all_nil, List.getElem?_cons_zero, List.getElem?_cons_succ, isO_owM, isO_own, isO_nown, TC.isB, beq_self_eq_true, Bool.and_self, Bool.and_true, ok1, ok2, List.map_cons, List.map_nil]) ?_
        first | (simp [h9] at h27; done) | (simp [burnN, burnD, diskT, h9, h16]; done) | (simp [burnN, burnD, diskT, h9]; done)
      · (try simp only [decide_eq_true_eq, decide_eq_false_iff_not, beq_iff_eq, beq_eq_false_iff_ne, bne_iff_ne, bne_eq_false_iff_eq, Bool.not_eq_true', Bool.not_eq_false', ne_eq, Bool.not_eq_eq_eq_not, Bool.not_true, Bool.not_false, gt_iff_lt, ge_iff_le, Bool.not_not] at h27)
        refine AW.skip ?_
        change AW _ _ _ _ _
        refine AW.seq ?_
        refine AW.region ?_
        refine AL.r (rd_move rfl rfl) ?_
        refine AL.r (rd_nilc_bx rfl rfl rfl) ?_
        refine AL.r (rd_faddr_bx rfl fo_99_5 rfl rfl ⟨_, _, rfl⟩) ?_
        refine AL.r (rd_load_bx rfl ag_3 rfl rfl rfl) ?_
        refine AL.r (rd_move rfl rfl) ?_
        refine AL.r (rd_arith_add rfl rfl rfl (rfl)) ?_
        refine AL.r (rd_nilc_bx rfl rfl rfl) ?_
        refine AL.r (rd_faddr_bx rfl fo_99_5 rfl rfl ⟨_, _, rfl⟩) ?_
        refine AL.op rfl (op_store rfl rfl rfl rfl rfl rfl sz_3 (Nat.le_of_ble_eq_true rfl) ?_)
        refine AL.no ?_
        refine AL.nil ?_
        change AW _ _ _ _ _
        refine AW.seq ?_
        refine AW.region ?_
        refine AL.r (rd_move rfl rfl) ?_
        refine AL.r (rd_assign rfl rfl) ?_
        refine AL.nil ?_
        change AW _ _ _ _ _
        refine AW.ret ?_
        repeat with_reducible first | refine thenA_ret ?_ | refine inBlockA_ret ?_
        with_reducible first | refine retO_ret ?_ | refine retO_normal ?_
        refine reso1 rfl (Nat.le_of_ble_eq_true rfl) (by simp only [cleanS, cle_owM, cle_own, cle_nown, cle_obj, cle_off, cle_box, okC, liveA, List.take_succ_cons, List.take_zero, List.all_cons, List.all_nil, List.getElem?_cons_zero, List.getElem?_cons_succ, isO_owM, isO_own, isO_nown, TC.isB, beq_self_eq_true, Bool.and_self, Bool.and_true, ok1, ok2, List.map_cons, List.map_nil]) (ResV.tmp rfl) rfl (by simp only [cleanS, cle_owM, cle_own, cle_nown, cle_obj, cle_off, cle_box, okC, liveA, List.take_succ_cons, List.take_zero, List.all_cons, List.all_nil, List.getElem?_cons_zero, List.getElem?_cons_succ, isO_owM, isO_own, isO_nown, TC.isB, beq_self_eq_true, Bool.and_self, Bool.and_true, ok1, ok2, List.map_cons, List.map_nil]) ?_
        first | (simp [h9] at h27; done) | (simp [burnN, burnD, diskT, h9, h16]; done) | (simp [burnN, burnD, diskT, h9]; done)
    · (try simp only [decide_eq_true_eq, decide_eq_false_iff_not, beq_iff_eq, beq_eq_false_iff_ne, bne_iff_ne, bne_eq_false_iff_eq, Bool.not_eq_true', Bool.not_eq_false', ne_eq, Bool.not_eq_eq_eq_not, Bool.not_true, Bool.not_false, gt_iff_lt, ge_iff_le, Bool.not_not] at h16)
      refine AW.skip ?_
      change AW _ _ _ _ _
      refine AW.seq ?_
      refine AW.seq ?_
      refine AW.region ?_
      refine AL.r (rd_move rfl rfl) ?_
      refine AL.r (rd_nilc_bx rfl rfl rfl) ?_
      refine AL.r (rd_faddr_bx rfl fo_99_6 rfl rfl ⟨_, _, rfl⟩) ?_
      refine AL.r (rd_load_bx rfl ag_4 rfl rfl rfl) ?_
      refine AL.nil ?_
      change AW _ _ _ _ _
      refine AW.cond rfl (fun h27 => ?_) (fun h27 => ?_)
      · (try simp only [decide_eq_true_eq, decide_eq_false_iff_not, beq_iff_eq, beq_eq_false_iff_ne, bne_iff_ne, bne_eq_false_iff_eq, Bool.not_eq_true', Bool.not_eq_false', ne_eq, Bool.not_eq_eq_eq_not, Bool.not_true, Bool.not_false, gt_iff_lt, ge_iff_le, Bool.not_not] at h27)
        refine AW.region ?_
        refine AL.r (rd_move rfl rfl) ?_
        refine AL.r (rd_nilc_bx rfl rfl rfl) ?_
        refine AL.r (rd_faddr_bx rfl fo_99_7 rfl rfl ⟨_, _, rfl⟩) ?_
        refine AL.r (rd_load_bx rfl ag_3 rfl rfl rfl) ?_
        refine AL.r (rd_move rfl rfl) ?_
        refine AL.r (rd_arith_sub rfl rfl rfl (by first | exact IntWalk.i64_in _ (by omega) | rfl)) ?_
        refine AL.r (rd_nilc_bx rfl rfl rfl) ?_
        refine AL.r (rd_faddr_bx rfl fo_99_7 rfl rfl ⟨_, _, rfl⟩) ?_
        refine AL.op rfl (op_store rfl rfl rfl rfl rfl rfl sz_3 (Nat.le_of_ble_eq_true rfl) ?_)
        refine AL.no ?_
        refine AL.nil ?_
        change AW _ _ _ _ _
        refine AW.seq ?_
        refine AW.region ?_
        refine AL.r (rd_move rfl rfl) ?_
        refine AL.r (rd_nilc_bx rfl rfl rfl) ?_
        refine AL.r (rd_faddr_bx rfl fo_99_5 rfl rfl ⟨_, _, rfl⟩) ?_
        refine AL.r (rd_load_bx rfl ag_3 rfl rfl rfl) ?_
        refine AL.r (rd_move rfl rfl) ?_
        refine AL.r (rd_arith_add rfl rfl rfl (rfl)) ?_
        refine AL.r (rd_nilc_bx rfl rfl rfl) ?_
        refine AL.r (rd_faddr_bx rfl fo_99_5 rfl rfl ⟨_, _, rfl⟩) ?_
        refine AL.op rfl (op_store rfl rfl rfl rfl rfl rfl sz_3 (Nat.le_of_ble_eq_true rfl) ?_)
        refine AL.no ?_
        refine AL.nil ?_
        change AW _ _ _ _ _
        refine AW.seq ?_
        refine AW.region ?_
        refine AL.r (rd_move rfl rfl) ?_
        refine AL.r (rd_assign rfl rfl) ?_
        refine AL.nil ?_
        change AW _ _ _ _ _
        refine AW.ret ?_
        repeat with_reducible first | refine thenA_ret ?_ | refine inBlockA_ret ?_
        with_reducible first | refine retO_ret ?_ | refine retO_normal ?_
        refine reso1 rfl (Nat.le_of_ble_eq_true rfl) (by simp only [cleanS, cle_owM, cle_own, cle_nown, cle_obj, cle_off, cle_box, okC, liveA, List.take_succ_cons, List.take_zero, List.all_cons, List.all_nil, List.getElem?_cons_zero, List.getElem?_cons_succ, isO_owM, isO_own, isO_nown, TC.isB, beq_self_eq_true, Bool.and_self, Bool.and_true, ok1, ok2, List.map_cons, List.map_nil]) (ResV.tmp rfl) rfl (by simp only [cleanS, cle_owM, cle_own, cle_nown, cle_obj, cle_off, cle_box, okC, liveA, List.take_succ_cons, List.take_zero, List.all_cons, List.all_nil, List.getElem?_cons_zero, List.getElem?_cons_succ, isO_owM, isO_own, isO_nown, TC.isB, beq_self_eq_true, Bool.and_self, Bool.and_true, ok1, ok2, List.map_cons, List.map_nil]) ?_
        first | (simp [h9] at h27; done) | (simp [burnN, burnD, diskT, h9, h16]; done) | (simp [burnN, burnD, diskT, h9]; done)
      · (try simp only [decide_eq_true_eq, decide_eq_false_iff_not, beq_iff_eq, beq_eq_false_iff_ne, bne_iff_ne, bne_eq_false_iff_eq, Bool.not_eq_true', Bool.not_eq_false', ne_eq, Bool.not_eq_eq_eq_not, Bool.not_true, Bool.not_false, gt_iff_lt, ge_iff_le, Bool.not_not] at h27)
        refine AW.skip ?_
        change AW _ _ _ _ _
        refine AW.seq ?_
        refine AW.region ?_
        refine AL.r (rd_move rfl rfl) ?_
        refine AL.r (rd_nilc_bx rfl rfl rfl) ?_
        refine AL.r (rd_faddr_bx rfl fo_99_5 rfl rfl ⟨_, _, rfl⟩) ?_
        refine AL.r (rd_load_bx rfl ag_3 rfl rfl rfl) ?_
        refine AL.r (rd_move rfl rfl) ?_
        refine AL.r (rd_arith_add rfl rfl rfl (rfl)) ?_
        refine AL.r (rd_nilc_bx rfl rfl rfl) ?_
        refine AL.r (rd_faddr_bx rfl fo_99_5 rfl rfl ⟨_, _, rfl⟩) ?_
        refine AL.op rfl (op_store rfl rfl rfl rfl rfl rfl sz_3 (Nat.le_of_ble_eq_true rfl) ?_)
        refine AL.no ?_
        refine AL.nil ?_
        change AW _ _ _ _ _
        refine AW.seq ?_
        refine AW.region ?_
        refine AL.r (rd_move rfl rfl) ?_
        refine AL.r (rd_assign rfl rfl) ?_
        refine AL.nil ?_
        change AW _ _ _ _ _
        refine AW.ret ?_
        repeat with_reducible first | refine thenA_ret ?_ | refine inBlockA_ret ?_
        with_reducible first | refine retO_ret ?_ | refine retO_normal ?_
        refine reso1 rfl (Nat.le_of_ble_eq_true rfl) (by simp only [cleanS, cle_owM, cle_own, cle_nown, cle_obj, cle_off, cle_box, okC, liveA, List.take_succ_cons, List.take_zero, List.all_cons, List.all_nil, List.getElem?_cons_zero, List.getElem?_cons_succ, isO_owM, isO_own, isO_nown, TC.isB, beq_self_eq_true, Bool.and_self, Bool.and_true, ok1, ok2, List.map_cons, List.map_nil]) (ResV.tmp rfl) rfl (by simp only [cleanS, cle_owM, cle_own, cle_nown, cle_obj, cle_off, cle_box, okC, liveA, List.take_succ_cons, List.take_zero, List.all_cons, List.all_nil, List.getElem?_cons_zero, List.getElem?_cons_succ, isO_owM, isO_own, isO_nown, TC.isB, beq_self_eq_true, Bool.and_self, Bool.and_true, ok1, ok2, List.map_cons, List.map_nil]) ?_
        first | (simp [h9] at h27; done) | (simp [burnN, burnD, diskT, h9, h16]; done) | (simp [burnN, burnD, diskT, h9]; done)
  · (try simp only [decide_eq_true_eq, decide_eq_false_iff_not, beq_iff_eq, beq_eq_false_iff_ne, bne_iff_ne, bne_eq_false_iff_eq, Bool.not_eq_true', Bool.not_eq_false', ne_eq, Bool.not_eq_eq_eq_not, Bool.not_true, Bool.not_false, gt_iff_lt, ge_iff_le, Bool.not_not] at h9)
    refine AL.n ?_
    refine AL.rf ?_
    refine AL.rf ?_
    refine AL.rf ?_
    refine AL.rf ?_
    refine AL.rf ?_
    refine AL.rf ?_
    refine AL.r (rd_pick_f rfl rfl rfl) ?_
    refine AL.nil ?_
    change AW _ _ _ _ _
    refine AW.cond_f rfl ?_
    refine AW.skip ?_
    change AW _ _ _ _ _
    refine AW.seq ?_
    refine AW.seq ?_
    refine AW.region ?_
    refine AL.r (rd_move rfl rfl) ?_
    refine AL.r (rd_nilc_bx rfl rfl rfl) ?_
    refine AL.r (rd_faddr_bx rfl fo_99_6 rfl rfl ⟨_, _, rfl⟩) ?_
    refine AL.r (rd_load_bx rfl ag_4 rfl rfl rfl) ?_
    refine AL.nil ?_
    change AW _ _ _ _ _
    refine AW.cond rfl (fun h27 => ?_) (fun h27 => ?_)
    · (try simp only [decide_eq_true_eq, decide_eq_false_iff_not, beq_iff_eq, beq_eq_false_iff_ne, bne_iff_ne, bne_eq_false_iff_eq, Bool.not_eq_true', Bool.not_eq_false', ne_eq, Bool.not_eq_eq_eq_not, Bool.not_true, Bool.not_false, gt_iff_lt, ge_iff_le, Bool.not_not] at h27)
      refine AW.region ?_
      refine AL.r (rd_move rfl rfl) ?_
      refine AL.r (rd_nilc_bx rfl rfl rfl) ?_
      refine AL.r (rd_faddr_bx rfl fo_99_7 rfl rfl ⟨_, _, rfl⟩) ?_
      refine AL.r (rd_load_bx rfl ag_3 rfl rfl rfl) ?_
      refine AL.r (rd_move rfl rfl) ?_
      refine AL.r (rd_arith_sub rfl rfl rfl (by first | exact IntWalk.i64_in _ (by omega) | rfl)) ?_
      refine AL.r (rd_nilc_bx rfl rfl rfl) ?_
      refine AL.r (rd_faddr_bx rfl fo_99_7 rfl rfl ⟨_, _, rfl⟩) ?_
      refine AL.op rfl (op_store rfl rfl rfl rfl rfl rfl sz_3 (Nat.le_of_ble_eq_true rfl) ?_)
      refine AL.no ?_
      refine AL.nil ?_
      change AW _ _ _ _ _
      refine AW.seq ?_
      refine AW.region ?_
      refine AL.r (rd_move rfl rfl) ?_
      refine AL.r (rd_nilc_bx rfl rfl rfl) ?_
      refine AL.r (rd_faddr_bx rfl fo_99_5 rfl rfl ⟨_, _, rfl⟩) ?_
      refine AL.r (rd_load_bx rfl ag_3 rfl rfl rfl) ?_
      refine AL.r (rd_move rfl rfl) ?_
      refine AL.r (rd_arith_add rfl rfl rfl (rfl)) ?_
      refine AL.r (rd_nilc_bx rfl rfl rfl) ?_
      refine AL.r (rd_faddr_bx rfl fo_99_5 rfl rfl ⟨_, _, rfl⟩) ?_
      refine AL.op rfl (op_store rfl rfl rfl rfl rfl rfl sz_3 (Nat.le_of_ble_eq_true rfl) ?_)
      refine AL.no ?_
      refine AL.nil ?_
      change AW _ _ _ _ _
      refine AW.seq ?_
      refine AW.region ?_
      refine AL.r (rd_move rfl rfl) ?_
      refine AL.r (rd_assign rfl rfl) ?_
      refine AL.nil ?_
      change AW _ _ _ _ _
      refine AW.ret ?_
      repeat with_reducible first | refine thenA_ret ?_ | refine inBlockA_ret ?_
      with_reducible first | refine retO_ret ?_ | refine retO_normal ?_
      refine reso1 rfl (Nat.le_of_ble_eq_true rfl) (by simp only [cleanS, cle_owM, cle_own, cle_nown, cle_obj, cle_off, cle_box, okC, liveA, List.take_succ_cons, List.take_zero, List.all_cons, List.all_nil, List.getElem?_cons_zero, List.getElem?_cons_succ, isO_owM, isO_own, isO_nown, TC.isB, beq_self_eq_true, Bool.and_self, Bool.and_true, ok1, ok2, List.map_cons, List.map_nil]) (ResV.tmp rfl) rfl (by simp only [cleanS, cle_owM, cle_own, cle_nown, cle_obj, cle_off, cle_box, okC, liveA, List.take_succ_cons, List.take_zero, List.all_cons, List.all_nil, List.getElem?_cons_zero, List.getElem?_cons_succ, isO_owM, isO_own, isO_nown, TC.isB, beq_self_eq_true, Bool.and_self, Bool.and_true, ok1, ok2, List.map_cons, List.map_nil]) ?_
      first | (simp [h9] at h27; done) | (simp [burnN, burnD, diskT, h9, h16]; done) | (simp [burnN, burnD, diskT, h9]; done)
    · (try simp only [decide_eq_true_eq, decide_eq_false_iff_not, beq_iff_eq, beq_eq_false_iff_ne, bne_iff_ne, bne_eq_false_iff_eq, Bool.not_eq_true', Bool.not_eq_false', ne_eq, Bool.not_eq_eq_eq_not, Bool.not_true, Bool.not_false, gt_iff_lt, ge_iff_le, Bool.not_not] at h27)
      refine AW.skip ?_
      change AW _ _ _ _ _
      refine AW.seq ?_
      refine AW.region ?_
      refine AL.r (rd_move rfl rfl) ?_
      refine AL.r (rd_nilc_bx rfl rfl rfl) ?_
      refine AL.r (rd_faddr_bx rfl fo_99_5 rfl rfl ⟨_, _, rfl⟩) ?_
      refine AL.r (rd_load_bx rfl ag_3 rfl rfl rfl) ?_
      refine AL.r (rd_move rfl rfl) ?_
      refine AL.r (rd_arith_add rfl rfl rfl (rfl)) ?_
      refine AL.r (rd_nilc_bx rfl rfl rfl) ?_
      refine AL.r (rd_faddr_bx rfl fo_99_5 rfl rfl ⟨_, _, rfl⟩) ?_
      refine AL.op rfl (op_store rfl rfl rfl rfl rfl rfl sz_3 (Nat.le_of_ble_eq_true rfl) ?_)
      refine AL.no ?_
      refine AL.nil ?_
      change AW _ _ _ _ _
      refine AW.seq ?_
      refine AW.region ?_
      refine AL.r (rd_move rfl rfl) ?_
      refine AL.r (rd_assign rfl rfl) ?_
      refine AL.nil ?_
      change AW _ _ _ _ _
      refine AW.ret ?_
      repeat with_reducible first | refine thenA_ret ?_ | refine inBlockA_ret ?_
      with_reducible first | refine retO_ret ?_ | refine retO_normal ?_
      refine reso1 rfl (Nat.le_of_ble_eq_true rfl) (by simp only [cleanS, cle_owM, cle_own, cle_nown, cle_obj, cle_off, cle_box, okC, liveA, List.take_succ_cons, List.take_zero, List.all_cons, List.all_nil, List.getElem?_cons_zero, List.getElem?_cons_succ, isO_owM, isO_own, isO_nown, TC.isB, beq_self_eq_true, Bool.and_self, Bool.and_true, ok1, ok2, List.map_cons, List.map_nil]) (ResV.tmp rfl) rfl (by simp only [cleanS, cle_owM, cle_own, cle_nown, cle_obj, cle_off, cle_box, okC, liveA, List.take_succ_cons, List.take_zero, List.all_cons, List.all_nil, List.getElem?_cons_zero, List.getElem?_cons_succ, isO_owM, isO_own, isO_nown, TC.isB, beq_self_eq_true, Bool.and_self, Bool.and_true, ok1, ok2, List.map_cons, List.map_nil]) ?_
      first | (simp [h9] at h27; done) | (simp [burnN, burnD, diskT, h9, h16]; done) | (simp [burnN, burnD, diskT, h9]; done)
theorem left_c (hr : 0 ≤ d.room ∧ d.room ≤ 200000) (hn : ∀ i, (d.n i).length ≤ 1099511627776) : ACo Try.prog 32 [.bx 0 g 0] (diskT g g1 g2 g3 g4 g5 g6 g7 g8 g9 d)
    (fun y os' => y = .sc (.int .i64 (d.room - (d.n 0).length - (d.n 1).length - (d.n 2).length - (d.n 3).length)) ∧ os' = diskT g g1 g2 g3 g4 g5 g6 g7 g8 g9 d) := by
  have hn0 := hn 0; have hn1 := hn 1; have hn2 := hn 2; have hn3 := hn 3
  refine ACo.of (t0 := [.bx 0 g 0, AV.sc undef, AV.sc undef, AV.sc undef, AV.sc undef, AV.sc undef, AV.sc undef, AV.sc undef, AV.sc undef, AV.sc undef, AV.sc undef, AV.sc undef, AV.sc undef, AV.sc undef, AV.sc undef, AV.sc undef, AV.sc undef, AV.sc undef, AV.sc undef, AV.sc undef, AV.sc undef, AV.sc undef, AV.sc undef, AV.sc undef, AV.sc undef]) (st0 := [⟨g, .box 99 [.sc (.int .i64 d.room), .ow 1 g1, .ow 2 g2, .ow 3 g3, .ow 4 g4, .ow 5 g5, .ow 6 g6, .ow 7 g7, .ow 8 g8, .ow 9 g9, .sc (.int .i64 d.waits), .sc (.int .i64 d.done), .sc (.bool d.fused), .sc (.int .i64 d.fuse), .sc (.bool d.dark)]⟩, ⟨g1, owM (d.nf 0) 5 1 (byA (d.n 0))⟩, ⟨g2, owM (d.nf 1) 5 1 (byA (d.n 1))⟩, ⟨g3, owM (d.nf 2) 5 1 (byA (d.n 2))⟩, ⟨g4, owM (d.nf 3) 5 1 (byA (d.n 3))⟩, ⟨g5, owM (d.lf 0) 5 1 (byA (d.l 0))⟩, ⟨g6, owM (d.lf 1) 5 1 (byA (d.l 1))⟩, ⟨g7, owM (d.lf 2) 5 1 (byA (d.l 2))⟩, ⟨g8, owM (d.lf 3) 5 1 (byA (d.l 3))⟩, ⟨g9, owM true 102 4 (d.q.map DeedD.cs)⟩]) 0 Try.func32 rfl rfl rfl 10 rfl ?_
  refine AW.seq ?_
  refine AW.region ?_
  refine AL.r (rd_assign rfl rfl) ?_
  refine AL.nil ?_
  change AW _ _ _ _ _
  refine AW.seq ?_
  refine AW.seq ?_
  refine AW.region ?_
  refine AL.r (rd_move rfl rfl) ?_
  refine AL.r (rd_peq_bx rfl pt_25 rfl rfl rfl) ?_
  refine AL.nil ?_
  change AW _ _ _ _ _
  refine AW.cond_f rfl ?_
  refine AW.skip ?_
  change AW _ _ _ _ _
  refine AW.seq ?_
  refine AW.region ?_
  refine AL.r (rd_move rfl rfl) ?_
  refine AL.r (rd_nilc_bx rfl rfl rfl) ?_
  refine AL.r (rd_faddr_bx rfl fo_99_0 rfl rfl ⟨_, _, rfl⟩) ?_
  refine AL.r (rd_load_bx rfl ag_3 rfl rfl rfl) ?_
  refine AL.r (rd_assign rfl rfl) ?_
  refine AL.nil ?_
  change AW _ _ _ _ _
  refine AW.seq ?_
  refine AW.seq ?_
  refine AW.region ?_
  refine AL.r (rd_move rfl rfl) ?_
  refine AL.r (rd_nilc_bx rfl rfl rfl) ?_
  refine AL.r (rd_faddr_bx rfl fo_99_1 rfl rfl ⟨_, _, rfl⟩) ?_
  refine AL.r (rd_loadN_bx rfl ag_37 rfl rfl (Nat.le_of_ble_eq_true rfl) rfl) ?_
  refine AL.r (rd_move rfl rfl) ?_
  refine AL.nil ?_
  change AW _ _ _ _ _
  refine AW.block ?_
  refine AW.unroll 5 ?_
  change AW _ _ _ _ _
  refine AW.seq ?_
  refine AW.region ?_
  refine AL.r (rd_bin rfl rfl rfl (fun _ => rfl)) ?_
  refine AL.nil ?_
  change AW _ _ _ _ _
  refine AW.seq ?_
  refine AW.cond_t rfl ?_
  refine AW.skip ?_
  change AW _ _ _ _ _
  refine AW.seq ?_
  refine AW.block ?_
  refine AW.seq ?_
  refine AW.region ?_
  refine AL.r (rd_index_ag (i := 0) rfl ar_37 ag_29 rfl rfl (by first | rfl | omega) (by decide) rfl) ?_
  refine AL.r (rd_assign rfl rfl) ?_
  refine AL.nil ?_
  change AW _ _ _ _ _
  refine AW.region ?_
  refine AL.r (rd_move rfl rfl) ?_
  refine AL.r (rd_move rfl rfl) ?_
  refine AL.r (rd_len_owM rfl el_29 rfl rfl) ?_
  refine AL.r (rd_arith_sub rfl rfl rfl (by first | exact IntWalk.i64_in _ (by omega) | rfl)) ?_
  refine AL.r (rd_assign rfl rfl) ?_
  refine AL.nil ?_
  change AW _ _ _ _ _
  refine AW.region ?_
  refine AL.r (rd_arith_add rfl rfl rfl (rfl : _ = (1 : Int))) ?_
  refine AL.r (rd_move rfl rfl) ?_
  refine AL.nil ?_
  change AW _ _ _ _ _
  refine AW.seq ?_
  refine AW.region ?_
  refine AL.r (rd_bin rfl rfl rfl (fun _ => rfl)) ?_
  refine AL.nil ?_
  change AW _ _ _ _ _
  refine AW.seq ?_
  refine AW.cond_t rfl ?_
  refine AW.skip ?_
  change AW _ _ _ _ _
  refine AW.seq ?_
  refine AW.block ?_
  refine AW.seq ?_
  refine AW.region ?_
  refine AL.r (rd_index_ag (i := 1) rfl ar_37 ag_29 rfl rfl (by first | rfl | omega) (by decide) rfl) ?_
  refine AL.r (rd_assign rfl rfl) ?_
  refine AL.nil ?_
  change AW _ _ _ _ _
  refine AW.region ?_
  refine AL.r (rd_move rfl rfl) ?_
  refine AL.r (rd_move rfl rfl) ?_
  refine AL.r (rd_len_owM rfl el_29 rfl rfl) ?_
  refine AL.r (rd_arith_sub rfl rfl rfl (by first | exact IntWalk.i64_in _ (by omega) | rfl)) ?_
  refine AL.r (rd_assign rfl rfl) ?_
  refine AL.nil ?_
  change AW _ _ _ _ _
  refine AW.region ?_
  refine AL.r (rd_arith_add rfl rfl rfl (rfl : _ = (2 : Int))) ?_
  refine AL.r (rd_move rfl rfl) ?_
  refine AL.nil ?_
  change AW _ _ _ _ _
  refine AW.seq ?_
  refine AW.region ?_
  refine AL.r (rd_bin rfl rfl rfl (fun _ => rfl)) ?_
  refine AL.nil ?_
  change AW _ _ _ _ _
  refine AW.seq ?_
  refine AW.cond_t rfl ?_
  refine AW.skip ?_
  change AW _ _ _ _ _
  refine AW.seq ?_
  refine AW.block ?_
  refine AW.seq ?_
  refine AW.region ?_
  refine AL.r (rd_index_ag (i := 2) rfl ar_37 ag_29 rfl rfl (by first | rfl | omega) (by decide) rfl) ?_
  refine AL.r (rd_assign rfl rfl) ?_
  refine AL.nil ?_
  change AW _ _ _ _ _
  refine AW.region ?_
  refine AL.r (rd_move rfl rfl) ?_
  refine AL.r (rd_move rfl rfl) ?_
  refine AL.r (rd_len_owM rfl el_29 rfl rfl) ?_
  refine AL.r (rd_arith_sub rfl rfl rfl (by first | exact IntWalk.i64_in _ (by omega) | rfl)) ?_
  refine AL.r (rd_assign rfl rfl) ?_
  refine AL.nil ?_
  change AW _ _ _ _ _
  refine AW.region ?_
  refine AL.r (rd_arith_add rfl rfl rfl (rfl : _ = (3 : Int))) ?_
  refine AL.r (rd_move rfl rfl) ?_
  refine AL.nil ?_
  change AW _ _ _ _ _
  refine AW.seq ?_
  refine AW.region ?_
  refine AL.r (rd_bin rfl rfl rfl (fun _ => rfl)) ?_
  refine AL.nil ?_
  change AW _ _ _ _ _
  refine AW.seq ?_
  refine AW.cond_t rfl ?_
  refine AW.skip ?_
  change AW _ _ _ _ _
  refine AW.seq ?_
  refine AW.block ?_
  refine AW.seq ?_
  refine AW.region ?_
  refine AL.r (rd_index_ag (i := 3) rfl ar_37 ag_29 rfl rfl (by first | rfl | omega) (by decide) rfl) ?_
  refine AL.r (rd_assign rfl rfl) ?_
  refine AL.nil ?_
  change AW _ _ _ _ _
  refine AW.region ?_
  refine AL.r (rd_move rfl rfl) ?_
  refine AL.r (rd_move rfl rfl) ?_
  refine AL.r (rd_len_owM rfl el_29 rfl rfl) ?_
  refine AL.r (rd_arith_sub rfl rfl rfl (by first | exact IntWalk.i64_in _ (by omega) | rfl)) ?_
  refine AL.r (rd_assign rfl rfl) ?_
  refine AL.nil ?_
  change AW _ _ _ _ _
  refine AW.region ?_
  refine AL.r (rd_arith_add rfl rfl rfl (rfl : _ = (4 : Int))) ?_
  refine AL.r (rd_move rfl rfl) ?_
  refine AL.nil ?_
  change AW _ _ _ _ _
  refine AW.seq ?_
  refine AW.region ?_
  refine AL.r (rd_bin rfl rfl rfl (fun _ => rfl)) ?_
  refine AL.nil ?_
  change AW _ _ _ _ _
  refine AW.seq ?_
  refine AW.cond_f rfl ?_
  refine AW.exit ?_
  change AW _ _ _ _ _
  refine AW.seq ?_
  refine AW.region ?_
  refine AL.r (rd_move rfl rfl) ?_
  refine AL.r (rd_assign rfl rfl) ?_
  refine AL.nil ?_
  change AW _ _ _ _ _
  refine AW.ret ?_
  repeat with_reducible first | refine thenA_ret ?_ | refine inBlockA_ret ?_
  with_reducible first | refine retO_ret ?_ | refine retO_normal ?_
  refine reso1 rfl (Nat.le_of_ble_eq_true rfl) (by simp only [cleanS, cle_owM, cle_own, cle_nown, cle_obj, cle_off, cle_box, okC, liveA, List.take_succ_cons, List.take_zero, List.all_cons, List.all_nil, List.getElem?_cons_zero, List.getElem?_cons_succ, isO_owM, isO_own, isO_nown, TC.isB, beq_self_eq_true, Bool.and_self, Bool.and_true, ok1, ok2, List.map_cons, List.map_nil]) (ResV.tmp rfl) rfl (by simp only [cleanS, cle_owM, cle_own, cle_nown, cle_obj, cle_off, cle_box, okC, liveA, List.take_succ_cons, List.take_zero, List.all_cons, List.all_nil, List.getElem?_cons_zero, List.getElem?_cons_succ, isO_owM, isO_own, isO_nown, TC.isB, beq_self_eq_true, Bool.and_self, Bool.and_true, ok1, ok2, List.map_cons, List.map_nil]) ?_
  exact ⟨rfl, rfl⟩
end
end Go.Proofs.Ytgjpeldgjpgbcaa
