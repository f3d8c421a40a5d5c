/- Whether an op is right, and fits a schema, walked over abstract states. The walks of the law OpOrders' example: kind 3, no drops. -/
import Derived.Test.YtfnpgaiaebkkmaaOpD
import Derived.Test.YtfnpgaiaebkkmaaAh
namespace Go.Proofs.Ytfnpgaiaebkkmaa
set_option linter.unusedSimpArgs false
set_option linter.unusedVariables false
set_option maxRecDepth 100000
open Go.RowKit

theorem opD_iff (a b : OpD) : a = b ↔ a.id = b.id ∧ a.schema = b.schema ∧ a.time = b.time ∧ a.cart = b.cart ∧ a.kind = b.kind ∧ a.item = b.item ∧ a.at_ = b.at_ ∧ a.delta = b.delta ∧ a.has = b.has ∧ a.text = b.text ∧ a.drops = b.drops := by
  cases a; cases b; simp
theorem tagD_iff (a b : TagD) : a = b ↔ a.rep = b.rep ∧ a.n = b.n := by cases a; cases b; simp
theorem refD_iff (a b : RefD) : a = b ↔ a.scope = b.scope ∧ a.group = b.group ∧ a.name = b.name := by cases a; cases b; simp
/-- The parts of an op of kind 3. -/
def parts3 (o : OpD) : OpD := ⟨o.id, o.schema, o.time, o.cart, o.kind, if o.at_.scope = 1 then o.item else [], o.at_, o.delta, false, [], []⟩
set_option maxHeartbeats 1000000 in
theorem parts3_c (o : OpD) (h : o.kind = 3) : AC Try.prog 113 [o.av] (fun r => r = .s (.tu [(parts3 o).av, AB true])) := by
  refine AC.of (t0 := [.ag [AI o.id.rep, AI o.id.n, AI o.schema.rep, AI o.schema.n, AI o.time, AS o.cart, AI o.kind, AS o.item, AI o.at_.scope, AS o.at_.group, AS o.at_.name, AI o.delta, AB o.has, AS o.text, .sl (o.drops.map TagD.cs)], AV.sc undef, AV.sc undef, AV.sc undef, AV.sc undef, AV.sc undef, AV.sc undef, AV.sc undef, AV.sc undef, AV.sc undef, AV.sc undef, AV.sc undef, AV.sc undef, AV.sc undef, AV.sc undef, AV.sc undef, AV.sc undef, AV.sc undef, AV.sc undef, AV.sc undef, AV.sc undef, AV.sc undef, AV.sc undef, AV.sc undef, AV.sc undef, AV.sc undef, AV.sc undef, AV.sc undef, AV.sc undef, AV.sc undef, AV.sc undef, AV.sc undef, AV.sc undef, AV.sc undef, AV.sc undef, AV.sc undef, AV.sc undef, AV.sc undef, AV.sc undef, AV.sc undef, AV.sc undef, AV.sc undef, AV.sc undef, AV.sc undef, AV.sc undef, AV.sc undef, AV.sc undef, AV.sc undef, AV.sc undef, AV.sc undef, AV.sc undef, AV.sc undef, AV.sc undef, AV.sc undef, AV.sc undef, AV.sc undef, AV.sc undef, AV.sc undef, AV.sc undef, AV.sc undef, AV.sc undef, AV.sc undef, AV.sc undef, AV.sc undef, AV.sc undef, AV.sc undef, AV.sc undef, AV.sc undef, AV.sc undef, AV.sc undef, AV.sc undef, AV.sc undef, AV.sc undef]) 3 Try.func113 rfl rfl ?_
  change AW _ _ _ _ [TK.mk 0 .off, TK.mk 0 .off, TK.mk 0 .off]
  refine AW.seq ?_
  refine AW.region ?_
  refine AL.op rfl (AOpB.op (op_box 0 rfl rfl rfl rfl rfl ?_))
  refine AL.n ?_
  refine AL.op rfl (AOpB.op (op_alloc 1 rfl ze_70 rfl ?_))
  refine AL.n ?_
  refine AL.r (rd_assign rfl rfl) ?_
  refine AL.nil ?_
  change AW _ _ _ _ _
  refine AW.seq ?_
  refine AW.region ?_
  refine AL.r (rd_faddr_bx rfl fo_70_0 rfl rfl ⟨_, _, rfl⟩) ?_
  refine AL.r (rd_loadN_bx rfl ag_59 rfl rfl (Nat.le_of_ble_eq_true rfl) rfl) ?_
  refine AL.r (rd_faddr_bx rfl fo_70_1 rfl rfl ⟨_, _, rfl⟩) ?_
  refine AL.r (rd_loadN_bx rfl ag_59 rfl rfl (Nat.le_of_ble_eq_true rfl) rfl) ?_
  refine AL.r (rd_faddr_bx rfl fo_70_2 rfl rfl ⟨_, _, rfl⟩) ?_
  refine AL.r (rd_load_bx rfl ag_2 rfl rfl rfl) ?_
  refine AL.r (rd_faddr_bx rfl fo_70_3 rfl rfl ⟨_, _, rfl⟩) ?_
  refine AL.r (rd_load_bx rfl ag_9 rfl rfl rfl) ?_
  refine AL.r (rd_faddr_bx rfl fo_70_4 rfl rfl ⟨_, _, rfl⟩) ?_
  refine AL.r (rd_load_bx rfl ag_3 rfl rfl rfl) ?_
  refine AL.r (rd_build rfl pl_70 ze_70 rfl rfl) ?_
  refine AL.op rfl (AOpB.op (op_alloc 2 rfl ze_70 rfl ?_))
  refine AL.n ?_
  refine AL.op rfl (op_store rfl rfl rfl rfl rfl rfl sz_70 (Nat.le_of_ble_eq_true rfl) ?_)
  refine AL.b ?_
  refine AL.nil ?_
  change AW _ _ _ _ _
  refine AW.seq ?_
  refine AW.seq ?_
  refine AW.region ?_
  refine AL.b ?_
  refine AL.r (rd_faddr_bx rfl fo_70_4 rfl rfl ⟨_, _, rfl⟩) ?_
  refine AL.r (rd_load_bx rfl ag_3 rfl rfl rfl) ?_
  refine AL.nil ?_
  change AW _ _ _ _ _
  refine AW.block ?_
  refine AW.seq ?_
  refine AW.region ?_
  refine AL.r (rd_bin rfl rfl rfl (fun _ => rfl)) ?_
  refine AL.r (rd_assign rfl rfl) ?_
  refine AL.nil ?_
  change AW _ _ _ _ _
  refine AW.cond rfl (fun h19 => ?_) (fun h19 => ?_)
  · (try simp only [decide_eq_true_eq, decide_eq_false_iff_not, beq_iff_eq, beq_eq_false_iff_ne, bne_iff_ne, bne_eq_false_iff_eq, Bool.not_eq_true', Bool.not_eq_false', ne_eq, Bool.not_eq_eq_eq_not, Bool.not_true, Bool.not_false, gt_iff_lt, ge_iff_le, Bool.not_not] at h19)
    omega
  · (try simp only [decide_eq_true_eq, decide_eq_false_iff_not, beq_iff_eq, beq_eq_false_iff_ne, bne_iff_ne, bne_eq_false_iff_eq, Bool.not_eq_true', Bool.not_eq_false', ne_eq, Bool.not_eq_eq_eq_not, Bool.not_true, Bool.not_false, gt_iff_lt, ge_iff_le, Bool.not_not] at h19)
    refine AW.seq ?_
    refine AW.region ?_
    refine AL.r (rd_bin rfl rfl rfl (fun _ => rfl)) ?_
    refine AL.r (rd_assign rfl rfl) ?_
    refine AL.nil ?_
    change AW _ _ _ _ _
    refine AW.cond rfl (fun h24 => ?_) (fun h24 => ?_)
    · (try simp only [decide_eq_true_eq, decide_eq_false_iff_not, beq_iff_eq, beq_eq_false_iff_ne, bne_iff_ne, bne_eq_false_iff_eq, Bool.not_eq_true', Bool.not_eq_false', ne_eq, Bool.not_eq_eq_eq_not, Bool.not_true, Bool.not_false, gt_iff_lt, ge_iff_le, Bool.not_not] at h24)
      omega
    · (try simp only [decide_eq_true_eq, decide_eq_false_iff_not, beq_iff_eq, beq_eq_false_iff_ne, bne_iff_ne, bne_eq_false_iff_eq, Bool.not_eq_true', Bool.not_eq_false', ne_eq, Bool.not_eq_eq_eq_not, Bool.not_true, Bool.not_false, gt_iff_lt, ge_iff_le, Bool.not_not] at h24)
      refine AW.seq ?_
      refine AW.region ?_
      refine AL.r (rd_bin rfl rfl rfl (fun _ => rfl)) ?_
      refine AL.r (rd_assign rfl rfl) ?_
      refine AL.nil ?_
      change AW _ _ _ _ _
      refine AW.cond rfl (fun h32 => ?_) (fun h32 => ?_)
      · (try simp only [decide_eq_true_eq, decide_eq_false_iff_not, beq_iff_eq, beq_eq_false_iff_ne, bne_iff_ne, bne_eq_false_iff_eq, Bool.not_eq_true', Bool.not_eq_false', ne_eq, Bool.not_eq_eq_eq_not, Bool.not_true, Bool.not_false, gt_iff_lt, ge_iff_le, Bool.not_not] at h32)
        refine AW.drawX 2 (by kernel_rfl) ?_
        refine ADX.r 0 rfl (rdX_faddr_bx rfl fo_70_6 rfl rfl ⟨_, _, rfl⟩) rfl ?_
        refine ADX.r 1 rfl (rdX_loadN_bx rfl ag_27 rfl rfl (Nat.le_of_ble_eq_true rfl) rfl) rfl ?_
        refine ADX.r 2 rfl (rdX_faddr_bx rfl fo_70_7 rfl rfl ⟨_, _, rfl⟩) rfl ?_
        refine ADX.r 3 rfl (rdX_load_bx rfl ag_2 rfl rfl rfl) rfl ?_
        refine ADX.r 4 rfl (rdX_faddr_bx rfl fo_70_6 rfl rfl ⟨_, _, rfl⟩) rfl ?_
        refine ADX.store 5 rfl (by kernel_rfl) rfl rfl rfl rfl rfl rfl rfl sz_27 (Nat.le_of_ble_eq_true rfl) ?_
        refine ADX.n ?_
        refine ADX.r 6 rfl (rdX_faddr_bx rfl fo_70_7 rfl rfl ⟨_, _, rfl⟩) rfl ?_
        refine ADX.store 7 rfl (by kernel_rfl) rfl rfl rfl rfl rfl rfl rfl sz_2 (Nat.le_of_ble_eq_true rfl) ?_
        refine ADX.n ?_
        refine ADX.done (by kernel_rfl) ?_
        change AW _ _ _ _ _
        refine AW.seq ?_
        refine AW.seq ?_
        refine AW.region ?_
        refine AL.r (rd_loadN_bx rfl ag_70 rfl rfl (Nat.le_of_ble_eq_true rfl) rfl) ?_
        refine AL.op rfl (AOpB.op (op_call (placed_c o) rfl (by kernel_rfl) rfl (none) ?_))
        rintro r rfl
        refine AL.n ?_
        refine AL.r (rd_move rfl rfl) ?_
        refine AL.fork (d := 63) rfl (fun h63 => ?_) (fun h63 => ?_)
        · (try simp only [decide_eq_true_eq, decide_eq_false_iff_not, beq_iff_eq, beq_eq_false_iff_ne, bne_iff_ne, bne_eq_false_iff_eq, Bool.not_eq_true', Bool.not_eq_false', ne_eq, Bool.not_eq_eq_eq_not, Bool.not_true, Bool.not_false, gt_iff_lt, ge_iff_le, Bool.not_not] at h63)
          refine AL.n ?_
          refine AL.ro (rd_faddr_bx rfl fo_70_6 rfl rfl ⟨_, _, rfl⟩) ?_
          refine AL.ro (rd_faddr_bx rfl fo_27_0 rfl rfl ⟨_, _, rfl⟩) ?_
          refine AL.ro (rd_load_bx rfl ag_3 rfl rfl rfl) ?_
          refine AL.ro (rd_bin rfl rfl rfl (fun _ => rfl)) ?_
          refine AL.r (rd_pick_t rfl rfl rfl) ?_
          refine AL.nil ?_
          change AW _ _ _ _ _
          refine AW.cond rfl (fun h68 => ?_) (fun h68 => ?_)
          · (try simp only [decide_eq_true_eq, decide_eq_false_iff_not, beq_iff_eq, beq_eq_false_iff_ne, bne_iff_ne, bne_eq_false_iff_eq, Bool.not_eq_true', Bool.not_eq_false', ne_eq, Bool.not_eq_eq_eq_not, Bool.not_true, Bool.not_false, gt_iff_lt, ge_iff_le, Bool.not_not] at h68)
            refine AW.region ?_
            refine AL.r (rd_faddr_bx rfl fo_70_5 rfl rfl ⟨_, _, rfl⟩) ?_
            refine AL.r (rd_load_bx rfl ag_9 rfl rfl rfl) ?_
            refine AL.r (rd_faddr_bx rfl fo_70_5 rfl rfl ⟨_, _, rfl⟩) ?_
            refine AL.op rfl (op_store rfl rfl rfl rfl rfl rfl sz_9 (Nat.le_of_ble_eq_true rfl) ?_)
            refine AL.b ?_
            refine AL.nil ?_
            change AW _ _ _ _ _
            refine AW.seq ?_
            refine AW.region ?_
            refine AL.r (rd_loadN_bx rfl ag_70 rfl rfl (Nat.le_of_ble_eq_true rfl) rfl) ?_
            refine AL.op rfl (op_store rfl rfl rfl rfl rfl rfl sz_70 (Nat.le_of_ble_eq_true rfl) ?_)
            refine AL.b ?_
            refine AL.r (rd_assign rfl rfl) ?_
            refine AL.nil ?_
            change AW _ _ _ _ _
            refine AW.ret ?_
            change ResA _ _ _ _ _
            refine res2 rfl (ResV.cells rfl rfl ag_70 (Nat.le_of_ble_eq_true rfl) rfl) rfl (ResV.tmp rfl) rfl ?_
            simp_all [parts3, OpD.cs]
          · (try simp only [decide_eq_true_eq, decide_eq_false_iff_not, beq_iff_eq, beq_eq_false_iff_ne, bne_iff_ne, bne_eq_false_iff_eq, Bool.not_eq_true', Bool.not_eq_false', ne_eq, Bool.not_eq_eq_eq_not, Bool.not_true, Bool.not_false, gt_iff_lt, ge_iff_le, Bool.not_not] at h68)
            refine AW.skip ?_
            change AW _ _ _ _ _
            refine AW.seq ?_
            refine AW.region ?_
            refine AL.r (rd_loadN_bx rfl ag_70 rfl rfl (Nat.le_of_ble_eq_true rfl) rfl) ?_
            refine AL.op rfl (op_store rfl rfl rfl rfl rfl rfl sz_70 (Nat.le_of_ble_eq_true rfl) ?_)
            refine AL.b ?_
            refine AL.r (rd_assign rfl rfl) ?_
            refine AL.nil ?_
            change AW _ _ _ _ _
            refine AW.ret ?_
            change ResA _ _ _ _ _
            refine res2 rfl (ResV.cells rfl rfl ag_70 (Nat.le_of_ble_eq_true rfl) rfl) rfl (ResV.tmp rfl) rfl ?_
            simp_all [parts3, OpD.cs]
        · (try simp only [decide_eq_true_eq, decide_eq_false_iff_not, beq_iff_eq, beq_eq_false_iff_ne, bne_iff_ne, bne_eq_false_iff_eq, Bool.not_eq_true', Bool.not_eq_false', ne_eq, Bool.not_eq_eq_eq_not, Bool.not_true, Bool.not_false, gt_iff_lt, ge_iff_le, Bool.not_not] at h63)
          refine AL.n ?_
          refine AL.rf ?_
          refine AL.rf ?_
          refine AL.rf ?_
          refine AL.rf ?_
          refine AL.r (rd_pick_f rfl rfl rfl) ?_
          refine AL.nil ?_
          change AW _ _ _ _ _
          refine AW.cond_f rfl ?_
          refine AW.skip ?_
          change AW _ _ _ _ _
          refine AW.seq ?_
          refine AW.region ?_
          refine AL.r (rd_loadN_bx rfl ag_70 rfl rfl (Nat.le_of_ble_eq_true rfl) rfl) ?_
          refine AL.op rfl (op_store rfl rfl rfl rfl rfl rfl sz_70 (Nat.le_of_ble_eq_true rfl) ?_)
          refine AL.b ?_
          refine AL.r (rd_assign rfl rfl) ?_
          refine AL.nil ?_
          change AW _ _ _ _ _
          refine AW.ret ?_
          change ResA _ _ _ _ _
          refine res2 rfl (ResV.cells rfl rfl ag_70 (Nat.le_of_ble_eq_true rfl) rfl) rfl (ResV.tmp rfl) rfl ?_
          simp_all [parts3, OpD.cs]
      · (try simp only [decide_eq_true_eq, decide_eq_false_iff_not, beq_iff_eq, beq_eq_false_iff_ne, bne_iff_ne, bne_eq_false_iff_eq, Bool.not_eq_true', Bool.not_eq_false', ne_eq, Bool.not_eq_eq_eq_not, Bool.not_true, Bool.not_false, gt_iff_lt, ge_iff_le, Bool.not_not] at h32)
        refine AW.seq ?_
        omega
theorem osame_c (a b : OpD) : AC Try.prog 114 [a.av, b.av] (fun r => r = .s (AB (decide (a = b)))) := by
  refine AC.of (t0 := [a.av, b.av, AV.sc undef, AV.sc undef, AV.sc undef, AV.sc undef, AV.sc undef, AV.sc undef, AV.sc undef, AV.sc undef, AV.sc undef, AV.sc undef, AV.sc undef, AV.sc undef, AV.sc undef, AV.sc undef, AV.sc undef, AV.sc undef, AV.sc undef, AV.sc undef, AV.sc undef, AV.sc undef, AV.sc undef, AV.sc undef, AV.sc undef, AV.sc undef, AV.sc undef, AV.sc undef, AV.sc undef, AV.sc undef, AV.sc undef, AV.sc undef, AV.sc undef, AV.sc undef, AV.sc undef, AV.sc undef, AV.sc undef, AV.sc undef, AV.sc undef, AV.sc undef, AV.sc undef, AV.sc undef, AV.sc undef, AV.sc undef, AV.sc undef, AV.sc undef, AV.sc undef, AV.sc undef, AV.sc undef, AV.sc undef, AV.sc undef, AV.sc undef, AV.sc undef, AV.sc undef, AV.sc undef, AV.sc undef, AV.sc undef, AV.sc undef, AV.sc undef, AV.sc undef, AV.sc undef, AV.sc undef, AV.sc undef, AV.sc undef, AV.sc undef, AV.sc undef, AV.sc undef, AV.sc undef, AV.sc undef, AV.sc undef, AV.sc undef, AV.sc undef, AV.sc undef, AV.sc undef, AV.sc undef, AV.sc undef, AV.sc undef, AV.sc undef, AV.sc undef, AV.sc undef]) 2 Try.func114 rfl rfl ?_
  change AW _ _ _ _ [TK.mk 0 .off, TK.mk 0 .off]
  refine AW.seq ?_
  refine AW.region ?_
  refine AL.op rfl (AOpB.op (op_box 0 rfl rfl rfl rfl rfl ?_))
  refine AL.n ?_
  refine AL.op rfl (AOpB.op (op_box 1 rfl rfl rfl rfl rfl ?_))
  refine AL.n ?_
  refine AL.r (rd_assign rfl rfl) ?_
  refine AL.nil ?_
  change AW _ _ _ _ _
  refine AW.seq ?_
  refine AW.region ?_
  refine AL.r (rd_faddr_bx rfl fo_70_0 rfl rfl ⟨_, _, rfl⟩) ?_
  refine AL.r (rd_loadN_bx rfl ag_59 rfl rfl (Nat.le_of_ble_eq_true rfl) rfl) ?_
  refine AL.r (rd_faddr_bx rfl fo_70_0 rfl rfl ⟨_, _, rfl⟩) ?_
  refine AL.r (rd_loadN_bx rfl ag_59 rfl rfl (Nat.le_of_ble_eq_true rfl) rfl) ?_
  refine AL.r (rd_eq_Tag rfl rfl rfl) ?_
  refine AL.r (rd_move rfl rfl) ?_
  refine AL.fork (d := 10) rfl (fun h10 => ?_) (fun h10 => ?_)
  · (try simp only [decide_eq_true_eq, decide_eq_false_iff_not, beq_iff_eq, beq_eq_false_iff_ne, bne_iff_ne, bne_eq_false_iff_eq, Bool.not_eq_true', Bool.not_eq_false', ne_eq, Bool.not_eq_eq_eq_not, Bool.not_true, Bool.not_false, gt_iff_lt, ge_iff_le, Bool.not_not] at h10)
    refine AL.n ?_
    refine AL.ro (rd_faddr_bx rfl fo_70_1 rfl rfl ⟨_, _, rfl⟩) ?_
    refine AL.ro (rd_loadN_bx rfl ag_59 rfl rfl (Nat.le_of_ble_eq_true rfl) rfl) ?_
    refine AL.ro (rd_faddr_bx rfl fo_70_1 rfl rfl ⟨_, _, rfl⟩) ?_
    refine AL.ro (rd_loadN_bx rfl ag_59 rfl rfl (Nat.le_of_ble_eq_true rfl) rfl) ?_
    refine AL.ro (rd_eq_Tag rfl rfl rfl) ?_
    refine AL.r (rd_pick_t rfl rfl rfl) ?_
    refine AL.r (rd_move rfl rfl) ?_
    refine AL.fork (d := 17) rfl (fun h17 => ?_) (fun h17 => ?_)
    · (try simp only [decide_eq_true_eq, decide_eq_false_iff_not, beq_iff_eq, beq_eq_false_iff_ne, bne_iff_ne, bne_eq_false_iff_eq, Bool.not_eq_true', Bool.not_eq_false', ne_eq, Bool.not_eq_eq_eq_not, Bool.not_true, Bool.not_false, gt_iff_lt, ge_iff_le, Bool.not_not] at h17)
      refine AL.n ?_
      refine AL.ro (rd_faddr_bx rfl fo_70_2 rfl rfl ⟨_, _, rfl⟩) ?_
      refine AL.ro (rd_load_bx rfl ag_2 rfl rfl rfl) ?_
      refine AL.ro (rd_faddr_bx rfl fo_70_2 rfl rfl ⟨_, _, rfl⟩) ?_
      refine AL.ro (rd_load_bx rfl ag_2 rfl rfl rfl) ?_
      refine AL.ro (rd_bin rfl rfl rfl (fun _ => rfl)) ?_
      refine AL.r (rd_pick_t rfl rfl rfl) ?_
      refine AL.r (rd_move rfl rfl) ?_
      refine AL.fork (d := 24) rfl (fun h24 => ?_) (fun h24 => ?_)
      · (try simp only [decide_eq_true_eq, decide_eq_false_iff_not, beq_iff_eq, beq_eq_false_iff_ne, bne_iff_ne, bne_eq_false_iff_eq, Bool.not_eq_true', Bool.not_eq_false', ne_eq, Bool.not_eq_eq_eq_not, Bool.not_true, Bool.not_false, gt_iff_lt, ge_iff_le, Bool.not_not] at h24)
        refine AL.n ?_
        refine AL.ro (rd_faddr_bx rfl fo_70_3 rfl rfl ⟨_, _, rfl⟩) ?_
        refine AL.ro (rd_load_bx rfl ag_9 rfl rfl rfl) ?_
        refine AL.ro (rd_faddr_bx rfl fo_70_3 rfl rfl ⟨_, _, rfl⟩) ?_
        refine AL.ro (rd_load_bx rfl ag_9 rfl rfl rfl) ?_
        refine AL.ro (rd_seq rfl rfl rfl) ?_
        refine AL.r (rd_pick_t rfl rfl rfl) ?_
        refine AL.r (rd_move rfl rfl) ?_
        refine AL.fork (d := 31) rfl (fun h31 => ?_) (fun h31 => ?_)
        · (try simp only [decide_eq_true_eq, decide_eq_false_iff_not, beq_iff_eq, beq_eq_false_iff_ne, bne_iff_ne, bne_eq_false_iff_eq, Bool.not_eq_true', Bool.not_eq_false', ne_eq, Bool.not_eq_eq_eq_not, Bool.not_true, Bool.not_false, gt_iff_lt, ge_iff_le, Bool.not_not] at h31)
          refine AL.n ?_
          refine AL.ro (rd_faddr_bx rfl fo_70_4 rfl rfl ⟨_, _, rfl⟩) ?_
          refine AL.ro (rd_load_bx rfl ag_3 rfl rfl rfl) ?_
          refine AL.ro (rd_faddr_bx rfl fo_70_4 rfl rfl ⟨_, _, rfl⟩) ?_
          refine AL.ro (rd_load_bx rfl ag_3 rfl rfl rfl) ?_
          refine AL.ro (rd_bin rfl rfl rfl (fun _ => rfl)) ?_
          refine AL.r (rd_pick_t rfl rfl rfl) ?_
          refine AL.r (rd_move rfl rfl) ?_
          refine AL.fork (d := 38) rfl (fun h38 => ?_) (fun h38 => ?_)
          · (try simp only [decide_eq_true_eq, decide_eq_false_iff_not, beq_iff_eq, beq_eq_false_iff_ne, bne_iff_ne, bne_eq_false_iff_eq, Bool.not_eq_true', Bool.not_eq_false', ne_eq, Bool.not_eq_eq_eq_not, Bool.not_true, Bool.not_false, gt_iff_lt, ge_iff_le, Bool.not_not] at h38)
            refine AL.n ?_
            refine AL.ro (rd_faddr_bx rfl fo_70_5 rfl rfl ⟨_, _, rfl⟩) ?_
            refine AL.ro (rd_load_bx rfl ag_9 rfl rfl rfl) ?_
            refine AL.ro (rd_faddr_bx rfl fo_70_5 rfl rfl ⟨_, _, rfl⟩) ?_
            refine AL.ro (rd_load_bx rfl ag_9 rfl rfl rfl) ?_
            refine AL.ro (rd_seq rfl rfl rfl) ?_
            refine AL.r (rd_pick_t rfl rfl rfl) ?_
            refine AL.r (rd_move rfl rfl) ?_
            refine AL.fork (d := 45) rfl (fun h45 => ?_) (fun h45 => ?_)
            · (try simp only [decide_eq_true_eq, decide_eq_false_iff_not, beq_iff_eq, beq_eq_false_iff_ne, bne_iff_ne, bne_eq_false_iff_eq, Bool.not_eq_true', Bool.not_eq_false', ne_eq, Bool.not_eq_eq_eq_not, Bool.not_true, Bool.not_false, gt_iff_lt, ge_iff_le, Bool.not_not] at h45)
              refine AL.n ?_
              refine AL.ro (rd_faddr_bx rfl fo_70_6 rfl rfl ⟨_, _, rfl⟩) ?_
              refine AL.ro (rd_loadN_bx rfl ag_27 rfl rfl (Nat.le_of_ble_eq_true rfl) rfl) ?_
              refine AL.ro (rd_faddr_bx rfl fo_70_6 rfl rfl ⟨_, _, rfl⟩) ?_
              refine AL.ro (rd_loadN_bx rfl ag_27 rfl rfl (Nat.le_of_ble_eq_true rfl) rfl) ?_
              refine AL.ro (rd_eq_Ref rfl rfl rfl) ?_
              refine AL.r (rd_pick_t rfl rfl rfl) ?_
              refine AL.r (rd_move rfl rfl) ?_
              refine AL.fork (d := 52) rfl (fun h52 => ?_) (fun h52 => ?_)
              · (try simp only [decide_eq_true_eq, decide_eq_false_iff_not, beq_iff_eq, beq_eq_false_iff_ne, bne_iff_ne, bne_eq_false_iff_eq, Bool.not_eq_true', Bool.not_eq_false', ne_eq, Bool.not_eq_eq_eq_not, Bool.not_true, Bool.not_false, gt_iff_lt, ge_iff_le, Bool.not_not] at h52)
                refine AL.n ?_
                refine AL.ro (rd_faddr_bx rfl fo_70_7 rfl rfl ⟨_, _, rfl⟩) ?_
                refine AL.ro (rd_load_bx rfl ag_2 rfl rfl rfl) ?_
                refine AL.ro (rd_faddr_bx rfl fo_70_7 rfl rfl ⟨_, _, rfl⟩) ?_
                refine AL.ro (rd_load_bx rfl ag_2 rfl rfl rfl) ?_
                refine AL.ro (rd_bin rfl rfl rfl (fun _ => rfl)) ?_
                refine AL.r (rd_pick_t rfl rfl rfl) ?_
                refine AL.r (rd_move rfl rfl) ?_
                refine AL.fork (d := 59) rfl (fun h59 => ?_) (fun h59 => ?_)
                · (try simp only [decide_eq_true_eq, decide_eq_false_iff_not, beq_iff_eq, beq_eq_false_iff_ne, bne_iff_ne, bne_eq_false_iff_eq, Bool.not_eq_true', Bool.not_eq_false', ne_eq, Bool.not_eq_eq_eq_not, Bool.not_true, Bool.not_false, gt_iff_lt, ge_iff_le, Bool.not_not] at h59)
                  refine AL.n ?_
                  refine AL.ro (rd_faddr_bx rfl fo_70_8 rfl rfl ⟨_, _, rfl⟩) ?_
                  refine AL.ro (rd_load_bx rfl ag_4 rfl rfl rfl) ?_
                  refine AL.ro (rd_faddr_bx rfl fo_70_8 rfl rfl ⟨_, _, rfl⟩) ?_
                  refine AL.ro (rd_load_bx rfl ag_4 rfl rfl rfl) ?_
                  refine AL.ro (rd_beql rfl bo_4 rfl rfl) ?_
                  refine AL.r (rd_pick_t rfl rfl rfl) ?_
                  refine AL.r (rd_move rfl rfl) ?_
                  refine AL.fork (d := 66) rfl (fun h66 => ?_) (fun h66 => ?_)
                  · (try simp only [decide_eq_true_eq, decide_eq_false_iff_not, beq_iff_eq, beq_eq_false_iff_ne, bne_iff_ne, bne_eq_false_iff_eq, Bool.not_eq_true', Bool.not_eq_false', ne_eq, Bool.not_eq_eq_eq_not, Bool.not_true, Bool.not_false, gt_iff_lt, ge_iff_le, Bool.not_not] at h66)
                    refine AL.n ?_
                    refine AL.ro (rd_faddr_bx rfl fo_70_9 rfl rfl ⟨_, _, rfl⟩) ?_
                    refine AL.ro (rd_load_bx rfl ag_9 rfl rfl rfl) ?_
                    refine AL.ro (rd_faddr_bx rfl fo_70_9 rfl rfl ⟨_, _, rfl⟩) ?_
                    refine AL.ro (rd_load_bx rfl ag_9 rfl rfl rfl) ?_
                    refine AL.ro (rd_seq rfl rfl rfl) ?_
                    refine AL.r (rd_pick_t rfl rfl rfl) ?_
                    refine AL.r (rd_move rfl rfl) ?_
                    refine AL.fork (d := 73) rfl (fun h73 => ?_) (fun h73 => ?_)
                    · (try simp only [decide_eq_true_eq, decide_eq_false_iff_not, beq_iff_eq, beq_eq_false_iff_ne, bne_iff_ne, bne_eq_false_iff_eq, Bool.not_eq_true', Bool.not_eq_false', ne_eq, Bool.not_eq_eq_eq_not, Bool.not_true, Bool.not_false, gt_iff_lt, ge_iff_le, Bool.not_not] at h73)
                      refine AL.n ?_
                      refine AL.ro (rd_faddr_bx rfl fo_70_10 rfl rfl ⟨_, _, rfl⟩) ?_
                      refine AL.ro (rd_load_bx rfl ag_68 rfl rfl rfl) ?_
                      refine AL.ro (rd_faddr_bx rfl fo_70_10 rfl rfl ⟨_, _, rfl⟩) ?_
                      refine AL.ro (rd_load_bx rfl ag_68 rfl rfl rfl) ?_
                      refine AL.on rfl rfl rfl (AOpB.op (op_call (tequal_c a.drops b.drops) rfl (by kernel_rfl) rfl (none) ?_))
                      rintro r rfl
                      refine AL.n ?_
                      refine AL.r (rd_pick_t rfl rfl rfl) ?_
                      refine AL.r (rd_assign rfl rfl) ?_
                      refine AL.nil ?_
                      change AW _ _ _ _ _
                      refine AW.ret ?_
                      change ResA _ _ _ _ _
                      refine res1 rfl (ResV.tmp rfl) rfl ?_
                      (refine congrArg (fun b => RS.s (AB b)) ?_; rw [Bool.eq_iff_iff]; simp_all [opD_iff, tagD_iff, refD_iff] <;> (intros; simp_all))
                    · (try simp only [decide_eq_true_eq, decide_eq_false_iff_not, beq_iff_eq, beq_eq_false_iff_ne, bne_iff_ne, bne_eq_false_iff_eq, Bool.not_eq_true', Bool.not_eq_false', ne_eq, Bool.not_eq_eq_eq_not, Bool.not_true, Bool.not_false, gt_iff_lt, ge_iff_le, Bool.not_not] at h73)
                      refine AL.n ?_
                      refine AL.rf ?_
                      refine AL.rf ?_
                      refine AL.rf ?_
                      refine AL.rf ?_
                      refine AL.rf ?_
                      refine AL.r (rd_pick_f rfl rfl rfl) ?_
                      refine AL.r (rd_assign rfl rfl) ?_
                      refine AL.nil ?_
                      change AW _ _ _ _ _
                      refine AW.ret ?_
                      change ResA _ _ _ _ _
                      refine res1 rfl (ResV.tmp rfl) rfl ?_
                      (refine congrArg (fun b => RS.s (AB b)) ?_; rw [Bool.eq_iff_iff]; simp_all [opD_iff, tagD_iff, refD_iff] <;> (intros; simp_all))
                  · (try simp only [decide_eq_true_eq, decide_eq_false_iff_not, beq_iff_eq, beq_eq_false_iff_ne, bne_iff_ne, bne_eq_false_iff_eq, Bool.not_eq_true', Bool.not_eq_false', ne_eq, Bool.not_eq_eq_eq_not, Bool.not_true, Bool.not_false, gt_iff_lt, ge_iff_le, Bool.not_not] at h66)
                    refine AL.n ?_
                    refine AL.rf ?_
                    refine AL.rf ?_
                    refine AL.rf ?_
                    refine AL.rf ?_
                    refine AL.rf ?_
                    refine AL.r (rd_pick_f rfl rfl rfl) ?_
                    refine AL.r (rd_move rfl rfl) ?_
                    refine AL.rf ?_
                    refine AL.rf ?_
                    refine AL.rf ?_
                    refine AL.rf ?_
                    refine AL.rf ?_
                    refine AL.r (rd_pick_f rfl rfl rfl) ?_
                    refine AL.r (rd_assign rfl rfl) ?_
                    refine AL.nil ?_
                    change AW _ _ _ _ _
                    refine AW.ret ?_
                    change ResA _ _ _ _ _
                    refine res1 rfl (ResV.tmp rfl) rfl ?_
                    (refine congrArg (fun b => RS.s (AB b)) ?_; rw [Bool.eq_iff_iff]; simp_all [opD_iff, tagD_iff, refD_iff] <;> (intros; simp_all))
                · (try simp only [decide_eq_true_eq, decide_eq_false_iff_not, beq_iff_eq, beq_eq_false_iff_ne, bne_iff_ne, bne_eq_false_iff_eq, Bool.not_eq_true', Bool.not_eq_false', ne_eq, Bool.not_eq_eq_eq_not, Bool.not_true, Bool.not_false, gt_iff_lt, ge_iff_le, Bool.not_not] at h59)
                  refine AL.n ?_
                  refine AL.rf ?_
                  refine AL.rf ?_
                  refine AL.rf ?_
                  refine AL.rf ?_
                  refine AL.rf ?_
                  refine AL.r (rd_pick_f rfl rfl rfl) ?_
                  refine AL.r (rd_move rfl rfl) ?_
                  refine AL.rf ?_
                  refine AL.rf ?_
                  refine AL.rf ?_
                  refine AL.rf ?_
                  refine AL.rf ?_
                  refine AL.r (rd_pick_f rfl rfl rfl) ?_
                  refine AL.r (rd_move rfl rfl) ?_
                  refine AL.rf ?_
                  refine AL.rf ?_
                  refine AL.rf ?_
                  refine AL.rf ?_
                  refine AL.rf ?_
                  refine AL.r (rd_pick_f rfl rfl rfl) ?_
                  refine AL.r (rd_assign rfl rfl) ?_
                  refine AL.nil ?_
                  change AW _ _ _ _ _
                  refine AW.ret ?_
                  change ResA _ _ _ _ _
                  refine res1 rfl (ResV.tmp rfl) rfl ?_
                  (refine congrArg (fun b => RS.s (AB b)) ?_; rw [Bool.eq_iff_iff]; simp_all [opD_iff, tagD_iff, refD_iff] <;> (intros; simp_all))
              · (try simp only [decide_eq_true_eq, decide_eq_false_iff_not, beq_iff_eq, beq_eq_false_iff_ne, bne_iff_ne, bne_eq_false_iff_eq, Bool.not_eq_true', Bool.not_eq_false', ne_eq, Bool.not_eq_eq_eq_not, Bool.not_true, Bool.not_false, gt_iff_lt, ge_iff_le, Bool.not_not] at h52)
                refine AL.n ?_
                refine AL.rf ?_
                refine AL.rf ?_
                refine AL.rf ?_
                refine AL.rf ?_
                refine AL.rf ?_
                refine AL.r (rd_pick_f rfl rfl rfl) ?_
                refine AL.r (rd_move rfl rfl) ?_
                refine AL.rf ?_
                refine AL.rf ?_
                refine AL.rf ?_
                refine AL.rf ?_
                refine AL.rf ?_
                refine AL.r (rd_pick_f rfl rfl rfl) ?_
                refine AL.r (rd_move rfl rfl) ?_
                refine AL.rf ?_
                refine AL.rf ?_
                refine AL.rf ?_
                refine AL.rf ?_
                refine AL.rf ?_
                refine AL.r (rd_pick_f rfl rfl rfl) ?_
                refine AL.r (rd_move rfl rfl) ?_
                refine AL.rf ?_
                refine AL.rf ?_
                refine AL.rf ?_
                refine AL.rf ?_
                refine AL.rf ?_
                refine AL.r (rd_pick_f rfl rfl rfl) ?_
                refine AL.r (rd_assign rfl rfl) ?_
                refine AL.nil ?_
                change AW _ _ _ _ _
                refine AW.ret ?_
                change ResA _ _ _ _ _
                refine res1 rfl (ResV.tmp rfl) rfl ?_
                (refine congrArg (fun b => RS.s (AB b)) ?_; rw [Bool.eq_iff_iff]; simp_all [opD_iff, tagD_iff, refD_iff] <;> (intros; simp_all))
            · (try simp only [decide_eq_true_eq, decide_eq_false_iff_not, beq_iff_eq, beq_eq_false_iff_ne, bne_iff_ne, bne_eq_false_iff_eq, Bool.not_eq_true', Bool.not_eq_false', ne_eq, Bool.not_eq_eq_eq_not, Bool.not_true, Bool.not_false, gt_iff_lt, ge_iff_le, Bool.not_not] at h45)
              refine AL.n ?_
              refine AL.rf ?_
              refine AL.rf ?_
              refine AL.rf ?_
              refine AL.rf ?_
              refine AL.rf ?_
              refine AL.r (rd_pick_f rfl rfl rfl) ?_
              refine AL.r (rd_move rfl rfl) ?_
              refine AL.rf ?_
              refine AL.rf ?_
              refine AL.rf ?_
              refine AL.rf ?_
              refine AL.rf ?_
              refine AL.r (rd_pick_f rfl rfl rfl) ?_
              refine AL.r (rd_move rfl rfl) ?_
              refine AL.rf ?_
              refine AL.rf ?_
              refine AL.rf ?_
              refine AL.rf ?_
              refine AL.rf ?_
              refine AL.r (rd_pick_f rfl rfl rfl) ?_
              refine AL.r (rd_move rfl rfl) ?_
              refine AL.rf ?_
              refine AL.rf ?_
              refine AL.rf ?_
              refine AL.rf ?_
              refine AL.rf ?_
              refine AL.r (rd_pick_f rfl rfl rfl) ?_
              refine AL.r (rd_move rfl rfl) ?_
              refine AL.rf ?_
              refine AL.rf ?_
              refine AL.rf ?_
              refine AL.rf ?_
              refine AL.rf ?_
              refine AL.r (rd_pick_f rfl rfl rfl) ?_
              refine AL.r (rd_assign rfl rfl) ?_
              refine AL.nil ?_
              change AW _ _ _ _ _
              refine AW.ret ?_
              change ResA _ _ _ _ _
              refine res1 rfl (ResV.tmp rfl) rfl ?_
              (refine congrArg (fun b => RS.s (AB b)) ?_; rw [Bool.eq_iff_iff]; simp_all [opD_iff, tagD_iff, refD_iff] <;> (intros; simp_all))
          · (try simp only [decide_eq_true_eq, decide_eq_false_iff_not, beq_iff_eq, beq_eq_false_iff_ne, bne_iff_ne, bne_eq_false_iff_eq, Bool.not_eq_true', Bool.not_eq_false', ne_eq, Bool.not_eq_eq_eq_not, Bool.not_true, Bool.not_false, gt_iff_lt, ge_iff_le, Bool.not_not] at h38)
            refine AL.n ?_
            refine AL.rf ?_
            refine AL.rf ?_
            refine AL.rf ?_
            refine AL.rf ?_
            refine AL.rf ?_
            refine AL.r (rd_pick_f rfl rfl rfl) ?_
            refine AL.r (rd_move rfl rfl) ?_
            refine AL.rf ?_
            refine AL.rf ?_
            refine AL.rf ?_
            refine AL.rf ?_
            refine AL.rf ?_
            refine AL.r (rd_pick_f rfl rfl rfl) ?_
            refine AL.r (rd_move rfl rfl) ?_
            refine AL.rf ?_
            refine AL.rf ?_
            refine AL.rf ?_
            refine AL.rf ?_
            refine AL.rf ?_
            refine AL.r (rd_pick_f rfl rfl rfl) ?_
            refine AL.r (rd_move rfl rfl) ?_
            refine AL.rf ?_
            refine AL.rf ?_
            refine AL.rf ?_
            refine AL.rf ?_
            refine AL.rf ?_
            refine AL.r (rd_pick_f rfl rfl rfl) ?_
            refine AL.r (rd_move rfl rfl) ?_
            refine AL.rf ?_
            refine AL.rf ?_
            refine AL.rf ?_
            refine AL.rf ?_
            refine AL.rf ?_
            refine AL.r (rd_pick_f rfl rfl rfl) ?_
            refine AL.r (rd_move rfl rfl) ?_
            refine AL.rf ?_
            refine AL.rf ?_
            refine AL.rf ?_
            refine AL.rf ?_
            refine AL.rf ?_
            refine AL.r (rd_pick_f rfl rfl rfl) ?_
            refine AL.r (rd_assign rfl rfl) ?_
            refine AL.nil ?_
            change AW _ _ _ _ _
            refine AW.ret ?_
            change ResA _ _ _ _ _
            refine res1 rfl (ResV.tmp rfl) rfl ?_
            (refine congrArg (fun b => RS.s (AB b)) ?_; rw [Bool.eq_iff_iff]; simp_all [opD_iff, tagD_iff, refD_iff] <;> (intros; simp_all))
        · (try simp only [decide_eq_true_eq, decide_eq_false_iff_not, beq_iff_eq, beq_eq_false_iff_ne, bne_iff_ne, bne_eq_false_iff_eq, Bool.not_eq_true', Bool.not_eq_false', ne_eq, Bool.not_eq_eq_eq_not, Bool.not_true, Bool.not_false, gt_iff_lt, ge_iff_le, Bool.not_not] at h31)
          refine AL.n ?_
          refine AL.rf ?_
          refine AL.rf ?_
          refine AL.rf ?_
          refine AL.rf ?_
          refine AL.rf ?_
          refine AL.r (rd_pick_f rfl rfl rfl) ?_
          refine AL.r (rd_move rfl rfl) ?_
          refine AL.rf ?_
          refine AL.rf ?_
          refine AL.rf ?_
          refine AL.rf ?_
          refine AL.rf ?_
          refine AL.r (rd_pick_f rfl rfl rfl) ?_
          refine AL.r (rd_move rfl rfl) ?_
          refine AL.rf ?_
          refine AL.rf ?_
          refine AL.rf ?_
          refine AL.rf ?_
          refine AL.rf ?_
          refine AL.r (rd_pick_f rfl rfl rfl) ?_
          refine AL.r (rd_move rfl rfl) ?_
          refine AL.rf ?_
          refine AL.rf ?_
          refine AL.rf ?_
          refine AL.rf ?_
          refine AL.rf ?_
          refine AL.r (rd_pick_f rfl rfl rfl) ?_
          refine AL.r (rd_move rfl rfl) ?_
          refine AL.rf ?_
          refine AL.rf ?_
          refine AL.rf ?_
          refine AL.rf ?_
          refine AL.rf ?_
          refine AL.r (rd_pick_f rfl rfl rfl) ?_
          refine AL.r (rd_move rfl rfl) ?_
          refine AL.rf ?_
          refine AL.rf ?_
          refine AL.rf ?_
          refine AL.rf ?_
          refine AL.rf ?_
          refine AL.r (rd_pick_f rfl rfl rfl) ?_
          refine AL.r (rd_move rfl rfl) ?_
          refine AL.rf ?_
          refine AL.rf ?_
          refine AL.rf ?_
          refine AL.rf ?_
          refine AL.rf ?_
          refine AL.r (rd_pick_f rfl rfl rfl) ?_
          refine AL.r (rd_assign rfl rfl) ?_
          refine AL.nil ?_
          change AW _ _ _ _ _
          refine AW.ret ?_
          change ResA _ _ _ _ _
          refine res1 rfl (ResV.tmp rfl) rfl ?_
          (refine congrArg (fun b => RS.s (AB b)) ?_; rw [Bool.eq_iff_iff]; simp_all [opD_iff, tagD_iff, refD_iff] <;> (intros; simp_all))
      · (try simp only [decide_eq_true_eq, decide_eq_false_iff_not, beq_iff_eq, beq_eq_false_iff_ne, bne_iff_ne, bne_eq_false_iff_eq, Bool.not_eq_true', Bool.not_eq_false', ne_eq, Bool.not_eq_eq_eq_not, Bool.not_true, Bool.not_false, gt_iff_lt, ge_iff_le, Bool.not_not] at h24)
        refine AL.n ?_
        refine AL.rf ?_
        refine AL.rf ?_
        refine AL.rf ?_
        refine AL.rf ?_
        refine AL.rf ?_
        refine AL.r (rd_pick_f rfl rfl rfl) ?_
        refine AL.r (rd_move rfl rfl) ?_
        refine AL.rf ?_
        refine AL.rf ?_
        refine AL.rf ?_
        refine AL.rf ?_
        refine AL.rf ?_
        refine AL.r (rd_pick_f rfl rfl rfl) ?_
        refine AL.r (rd_move rfl rfl) ?_
        refine AL.rf ?_
        refine AL.rf ?_
        refine AL.rf ?_
        refine AL.rf ?_
        refine AL.rf ?_
        refine AL.r (rd_pick_f rfl rfl rfl) ?_
        refine AL.r (rd_move rfl rfl) ?_
        refine AL.rf ?_
        refine AL.rf ?_
        refine AL.rf ?_
        refine AL.rf ?_
        refine AL.rf ?_
        refine AL.r (rd_pick_f rfl rfl rfl) ?_
        refine AL.r (rd_move rfl rfl) ?_
        refine AL.rf ?_
        refine AL.rf ?_
        refine AL.rf ?_
        refine AL.rf ?_
        refine AL.rf ?_
        refine AL.r (rd_pick_f rfl rfl rfl) ?_
        refine AL.r (rd_move rfl rfl) ?_
        refine AL.rf ?_
        refine AL.rf ?_
        refine AL.rf ?_
        refine AL.rf ?_
        refine AL.rf ?_
        refine AL.r (rd_pick_f rfl rfl rfl) ?_
        refine AL.r (rd_move rfl rfl) ?_
        refine AL.rf ?_
        refine AL.rf ?_
        refine AL.rf ?_
        refine AL.rf ?_
        refine AL.rf ?_
        refine AL.r (rd_pick_f rfl rfl rfl) ?_
        refine AL.r (rd_move rfl rfl) ?_
        refine AL.rf ?_
        refine AL.rf ?_
        refine AL.rf ?_
        refine AL.rf ?_
        refine AL.rf ?_
        refine AL.r (rd_pick_f rfl rfl rfl) ?_
        refine AL.r (rd_assign rfl rfl) ?_
        refine AL.nil ?_
        change AW _ _ _ _ _
        refine AW.ret ?_
        change ResA _ _ _ _ _
        refine res1 rfl (ResV.tmp rfl) rfl ?_
        (refine congrArg (fun b => RS.s (AB b)) ?_; rw [Bool.eq_iff_iff]; simp_all [opD_iff, tagD_iff, refD_iff] <;> (intros; simp_all))
    · (try simp only [decide_eq_true_eq, decide_eq_false_iff_not, beq_iff_eq, beq_eq_false_iff_ne, bne_iff_ne, bne_eq_false_iff_eq, Bool.not_eq_true', Bool.not_eq_false', ne_eq, Bool.not_eq_eq_eq_not, Bool.not_true, Bool.not_false, gt_iff_lt, ge_iff_le, Bool.not_not] at h17)
      refine AL.n ?_
      refine AL.rf ?_
      refine AL.rf ?_
      refine AL.rf ?_
      refine AL.rf ?_
      refine AL.rf ?_
      refine AL.r (rd_pick_f rfl rfl rfl) ?_
      refine AL.r (rd_move rfl rfl) ?_
      refine AL.rf ?_
      refine AL.rf ?_
      refine AL.rf ?_
      refine AL.rf ?_
      refine AL.rf ?_
      refine AL.r (rd_pick_f rfl rfl rfl) ?_
      refine AL.r (rd_move rfl rfl) ?_
      refine AL.rf ?_
      refine AL.rf ?_
      refine AL.rf ?_
      refine AL.rf ?_
      refine AL.rf ?_
      refine AL.r (rd_pick_f rfl rfl rfl) ?_
      refine AL.r (rd_move rfl rfl) ?_
      refine AL.rf ?_
      refine AL.rf ?_
      refine AL.rf ?_
      refine AL.rf ?_
      refine AL.rf ?_
      refine AL.r (rd_pick_f rfl rfl rfl) ?_
      refine AL.r (rd_move rfl rfl) ?_
      refine AL.rf ?_
      refine AL.rf ?_
      refine AL.rf ?_
      refine AL.rf ?_
      refine AL.rf ?_
      refine AL.r (rd_pick_f rfl rfl rfl) ?_
      refine AL.r (rd_move rfl rfl) ?_
      refine AL.rf ?_
      refine AL.rf ?_
      refine AL.rf ?_
      refine AL.rf ?_
      refine AL.rf ?_
      refine AL.r (rd_pick_f rfl rfl rfl) ?_
      refine AL.r (rd_move rfl rfl) ?_
      refine AL.rf ?_
      refine AL.rf ?_
      refine AL.rf ?_
      refine AL.rf ?_
      refine AL.rf ?_
      refine AL.r (rd_pick_f rfl rfl rfl) ?_
      refine AL.r (rd_move rfl rfl) ?_
      refine AL.rf ?_
      refine AL.rf ?_
      refine AL.rf ?_
      refine AL.rf ?_
      refine AL.rf ?_
      refine AL.r (rd_pick_f rfl rfl rfl) ?_
      refine AL.r (rd_move rfl rfl) ?_
      refine AL.rf ?_
      refine AL.rf ?_
      refine AL.rf ?_
      refine AL.rf ?_
      refine AL.rf ?_
      refine AL.r (rd_pick_f rfl rfl rfl) ?_
      refine AL.r (rd_assign rfl rfl) ?_
      refine AL.nil ?_
      change AW _ _ _ _ _
      refine AW.ret ?_
      change ResA _ _ _ _ _
      refine res1 rfl (ResV.tmp rfl) rfl ?_
      (refine congrArg (fun b => RS.s (AB b)) ?_; rw [Bool.eq_iff_iff]; simp_all [opD_iff, tagD_iff, refD_iff] <;> (intros; simp_all))
  · (try simp only [decide_eq_true_eq, decide_eq_false_iff_not, beq_iff_eq, beq_eq_false_iff_ne, bne_iff_ne, bne_eq_false_iff_eq, Bool.not_eq_true', Bool.not_eq_false', ne_eq, Bool.not_eq_eq_eq_not, Bool.not_true, Bool.not_false, gt_iff_lt, ge_iff_le, Bool.not_not] at h10)
    refine AL.n ?_
    refine AL.rf ?_
    refine AL.rf ?_
    refine AL.rf ?_
    refine AL.rf ?_
    refine AL.rf ?_
    refine AL.r (rd_pick_f rfl rfl rfl) ?_
    refine AL.r (rd_move rfl rfl) ?_
    refine AL.rf ?_
    refine AL.rf ?_
    refine AL.rf ?_
    refine AL.rf ?_
    refine AL.rf ?_
    refine AL.r (rd_pick_f rfl rfl rfl) ?_
    refine AL.r (rd_move rfl rfl) ?_
    refine AL.rf ?_
    refine AL.rf ?_
    refine AL.rf ?_
    refine AL.rf ?_
    refine AL.rf ?_
    refine AL.r (rd_pick_f rfl rfl rfl) ?_
    refine AL.r (rd_move rfl rfl) ?_
    refine AL.rf ?_
    refine AL.rf ?_
    refine AL.rf ?_
    refine AL.rf ?_
    refine AL.rf ?_
    refine AL.r (rd_pick_f rfl rfl rfl) ?_
    refine AL.r (rd_move rfl rfl) ?_
    refine AL.rf ?_
    refine AL.rf ?_
    refine AL.rf ?_
    refine AL.rf ?_
    refine AL.rf ?_
    refine AL.r (rd_pick_f rfl rfl rfl) ?_
    refine AL.r (rd_move rfl rfl) ?_
    refine AL.rf ?_
    refine AL.rf ?_
    refine AL.rf ?_
    refine AL.rf ?_
    refine AL.rf ?_
    refine AL.r (rd_pick_f rfl rfl rfl) ?_
    refine AL.r (rd_move rfl rfl) ?_
    refine AL.rf ?_
    refine AL.rf ?_
    refine AL.rf ?_
    refine AL.rf ?_
    refine AL.rf ?_
    refine AL.r (rd_pick_f rfl rfl rfl) ?_
    refine AL.r (rd_move rfl rfl) ?_
    refine AL.rf ?_
    refine AL.rf ?_
    refine AL.rf ?_
    refine AL.rf ?_
    refine AL.rf ?_
    refine AL.r (rd_pick_f rfl rfl rfl) ?_
    refine AL.r (rd_move rfl rfl) ?_
    refine AL.rf ?_
    refine AL.rf ?_
    refine AL.rf ?_
    refine AL.rf ?_
    refine AL.rf ?_
    refine AL.r (rd_pick_f rfl rfl rfl) ?_
    refine AL.r (rd_move rfl rfl) ?_
    refine AL.rf ?_
    refine AL.rf ?_
    refine AL.rf ?_
    refine AL.rf ?_
    refine AL.rf ?_
    refine AL.r (rd_pick_f rfl rfl rfl) ?_
    refine AL.r (rd_assign rfl rfl) ?_
    refine AL.nil ?_
    change AW _ _ _ _ _
    refine AW.ret ?_
    change ResA _ _ _ _ _
    refine res1 rfl (ResV.tmp rfl) rfl ?_
    (refine congrArg (fun b => RS.s (AB b)) ?_; rw [Bool.eq_iff_iff]; simp_all [opD_iff, tagD_iff, refD_iff] <;> (intros; simp_all))
end Go.Proofs.Ytfnpgaiaebkkmaa
