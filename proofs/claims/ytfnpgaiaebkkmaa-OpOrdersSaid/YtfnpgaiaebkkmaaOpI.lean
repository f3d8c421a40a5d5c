/- The law OpOrders. No conditions. -/
import Derived.Test.YtfnpgaiaebkkmaaOpH
namespace Go.Proofs.Ytfnpgaiaebkkmaa
set_option linter.unusedSimpArgs false
set_option linter.unusedVariables false
set_option maxRecDepth 100000
open Go.RowKit

theorem orders_c (a b c : OpD) : AC Try.prog 9 [a.av, b.av, c.av] (fun x => x = .s (AB true)) := by
  refine AC.of (t0 := [a.av, b.av, c.av, AV.sc undef, AV.sc undef, AV.sc undef, AV.sc undef, AV.sc undef, AV.sc undef, AV.sc undef, AV.sc undef, AV.sc undef, AV.sc undef, AV.sc undef, AV.sc undef, AV.sc undef, AV.sc undef, AV.sc undef, AV.sc undef, AV.sc undef, AV.sc undef, AV.sc undef, AV.sc undef, AV.sc undef, AV.sc undef, AV.sc undef, AV.sc undef, AV.sc undef, AV.sc undef, AV.sc undef, AV.sc undef, AV.sc undef, AV.sc undef, AV.sc undef, AV.sc undef, AV.sc undef, AV.sc undef, AV.sc undef, AV.sc undef, AV.sc undef, AV.sc undef, AV.sc undef, AV.sc undef, AV.sc undef, AV.sc undef, AV.sc undef, AV.sc undef, AV.sc undef, AV.sc undef, AV.sc undef, AV.sc undef, AV.sc undef, AV.sc undef, AV.sc undef, AV.sc undef, AV.sc undef, AV.sc undef, AV.sc undef, AV.sc undef, AV.sc undef, AV.sc undef, AV.sc undef, AV.sc undef, AV.sc undef, AV.sc undef, AV.sc undef]) 3 Try.func9 rfl rfl ?_
  change AW _ _ _ _ [TK.mk 0 .off, TK.mk 0 .off, TK.mk 0 .off]
  refine AW.seq ?_
  refine AW.region ?_
  refine AL.op rfl (AOpB.op (op_box 0 rfl rfl rfl rfl rfl ?_))
  refine AL.n ?_
  refine AL.op rfl (AOpB.op (op_box 1 rfl rfl rfl rfl rfl ?_))
  refine AL.n ?_
  refine AL.op rfl (AOpB.op (op_box 2 rfl rfl rfl rfl rfl ?_))
  refine AL.n ?_
  refine AL.r (rd_assign rfl rfl) ?_
  refine AL.nil ?_
  change AW _ _ _ _ _
  refine AW.seq ?_
  refine AW.seq ?_
  refine AW.region ?_
  refine AL.op rfl (AOpB.op (op_call (awake20) rfl (by kernel_rfl) rfl (none) ?_))
  rintro r rfl
  refine AL.n ?_
  refine AL.r (rd_un rfl rfl (fun _ => rfl)) ?_
  refine AL.nil ?_
  change AW _ _ _ _ _
  refine AW.cond rfl (fun h10 => ?_) (fun h10 => ?_)
  · (try simp only [decide_eq_true_eq, decide_eq_false_iff_not, beq_iff_eq, beq_eq_false_iff_ne, bne_iff_ne, bne_eq_false_iff_eq, Bool.not_eq_true', Bool.not_eq_false', ne_eq, Bool.not_eq_eq_eq_not, Bool.not_true, Bool.not_false, gt_iff_lt, ge_iff_le, Bool.not_not] at h10)
    refine AW.seq ?_
    cases h10
  · (try simp only [decide_eq_true_eq, decide_eq_false_iff_not, beq_iff_eq, beq_eq_false_iff_ne, bne_iff_ne, bne_eq_false_iff_eq, Bool.not_eq_true', Bool.not_eq_false', ne_eq, Bool.not_eq_eq_eq_not, Bool.not_true, Bool.not_false, gt_iff_lt, ge_iff_le, Bool.not_not] at h10)
    refine AW.skip ?_
    change AW _ _ _ _ _
    refine AW.seq ?_
    refine AW.seq ?_
    refine AW.region ?_
    refine AL.r (rd_loadN_bx rfl ag_70 rfl rfl (Nat.le_of_ble_eq_true rfl) rfl) ?_
    refine AL.op rfl (AOpB.op (op_call (oheavy_c a) rfl (by kernel_rfl) rfl (none) ?_))
    rintro r rfl
    refine AL.n ?_
    refine AL.r (rd_move rfl rfl) ?_
    refine AL.fork (d := 13) rfl (fun h13 => ?_) (fun h13 => ?_)
    · (try simp only [decide_eq_true_eq, decide_eq_false_iff_not, beq_iff_eq, beq_eq_false_iff_ne, bne_iff_ne, bne_eq_false_iff_eq, Bool.not_eq_true', Bool.not_eq_false', ne_eq, Bool.not_eq_eq_eq_not, Bool.not_true, Bool.not_false, gt_iff_lt, ge_iff_le, Bool.not_not] at h13)
      refine AL.n ?_
      refine AL.rf ?_
      refine AL.rf ?_
      refine AL.r (rd_pick_t rfl rfl rfl) ?_
      refine AL.r (rd_move rfl rfl) ?_
      refine AL.rf ?_
      refine AL.rf ?_
      refine AL.r (rd_pick_t rfl rfl rfl) ?_
      refine AL.nil ?_
      change AW _ _ _ _ _
      refine AW.cond_t rfl ?_
      refine AW.seq ?_
      refine AW.region ?_
      refine AL.r (rd_assign rfl rfl) ?_
      refine AL.nil ?_
      change AW _ _ _ _ _
      refine AW.ret ?_
      change ResA _ _ _ _ _
      refine res1 rfl (ResV.tmp rfl) rfl ?_
      first | rfl | (rw [lessO_trans (a := a) (b := b) (c := c) (by simp_all) (by simp_all)]) | simp_all
    · (try simp only [decide_eq_true_eq, decide_eq_false_iff_not, beq_iff_eq, beq_eq_false_iff_ne, bne_iff_ne, bne_eq_false_iff_eq, Bool.not_eq_true', Bool.not_eq_false', ne_eq, Bool.not_eq_eq_eq_not, Bool.not_true, Bool.not_false, gt_iff_lt, ge_iff_le, Bool.not_not] at h13)
      refine AL.n ?_
      refine AL.ro (rd_loadN_bx rfl ag_70 rfl rfl (Nat.le_of_ble_eq_true rfl) rfl) ?_
      refine AL.on rfl rfl rfl (AOpB.op (op_call (oheavy_c b) rfl (by kernel_rfl) rfl (none) ?_))
      rintro r rfl
      refine AL.n ?_
      refine AL.r (rd_pick_f rfl rfl rfl) ?_
      refine AL.r (rd_move rfl rfl) ?_
      refine AL.fork (d := 17) rfl (fun h17 => ?_) (fun h17 => ?_)
      · (try simp only [decide_eq_true_eq, decide_eq_false_iff_not, beq_iff_eq, beq_eq_false_iff_ne, bne_iff_ne, bne_eq_false_iff_eq, Bool.not_eq_true', Bool.not_eq_false', ne_eq, Bool.not_eq_eq_eq_not, Bool.not_true, Bool.not_false, gt_iff_lt, ge_iff_le, Bool.not_not] at h17)
        refine AL.n ?_
        refine AL.rf ?_
        refine AL.rf ?_
        refine AL.r (rd_pick_t rfl rfl rfl) ?_
        refine AL.nil ?_
        change AW _ _ _ _ _
        refine AW.cond_t rfl ?_
        refine AW.seq ?_
        refine AW.region ?_
        refine AL.r (rd_assign rfl rfl) ?_
        refine AL.nil ?_
        change AW _ _ _ _ _
        refine AW.ret ?_
        change ResA _ _ _ _ _
        refine res1 rfl (ResV.tmp rfl) rfl ?_
        first | rfl | (rw [lessO_trans (a := a) (b := b) (c := c) (by simp_all) (by simp_all)]) | simp_all
      · (try simp only [decide_eq_true_eq, decide_eq_false_iff_not, beq_iff_eq, beq_eq_false_iff_ne, bne_iff_ne, bne_eq_false_iff_eq, Bool.not_eq_true', Bool.not_eq_false', ne_eq, Bool.not_eq_eq_eq_not, Bool.not_true, Bool.not_false, gt_iff_lt, ge_iff_le, Bool.not_not] at h17)
        refine AL.n ?_
        refine AL.ro (rd_loadN_bx rfl ag_70 rfl rfl (Nat.le_of_ble_eq_true rfl) rfl) ?_
        refine AL.on rfl rfl rfl (AOpB.op (op_call (oheavy_c c) rfl (by kernel_rfl) rfl (none) ?_))
        rintro r rfl
        refine AL.n ?_
        refine AL.r (rd_pick_f rfl rfl rfl) ?_
        refine AL.nil ?_
        change AW _ _ _ _ _
        refine AW.cond rfl (fun h20 => ?_) (fun h20 => ?_)
        · (try simp only [decide_eq_true_eq, decide_eq_false_iff_not, beq_iff_eq, beq_eq_false_iff_ne, bne_iff_ne, bne_eq_false_iff_eq, Bool.not_eq_true', Bool.not_eq_false', ne_eq, Bool.not_eq_eq_eq_not, Bool.not_true, Bool.not_false, gt_iff_lt, ge_iff_le, Bool.not_not] at h20)
          refine AW.seq ?_
          refine AW.region ?_
          refine AL.r (rd_assign rfl rfl) ?_
          refine AL.nil ?_
          change AW _ _ _ _ _
          refine AW.ret ?_
          change ResA _ _ _ _ _
          refine res1 rfl (ResV.tmp rfl) rfl ?_
          first | rfl | (rw [lessO_trans (a := a) (b := b) (c := c) (by simp_all) (by simp_all)]) | simp_all
        · (try simp only [decide_eq_true_eq, decide_eq_false_iff_not, beq_iff_eq, beq_eq_false_iff_ne, bne_iff_ne, bne_eq_false_iff_eq, Bool.not_eq_true', Bool.not_eq_false', ne_eq, Bool.not_eq_eq_eq_not, Bool.not_true, Bool.not_false, gt_iff_lt, ge_iff_le, Bool.not_not] at h20)
          refine AW.skip ?_
          change AW _ _ _ _ _
          refine AW.seq ?_
          refine AW.draw (by kernel_rfl) ?_
          refine AD.r 0 rfl (rd_loadN_bx rfl ag_70 rfl rfl (Nat.le_of_ble_eq_true rfl) rfl) rfl ?_
          refine AD.r 1 rfl (rd_loadN_bx rfl ag_70 rfl rfl (Nat.le_of_ble_eq_true rfl) rfl) rfl ?_
          refine AD.r 3 rfl (rd_loadN_bx rfl ag_70 rfl rfl (Nat.le_of_ble_eq_true rfl) rfl) rfl ?_
          refine AD.r 4 rfl (rd_loadN_bx rfl ag_70 rfl rfl (Nat.le_of_ble_eq_true rfl) rfl) rfl ?_
          refine AD.move 2 rfl (by kernel_rfl) rfl (op_call (oless_c a b) rfl (by kernel_rfl) rfl (none) ?_)
          rintro r rfl
          refine AD.n ?_
          refine AD.move 5 rfl (by kernel_rfl) rfl (op_call (oless_c b a) rfl (by kernel_rfl) rfl (none) ?_)
          rintro r rfl
          refine AD.n ?_
          refine AD.r 6 rfl (rd_assign rfl rfl) rfl ?_
          refine AD.r 7 rfl (rd_assign rfl rfl) rfl ?_
          refine AD.done (by kernel_rfl) ?_
          change AW _ _ _ _ _
          refine AW.seq ?_
          refine AW.seq ?_
          refine AW.region ?_
          refine AL.r (rd_move rfl rfl) ?_
          refine AL.r (rd_loadN_bx rfl ag_70 rfl rfl (Nat.le_of_ble_eq_true rfl) rfl) ?_
          refine AL.r (rd_loadN_bx rfl ag_70 rfl rfl (Nat.le_of_ble_eq_true rfl) rfl) ?_
          refine AL.op rfl (AOpB.op (op_call (roless_c a b) rfl (by kernel_rfl) rfl (none) ?_))
          rintro r rfl
          refine AL.n ?_
          refine AL.r (rd_bneq rfl bo_4 rfl rfl) ?_
          refine AL.r (rd_move rfl rfl) ?_
          refine AL.fork (d := 32) rfl (fun h32 => ?_) (fun h32 => ?_)
          · (try simp only [decide_eq_true_eq, decide_eq_false_iff_not, beq_iff_eq, beq_eq_false_iff_ne, bne_iff_ne, bne_eq_false_iff_eq, Bool.not_eq_true', Bool.not_eq_false', ne_eq, Bool.not_eq_eq_eq_not, Bool.not_true, Bool.not_false, gt_iff_lt, ge_iff_le, Bool.not_not] at h32)
            simp at h32
          · (try simp only [decide_eq_true_eq, decide_eq_false_iff_not, beq_iff_eq, beq_eq_false_iff_ne, bne_iff_ne, bne_eq_false_iff_eq, Bool.not_eq_true', Bool.not_eq_false', ne_eq, Bool.not_eq_eq_eq_not, Bool.not_true, Bool.not_false, gt_iff_lt, ge_iff_le, Bool.not_not] at h32)
            refine AL.n ?_
            refine AL.ro (rd_move rfl rfl) ?_
            refine AL.ro (rd_move rfl rfl) ?_
            refine AL.fork (d := 34) rfl (fun h34 => ?_) (fun h34 => ?_)
            · (try simp only [decide_eq_true_eq, decide_eq_false_iff_not, beq_iff_eq, beq_eq_false_iff_ne, bne_iff_ne, bne_eq_false_iff_eq, Bool.not_eq_true', Bool.not_eq_false', ne_eq, Bool.not_eq_eq_eq_not, Bool.not_true, Bool.not_false, gt_iff_lt, ge_iff_le, Bool.not_not] at h34)
              refine AL.n ?_
              refine AL.ro (rd_move rfl rfl) ?_
              refine AL.ro (rd_pick_t rfl rfl rfl) ?_
              refine AL.r (rd_pick_f rfl rfl rfl) ?_
              refine AL.r (rd_move rfl rfl) ?_
              refine AL.fork (d := 38) rfl (fun h38 => ?_) (fun h38 => ?_)
              · (try simp only [decide_eq_true_eq, decide_eq_false_iff_not, beq_iff_eq, beq_eq_false_iff_ne, bne_iff_ne, bne_eq_false_iff_eq, Bool.not_eq_true', Bool.not_eq_false', ne_eq, Bool.not_eq_eq_eq_not, Bool.not_true, Bool.not_false, gt_iff_lt, ge_iff_le, Bool.not_not] at h38)
                exact (lessO_asym h34 h38).elim
              · (try simp only [decide_eq_true_eq, decide_eq_false_iff_not, beq_iff_eq, beq_eq_false_iff_ne, bne_iff_ne, bne_eq_false_iff_eq, Bool.not_eq_true', Bool.not_eq_false', ne_eq, Bool.not_eq_eq_eq_not, Bool.not_true, Bool.not_false, gt_iff_lt, ge_iff_le, Bool.not_not] at h38)
                refine AL.n ?_
                refine AL.ro (rd_faddr_bx rfl fo_70_0 rfl rfl ⟨_, _, rfl⟩) ?_
                refine AL.ro (rd_loadN_bx rfl ag_59 rfl rfl (Nat.le_of_ble_eq_true rfl) rfl) ?_
                refine AL.ro (rd_faddr_bx rfl fo_70_0 rfl rfl ⟨_, _, rfl⟩) ?_
                refine AL.ro (rd_loadN_bx rfl ag_59 rfl rfl (Nat.le_of_ble_eq_true rfl) rfl) ?_
                refine AL.ro (rd_ne_Tag rfl rfl rfl) ?_
                refine AL.ro (rd_move rfl rfl) ?_
                refine AL.fork (d := 44) rfl (fun h44 => ?_) (fun h44 => ?_)
                · (try simp only [decide_eq_true_eq, decide_eq_false_iff_not, beq_iff_eq, beq_eq_false_iff_ne, bne_iff_ne, bne_eq_false_iff_eq, Bool.not_eq_true', Bool.not_eq_false', ne_eq, Bool.not_eq_eq_eq_not, Bool.not_true, Bool.not_false, gt_iff_lt, ge_iff_le, Bool.not_not] at h44)
                  refine AL.n ?_
                  refine AL.ro (rd_move rfl rfl) ?_
                  refine AL.ro (rd_un rfl rfl (fun _ => rfl)) ?_
                  refine AL.ro (rd_pick_t rfl rfl rfl) ?_
                  refine AL.ro (rd_move rfl rfl) ?_
                  refine AL.fork (d := 48) rfl (fun h48 => ?_) (fun h48 => ?_)
                  · (try simp only [decide_eq_true_eq, decide_eq_false_iff_not, beq_iff_eq, beq_eq_false_iff_ne, bne_iff_ne, bne_eq_false_iff_eq, Bool.not_eq_true', Bool.not_eq_false', ne_eq, Bool.not_eq_eq_eq_not, Bool.not_true, Bool.not_false, gt_iff_lt, ge_iff_le, Bool.not_not] at h48)
                    refine AL.n ?_
                    refine AL.ro (rd_move rfl rfl) ?_
                    refine AL.ro (rd_un rfl rfl (fun _ => rfl)) ?_
                    refine AL.ro (rd_pick_t rfl rfl rfl) ?_
                    refine AL.r (rd_pick_f rfl rfl rfl) ?_
                    refine AL.nil ?_
                    change AW _ _ _ _ _
                    refine AW.cond rfl (fun h52 => ?_) (fun h52 => ?_)
                    · (try simp only [decide_eq_true_eq, decide_eq_false_iff_not, beq_iff_eq, beq_eq_false_iff_ne, bne_iff_ne, bne_eq_false_iff_eq, Bool.not_eq_true', Bool.not_eq_false', ne_eq, Bool.not_eq_eq_eq_not, Bool.not_true, Bool.not_false, gt_iff_lt, ge_iff_le, Bool.not_not] at h52)
                      refine AW.seq ?_
                      refine AW.region ?_
                      refine AL.r (rd_assign rfl rfl) ?_
                      refine AL.nil ?_
                      change AW _ _ _ _ _
                      refine AW.ret ?_
                      change ResA _ _ _ _ _
                      refine res1 rfl (ResV.tmp rfl) rfl ?_
                      exact (lessO_tot h44 h48 h52).elim
                    · (try simp only [decide_eq_true_eq, decide_eq_false_iff_not, beq_iff_eq, beq_eq_false_iff_ne, bne_iff_ne, bne_eq_false_iff_eq, Bool.not_eq_true', Bool.not_eq_false', ne_eq, Bool.not_eq_eq_eq_not, Bool.not_true, Bool.not_false, gt_iff_lt, ge_iff_le, Bool.not_not] at h52)
                      refine AW.skip ?_
                      change AW _ _ _ _ _
                      refine AW.seq ?_
                      refine AW.region ?_
                      refine AL.r (rd_move rfl rfl) ?_
                      refine AL.r (rd_un rfl rfl (fun _ => rfl)) ?_
                      refine AL.r (rd_move rfl rfl) ?_
                      refine AL.fork (d := 55) rfl (fun h55 => ?_) (fun h55 => ?_)
                      · (try simp only [decide_eq_true_eq, decide_eq_false_iff_not, beq_iff_eq, beq_eq_false_iff_ne, bne_iff_ne, bne_eq_false_iff_eq, Bool.not_eq_true', Bool.not_eq_false', ne_eq, Bool.not_eq_eq_eq_not, Bool.not_true, Bool.not_false, gt_iff_lt, ge_iff_le, Bool.not_not] at h55)
                        refine AL.n ?_
                        refine AL.rf ?_
                        refine AL.rf ?_
                        refine AL.rf ?_
                        refine AL.rf ?_
                        refine AL.r (rd_pick_t rfl rfl rfl) ?_
                        refine AL.r (rd_move rfl rfl) ?_
                        refine AL.rf ?_
                        refine AL.rf ?_
                        refine AL.rf ?_
                        refine AL.r (rd_pick_t rfl rfl rfl) ?_
                        refine AL.r (rd_assign rfl rfl) ?_
                        refine AL.nil ?_
                        change AW _ _ _ _ _
                        refine AW.ret ?_
                        change ResA _ _ _ _ _
                        refine res1 rfl (ResV.tmp rfl) rfl ?_
                        first | rfl | (rw [lessO_trans (a := a) (b := b) (c := c) (by simp_all) (by simp_all)]) | simp_all
                      · (try simp only [decide_eq_true_eq, decide_eq_false_iff_not, beq_iff_eq, beq_eq_false_iff_ne, bne_iff_ne, bne_eq_false_iff_eq, Bool.not_eq_true', Bool.not_eq_false', ne_eq, Bool.not_eq_eq_eq_not, Bool.not_true, Bool.not_false, gt_iff_lt, ge_iff_le, Bool.not_not] at h55)
                        refine AL.n ?_
                        refine AL.ro (rd_loadN_bx rfl ag_70 rfl rfl (Nat.le_of_ble_eq_true rfl) rfl) ?_
                        refine AL.ro (rd_loadN_bx rfl ag_70 rfl rfl (Nat.le_of_ble_eq_true rfl) rfl) ?_
                        refine AL.on rfl rfl rfl (AOpB.op (op_call (oless_c b c) rfl (by kernel_rfl) rfl (none) ?_))
                        rintro r rfl
                        refine AL.n ?_
                        refine AL.ro (rd_un rfl rfl (fun _ => rfl)) ?_
                        refine AL.r (rd_pick_f rfl rfl rfl) ?_
                        refine AL.r (rd_move rfl rfl) ?_
                        refine AL.fork (d := 61) rfl (fun h61 => ?_) (fun h61 => ?_)
                        · (try simp only [decide_eq_true_eq, decide_eq_false_iff_not, beq_iff_eq, beq_eq_false_iff_ne, bne_iff_ne, bne_eq_false_iff_eq, Bool.not_eq_true', Bool.not_eq_false', ne_eq, Bool.not_eq_eq_eq_not, Bool.not_true, Bool.not_false, gt_iff_lt, ge_iff_le, Bool.not_not] at h61)
                          refine AL.n ?_
                          refine AL.rf ?_
                          refine AL.rf ?_
                          refine AL.rf ?_
                          refine AL.r (rd_pick_t rfl rfl rfl) ?_
                          refine AL.r (rd_assign rfl rfl) ?_
                          refine AL.nil ?_
                          change AW _ _ _ _ _
                          refine AW.ret ?_
                          change ResA _ _ _ _ _
                          refine res1 rfl (ResV.tmp rfl) rfl ?_
                          first | rfl | (rw [lessO_trans (a := a) (b := b) (c := c) (by simp_all) (by simp_all)]) | simp_all
                        · (try simp only [decide_eq_true_eq, decide_eq_false_iff_not, beq_iff_eq, beq_eq_false_iff_ne, bne_iff_ne, bne_eq_false_iff_eq, Bool.not_eq_true', Bool.not_eq_false', ne_eq, Bool.not_eq_eq_eq_not, Bool.not_true, Bool.not_false, gt_iff_lt, ge_iff_le, Bool.not_not] at h61)
                          refine AL.n ?_
                          refine AL.ro (rd_loadN_bx rfl ag_70 rfl rfl (Nat.le_of_ble_eq_true rfl) rfl) ?_
                          refine AL.ro (rd_loadN_bx rfl ag_70 rfl rfl (Nat.le_of_ble_eq_true rfl) rfl) ?_
                          refine AL.on rfl rfl rfl (AOpB.op (op_call (oless_c a c) rfl (by kernel_rfl) rfl (none) ?_))
                          rintro r rfl
                          refine AL.n ?_
                          refine AL.r (rd_pick_f rfl rfl rfl) ?_
                          refine AL.r (rd_assign rfl rfl) ?_
                          refine AL.nil ?_
                          change AW _ _ _ _ _
                          refine AW.ret ?_
                          change ResA _ _ _ _ _
                          refine res1 rfl (ResV.tmp rfl) rfl ?_
                          first | rfl | (rw [lessO_trans (a := a) (b := b) (c := c) (by simp_all) (by simp_all)]) | simp_all
                  · (try simp only [decide_eq_true_eq, decide_eq_false_iff_not, beq_iff_eq, beq_eq_false_iff_ne, bne_iff_ne, bne_eq_false_iff_eq, Bool.not_eq_true', Bool.not_eq_false', ne_eq, Bool.not_eq_eq_eq_not, Bool.not_true, Bool.not_false, gt_iff_lt, ge_iff_le, Bool.not_not] at h48)
                    refine AL.n ?_
                    refine AL.rf ?_
                    refine AL.rf ?_
                    refine AL.ro (rd_pick_f rfl rfl rfl) ?_
                    refine AL.r (rd_pick_f rfl rfl rfl) ?_
                    refine AL.nil ?_
                    change AW _ _ _ _ _
                    refine AW.cond_f rfl ?_
                    refine AW.skip ?_
                    change AW _ _ _ _ _
                    refine AW.seq ?_
                    refine AW.region ?_
                    refine AL.r (rd_move rfl rfl) ?_
                    refine AL.r (rd_un rfl rfl (fun _ => rfl)) ?_
                    refine AL.r (rd_move rfl rfl) ?_
                    refine AL.fork (d := 55) rfl (fun h55 => ?_) (fun h55 => ?_)
                    · (try simp only [decide_eq_true_eq, decide_eq_false_iff_not, beq_iff_eq, beq_eq_false_iff_ne, bne_iff_ne, bne_eq_false_iff_eq, Bool.not_eq_true', Bool.not_eq_false', ne_eq, Bool.not_eq_eq_eq_not, Bool.not_true, Bool.not_false, gt_iff_lt, ge_iff_le, Bool.not_not] at h55)
                      refine AL.n ?_
                      refine AL.rf ?_
                      refine AL.rf ?_
                      refine AL.rf ?_
                      refine AL.rf ?_
                      refine AL.r (rd_pick_t rfl rfl rfl) ?_
                      refine AL.r (rd_move rfl rfl) ?_
                      refine AL.rf ?_
                      refine AL.rf ?_
                      refine AL.rf ?_
                      refine AL.r (rd_pick_t rfl rfl rfl) ?_
                      refine AL.r (rd_assign rfl rfl) ?_
                      refine AL.nil ?_
                      change AW _ _ _ _ _
                      refine AW.ret ?_
                      change ResA _ _ _ _ _
                      refine res1 rfl (ResV.tmp rfl) rfl ?_
                      first | rfl | (rw [lessO_trans (a := a) (b := b) (c := c) (by simp_all) (by simp_all)]) | simp_all
                    · (try simp only [decide_eq_true_eq, decide_eq_false_iff_not, beq_iff_eq, beq_eq_false_iff_ne, bne_iff_ne, bne_eq_false_iff_eq, Bool.not_eq_true', Bool.not_eq_false', ne_eq, Bool.not_eq_eq_eq_not, Bool.not_true, Bool.not_false, gt_iff_lt, ge_iff_le, Bool.not_not] at h55)
                      refine AL.n ?_
                      refine AL.ro (rd_loadN_bx rfl ag_70 rfl rfl (Nat.le_of_ble_eq_true rfl) rfl) ?_
                      refine AL.ro (rd_loadN_bx rfl ag_70 rfl rfl (Nat.le_of_ble_eq_true rfl) rfl) ?_
                      refine AL.on rfl rfl rfl (AOpB.op (op_call (oless_c b c) rfl (by kernel_rfl) rfl (none) ?_))
                      rintro r rfl
                      refine AL.n ?_
                      refine AL.ro (rd_un rfl rfl (fun _ => rfl)) ?_
                      refine AL.r (rd_pick_f rfl rfl rfl) ?_
                      refine AL.r (rd_move rfl rfl) ?_
                      refine AL.fork (d := 61) rfl (fun h61 => ?_) (fun h61 => ?_)
                      · (try simp only [decide_eq_true_eq, decide_eq_false_iff_not, beq_iff_eq, beq_eq_false_iff_ne, bne_iff_ne, bne_eq_false_iff_eq, Bool.not_eq_true', Bool.not_eq_false', ne_eq, Bool.not_eq_eq_eq_not, Bool.not_true, Bool.not_false, gt_iff_lt, ge_iff_le, Bool.not_not] at h61)
                        refine AL.n ?_
                        refine AL.rf ?_
                        refine AL.rf ?_
                        refine AL.rf ?_
                        refine AL.r (rd_pick_t rfl rfl rfl) ?_
                        refine AL.r (rd_assign rfl rfl) ?_
                        refine AL.nil ?_
                        change AW _ _ _ _ _
                        refine AW.ret ?_
                        change ResA _ _ _ _ _
                        refine res1 rfl (ResV.tmp rfl) rfl ?_
                        first | rfl | (rw [lessO_trans (a := a) (b := b) (c := c) (by simp_all) (by simp_all)]) | simp_all
                      · (try simp only [decide_eq_true_eq, decide_eq_false_iff_not, beq_iff_eq, beq_eq_false_iff_ne, bne_iff_ne, bne_eq_false_iff_eq, Bool.not_eq_true', Bool.not_eq_false', ne_eq, Bool.not_eq_eq_eq_not, Bool.not_true, Bool.not_false, gt_iff_lt, ge_iff_le, Bool.not_not] at h61)
                        refine AL.n ?_
                        refine AL.ro (rd_loadN_bx rfl ag_70 rfl rfl (Nat.le_of_ble_eq_true rfl) rfl) ?_
                        refine AL.ro (rd_loadN_bx rfl ag_70 rfl rfl (Nat.le_of_ble_eq_true rfl) rfl) ?_
                        refine AL.on rfl rfl rfl (AOpB.op (op_call (oless_c a c) rfl (by kernel_rfl) rfl (none) ?_))
                        rintro r rfl
                        refine AL.n ?_
                        refine AL.r (rd_pick_f rfl rfl rfl) ?_
                        refine AL.r (rd_assign rfl rfl) ?_
                        refine AL.nil ?_
                        change AW _ _ _ _ _
                        refine AW.ret ?_
                        change ResA _ _ _ _ _
                        refine res1 rfl (ResV.tmp rfl) rfl ?_
                        first | rfl | (rw [lessO_trans (a := a) (b := b) (c := c) (by simp_all) (by simp_all)]) | simp_all
                · (try simp only [decide_eq_true_eq, decide_eq_false_iff_not, beq_iff_eq, beq_eq_false_iff_ne, bne_iff_ne, bne_eq_false_iff_eq, Bool.not_eq_true', Bool.not_eq_false', ne_eq, Bool.not_eq_eq_eq_not, Bool.not_true, Bool.not_false, gt_iff_lt, ge_iff_le, Bool.not_not] at h44)
                  refine AL.n ?_
                  refine AL.rf ?_
                  refine AL.rf ?_
                  refine AL.ro (rd_pick_f rfl rfl rfl) ?_
                  refine AL.ro (rd_move rfl rfl) ?_
                  refine AL.rf ?_
                  refine AL.rf ?_
                  refine AL.ro (rd_pick_f rfl rfl rfl) ?_
                  refine AL.r (rd_pick_f rfl rfl rfl) ?_
                  refine AL.nil ?_
                  change AW _ _ _ _ _
                  refine AW.cond_f rfl ?_
                  refine AW.skip ?_
                  change AW _ _ _ _ _
                  refine AW.seq ?_
                  refine AW.region ?_
                  refine AL.r (rd_move rfl rfl) ?_
                  refine AL.r (rd_un rfl rfl (fun _ => rfl)) ?_
                  refine AL.r (rd_move rfl rfl) ?_
                  refine AL.fork (d := 55) rfl (fun h55 => ?_) (fun h55 => ?_)
                  · (try simp only [decide_eq_true_eq, decide_eq_false_iff_not, beq_iff_eq, beq_eq_false_iff_ne, bne_iff_ne, bne_eq_false_iff_eq, Bool.not_eq_true', Bool.not_eq_false', ne_eq, Bool.not_eq_eq_eq_not, Bool.not_true, Bool.not_false, gt_iff_lt, ge_iff_le, Bool.not_not] at h55)
                    refine AL.n ?_
                    refine AL.rf ?_
                    refine AL.rf ?_
                    refine AL.rf ?_
                    refine AL.rf ?_
                    refine AL.r (rd_pick_t rfl rfl rfl) ?_
                    refine AL.r (rd_move rfl rfl) ?_
                    refine AL.rf ?_
                    refine AL.rf ?_
                    refine AL.rf ?_
                    refine AL.r (rd_pick_t rfl rfl rfl) ?_
                    refine AL.r (rd_assign rfl rfl) ?_
                    refine AL.nil ?_
                    change AW _ _ _ _ _
                    refine AW.ret ?_
                    change ResA _ _ _ _ _
                    refine res1 rfl (ResV.tmp rfl) rfl ?_
                    first | rfl | (rw [lessO_trans (a := a) (b := b) (c := c) (by simp_all) (by simp_all)]) | simp_all
                  · (try simp only [decide_eq_true_eq, decide_eq_false_iff_not, beq_iff_eq, beq_eq_false_iff_ne, bne_iff_ne, bne_eq_false_iff_eq, Bool.not_eq_true', Bool.not_eq_false', ne_eq, Bool.not_eq_eq_eq_not, Bool.not_true, Bool.not_false, gt_iff_lt, ge_iff_le, Bool.not_not] at h55)
                    refine AL.n ?_
                    refine AL.ro (rd_loadN_bx rfl ag_70 rfl rfl (Nat.le_of_ble_eq_true rfl) rfl) ?_
                    refine AL.ro (rd_loadN_bx rfl ag_70 rfl rfl (Nat.le_of_ble_eq_true rfl) rfl) ?_
                    refine AL.on rfl rfl rfl (AOpB.op (op_call (oless_c b c) rfl (by kernel_rfl) rfl (none) ?_))
                    rintro r rfl
                    refine AL.n ?_
                    refine AL.ro (rd_un rfl rfl (fun _ => rfl)) ?_
                    refine AL.r (rd_pick_f rfl rfl rfl) ?_
                    refine AL.r (rd_move rfl rfl) ?_
                    refine AL.fork (d := 61) rfl (fun h61 => ?_) (fun h61 => ?_)
                    · (try simp only [decide_eq_true_eq, decide_eq_false_iff_not, beq_iff_eq, beq_eq_false_iff_ne, bne_iff_ne, bne_eq_false_iff_eq, Bool.not_eq_true', Bool.not_eq_false', ne_eq, Bool.not_eq_eq_eq_not, Bool.not_true, Bool.not_false, gt_iff_lt, ge_iff_le, Bool.not_not] at h61)
                      refine AL.n ?_
                      refine AL.rf ?_
                      refine AL.rf ?_
                      refine AL.rf ?_
                      refine AL.r (rd_pick_t rfl rfl rfl) ?_
                      refine AL.r (rd_assign rfl rfl) ?_
                      refine AL.nil ?_
                      change AW _ _ _ _ _
                      refine AW.ret ?_
                      change ResA _ _ _ _ _
                      refine res1 rfl (ResV.tmp rfl) rfl ?_
                      first | rfl | (rw [lessO_trans (a := a) (b := b) (c := c) (by simp_all) (by simp_all)]) | simp_all
                    · (try simp only [decide_eq_true_eq, decide_eq_false_iff_not, beq_iff_eq, beq_eq_false_iff_ne, bne_iff_ne, bne_eq_false_iff_eq, Bool.not_eq_true', Bool.not_eq_false', ne_eq, Bool.not_eq_eq_eq_not, Bool.not_true, Bool.not_false, gt_iff_lt, ge_iff_le, Bool.not_not] at h61)
                      refine AL.n ?_
                      refine AL.ro (rd_loadN_bx rfl ag_70 rfl rfl (Nat.le_of_ble_eq_true rfl) rfl) ?_
                      refine AL.ro (rd_loadN_bx rfl ag_70 rfl rfl (Nat.le_of_ble_eq_true rfl) rfl) ?_
                      refine AL.on rfl rfl rfl (AOpB.op (op_call (oless_c a c) rfl (by kernel_rfl) rfl (none) ?_))
                      rintro r rfl
                      refine AL.n ?_
                      refine AL.r (rd_pick_f rfl rfl rfl) ?_
                      refine AL.r (rd_assign rfl rfl) ?_
                      refine AL.nil ?_
                      change AW _ _ _ _ _
                      refine AW.ret ?_
                      change ResA _ _ _ _ _
                      refine res1 rfl (ResV.tmp rfl) rfl ?_
                      first | rfl | (rw [lessO_trans (a := a) (b := b) (c := c) (by simp_all) (by simp_all)]) | simp_all
            · (try simp only [decide_eq_true_eq, decide_eq_false_iff_not, beq_iff_eq, beq_eq_false_iff_ne, bne_iff_ne, bne_eq_false_iff_eq, Bool.not_eq_true', Bool.not_eq_false', ne_eq, Bool.not_eq_eq_eq_not, Bool.not_true, Bool.not_false, gt_iff_lt, ge_iff_le, Bool.not_not] at h34)
              refine AL.n ?_
              refine AL.rf ?_
              refine AL.ro (rd_pick_f rfl rfl rfl) ?_
              refine AL.r (rd_pick_f rfl rfl rfl) ?_
              refine AL.r (rd_move rfl rfl) ?_
              refine AL.ro (rd_faddr_bx rfl fo_70_0 rfl rfl ⟨_, _, rfl⟩) ?_
              refine AL.ro (rd_loadN_bx rfl ag_59 rfl rfl (Nat.le_of_ble_eq_true rfl) rfl) ?_
              refine AL.ro (rd_faddr_bx rfl fo_70_0 rfl rfl ⟨_, _, rfl⟩) ?_
              refine AL.ro (rd_loadN_bx rfl ag_59 rfl rfl (Nat.le_of_ble_eq_true rfl) rfl) ?_
              refine AL.ro (rd_ne_Tag rfl rfl rfl) ?_
              refine AL.ro (rd_move rfl rfl) ?_
              refine AL.fork (d := 44) rfl (fun h44 => ?_) (fun h44 => ?_)
              · (try simp only [decide_eq_true_eq, decide_eq_false_iff_not, beq_iff_eq, beq_eq_false_iff_ne, bne_iff_ne, bne_eq_false_iff_eq, Bool.not_eq_true', Bool.not_eq_false', ne_eq, Bool.not_eq_eq_eq_not, Bool.not_true, Bool.not_false, gt_iff_lt, ge_iff_le, Bool.not_not] at h44)
                refine AL.n ?_
                refine AL.ro (rd_move rfl rfl) ?_
                refine AL.ro (rd_un rfl rfl (fun _ => rfl)) ?_
                refine AL.ro (rd_pick_t rfl rfl rfl) ?_
                refine AL.ro (rd_move rfl rfl) ?_
                refine AL.fork (d := 48) rfl (fun h48 => ?_) (fun h48 => ?_)
                · (try simp only [decide_eq_true_eq, decide_eq_false_iff_not, beq_iff_eq, beq_eq_false_iff_ne, bne_iff_ne, bne_eq_false_iff_eq, Bool.not_eq_true', Bool.not_eq_false', ne_eq, Bool.not_eq_eq_eq_not, Bool.not_true, Bool.not_false, gt_iff_lt, ge_iff_le, Bool.not_not] at h48)
                  refine AL.n ?_
                  refine AL.ro (rd_move rfl rfl) ?_
                  refine AL.ro (rd_un rfl rfl (fun _ => rfl)) ?_
                  refine AL.ro (rd_pick_t rfl rfl rfl) ?_
                  refine AL.r (rd_pick_f rfl rfl rfl) ?_
                  refine AL.nil ?_
                  change AW _ _ _ _ _
                  refine AW.cond rfl (fun h52 => ?_) (fun h52 => ?_)
                  · (try simp only [decide_eq_true_eq, decide_eq_false_iff_not, beq_iff_eq, beq_eq_false_iff_ne, bne_iff_ne, bne_eq_false_iff_eq, Bool.not_eq_true', Bool.not_eq_false', ne_eq, Bool.not_eq_eq_eq_not, Bool.not_true, Bool.not_false, gt_iff_lt, ge_iff_le, Bool.not_not] at h52)
                    refine AW.seq ?_
                    refine AW.region ?_
                    refine AL.r (rd_assign rfl rfl) ?_
                    refine AL.nil ?_
                    change AW _ _ _ _ _
                    refine AW.ret ?_
                    change ResA _ _ _ _ _
                    refine res1 rfl (ResV.tmp rfl) rfl ?_
                    exact (lessO_tot h44 h48 h52).elim
                  · (try simp only [decide_eq_true_eq, decide_eq_false_iff_not, beq_iff_eq, beq_eq_false_iff_ne, bne_iff_ne, bne_eq_false_iff_eq, Bool.not_eq_true', Bool.not_eq_false', ne_eq, Bool.not_eq_eq_eq_not, Bool.not_true, Bool.not_false, gt_iff_lt, ge_iff_le, Bool.not_not] at h52)
                    refine AW.skip ?_
                    change AW _ _ _ _ _
                    refine AW.seq ?_
                    refine AW.region ?_
                    refine AL.r (rd_move rfl rfl) ?_
                    refine AL.r (rd_un rfl rfl (fun _ => rfl)) ?_
                    refine AL.r (rd_move rfl rfl) ?_
                    refine AL.fork (d := 55) rfl (fun h55 => ?_) (fun h55 => ?_)
                    · (try simp only [decide_eq_true_eq, decide_eq_false_iff_not, beq_iff_eq, beq_eq_false_iff_ne, bne_iff_ne, bne_eq_false_iff_eq, Bool.not_eq_true', Bool.not_eq_false', ne_eq, Bool.not_eq_eq_eq_not, Bool.not_true, Bool.not_false, gt_iff_lt, ge_iff_le, Bool.not_not] at h55)
                      refine AL.n ?_
                      refine AL.rf ?_
                      refine AL.rf ?_
                      refine AL.rf ?_
                      refine AL.rf ?_
                      refine AL.r (rd_pick_t rfl rfl rfl) ?_
                      refine AL.r (rd_move rfl rfl) ?_
                      refine AL.rf ?_
                      refine AL.rf ?_
                      refine AL.rf ?_
                      refine AL.r (rd_pick_t rfl rfl rfl) ?_
                      refine AL.r (rd_assign rfl rfl) ?_
                      refine AL.nil ?_
                      change AW _ _ _ _ _
                      refine AW.ret ?_
                      change ResA _ _ _ _ _
                      refine res1 rfl (ResV.tmp rfl) rfl ?_
                      first | rfl | (rw [lessO_trans (a := a) (b := b) (c := c) (by simp_all) (by simp_all)]) | simp_all
                    · (try simp only [decide_eq_true_eq, decide_eq_false_iff_not, beq_iff_eq, beq_eq_false_iff_ne, bne_iff_ne, bne_eq_false_iff_eq, Bool.not_eq_true', Bool.not_eq_false', ne_eq, Bool.not_eq_eq_eq_not, Bool.not_true, Bool.not_false, gt_iff_lt, ge_iff_le, Bool.not_not] at h55)
                      refine AL.n ?_
                      refine AL.ro (rd_loadN_bx rfl ag_70 rfl rfl (Nat.le_of_ble_eq_true rfl) rfl) ?_
                      refine AL.ro (rd_loadN_bx rfl ag_70 rfl rfl (Nat.le_of_ble_eq_true rfl) rfl) ?_
                      refine AL.on rfl rfl rfl (AOpB.op (op_call (oless_c b c) rfl (by kernel_rfl) rfl (none) ?_))
                      rintro r rfl
                      refine AL.n ?_
                      refine AL.ro (rd_un rfl rfl (fun _ => rfl)) ?_
                      refine AL.r (rd_pick_f rfl rfl rfl) ?_
                      refine AL.r (rd_move rfl rfl) ?_
                      refine AL.fork (d := 61) rfl (fun h61 => ?_) (fun h61 => ?_)
                      · (try simp only [decide_eq_true_eq, decide_eq_false_iff_not, beq_iff_eq, beq_eq_false_iff_ne, bne_iff_ne, bne_eq_false_iff_eq, Bool.not_eq_true', Bool.not_eq_false', ne_eq, Bool.not_eq_eq_eq_not, Bool.not_true, Bool.not_false, gt_iff_lt, ge_iff_le, Bool.not_not] at h61)
                        refine AL.n ?_
                        refine AL.rf ?_
                        refine AL.rf ?_
                        refine AL.rf ?_
                        refine AL.r (rd_pick_t rfl rfl rfl) ?_
                        refine AL.r (rd_assign rfl rfl) ?_
                        refine AL.nil ?_
                        change AW _ _ _ _ _
                        refine AW.ret ?_
                        change ResA _ _ _ _ _
                        refine res1 rfl (ResV.tmp rfl) rfl ?_
                        first | rfl | (rw [lessO_trans (a := a) (b := b) (c := c) (by simp_all) (by simp_all)]) | simp_all
                      · (try simp only [decide_eq_true_eq, decide_eq_false_iff_not, beq_iff_eq, beq_eq_false_iff_ne, bne_iff_ne, bne_eq_false_iff_eq, Bool.not_eq_true', Bool.not_eq_false', ne_eq, Bool.not_eq_eq_eq_not, Bool.not_true, Bool.not_false, gt_iff_lt, ge_iff_le, Bool.not_not] at h61)
                        refine AL.n ?_
                        refine AL.ro (rd_loadN_bx rfl ag_70 rfl rfl (Nat.le_of_ble_eq_true rfl) rfl) ?_
                        refine AL.ro (rd_loadN_bx rfl ag_70 rfl rfl (Nat.le_of_ble_eq_true rfl) rfl) ?_
                        refine AL.on rfl rfl rfl (AOpB.op (op_call (oless_c a c) rfl (by kernel_rfl) rfl (none) ?_))
                        rintro r rfl
                        refine AL.n ?_
                        refine AL.r (rd_pick_f rfl rfl rfl) ?_
                        refine AL.r (rd_assign rfl rfl) ?_
                        refine AL.nil ?_
                        change AW _ _ _ _ _
                        refine AW.ret ?_
                        change ResA _ _ _ _ _
                        refine res1 rfl (ResV.tmp rfl) rfl ?_
                        first | rfl | (rw [lessO_trans (a := a) (b := b) (c := c) (by simp_all) (by simp_all)]) | simp_all
                · (try simp only [decide_eq_true_eq, decide_eq_false_iff_not, beq_iff_eq, beq_eq_false_iff_ne, bne_iff_ne, bne_eq_false_iff_eq, Bool.not_eq_true', Bool.not_eq_false', ne_eq, Bool.not_eq_eq_eq_not, Bool.not_true, Bool.not_false, gt_iff_lt, ge_iff_le, Bool.not_not] at h48)
                  refine AL.n ?_
                  refine AL.rf ?_
                  refine AL.rf ?_
                  refine AL.ro (rd_pick_f rfl rfl rfl) ?_
                  refine AL.r (rd_pick_f rfl rfl rfl) ?_
                  refine AL.nil ?_
                  change AW _ _ _ _ _
                  refine AW.cond_f rfl ?_
                  refine AW.skip ?_
                  change AW _ _ _ _ _
                  refine AW.seq ?_
                  refine AW.region ?_
                  refine AL.r (rd_move rfl rfl) ?_
                  refine AL.r (rd_un rfl rfl (fun _ => rfl)) ?_
                  refine AL.r (rd_move rfl rfl) ?_
                  refine AL.fork (d := 55) rfl (fun h55 => ?_) (fun h55 => ?_)
                  · (try simp only [decide_eq_true_eq, decide_eq_false_iff_not, beq_iff_eq, beq_eq_false_iff_ne, bne_iff_ne, bne_eq_false_iff_eq, Bool.not_eq_true', Bool.not_eq_false', ne_eq, Bool.not_eq_eq_eq_not, Bool.not_true, Bool.not_false, gt_iff_lt, ge_iff_le, Bool.not_not] at h55)
                    refine AL.n ?_
                    refine AL.rf ?_
                    refine AL.rf ?_
                    refine AL.rf ?_
                    refine AL.rf ?_
                    refine AL.r (rd_pick_t rfl rfl rfl) ?_
                    refine AL.r (rd_move rfl rfl) ?_
                    refine AL.rf ?_
                    refine AL.rf ?_
                    refine AL.rf ?_
                    refine AL.r (rd_pick_t rfl rfl rfl) ?_
                    refine AL.r (rd_assign rfl rfl) ?_
                    refine AL.nil ?_
                    change AW _ _ _ _ _
                    refine AW.ret ?_
                    change ResA _ _ _ _ _
                    refine res1 rfl (ResV.tmp rfl) rfl ?_
                    first | rfl | (rw [lessO_trans (a := a) (b := b) (c := c) (by simp_all) (by simp_all)]) | simp_all
                  · (try simp only [decide_eq_true_eq, decide_eq_false_iff_not, beq_iff_eq, beq_eq_false_iff_ne, bne_iff_ne, bne_eq_false_iff_eq, Bool.not_eq_true', Bool.not_eq_false', ne_eq, Bool.not_eq_eq_eq_not, Bool.not_true, Bool.not_false, gt_iff_lt, ge_iff_le, Bool.not_not] at h55)
                    refine AL.n ?_
                    refine AL.ro (rd_loadN_bx rfl ag_70 rfl rfl (Nat.le_of_ble_eq_true rfl) rfl) ?_
                    refine AL.ro (rd_loadN_bx rfl ag_70 rfl rfl (Nat.le_of_ble_eq_true rfl) rfl) ?_
                    refine AL.on rfl rfl rfl (AOpB.op (op_call (oless_c b c) rfl (by kernel_rfl) rfl (none) ?_))
                    rintro r rfl
                    refine AL.n ?_
                    refine AL.ro (rd_un rfl rfl (fun _ => rfl)) ?_
                    refine AL.r (rd_pick_f rfl rfl rfl) ?_
                    refine AL.r (rd_move rfl rfl) ?_
                    refine AL.fork (d := 61) rfl (fun h61 => ?_) (fun h61 => ?_)
                    · (try simp only [decide_eq_true_eq, decide_eq_false_iff_not, beq_iff_eq, beq_eq_false_iff_ne, bne_iff_ne, bne_eq_false_iff_eq, Bool.not_eq_true', Bool.not_eq_false', ne_eq, Bool.not_eq_eq_eq_not, Bool.not_true, Bool.not_false, gt_iff_lt, ge_iff_le, Bool.not_not] at h61)
                      refine AL.n ?_
                      refine AL.rf ?_
                      refine AL.rf ?_
                      refine AL.rf ?_
                      refine AL.r (rd_pick_t rfl rfl rfl) ?_
                      refine AL.r (rd_assign rfl rfl) ?_
                      refine AL.nil ?_
                      change AW _ _ _ _ _
                      refine AW.ret ?_
                      change ResA _ _ _ _ _
                      refine res1 rfl (ResV.tmp rfl) rfl ?_
                      first | rfl | (rw [lessO_trans (a := a) (b := b) (c := c) (by simp_all) (by simp_all)]) | simp_all
                    · (try simp only [decide_eq_true_eq, decide_eq_false_iff_not, beq_iff_eq, beq_eq_false_iff_ne, bne_iff_ne, bne_eq_false_iff_eq, Bool.not_eq_true', Bool.not_eq_false', ne_eq, Bool.not_eq_eq_eq_not, Bool.not_true, Bool.not_false, gt_iff_lt, ge_iff_le, Bool.not_not] at h61)
                      refine AL.n ?_
                      refine AL.ro (rd_loadN_bx rfl ag_70 rfl rfl (Nat.le_of_ble_eq_true rfl) rfl) ?_
                      refine AL.ro (rd_loadN_bx rfl ag_70 rfl rfl (Nat.le_of_ble_eq_true rfl) rfl) ?_
                      refine AL.on rfl rfl rfl (AOpB.op (op_call (oless_c a c) rfl (by kernel_rfl) rfl (none) ?_))
                      rintro r rfl
                      refine AL.n ?_
                      refine AL.r (rd_pick_f rfl rfl rfl) ?_
                      refine AL.r (rd_assign rfl rfl) ?_
                      refine AL.nil ?_
                      change AW _ _ _ _ _
                      refine AW.ret ?_
                      change ResA _ _ _ _ _
                      refine res1 rfl (ResV.tmp rfl) rfl ?_
                      first | rfl | (rw [lessO_trans (a := a) (b := b) (c := c) (by simp_all) (by simp_all)]) | simp_all
              · (try simp only [decide_eq_true_eq, decide_eq_false_iff_not, beq_iff_eq, beq_eq_false_iff_ne, bne_iff_ne, bne_eq_false_iff_eq, Bool.not_eq_true', Bool.not_eq_false', ne_eq, Bool.not_eq_eq_eq_not, Bool.not_true, Bool.not_false, gt_iff_lt, ge_iff_le, Bool.not_not] at h44)
                refine AL.n ?_
                refine AL.rf ?_
                refine AL.rf ?_
                refine AL.ro (rd_pick_f rfl rfl rfl) ?_
                refine AL.ro (rd_move rfl rfl) ?_
                refine AL.rf ?_
                refine AL.rf ?_
                refine AL.ro (rd_pick_f rfl rfl rfl) ?_
                refine AL.r (rd_pick_f rfl rfl rfl) ?_
                refine AL.nil ?_
                change AW _ _ _ _ _
                refine AW.cond_f rfl ?_
                refine AW.skip ?_
                change AW _ _ _ _ _
                refine AW.seq ?_
                refine AW.region ?_
                refine AL.r (rd_move rfl rfl) ?_
                refine AL.r (rd_un rfl rfl (fun _ => rfl)) ?_
                refine AL.r (rd_move rfl rfl) ?_
                refine AL.fork (d := 55) rfl (fun h55 => ?_) (fun h55 => ?_)
                · (try simp only [decide_eq_true_eq, decide_eq_false_iff_not, beq_iff_eq, beq_eq_false_iff_ne, bne_iff_ne, bne_eq_false_iff_eq, Bool.not_eq_true', Bool.not_eq_false', ne_eq, Bool.not_eq_eq_eq_not, Bool.not_true, Bool.not_false, gt_iff_lt, ge_iff_le, Bool.not_not] at h55)
                  refine AL.n ?_
                  refine AL.rf ?_
                  refine AL.rf ?_
                  refine AL.rf ?_
                  refine AL.rf ?_
                  refine AL.r (rd_pick_t rfl rfl rfl) ?_
                  refine AL.r (rd_move rfl rfl) ?_
                  refine AL.rf ?_
                  refine AL.rf ?_
                  refine AL.rf ?_
                  refine AL.r (rd_pick_t rfl rfl rfl) ?_
                  refine AL.r (rd_assign rfl rfl) ?_
                  refine AL.nil ?_
                  change AW _ _ _ _ _
                  refine AW.ret ?_
                  change ResA _ _ _ _ _
                  refine res1 rfl (ResV.tmp rfl) rfl ?_
                  first | rfl | (rw [lessO_trans (a := a) (b := b) (c := c) (by simp_all) (by simp_all)]) | simp_all
                · (try simp only [decide_eq_true_eq, decide_eq_false_iff_not, beq_iff_eq, beq_eq_false_iff_ne, bne_iff_ne, bne_eq_false_iff_eq, Bool.not_eq_true', Bool.not_eq_false', ne_eq, Bool.not_eq_eq_eq_not, Bool.not_true, Bool.not_false, gt_iff_lt, ge_iff_le, Bool.not_not] at h55)
                  refine AL.n ?_
                  refine AL.ro (rd_loadN_bx rfl ag_70 rfl rfl (Nat.le_of_ble_eq_true rfl) rfl) ?_
                  refine AL.ro (rd_loadN_bx rfl ag_70 rfl rfl (Nat.le_of_ble_eq_true rfl) rfl) ?_
                  refine AL.on rfl rfl rfl (AOpB.op (op_call (oless_c b c) rfl (by kernel_rfl) rfl (none) ?_))
                  rintro r rfl
                  refine AL.n ?_
                  refine AL.ro (rd_un rfl rfl (fun _ => rfl)) ?_
                  refine AL.r (rd_pick_f rfl rfl rfl) ?_
                  refine AL.r (rd_move rfl rfl) ?_
                  refine AL.fork (d := 61) rfl (fun h61 => ?_) (fun h61 => ?_)
                  · (try simp only [decide_eq_true_eq, decide_eq_false_iff_not, beq_iff_eq, beq_eq_false_iff_ne, bne_iff_ne, bne_eq_false_iff_eq, Bool.not_eq_true', Bool.not_eq_false', ne_eq, Bool.not_eq_eq_eq_not, Bool.not_true, Bool.not_false, gt_iff_lt, ge_iff_le, Bool.not_not] at h61)
                    refine AL.n ?_
                    refine AL.rf ?_
                    refine AL.rf ?_
                    refine AL.rf ?_
                    refine AL.r (rd_pick_t rfl rfl rfl) ?_
                    refine AL.r (rd_assign rfl rfl) ?_
                    refine AL.nil ?_
                    change AW _ _ _ _ _
                    refine AW.ret ?_
                    change ResA _ _ _ _ _
                    refine res1 rfl (ResV.tmp rfl) rfl ?_
                    first | rfl | (rw [lessO_trans (a := a) (b := b) (c := c) (by simp_all) (by simp_all)]) | simp_all
                  · (try simp only [decide_eq_true_eq, decide_eq_false_iff_not, beq_iff_eq, beq_eq_false_iff_ne, bne_iff_ne, bne_eq_false_iff_eq, Bool.not_eq_true', Bool.not_eq_false', ne_eq, Bool.not_eq_eq_eq_not, Bool.not_true, Bool.not_false, gt_iff_lt, ge_iff_le, Bool.not_not] at h61)
                    refine AL.n ?_
                    refine AL.ro (rd_loadN_bx rfl ag_70 rfl rfl (Nat.le_of_ble_eq_true rfl) rfl) ?_
                    refine AL.ro (rd_loadN_bx rfl ag_70 rfl rfl (Nat.le_of_ble_eq_true rfl) rfl) ?_
                    refine AL.on rfl rfl rfl (AOpB.op (op_call (oless_c a c) rfl (by kernel_rfl) rfl (none) ?_))
                    rintro r rfl
                    refine AL.n ?_
                    refine AL.r (rd_pick_f rfl rfl rfl) ?_
                    refine AL.r (rd_assign rfl rfl) ?_
                    refine AL.nil ?_
                    change AW _ _ _ _ _
                    refine AW.ret ?_
                    change ResA _ _ _ _ _
                    refine res1 rfl (ResV.tmp rfl) rfl ?_
                    first | rfl | (rw [lessO_trans (a := a) (b := b) (c := c) (by simp_all) (by simp_all)]) | simp_all
theorem walk_OpOrders (w : World) (v0 : Value) (o0 : OpD) (rp0 : RepS AnyB w v0 o0.av) (v1 : Value) (o1 : OpD) (rp1 : RepS AnyB w v1 o1.av) (v2 : Value) (o2 : OpD) (rp2 : RepS AnyB w v2 o2.av) :
    Calls Try.prog 9 #[v0, v1, v2] w fun e w' => e = .returned (.bool true) ∧ Below w.heap.size w w' :=
  (orders_c o0 o1 o2).law (vs := [v0, v1, v2]) rfl (rep_cons rp0 (rep_cons rp1 (rep_cons rp2 rep_nil)))
end Go.Proofs.Ytfnpgaiaebkkmaa
