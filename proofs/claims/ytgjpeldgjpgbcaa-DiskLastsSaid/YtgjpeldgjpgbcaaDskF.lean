/- The disk as an object: its methods' contracts. -/
import Derived.Test.YtgjpeldgjpgbcaaDskE
import Derived.Test.YtgjpeldgjpgbcaaAn
namespace Go.Proofs.Ytgjpeldgjpgbcaa
set_option linter.unusedSimpArgs false
set_option linter.unusedVariables false
set_option maxRecDepth 100000
open Go.RowKit

section
variable (d : DiskD) (g g1 g2 g3 g4 g5 g6 g7 g8 g9 : Nat)
theorem append_out (b : List UInt8) (f : Int) (hf : ¬(0 ≤ f ∧ f < 4)) : ACo Try.prog 19 [.bx 0 g 0, .sc (.int .i64 f), .sl (byA b)] (diskT g g1 g2 g3 g4 g5 g6 g7 g8 g9 d)
    (fun y os' => y = .sc (.int .i64 2) ∧ DiskAt g d os') := by
  refine ACo.of (t0 := [.bx 0 g 0, .sc (.int .i64 f), .sl (byA b), AV.sc undef, AV.sc undef, AV.sc undef, AV.sc undef, AV.sc undef, AV.sc undef, AV.sc undef, AV.sc undef, AV.sc undef, AV.sc undef, AV.sc undef, AV.sc undef, AV.sc undef, AV.sc undef, AV.sc undef, AV.sc undef, AV.sc undef, AV.sc undef, AV.sc undef, AV.sc undef, AV.sc undef, AV.sc undef, AV.sc undef, AV.sc undef, AV.sc undef, AV.sc undef, AV.sc undef, AV.sc undef, AV.sc undef, AV.sc undef, AV.sc undef, AV.sc undef, AV.sc undef, AV.sc undef, AV.sc undef, AV.sc undef, AV.sc undef, AV.sc undef, AV.sc undef, AV.sc undef, AV.sc undef, AV.sc undef, AV.sc undef, AV.sc undef, AV.sc undef, AV.sc undef, AV.sc undef, AV.sc undef, AV.sc undef, AV.sc undef, AV.sc undef, AV.sc undef, AV.sc undef, AV.sc undef, AV.sc undef, AV.sc undef, AV.sc undef, AV.sc undef, AV.sc undef, AV.sc undef, AV.sc undef, AV.sc undef, AV.sc undef, AV.sc undef, AV.sc undef, AV.sc undef, AV.sc undef, AV.sc undef]) (st0 := [⟨g, .box 99 [.sc (.int .i64 d.room), .ow 1 g1, .ow 2 g2, .ow 3 g3, .ow 4 g4, .ow 5 g5, .ow 6 g6, .ow 7 g7, .ow 8 g8, .ow 9 g9, .sc (.int .i64 d.waits), .sc (.int .i64 d.done), .sc (.bool d.fused), .sc (.int .i64 d.fuse), .sc (.bool d.dark)]⟩, ⟨g1, owM (d.nf 0) 5 1 (byA (d.n 0))⟩, ⟨g2, owM (d.nf 1) 5 1 (byA (d.n 1))⟩, ⟨g3, owM (d.nf 2) 5 1 (byA (d.n 2))⟩, ⟨g4, owM (d.nf 3) 5 1 (byA (d.n 3))⟩, ⟨g5, owM (d.lf 0) 5 1 (byA (d.l 0))⟩, ⟨g6, owM (d.lf 1) 5 1 (byA (d.l 1))⟩, ⟨g7, owM (d.lf 2) 5 1 (byA (d.l 2))⟩, ⟨g8, owM (d.lf 3) 5 1 (byA (d.l 3))⟩, ⟨g9, owM true 102 4 (d.q.map DeedD.cs)⟩, TK.mk 0 .off, TK.mk 0 .off, TK.mk 0 .off, TK.mk 0 .off, TK.mk 0 .off]) 5 Try.func19 rfl rfl rfl 10 rfl ?_
  refine AW.seq ?_
  refine AW.region ?_
  refine AL.r (rd_assign rfl rfl) ?_
  refine AL.nil ?_
  change AW _ _ _ _ _
  refine AW.seq ?_
  refine AW.seq ?_
  refine AW.region ?_
  refine AL.r (rd_move rfl rfl) ?_
  refine AL.r (rd_peq_bx rfl pt_25 rfl rfl rfl) ?_
  refine AL.nil ?_
  change AW _ _ _ _ _
  refine AW.cond_f rfl ?_
  refine AW.skip ?_
  change AW _ _ _ _ _
  refine AW.seq ?_
  refine AW.seq ?_
  refine AW.region ?_
  refine AL.r (rd_move rfl rfl) ?_
  refine AL.op rfl (AOpB.op (op_call (right_out hf) rfl (by kernel_rfl) rfl (none) ?_))
  rintro r rfl
  refine AL.no ?_
  refine AL.r (rd_un rfl rfl (fun _ => rfl)) ?_
  refine AL.nil ?_
  change AW _ _ _ _ _
  refine AW.cond_t rfl ?_
  refine AW.seq ?_
  refine AW.region ?_
  refine AL.r (rd_assign rfl rfl) ?_
  refine AL.nil ?_
  change AW _ _ _ _ _
  refine AW.ret ?_
  repeat with_reducible first | refine thenA_ret ?_ | refine inBlockA_ret ?_
  with_reducible first | refine retO_ret ?_ | refine retO_normal ?_
  refine reso1 rfl (Nat.le_of_ble_eq_true rfl) (by simp only [cleanS, cle_owM, cle_own, cle_nown, cle_obj, cle_off, cle_box, okC, liveA, List.take_succ_cons, List.take_zero, List.all_cons, List.all_nil, List.getElem?_cons_zero, List.getElem?_cons_succ, isO_owM, isO_own, isO_nown, TC.isB, beq_self_eq_true, Bool.and_self, Bool.and_true, ok1, ok2, List.map_cons, List.map_nil]) (ResV.tmp rfl) rfl (by simp only [cleanS, cle_owM, cle_own, cle_nown, cle_obj, cle_off, cle_box, okC, liveA, List.take_succ_cons, List.take_zero, List.all_cons, List.all_nil, List.getElem?_cons_zero, List.getElem?_cons_succ, isO_owM, isO_own, isO_nown, TC.isB, beq_self_eq_true, Bool.and_self, Bool.and_true, ok1, ok2, List.map_cons, List.map_nil]) ?_
  exact ⟨rfl, g1, g2, g3, g4, g5, g6, g7, g8, g9, rfl⟩
theorem cut_out (n : Int) (f : Int) (hf : ¬(0 ≤ f ∧ f < 4)) : ACo Try.prog 26 [.bx 0 g 0, .sc (.int .i64 f), .sc (.int .i64 n)] (diskT g g1 g2 g3 g4 g5 g6 g7 g8 g9 d)
    (fun y os' => y = .sc (.int .i64 2) ∧ DiskAt g d os') := by
  refine ACo.of (t0 := [.bx 0 g 0, .sc (.int .i64 f), .sc (.int .i64 n), AV.sc undef, AV.sc undef, AV.sc undef, AV.sc undef, AV.sc undef, AV.sc undef, AV.sc undef, AV.sc undef, AV.sc undef, AV.sc undef, AV.sc undef, AV.sc undef, AV.sc undef, AV.sc undef, AV.sc undef, AV.sc undef, AV.sc undef, AV.sc undef, AV.sc undef, AV.sc undef, AV.sc undef, AV.sc undef, AV.sc undef, AV.sc undef, AV.sc undef, AV.sc undef, AV.sc undef, AV.sc undef, AV.sc undef, AV.sc undef, AV.sc undef, AV.sc undef, AV.sc undef, AV.sc undef, AV.sc undef, AV.sc undef, AV.sc undef, AV.sc undef, AV.sc undef, AV.sc undef, AV.sc undef, AV.sc undef, AV.sc undef, AV.sc undef, AV.sc undef, AV.sc undef, AV.sc undef, AV.sc undef, AV.sc undef, AV.sc undef, AV.sc undef, AV.sc undef, AV.sc undef, AV.sc undef, AV.sc undef, AV.sc undef, AV.sc undef, AV.sc undef, AV.sc undef, AV.sc undef, AV.sc undef, AV.sc undef, AV.sc undef, AV.sc undef, AV.sc undef]) (st0 := [⟨g, .box 99 [.sc (.int .i64 d.room), .ow 1 g1, .ow 2 g2, .ow 3 g3, .ow 4 g4, .ow 5 g5, .ow 6 g6, .ow 7 g7, .ow 8 g8, .ow 9 g9, .sc (.int .i64 d.waits), .sc (.int .i64 d.done), .sc (.bool d.fused), .sc (.int .i64 d.fuse), .sc (.bool d.dark)]⟩, ⟨g1, owM (d.nf 0) 5 1 (byA (d.n 0))⟩, ⟨g2, owM (d.nf 1) 5 1 (byA (d.n 1))⟩, ⟨g3, owM (d.nf 2) 5 1 (byA (d.n 2))⟩, ⟨g4, owM (d.nf 3) 5 1 (byA (d.n 3))⟩, ⟨g5, owM (d.lf 0) 5 1 (byA (d.l 0))⟩, ⟨g6, owM (d.lf 1) 5 1 (byA (d.l 1))⟩, ⟨g7, owM (d.lf 2) 5 1 (byA (d.l 2))⟩, ⟨g8, owM (d.lf 3) 5 1 (byA (d.l 3))⟩, ⟨g9, owM true 102 4 (d.q.map DeedD.cs)⟩, TK.mk 0 .off, TK.mk 0 .off]) 2 Try.func26 rfl rfl rfl 10 rfl ?_
  refine AW.seq ?_
  refine AW.region ?_
  refine AL.r (rd_assign rfl rfl) ?_
  refine AL.nil ?_
  change AW _ _ _ _ _
  refine AW.seq ?_
  refine AW.seq ?_
  refine AW.region ?_
  refine AL.r (rd_move rfl rfl) ?_
  refine AL.r (rd_peq_bx rfl pt_25 rfl rfl rfl) ?_
  refine AL.nil ?_
  change AW _ _ _ _ _
  refine AW.cond_f rfl ?_
  refine AW.skip ?_
  change AW _ _ _ _ _
  refine AW.seq ?_
  refine AW.seq ?_
  refine AW.region ?_
  refine AL.r (rd_move rfl rfl) ?_
  refine AL.op rfl (AOpB.op (op_call (right_out hf) rfl (by kernel_rfl) rfl (none) ?_))
  rintro r rfl
  refine AL.no ?_
  refine AL.r (rd_un rfl rfl (fun _ => rfl)) ?_
  refine AL.r (rd_move rfl rfl) ?_
  refine AL.rf ?_
  refine AL.rf ?_
  refine AL.r (rd_pick_t rfl rfl rfl) ?_
  refine AL.r (rd_move rfl rfl) ?_
  refine AL.rf ?_
  refine AL.rf ?_
  refine AL.rf ?_
  refine AL.rf ?_
  refine AL.rf ?_
  refine AL.rf ?_
  refine AL.rf ?_
  refine AL.rf ?_
  refine AL.rf ?_
  refine AL.r (rd_pick_t rfl rfl rfl) ?_
  refine AL.nil ?_
  change AW _ _ _ _ _
  refine AW.cond_t rfl ?_
  refine AW.seq ?_
  refine AW.region ?_
  refine AL.r (rd_assign rfl rfl) ?_
  refine AL.nil ?_
  change AW _ _ _ _ _
  refine AW.ret ?_
  repeat with_reducible first | refine thenA_ret ?_ | refine inBlockA_ret ?_
  with_reducible first | refine retO_ret ?_ | refine retO_normal ?_
  refine reso1 rfl (Nat.le_of_ble_eq_true rfl) (by simp only [cleanS, cle_owM, cle_own, cle_nown, cle_obj, cle_off, cle_box, okC, liveA, List.take_succ_cons, List.take_zero, List.all_cons, List.all_nil, List.getElem?_cons_zero, List.getElem?_cons_succ, isO_owM, isO_own, isO_nown, TC.isB, beq_self_eq_true, Bool.and_self, Bool.and_true, ok1, ok2, List.map_cons, List.map_nil]) (ResV.tmp rfl) rfl (by simp only [cleanS, cle_owM, cle_own, cle_nown, cle_obj, cle_off, cle_box, okC, liveA, List.take_succ_cons, List.take_zero, List.all_cons, List.all_nil, List.getElem?_cons_zero, List.getElem?_cons_succ, isO_owM, isO_own, isO_nown, TC.isB, beq_self_eq_true, Bool.and_self, Bool.and_true, ok1, ok2, List.map_cons, List.map_nil]) ?_
  exact ⟨rfl, g1, g2, g3, g4, g5, g6, g7, g8, g9, rfl⟩
theorem read_out (f : Int) (hf : ¬(0 ≤ f ∧ f < 4)) : ACo Try.prog 25 [.bx 0 g 0, .sc (.int .i64 f)] (diskT g g1 g2 g3 g4 g5 g6 g7 g8 g9 d)
    (fun y os' => y = .tu [.sl [], .sc (.int .i64 2)] ∧ DiskAt g d os') := by
  refine ACo.of (t0 := [.bx 0 g 0, .sc (.int .i64 f), AV.sc undef, AV.sc undef, AV.sc undef, AV.sc undef, AV.sc undef, AV.sc undef, AV.sc undef, AV.sc undef, AV.sc undef, AV.sc undef, AV.sc undef, AV.sc undef, AV.sc undef, AV.sc undef, AV.sc undef, AV.sc undef, AV.sc undef, AV.sc undef, AV.sc undef, AV.sc undef, AV.sc undef, AV.sc undef, AV.sc undef, AV.sc undef, AV.sc undef, AV.sc undef, AV.sc undef, AV.sc undef, AV.sc undef, AV.sc undef, AV.sc undef, AV.sc undef, AV.sc undef, AV.sc undef]) (st0 := [⟨g, .box 99 [.sc (.int .i64 d.room), .ow 1 g1, .ow 2 g2, .ow 3 g3, .ow 4 g4, .ow 5 g5, .ow 6 g6, .ow 7 g7, .ow 8 g8, .ow 9 g9, .sc (.int .i64 d.waits), .sc (.int .i64 d.done), .sc (.bool d.fused), .sc (.int .i64 d.fuse), .sc (.bool d.dark)]⟩, ⟨g1, owM (d.nf 0) 5 1 (byA (d.n 0))⟩, ⟨g2, owM (d.nf 1) 5 1 (byA (d.n 1))⟩, ⟨g3, owM (d.nf 2) 5 1 (byA (d.n 2))⟩, ⟨g4, owM (d.nf 3) 5 1 (byA (d.n 3))⟩, ⟨g5, owM (d.lf 0) 5 1 (byA (d.l 0))⟩, ⟨g6, owM (d.lf 1) 5 1 (byA (d.l 1))⟩, ⟨g7, owM (d.lf 2) 5 1 (byA (d.l 2))⟩, ⟨g8, owM (d.lf 3) 5 1 (byA (d.l 3))⟩, ⟨g9, owM true 102 4 (d.q.map DeedD.cs)⟩, TK.mk 0 .off, TK.mk 0 .off]) 2 Try.func25 rfl rfl rfl 10 rfl ?_
  refine AW.seq ?_
  refine AW.region ?_
  refine AL.r (rd_assign rfl rfl) ?_
  refine AL.r (rd_assign rfl rfl) ?_
  refine AL.nil ?_
  change AW _ _ _ _ _
  refine AW.seq ?_
  refine AW.seq ?_
  refine AW.region ?_
  refine AL.r (rd_move rfl rfl) ?_
  refine AL.r (rd_peq_bx rfl pt_25 rfl rfl rfl) ?_
  refine AL.nil ?_
  change AW _ _ _ _ _
  refine AW.cond_f rfl ?_
  refine AW.skip ?_
  change AW _ _ _ _ _
  refine AW.seq ?_
  refine AW.seq ?_
  refine AW.region ?_
  refine AL.r (rd_move rfl rfl) ?_
  refine AL.op rfl (AOpB.op (op_call (right_out hf) rfl (by kernel_rfl) rfl (none) ?_))
  rintro r rfl
  refine AL.no ?_
  refine AL.r (rd_un rfl rfl (fun _ => rfl)) ?_
  refine AL.nil ?_
  change AW _ _ _ _ _
  refine AW.cond_t rfl ?_
  refine AW.seq ?_
  refine AW.region ?_
  refine AL.r (rd_assign rfl rfl) ?_
  refine AL.r (rd_assign rfl rfl) ?_
  refine AL.nil ?_
  change AW _ _ _ _ _
  refine AW.ret ?_
  repeat with_reducible first | refine thenA_ret ?_ | refine inBlockA_ret ?_
  with_reducible first | refine retO_ret ?_ | refine retO_normal ?_
  refine reso2 rfl (Nat.le_of_ble_eq_true rfl) (by simp only [cleanS, cle_owM, cle_own, cle_nown, cle_obj, cle_off, cle_box, okC, liveA, List.take_succ_cons, List.take_zero, List.all_cons, List.all_nil, List.getElem?_cons_zero, List.getElem?_cons_succ, isO_owM, isO_own, isO_nown, TC.isB, beq_self_eq_true, Bool.and_self, Bool.and_true, ok1, ok2, List.map_cons, List.map_nil]) (ResV.tmp rfl) rfl (ResV.tmp rfl) rfl (by simp only [cleanS, cle_owM, cle_own, cle_nown, cle_obj, cle_off, cle_box, okC, liveA, List.take_succ_cons, List.take_zero, List.all_cons, List.all_nil, List.getElem?_cons_zero, List.getElem?_cons_succ, isO_owM, isO_own, isO_nown, TC.isB, beq_self_eq_true, Bool.and_self, Bool.and_true, ok1, ok2, List.map_cons, List.map_nil]) ?_
  exact ⟨rfl, g1, g2, g3, g4, g5, g6, g7, g8, g9, rfl⟩
theorem deeds_c : ACo Try.prog 34 [.bx 0 g 0] (diskT g g1 g2 g3 g4 g5 g6 g7 g8 g9 d) (fun y os' => y = .sc (.int .i64 d.done) ∧ os' = diskT g g1 g2 g3 g4 g5 g6 g7 g8 g9 d) := by
  refine ACo.of (t0 := [.bx 0 g 0, AV.sc undef, AV.sc undef, AV.sc undef, AV.sc undef, AV.sc undef, AV.sc undef, AV.sc undef, AV.sc undef]) (st0 := [⟨g, .box 99 [.sc (.int .i64 d.room), .ow 1 g1, .ow 2 g2, .ow 3 g3, .ow 4 g4, .ow 5 g5, .ow 6 g6, .ow 7 g7, .ow 8 g8, .ow 9 g9, .sc (.int .i64 d.waits), .sc (.int .i64 d.done), .sc (.bool d.fused), .sc (.int .i64 d.fuse), .sc (.bool d.dark)]⟩, ⟨g1, owM (d.nf 0) 5 1 (byA (d.n 0))⟩, ⟨g2, owM (d.nf 1) 5 1 (byA (d.n 1))⟩, ⟨g3, owM (d.nf 2) 5 1 (byA (d.n 2))⟩, ⟨g4, owM (d.nf 3) 5 1 (byA (d.n 3))⟩, ⟨g5, owM (d.lf 0) 5 1 (byA (d.l 0))⟩, ⟨g6, owM (d.lf 1) 5 1 (byA (d.l 1))⟩, ⟨g7, owM (d.lf 2) 5 1 (byA (d.l 2))⟩, ⟨g8, owM (d.lf 3) 5 1 (byA (d.l 3))⟩, ⟨g9, owM true 102 4 (d.q.map DeedD.cs)⟩]) 0 Try.func34 rfl rfl rfl 10 rfl ?_
  refine AW.seq ?_
  refine AW.region ?_
  refine AL.r (rd_assign rfl rfl) ?_
  refine AL.nil ?_
  change AW _ _ _ _ _
  refine AW.seq ?_
  refine AW.seq ?_
  refine AW.region ?_
  refine AL.r (rd_move rfl rfl) ?_
  refine AL.r (rd_peq_bx rfl pt_25 rfl rfl rfl) ?_
  refine AL.nil ?_
  change AW _ _ _ _ _
  refine AW.cond_f rfl ?_
  refine AW.skip ?_
  change AW _ _ _ _ _
  refine AW.seq ?_
  refine AW.region ?_
  refine AL.r (rd_move rfl rfl) ?_
  refine AL.r (rd_nilc_bx rfl rfl rfl) ?_
  refine AL.r (rd_faddr_bx rfl fo_99_5 rfl rfl ⟨_, _, rfl⟩) ?_
  refine AL.r (rd_load_bx rfl ag_3 rfl rfl rfl) ?_
  refine AL.r (rd_assign rfl rfl) ?_
  refine AL.nil ?_
  change AW _ _ _ _ _
  refine AW.ret ?_
  repeat with_reducible first | refine thenA_ret ?_ | refine inBlockA_ret ?_
  with_reducible first | refine retO_ret ?_ | refine retO_normal ?_
  refine reso1 rfl (Nat.le_of_ble_eq_true rfl) (by simp only [cleanS, cle_owM, cle_own, cle_nown, cle_obj, cle_off, cle_box, okC, liveA, List.take_succ_cons, List.take_zero, List.all_cons, List.all_nil, List.getElem?_cons_zero, List.getElem?_cons_succ, isO_owM, isO_own, isO_nown, TC.isB, beq_self_eq_true, Bool.and_self, Bool.and_true, ok1, ok2, List.map_cons, List.map_nil]) (ResV.tmp rfl) rfl (by simp only [cleanS, cle_owM, cle_own, cle_nown, cle_obj, cle_off, cle_box, okC, liveA, List.take_succ_cons, List.take_zero, List.all_cons, List.all_nil, List.getElem?_cons_zero, List.getElem?_cons_succ, isO_owM, isO_own, isO_nown, TC.isB, beq_self_eq_true, Bool.and_self, Bool.and_true, ok1, ok2, List.map_cons, List.map_nil]) ?_
  exact ⟨rfl, rfl⟩
end
def DiskP (d : DiskD) : OP := CluP (fun os => ∃ g, DiskAt g d os)
theorem disk_obj {f : FuncId} {rest : List AV} {d d' : DiskD} {Y : AV} (h : ∀ g g1 g2 g3 g4 g5 g6 g7 g8 g9, ACo Try.prog f (.bx 0 g 0 :: rest) (diskT g g1 g2 g3 g4 g5 g6 g7 g8 g9 d) (fun y os' => y = Y ∧ DiskAt g d' os')) (G : Nat) (hr : rest.all clo1 = true := by rfl) (hY : clo2 Y = true := by rfl) :
    ACo Try.prog f (.bx 0 G 0 :: rest) [⟨G, .obj (DiskP d)⟩] (fun y os' => y = Y ∧ os' = [⟨G, .obj (DiskP d')⟩]) :=
  ACo.obj hr fun os hD => by
    obtain ⟨g, g1, g2, g3, g4, g5, g6, g7, g8, g9, rfl⟩ := hD
    refine ⟨g, _, _, rfl, rfl, h g g1 g2 g3 g4 g5 g6 g7 g8 g9, fun y os' ⟨hy, hd⟩ => ?_⟩
    subst hy
    have hd' := hd
    obtain ⟨a1, a2, a3, a4, a5, a6, a7, a8, a9, rfl⟩ := hd
    exact ⟨fun os => ∃ g, DiskAt g d' os, _, hY, ⟨g, hd'⟩, rfl, rfl, rfl, rfl⟩
theorem diskAt_self (g g1 g2 g3 g4 g5 g6 g7 g8 g9 : Nat) (d : DiskD) : DiskAt g d (diskT g g1 g2 g3 g4 g5 g6 g7 g8 g9 d) := ⟨g1, g2, g3, g4, g5, g6, g7, g8, g9, rfl⟩
theorem disk_obj' {f : FuncId} {rest : List AV} {d d' : DiskD} {Y : AV} (h : ∀ g g1 g2 g3 g4 g5 g6 g7 g8 g9, ACo Try.prog f (.bx 0 g 0 :: rest) (diskT g g1 g2 g3 g4 g5 g6 g7 g8 g9 d) (fun y os' => y = Y ∧ os' = diskT g g1 g2 g3 g4 g5 g6 g7 g8 g9 d')) (G : Nat) (hr : rest.all clo1 = true := by rfl) (hY : clo2 Y = true := by rfl) :
    ACo Try.prog f (.bx 0 G 0 :: rest) [⟨G, .obj (DiskP d)⟩] (fun y os' => y = Y ∧ os' = [⟨G, .obj (DiskP d')⟩]) :=
  disk_obj (fun g g1 g2 g3 g4 g5 g6 g7 g8 g9 => (h g g1 g2 g3 g4 g5 g6 g7 g8 g9).mono fun y os' ⟨a, b⟩ => ⟨a, b ▸ diskAt_self g g1 g2 g3 g4 g5 g6 g7 g8 g9 d'⟩) G hr hY

/-! Any file's number. -/
def appDi (d : DiskD) (f : Int) (b : List UInt8) : DiskD := if 0 ≤ f ∧ f < 4 then appD d f.toNat b else d
def appRi (d : DiskD) (f : Int) (b : List UInt8) : Int := if 0 ≤ f ∧ f < 4 then appR d b else 2
def cutDi (d : DiskD) (f n : Int) : DiskD := if 0 ≤ f ∧ f < 4 then cutD d f.toNat n else d
def cutRi (d : DiskD) (f n : Int) : Int := if 0 ≤ f ∧ f < 4 then cutR d f.toNat n else 2
def readRi (d : DiskD) (f : Int) : AV := if 0 ≤ f ∧ f < 4 then readR d f.toNat else .tu [.sl [], .sc (.int .i64 2)]
theorem fourI {f : Int} (h : 0 ≤ f ∧ f < 4) : f = 0 ∨ f = 1 ∨ f = 2 ∨ f = 3 := by omega
section
variable (d : DiskD) (G : Nat)
theorem od_append (f : Int) (b : List UInt8) (h : d.Fit) (hb : b.length ≤ 1099511627776) : ACo Try.prog 19 [.bx 0 G 0, .sc (.int .i64 f), .sl (byA b)] [⟨G, .obj (DiskP d)⟩]
    (fun y os' => y = .sc (.int .i64 (appRi d f b)) ∧ os' = [⟨G, .obj (DiskP (appDi d f b))⟩]) := by
  unfold appRi appDi
  by_cases hf : 0 ≤ f ∧ f < 4
  · simp only [if_pos hf]
    rcases fourI hf with rfl | rfl | rfl | rfl
    · exact disk_obj (fun g g1 g2 g3 g4 g5 g6 g7 g8 g9 => append_c0 d g g1 g2 g3 g4 g5 g6 g7 g8 g9 b h hb) G
    · exact disk_obj (fun g g1 g2 g3 g4 g5 g6 g7 g8 g9 => append_c1 d g g1 g2 g3 g4 g5 g6 g7 g8 g9 b h hb) G
    · exact disk_obj (fun g g1 g2 g3 g4 g5 g6 g7 g8 g9 => append_c2 d g g1 g2 g3 g4 g5 g6 g7 g8 g9 b h hb) G
    · exact disk_obj (fun g g1 g2 g3 g4 g5 g6 g7 g8 g9 => append_c3 d g g1 g2 g3 g4 g5 g6 g7 g8 g9 b h hb) G
  · simp only [if_neg hf]
    exact disk_obj (fun g g1 g2 g3 g4 g5 g6 g7 g8 g9 => append_out d g g1 g2 g3 g4 g5 g6 g7 g8 g9 b f hf) G
theorem od_cut (f n : Int) (h : d.Fit) : ACo Try.prog 26 [.bx 0 G 0, .sc (.int .i64 f), .sc (.int .i64 n)] [⟨G, .obj (DiskP d)⟩]
    (fun y os' => y = .sc (.int .i64 (cutRi d f n)) ∧ os' = [⟨G, .obj (DiskP (cutDi d f n))⟩]) := by
  unfold cutRi cutDi
  by_cases hf : 0 ≤ f ∧ f < 4
  · simp only [if_pos hf]
    rcases fourI hf with rfl | rfl | rfl | rfl
    · exact disk_obj (fun g g1 g2 g3 g4 g5 g6 g7 g8 g9 => cut_c0 d g g1 g2 g3 g4 g5 g6 g7 g8 g9 n h) G
    · exact disk_obj (fun g g1 g2 g3 g4 g5 g6 g7 g8 g9 => cut_c1 d g g1 g2 g3 g4 g5 g6 g7 g8 g9 n h) G
    · exact disk_obj (fun g g1 g2 g3 g4 g5 g6 g7 g8 g9 => cut_c2 d g g1 g2 g3 g4 g5 g6 g7 g8 g9 n h) G
    · exact disk_obj (fun g g1 g2 g3 g4 g5 g6 g7 g8 g9 => cut_c3 d g g1 g2 g3 g4 g5 g6 g7 g8 g9 n h) G
  · simp only [if_neg hf]
    exact disk_obj (fun g g1 g2 g3 g4 g5 g6 g7 g8 g9 => cut_out d g g1 g2 g3 g4 g5 g6 g7 g8 g9 n f hf) G
theorem od_read (f : Int) (h : d.Fit) : ACo Try.prog 25 [.bx 0 G 0, .sc (.int .i64 f)] [⟨G, .obj (DiskP d)⟩]
    (fun y os' => y = readRi d f ∧ os' = [⟨G, .obj (DiskP d)⟩]) := by
  have hc : ∀ i, clo2 (readR d i) = true := fun i => by unfold readR; split <;> rfl
  unfold readRi
  by_cases hf : 0 ≤ f ∧ f < 4
  · simp only [if_pos hf]
    rcases fourI hf with rfl | rfl | rfl | rfl
    · exact disk_obj' (fun g g1 g2 g3 g4 g5 g6 g7 g8 g9 => read_c0 d g g1 g2 g3 g4 g5 g6 g7 g8 g9 h) G rfl (hc _)
    · exact disk_obj' (fun g g1 g2 g3 g4 g5 g6 g7 g8 g9 => read_c1 d g g1 g2 g3 g4 g5 g6 g7 g8 g9 h) G rfl (hc _)
    · exact disk_obj' (fun g g1 g2 g3 g4 g5 g6 g7 g8 g9 => read_c2 d g g1 g2 g3 g4 g5 g6 g7 g8 g9 h) G rfl (hc _)
    · exact disk_obj' (fun g g1 g2 g3 g4 g5 g6 g7 g8 g9 => read_c3 d g g1 g2 g3 g4 g5 g6 g7 g8 g9 h) G rfl (hc _)
  · simp only [if_neg hf]
    exact disk_obj (fun g g1 g2 g3 g4 g5 g6 g7 g8 g9 => read_out d g g1 g2 g3 g4 g5 g6 g7 g8 g9 f hf) G
theorem od_sync (h : d.Fit) (hok : okq d.q (d.l, d.lf)) (hb : ∀ i, (d.l i).length + qb d.q ≤ 1099511627776) : ACo Try.prog 20 [.bx 0 G 0] [⟨G, .obj (DiskP d)⟩] (fun y os' => y = .sc (.int .i64 (syncR d)) ∧ os' = [⟨G, .obj (DiskP (syncD d))⟩]) :=
  disk_obj (fun g g1 g2 g3 g4 g5 g6 g7 g8 g9 => sync_c d g g1 g2 g3 g4 g5 g6 g7 g8 g9 h hok hb) G
theorem od_fuse (n : Int) : ACo Try.prog 28 [.bx 0 G 0, .sc (.int .i64 n)] [⟨G, .obj (DiskP d)⟩] (fun y os' => y = .tu [] ∧ os' = [⟨G, .obj (DiskP (fuseD d n))⟩]) :=
  disk_obj' (fun g g1 g2 g3 g4 g5 g6 g7 g8 g9 => fuse_c d g g1 g2 g3 g4 g5 g6 g7 g8 g9 n) G
theorem od_crash (keep : Int) (hq : d.q.length ≤ 1099511627776) (hk : -9223372036854775808 ≤ keep ∧ keep < 9223372036854775808) (hok : okq d.q (d.l, d.lf)) (hb : ∀ i, (d.l i).length + qb d.q ≤ 1099511627776) (hs : ∀ i, ((settleD d keep).l i).length ≤ 1099511627776) : ACo Try.prog 23 [.bx 0 G 0, .sc (.int .i64 keep)] [⟨G, .obj (DiskP d)⟩] (fun y os' => y = .tu [] ∧ os' = [⟨G, .obj (DiskP (crashD d keep))⟩]) :=
  disk_obj (fun g g1 g2 g3 g4 g5 g6 g7 g8 g9 => crash_c d g g1 g2 g3 g4 g5 g6 g7 g8 g9 hq keep hk hok hb hs) G
theorem od_dark : ACo Try.prog 30 [.bx 0 G 0] [⟨G, .obj (DiskP d)⟩] (fun y os' => y = .sc (.bool d.dark) ∧ os' = [⟨G, .obj (DiskP d)⟩]) :=
  disk_obj' (fun g g1 g2 g3 g4 g5 g6 g7 g8 g9 => dark_c d g g1 g2 g3 g4 g5 g6 g7 g8 g9) G
theorem od_waits : ACo Try.prog 29 [.bx 0 G 0] [⟨G, .obj (DiskP d)⟩] (fun y os' => y = .sc (.int .i64 d.waits) ∧ os' = [⟨G, .obj (DiskP d)⟩]) :=
  disk_obj' (fun g g1 g2 g3 g4 g5 g6 g7 g8 g9 => waits_c d g g1 g2 g3 g4 g5 g6 g7 g8 g9) G
theorem od_deeds : ACo Try.prog 34 [.bx 0 G 0] [⟨G, .obj (DiskP d)⟩] (fun y os' => y = .sc (.int .i64 d.done) ∧ os' = [⟨G, .obj (DiskP d)⟩]) :=
  disk_obj' (fun g g1 g2 g3 g4 g5 g6 g7 g8 g9 => deeds_c d g g1 g2 g3 g4 g5 g6 g7 g8 g9) G
theorem od_left (hr : 0 ≤ d.room ∧ d.room ≤ 200000) (hn : ∀ i, (d.n i).length ≤ 1099511627776) : ACo Try.prog 32 [.bx 0 G 0] [⟨G, .obj (DiskP d)⟩] (fun y os' => y = .sc (.int .i64 (leftD d)) ∧ os' = [⟨G, .obj (DiskP d)⟩]) :=
  disk_obj' (fun g g1 g2 g3 g4 g5 g6 g7 g8 g9 => left_c d g g1 g2 g3 g4 g5 g6 g7 g8 g9 hr hn) G
end
theorem od_new (room : Int) (hr : 1 ≤ room ∧ room ≤ 200000) (h : Nat) : ACo Try.prog 18 [.sc (.int .i64 room)] [⟨h, .off⟩] (fun y os' => y = .tu [.bx 0 (h + 1) 0, .sc (.int .i64 0)] ∧ os' = [⟨h + 1, .obj (DiskP (newD room))⟩]) :=
  ACo.newObj (h' := 0) rfl (by intro tk h; simp at h; rw [h]) (dnew_c room hr 0 0 0 0 0 0 0 0 0 0) fun y os' ⟨hy, hd⟩ => by
    have hd' := hd
    obtain ⟨a1, a2, a3, a4, a5, a6, a7, a8, a9, rfl⟩ := hd
    exact ⟨fun os => ∃ g, DiskAt g (newD room) os, _, _, _, hy, rfl, ⟨_, hd'⟩, rfl, rfl, rfl, rfl⟩
end Go.Proofs.Ytgjpeldgjpgbcaa
