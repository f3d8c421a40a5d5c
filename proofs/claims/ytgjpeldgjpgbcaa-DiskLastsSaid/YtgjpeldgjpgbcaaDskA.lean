/- The disk as data, and its small functions, walked over abstract states. -/
import Derived.Test.YtgjpeldgjpgbcaaTy
namespace Go.Proofs.Ytgjpeldgjpgbcaa
set_option linter.unusedSimpArgs false
set_option linter.unusedVariables false
set_option maxRecDepth 100000
open Go.RowKit

structure DeedD where
  file : Nat
  cut : Bool
  size : Nat
  bytes : List UInt8
def DeedD.cs (x : DeedD) : List AV := [.sc (.int .i64 (x.file : Int)), .sc (.bool x.cut), .sc (.int .i64 (x.size : Int)), .sl (byA x.bytes)]
structure DiskD where
  room : Int
  n : Nat → List UInt8
  nf : Nat → Bool
  l : Nat → List UInt8
  lf : Nat → Bool
  q : List DeedD
  waits : Int
  done : Int
  fused : Bool
  fuse : Int
  dark : Bool
def diskT (g g1 g2 g3 g4 g5 g6 g7 g8 g9 : Nat) (d : DiskD) : List TK := [⟨g, .box 99 [.sc (.int .i64 d.room), .ow 1 g1, .ow 2 g2, .ow 3 g3, .ow 4 g4, .ow 5 g5, .ow 6 g6, .ow 7 g7, .ow 8 g8, .ow 9 g9, .sc (.int .i64 d.waits), .sc (.int .i64 d.done), .sc (.bool d.fused), .sc (.int .i64 d.fuse), .sc (.bool d.dark)]⟩,
  ⟨g1, owM (d.nf 0) 5 1 (byA (d.n 0))⟩, ⟨g2, owM (d.nf 1) 5 1 (byA (d.n 1))⟩, ⟨g3, owM (d.nf 2) 5 1 (byA (d.n 2))⟩, ⟨g4, owM (d.nf 3) 5 1 (byA (d.n 3))⟩,
  ⟨g5, owM (d.lf 0) 5 1 (byA (d.l 0))⟩, ⟨g6, owM (d.lf 1) 5 1 (byA (d.l 1))⟩, ⟨g7, owM (d.lf 2) 5 1 (byA (d.l 2))⟩, ⟨g8, owM (d.lf 3) 5 1 (byA (d.l 3))⟩,
  ⟨g9, owM true 102 4 (d.q.map DeedD.cs)⟩]
def DiskAt (g : Nat) (d : DiskD) (os : List TK) : Prop := ∃ g1 g2 g3 g4 g5 g6 g7 g8 g9, os = diskT g g1 g2 g3 g4 g5 g6 g7 g8 g9 d
def newD (room : Int) : DiskD := ⟨room, fun _ => [], fun _ => true, fun _ => [], fun _ => true, [], 0, 0, false, 0, false⟩

theorem dnew_c (room : Int) (hr : 1 ≤ room ∧ room ≤ 200000) (h0 h1 h2 h3 h4 h5 h6 h7 h8 h9 : Nat) : ACo Try.prog 18 [.sc (.int .i64 room)] [⟨h0, .off⟩, ⟨h1, .off⟩, ⟨h2, .off⟩, ⟨h3, .off⟩, ⟨h4, .off⟩, ⟨h5, .off⟩, ⟨h6, .off⟩, ⟨h7, .off⟩, ⟨h8, .off⟩, ⟨h9, .off⟩]
    (fun y os' => y = .tu [.bx 0 (h0 + 1) 0, .sc (.int .i64 0)] ∧ DiskAt (h0 + 1) (newD room) os') := by
  refine ACo.of (t0 := [.sc (.int .i64 room), AV.sc undef, AV.sc undef, AV.sc undef, AV.sc undef, AV.sc undef, AV.sc undef, AV.sc undef, AV.sc undef, AV.sc undef, AV.sc undef, AV.sc undef, AV.sc undef]) (st0 := [⟨h0, .off⟩, ⟨h1, .off⟩, ⟨h2, .off⟩, ⟨h3, .off⟩, ⟨h4, .off⟩, ⟨h5, .off⟩, ⟨h6, .off⟩, ⟨h7, .off⟩, ⟨h8, .off⟩, ⟨h9, .off⟩, TK.mk 0 .off]) 1 Try.func18 rfl rfl rfl 10 rfl ?_
  refine AW.seq ?_
  refine AW.region ?_
  refine AL.r (rd_assign rfl rfl) ?_
  refine AL.r (rd_assign rfl rfl) ?_
  refine AL.nil ?_
  change AW _ _ _ _ _
  refine AW.seq ?_
  refine AW.seq ?_
  refine AW.region ?_
  refine AL.r (rd_move rfl rfl) ?_
  refine AL.r (rd_bin rfl rfl rfl (fun _ => rfl)) ?_
  refine AL.r (rd_move rfl rfl) ?_
  refine AL.fork (d := 6) rfl (fun h6 => ?_) (fun h6 => ?_)
  · (try simp only [decide_eq_true_eq, decide_eq_false_iff_not, beq_iff_eq, beq_eq_false_iff_ne, bne_iff_ne, bne_eq_false_iff_eq, Bool.not_eq_true', Bool.not_eq_false', ne_eq, Bool.not_eq_eq_eq_not, Bool.not_true, Bool.not_false, gt_iff_lt, ge_iff_le, Bool.not_not] at h6)
    refine AL.n ?_
    refine AL.rf ?_
    refine AL.rf ?_
    refine AL.r (rd_pick_t rfl rfl rfl) ?_
    refine AL.nil ?_
    change AW _ _ _ _ _
    refine AW.cond_t rfl ?_
    refine AW.seq ?_
    omega
  · (try simp only [decide_eq_true_eq, decide_eq_false_iff_not, beq_iff_eq, beq_eq_false_iff_ne, bne_iff_ne, bne_eq_false_iff_eq, Bool.not_eq_true', Bool.not_eq_false', ne_eq, Bool.not_eq_eq_eq_not, Bool.not_true, Bool.not_false, gt_iff_lt, ge_iff_le, Bool.not_not] at h6)
    refine AL.n ?_
    refine AL.ro (rd_move rfl rfl) ?_
    refine AL.ro (rd_bin rfl rfl rfl (fun _ => rfl)) ?_
    refine AL.r (rd_pick_f rfl rfl rfl) ?_
    refine AL.nil ?_
    change AW _ _ _ _ _
    refine AW.cond rfl (fun h9 => ?_) (fun h9 => ?_)
    · (try simp only [decide_eq_true_eq, decide_eq_false_iff_not, beq_iff_eq, beq_eq_false_iff_ne, bne_iff_ne, bne_eq_false_iff_eq, Bool.not_eq_true', Bool.not_eq_false', ne_eq, Bool.not_eq_eq_eq_not, Bool.not_true, Bool.not_false, gt_iff_lt, ge_iff_le, Bool.not_not] at h9)
      refine AW.seq ?_
      omega
    · (try simp only [decide_eq_true_eq, decide_eq_false_iff_not, beq_iff_eq, beq_eq_false_iff_ne, bne_iff_ne, bne_eq_false_iff_eq, Bool.not_eq_true', Bool.not_eq_false', ne_eq, Bool.not_eq_eq_eq_not, Bool.not_true, Bool.not_false, gt_iff_lt, ge_iff_le, Bool.not_not] at h9)
      refine AW.skip ?_
      change AW _ _ _ _ _
      refine AW.seq ?_
      refine AW.region ?_
      refine AL.r (rd_move rfl rfl) ?_
      refine AL.r (rd_build rfl pl_99 ze_99 rfl rfl) ?_
      refine AL.op rfl (AOpB.op (op_box 0 rfl rfl rfl rfl rfl ?_))
      refine AL.no ?_
      refine AL.nilbx 0 1 1 5 1 rfl rfl rfl (by decide) ?_
      refine AL.no ?_
      refine AL.nilbx 0 2 2 5 1 rfl rfl rfl (by decide) ?_
      refine AL.no ?_
      refine AL.nilbx 0 3 3 5 1 rfl rfl rfl (by decide) ?_
      refine AL.no ?_
      refine AL.nilbx 0 4 4 5 1 rfl rfl rfl (by decide) ?_
      refine AL.no ?_
      refine AL.nilbx 0 5 5 5 1 rfl rfl rfl (by decide) ?_
      refine AL.no ?_
      refine AL.nilbx 0 6 6 5 1 rfl rfl rfl (by decide) ?_
      refine AL.no ?_
      refine AL.nilbx 0 7 7 5 1 rfl rfl rfl (by decide) ?_
      refine AL.no ?_
      refine AL.nilbx 0 8 8 5 1 rfl rfl rfl (by decide) ?_
      refine AL.no ?_
      refine AL.nilbx 0 9 9 102 4 rfl rfl rfl (by decide) ?_
      refine AL.no ?_
      refine AL.r (rd_assign rfl rfl) ?_
      refine AL.r (rd_assign rfl rfl) ?_
      refine AL.nil ?_
      change AW _ _ _ _ _
      refine AW.ret ?_
      repeat with_reducible first | refine thenA_ret ?_ | refine inBlockA_ret ?_
      with_reducible first | refine retO_ret ?_ | refine retO_normal ?_
      refine reso2 rfl (Nat.le_of_ble_eq_true rfl) (by simp only [cleanS, cle_owM, cle_own, cle_nown, cle_obj, cle_off, cle_box, okC, liveA, List.take_succ_cons, List.take_zero, List.all_cons, List.all_nil, List.getElem?_cons_zero, List.getElem?_cons_succ, isO_owM, isO_own, isO_nown, TC.isB, beq_self_eq_true, Bool.and_self, Bool.and_true, ok1, ok2, List.map_cons, List.map_nil]) (ResV.tmp rfl) (resO_bx (by decide) rfl) (ResV.tmp rfl) rfl (by simp only [cleanS, cle_owM, cle_own, cle_nown, cle_obj, cle_off, cle_box, okC, liveA, List.take_succ_cons, List.take_zero, List.all_cons, List.all_nil, List.getElem?_cons_zero, List.getElem?_cons_succ, isO_owM, isO_own, isO_nown, TC.isB, beq_self_eq_true, Bool.and_self, Bool.and_true, ok1, ok2, List.map_cons, List.map_nil]) ?_
      exact ⟨rfl, _, _, _, _, _, _, _, _, _, rfl⟩
end Go.Proofs.Ytgjpeldgjpgbcaa
