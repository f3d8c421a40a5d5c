/- The disk's other functions; the disk as an object. No conditions. (Several texts in one.) -/
import Derived.Test.YtdgcbhihmnhnaaaDsk
/- The disk's other functions, over abstract states. -/
namespace Go.Proofs.Ytdgcbhihmnhnaaa
set_option linter.unusedSimpArgs false
set_option linter.unusedVariables false
set_option maxRecDepth 100000
open Go.RowKit

def syncD (d : DiskD) : DiskD := if d.dark = true then d else if burnN d 1 = 0 then burnD d 1 else settleD (burnD d 1) d.waits
def syncR (d : DiskD) : Int := if d.dark = true then 10 else if burnN d 1 = 0 then 10 else 0
def fuseD (d : DiskD) (n : Int) : DiskD := { d with fused := decide (n ≥ 0), fuse := if n < 0 then 0 else n }
def crashD (d : DiskD) (keep : Int) : DiskD := { settleD d keep with n := (settleD d keep).l, nf := fun _ => false, fused := false, fuse := 0, dark := false }
section
variable {d : DiskD}
theorem sync_dark (h : d.dark = true) : syncR d = 10 ∧ syncD d = d := by simp only [syncR, syncD, h, if_true, and_self]
theorem sync_burn (h : d.dark = false) (h2 : burnN d 1 = 0) : syncR d = 10 ∧ syncD d = burnD d 1 := by simp only [syncR, syncD, h, h2, if_true, if_false, Bool.false_eq_true, and_self]
theorem sync_go (h : d.dark = false) (h2 : ¬ burnN d 1 = 0) : syncR d = 0 ∧ syncD d = settleD (burnD d 1) d.waits := by simp only [syncR, syncD, h, h2, if_true, if_false, Bool.false_eq_true, and_self]
end
section
variable (d : DiskD) (g g1 g2 g3 g4 g5 g6 g7 g8 g9 : Nat)
theorem sync_c (h : d.Fit) (hok : okq d.q (d.l, d.lf)) (hb : ∀ i, (d.l i).length + qb d.q ≤ 1099511627776) : ACo Try.prog 14 [.bx 0 g 0] (diskT g g1 g2 g3 g4 g5 g6 g7 g8 g9 d)
    (fun y os' => y = .sc (.int .i64 (syncR d)) ∧ DiskAt g (syncD d) os') := by
  have hw := h.w
  refine ACo.of' (st0 := [⟨g, .box 95 [.sc (.int .i64 d.room), .ow 1 g1, .ow 2 g2, .ow 3 g3, .ow 4 g4, .ow 5 g5, .ow 6 g6, .ow 7 g7, .ow 8 g8, .ow 9 g9, .sc (.int .i64 d.waits), .sc (.int .i64 d.done), .sc (.bool d.fused), .sc (.int .i64 d.fuse), .sc (.bool d.dark)]⟩, ⟨g1, owM (d.nf 0) 5 1 (byA (d.n 0))⟩, ⟨g2, owM (d.nf 1) 5 1 (byA (d.n 1))⟩, ⟨g3, owM (d.nf 2) 5 1 (byA (d.n 2))⟩, ⟨g4, owM (d.nf 3) 5 1 (byA (d.n 3))⟩, ⟨g5, owM (d.lf 0) 5 1 (byA (d.l 0))⟩, ⟨g6, owM (d.lf 1) 5 1 (byA (d.l 1))⟩, ⟨g7, owM (d.lf 2) 5 1 (byA (d.l 2))⟩, ⟨g8, owM (d.lf 3) 5 1 (byA (d.l 3))⟩, ⟨g9, owM true 100 4 (d.q.map DeedD.cs)⟩]) 19 0 Try.func14 rfl 10 ?_; refine AW.seq ?_; refine AW.region ?_; refine AL.ra ?_; refine AL.nil ?_; change AW _ _ _ _ _; refine AW.seq ?_; refine AW.seq ?_; refine AW.region ?_; refine AL.rm ?_; refine AL.r (rd_peq_bx rfl pt_25 rfl rfl rfl) ?_; refine AL.nil ?_; change AW _ _ _ _ _; refine AW.cond_f rfl ?_
  refine AW.skip ?_; change AW _ _ _ _ _; refine AW.seq ?_; refine AW.seq ?_; refine AW.region ?_; refine AL.rm ?_; refine AL.r (rd_nilc_bx rfl rfl rfl) ?_; refine AL.r (rd_faddr_bx rfl fo_95_8 rfl rfl ⟨_, _, rfl⟩) ?_; refine AL.r (rd_load_bx rfl ag_4 rfl rfl rfl) ?_; refine AL.rm ?_; refine AL.fk (d := 9) rfl (fun h9 => ?_) (fun h9 => ?_)
  ·refine AL.n ?_; refine AL.rf ?_; refine AL.rf ?_; refine AL.rf ?_; refine AL.r (rd_pick_t rfl rfl rfl) ?_; refine AL.nil ?_; change AW _ _ _ _ _; refine AW.cond_t rfl ?_; refine AW.seq ?_; refine AW.region ?_; refine AL.ra ?_; refine AL.nil ?_; change AW _ _ _ _ _; refine AW.ret ?_
   repeat with_reducible first | refine thenA_ret ?_ | refine inBlockA_ret ?_
   with_reducible first | refine retO_ret ?_ | refine retO_normal ?_
   refine reso1D rfl (ResV.tmp rfl) rfl ?_
   first | exact lfD (sync_dark h9) | exact lfD (sync_burn h9 h13) | exact lfD (sync_go h9 h13)
  ·refine AL.n ?_; refine AL.ro (rd_move rfl rfl) ?_; refine AL.on rfl rfl rfl (calloD (burn_c d g g1 g2 g3 g4 g5 g6 g7 g8 g9 1 h.fuse (by omega)) [0, 1, 2, 3, 4, 5, 6, 7, 8, 9] ?_); rintro y os' ⟨rfl, rfl⟩; refine AL.noD ?_; refine AL.ro (rd_bin rfl rfl rfl (fun _ => rfl)) ?_; refine AL.r (rd_pick_f rfl rfl rfl) ?_; refine AL.nil ?_; change AW _ _ _ _ _; refine AW.cd rfl (fun h13 => ?_) (fun h13 => ?_)
   ·refine AW.seq ?_; refine AW.region ?_; refine AL.ra ?_; refine AL.nil ?_; change AW _ _ _ _ _; refine AW.ret ?_
    repeat with_reducible first | refine thenA_ret ?_ | refine inBlockA_ret ?_
    with_reducible first | refine retO_ret ?_ | refine retO_normal ?_
    refine reso1D rfl (ResV.tmp rfl) rfl ?_
    first | exact lfD (sync_dark h9) | exact lfD (sync_burn h9 h13) | exact lfD (sync_go h9 h13)
   ·refine AW.skip ?_; change AW _ _ _ _ _; refine AW.seq ?_; refine AW.region ?_; refine AL.rm ?_; refine AL.rm ?_; refine AL.r (rd_nilc_bx rfl rfl rfl) ?_; refine AL.r (rd_faddr_bx rfl fo_95_4 rfl rfl ⟨_, _, rfl⟩) ?_; refine AL.r (rd_load_bx rfl ag_3 rfl rfl rfl) ?_; refine AL.op rfl (calloD (settle_c (burnD d 1) g g1 g2 g3 g4 g5 g6 g7 g8 g9 h.q d.waits (by omega) hok hb) [0, 1, 2, 3, 4, 5, 6, 7, 8, 9] ?_); rintro y os' ⟨rfl, a1, a2, a3, a4, a5, a6, a7, a8, a9, rfl⟩; refine AL.noD ?_; refine AL.nil ?_; change AW _ _ _ _ _; refine AW.seq ?_; refine AW.region ?_; refine AL.ra ?_; refine AL.nil ?_; change AW _ _ _ _ _; refine AW.ret ?_
    repeat with_reducible first | refine thenA_ret ?_ | refine inBlockA_ret ?_
    with_reducible first | refine retO_ret ?_ | refine retO_normal ?_
    refine reso1D rfl (ResV.tmp rfl) rfl ?_
    first | exact lfD (sync_dark h9) | exact lfD (sync_burn h9 h13) | exact lfD (sync_go h9 h13)
theorem fuse_c (n : Int) : ACo Try.prog 45 [.bx 0 g 0, .sc (.int .i64 n)] (diskT g g1 g2 g3 g4 g5 g6 g7 g8 g9 d)
    (fun y os' => y = .tu [] ∧ os' = diskT g g1 g2 g3 g4 g5 g6 g7 g8 g9 (fuseD d n)) := by
  refine ACo.of' (st0 := [⟨g, .box 95 [.sc (.int .i64 d.room), .ow 1 g1, .ow 2 g2, .ow 3 g3, .ow 4 g4, .ow 5 g5, .ow 6 g6, .ow 7 g7, .ow 8 g8, .ow 9 g9, .sc (.int .i64 d.waits), .sc (.int .i64 d.done), .sc (.bool d.fused), .sc (.int .i64 d.fuse), .sc (.bool d.dark)]⟩, ⟨g1, owM (d.nf 0) 5 1 (byA (d.n 0))⟩, ⟨g2, owM (d.nf 1) 5 1 (byA (d.n 1))⟩, ⟨g3, owM (d.nf 2) 5 1 (byA (d.n 2))⟩, ⟨g4, owM (d.nf 3) 5 1 (byA (d.n 3))⟩, ⟨g5, owM (d.lf 0) 5 1 (byA (d.l 0))⟩, ⟨g6, owM (d.lf 1) 5 1 (byA (d.l 1))⟩, ⟨g7, owM (d.lf 2) 5 1 (byA (d.l 2))⟩, ⟨g8, owM (d.lf 3) 5 1 (byA (d.l 3))⟩, ⟨g9, owM true 100 4 (d.q.map DeedD.cs)⟩]) 14 0 Try.func45 rfl 10 ?_; refine AW.seq ?_; refine AW.seq ?_; refine AW.region ?_; refine AL.rm ?_; refine AL.r (rd_peq_bx rfl pt_25 rfl rfl rfl) ?_; refine AL.nil ?_; change AW _ _ _ _ _; refine AW.cond_f rfl ?_; refine AW.skip ?_; change AW _ _ _ _ _; refine AW.seq ?_; refine AW.region ?_
  refine AL.rm ?_; refine AL.rm ?_; refine AL.r (rd_bin rfl rfl rfl (fun _ => rfl)) ?_; refine AL.r (rd_nilc_bx rfl rfl rfl) ?_; refine AL.r (rd_faddr_bx rfl fo_95_6 rfl rfl ⟨_, _, rfl⟩) ?_; refine AL.op rfl (op_store_ rfl rfl rfl rfl rfl sz_4 ?_); refine AL.no ?_; refine AL.nil ?_; change AW _ _ _ _ _; refine AW.region ?_; refine AL.rm ?_; refine AL.rm ?_; refine AL.r (rd_max rfl rfl rfl (rfl)) ?_; refine AL.r (rd_nilc_bx rfl rfl rfl) ?_; refine AL.r (rd_faddr_bx rfl fo_95_7 rfl rfl ⟨_, _, rfl⟩) ?_; refine AL.op rfl (op_store_ rfl rfl rfl rfl rfl sz_3 ?_); refine AL.no ?_; refine AL.nil ?_
  repeat with_reducible first | refine thenA_ret ?_ | refine inBlockA_ret ?_
  with_reducible first | refine retO_ret ?_ | refine retO_normal ?_
  refine reso0S rfl  ?_; exact ⟨rfl, rfl⟩
theorem crash_c (hq : d.q.length ≤ 1099511627776) (keep : Int) (hk : -9223372036854775808 ≤ keep ∧ keep < 9223372036854775808) (hok : okq d.q (d.l, d.lf)) (hb : ∀ i, (d.l i).length + qb d.q ≤ 1099511627776) (hs : ∀ i, ((settleD d keep).l i).length ≤ 1099511627776) : ACo Try.prog 17 [.bx 0 g 0, .sc (.int .i64 keep)] (diskT g g1 g2 g3 g4 g5 g6 g7 g8 g9 d)
    (fun y os' => y = .tu [] ∧ DiskAt g (crashD d keep) os') := by
  have hs0 := hs 0; have hs1 := hs 1; have hs2 := hs 2; have hs3 := hs 3
  refine ACo.of' (st0 := [⟨g, .box 95 [.sc (.int .i64 d.room), .ow 1 g1, .ow 2 g2, .ow 3 g3, .ow 4 g4, .ow 5 g5, .ow 6 g6, .ow 7 g7, .ow 8 g8, .ow 9 g9, .sc (.int .i64 d.waits), .sc (.int .i64 d.done), .sc (.bool d.fused), .sc (.int .i64 d.fuse), .sc (.bool d.dark)]⟩, ⟨g1, owM (d.nf 0) 5 1 (byA (d.n 0))⟩, ⟨g2, owM (d.nf 1) 5 1 (byA (d.n 1))⟩, ⟨g3, owM (d.nf 2) 5 1 (byA (d.n 2))⟩, ⟨g4, owM (d.nf 3) 5 1 (byA (d.n 3))⟩, ⟨g5, owM (d.lf 0) 5 1 (byA (d.l 0))⟩, ⟨g6, owM (d.lf 1) 5 1 (byA (d.l 1))⟩, ⟨g7, owM (d.lf 2) 5 1 (byA (d.l 2))⟩, ⟨g8, owM (d.lf 3) 5 1 (byA (d.l 3))⟩, ⟨g9, owM true 100 4 (d.q.map DeedD.cs)⟩, TK.mk 0 .off, TK.mk 0 .off]) 34 2 Try.func17 rfl 10 ?_; refine AW.seq ?_; refine AW.seq ?_; refine AW.region ?_; refine AL.rm ?_; refine AL.r (rd_peq_bx rfl pt_25 rfl rfl rfl) ?_; refine AL.nil ?_; change AW _ _ _ _ _; refine AW.cond_f rfl ?_; refine AW.skip ?_; change AW _ _ _ _ _; refine AW.seq ?_
  refine AW.region ?_; refine AL.rm ?_; refine AL.rm ?_; refine AL.op rfl (calloD (settle_c d g g1 g2 g3 g4 g5 g6 g7 g8 g9 hq keep hk hok hb) [0, 1, 2, 3, 4, 5, 6, 7, 8, 9] ?_); rintro y os' ⟨rfl, a1, a2, a3, a4, a5, a6, a7, a8, a9, rfl⟩; refine AL.noD ?_; refine AL.nil ?_; change AW _ _ _ _ _; refine AW.seq ?_; refine AW.seq ?_; refine AW.region ?_; refine AL.rm ?_; refine AL.nil ?_; change AW _ _ _ _ _; refine AW.block ?_; refine AW.unroll 5 ?_; change AW _ _ _ _ _; refine AW.seq ?_; refine AW.region ?_; refine AL.r (rd_bin rfl rfl rfl (fun _ => rfl)) ?_; refine AL.nil ?_; change AW _ _ _ _ _; refine AW.seq ?_; refine AW.cond_t rfl ?_; refine AW.skip ?_; change AW _ _ _ _ _; refine AW.seq ?_; refine AW.block ?_; refine AW.seq ?_; refine AW.region ?_; refine AL.rm ?_; refine AL.ra ?_; refine AL.nil ?_; change AW _ _ _ _ _; apply AW.drawS (by kernel_rfl)
  ·refine ADA.r 0 rfl (ARdP.a (rdP_move rfl rfl)) rfl ?_; refine ADA.r 1 rfl (ARdP.a (rdP_move rfl rfl)) rfl ?_; refine ADA.r 3 rfl (ARdP.a (rdP_move rfl rfl)) rfl ?_; refine ADA.r 4 rfl (ARdP.a (rdP_move rfl rfl)) rfl ?_; refine ADA.r 5 rfl (ARdP.a (rdP_nilc_bx rfl rfl rfl)) rfl ?_; refine ADA.r 6 rfl (ARdP.a (rdP_faddr_bx rfl fo_95_2 rfl rfl ⟨_, _, rfl⟩)) rfl ?_; refine ADA.r 7 rfl (ARdP.a (rdP_iaddr_bx_ 0 rfl ar_37 rfl rfl rfl)) rfl ?_; refine ADA.r 10 rfl (ARdP.a (rdP_nilc_bx rfl rfl rfl)) rfl ?_; refine ADA.r 11 rfl (ARdP.a (rdP_faddr_bx rfl fo_95_1 rfl rfl ⟨_, _, rfl⟩)) rfl ?_; refine ADA.b ?_; refine ADB.all (is := [2, 8]) (by kernel_rfl) (by simp) ?_; intro i hi; simp only [List.mem_cons, List.not_mem_nil, or_false] at hi
   rcases hi with rfl | rfl
   ·refine ⟨_, rfl, rfl, AOpB.op (bs_own 1 rfl ap_29 ze_5 rfl rfl rfl ?_)⟩; refine ADB.n ?_; refine ADB.mv 8 rfl (AOpB.op (ARd.opB (rd_load_bx rfl ag_29 rfl rfl rfl) ?_)); refine ADB.n ?_; refine ADB.mv 9 rfl (op_append rfl ap_29 rfl rfl (src_owM rfl rfl) (by simp only [byA_len, List.length_nil]; omega) (by simp only [byA_len, List.length_nil]; omega) ?_); refine ADB.n ?_; refine ADB.r 12 rfl (rdP_iaddr_bx_ 0 rfl ar_37 rfl rfl rfl) rfl ?_; refine ADB.mv 13 rfl (op_storo rfl rfl rfl rfl rfl sz_29 ?_); refine ADB.n ?_; refine ADB.done (by kernel_rfl) ?_; exact ⟨rfl, rfl⟩
   ·refine ⟨_, rfl, rfl, AOpB.op (ARd.opB (rd_load_bx rfl ag_29 rfl rfl rfl) ?_)⟩; refine ADB.n ?_; refine ADB.mv 2 rfl (AOpB.op (bs_own 1 rfl ap_29 ze_5 rfl rfl rfl ?_)); refine ADB.n ?_; refine ADB.mv 9 rfl (op_append rfl ap_29 rfl rfl (src_owM rfl rfl) (by simp only [byA_len, List.length_nil]; omega) (by simp only [byA_len, List.length_nil]; omega) ?_); refine ADB.n ?_; refine ADB.r 12 rfl (rdP_iaddr_bx_ 0 rfl ar_37 rfl rfl rfl) rfl ?_; refine ADB.mv 13 rfl (op_storo rfl rfl rfl rfl rfl sz_29 ?_); refine ADB.n ?_; refine ADB.done (by kernel_rfl) ?_; exact ⟨rfl, rfl⟩
  skip
  change AW _ _ _ _ _; refine AW.region ?_; refine AL.r (rd_arith_add rfl rfl rfl (rfl : _ = (1 : Int))) ?_; refine AL.rm ?_; refine AL.nil ?_; change AW _ _ _ _ _; refine AW.seq ?_; refine AW.region ?_; refine AL.r (rd_bin rfl rfl rfl (fun _ => rfl)) ?_; refine AL.nil ?_; change AW _ _ _ _ _; refine AW.seq ?_; refine AW.cond_t rfl ?_; refine AW.skip ?_; change AW _ _ _ _ _; refine AW.seq ?_; refine AW.block ?_; refine AW.seq ?_; refine AW.region ?_; refine AL.rm ?_; refine AL.ra ?_; refine AL.nil ?_; change AW _ _ _ _ _; apply AW.drawS (by kernel_rfl)
  ·refine ADA.r 0 rfl (ARdP.a (rdP_move rfl rfl)) rfl ?_; refine ADA.r 1 rfl (ARdP.a (rdP_move rfl rfl)) rfl ?_; refine ADA.r 3 rfl (ARdP.a (rdP_move rfl rfl)) rfl ?_; refine ADA.r 4 rfl (ARdP.a (rdP_move rfl rfl)) rfl ?_; refine ADA.r 5 rfl (ARdP.a (rdP_nilc_bx rfl rfl rfl)) rfl ?_; refine ADA.r 6 rfl (ARdP.a (rdP_faddr_bx rfl fo_95_2 rfl rfl ⟨_, _, rfl⟩)) rfl ?_; refine ADA.r 7 rfl (ARdP.a (rdP_iaddr_bx_ 1 rfl ar_37 rfl rfl rfl)) rfl ?_; refine ADA.r 10 rfl (ARdP.a (rdP_nilc_bx rfl rfl rfl)) rfl ?_; refine ADA.r 11 rfl (ARdP.a (rdP_faddr_bx rfl fo_95_1 rfl rfl ⟨_, _, rfl⟩)) rfl ?_; refine ADA.b ?_; refine ADB.all (is := [2, 8]) (by kernel_rfl) (by simp) ?_; intro i hi; simp only [List.mem_cons, List.not_mem_nil, or_false] at hi
   rcases hi with rfl | rfl
   ·refine ⟨_, rfl, rfl, AOpB.op (bs_own 2 rfl ap_29 ze_5 rfl rfl rfl ?_)⟩; refine ADB.n ?_; refine ADB.mv 8 rfl (AOpB.op (ARd.opB (rd_load_bx rfl ag_29 rfl rfl rfl) ?_)); refine ADB.n ?_; refine ADB.mv 9 rfl (op_append rfl ap_29 rfl rfl (src_owM rfl rfl) (by simp only [byA_len, List.length_nil]; omega) (by simp only [byA_len, List.length_nil]; omega) ?_); refine ADB.n ?_; refine ADB.r 12 rfl (rdP_iaddr_bx_ 1 rfl ar_37 rfl rfl rfl) rfl ?_; refine ADB.mv 13 rfl (op_storo rfl rfl rfl rfl rfl sz_29 ?_); refine ADB.n ?_; refine ADB.done (by kernel_rfl) ?_; exact ⟨rfl, rfl⟩
   ·refine ⟨_, rfl, rfl, AOpB.op (ARd.opB (rd_load_bx rfl ag_29 rfl rfl rfl) ?_)⟩; refine ADB.n ?_; refine ADB.mv 2 rfl (AOpB.op (bs_own 2 rfl ap_29 ze_5 rfl rfl rfl ?_)); refine ADB.n ?_; refine ADB.mv 9 rfl (op_append rfl ap_29 rfl rfl (src_owM rfl rfl) (by simp only [byA_len, List.length_nil]; omega) (by simp only [byA_len, List.length_nil]; omega) ?_); refine ADB.n ?_; refine ADB.r 12 rfl (rdP_iaddr_bx_ 1 rfl ar_37 rfl rfl rfl) rfl ?_; refine ADB.mv 13 rfl (op_storo rfl rfl rfl rfl rfl sz_29 ?_); refine ADB.n ?_; refine ADB.done (by kernel_rfl) ?_; exact ⟨rfl, rfl⟩
  skip
  change AW _ _ _ _ _; refine AW.region ?_; refine AL.r (rd_arith_add rfl rfl rfl (rfl : _ = (2 : Int))) ?_; refine AL.rm ?_; refine AL.nil ?_; change AW _ _ _ _ _; refine AW.seq ?_; refine AW.region ?_; refine AL.r (rd_bin rfl rfl rfl (fun _ => rfl)) ?_; refine AL.nil ?_; change AW _ _ _ _ _; refine AW.seq ?_; refine AW.cond_t rfl ?_; refine AW.skip ?_; change AW _ _ _ _ _; refine AW.seq ?_; refine AW.block ?_; refine AW.seq ?_; refine AW.region ?_; refine AL.rm ?_; refine AL.ra ?_; refine AL.nil ?_; change AW _ _ _ _ _; apply AW.drawS (by kernel_rfl)
  ·refine ADA.r 0 rfl (ARdP.a (rdP_move rfl rfl)) rfl ?_; refine ADA.r 1 rfl (ARdP.a (rdP_move rfl rfl)) rfl ?_; refine ADA.r 3 rfl (ARdP.a (rdP_move rfl rfl)) rfl ?_; refine ADA.r 4 rfl (ARdP.a (rdP_move rfl rfl)) rfl ?_; refine ADA.r 5 rfl (ARdP.a (rdP_nilc_bx rfl rfl rfl)) rfl ?_; refine ADA.r 6 rfl (ARdP.a (rdP_faddr_bx rfl fo_95_2 rfl rfl ⟨_, _, rfl⟩)) rfl ?_; refine ADA.r 7 rfl (ARdP.a (rdP_iaddr_bx_ 2 rfl ar_37 rfl rfl rfl)) rfl ?_; refine ADA.r 10 rfl (ARdP.a (rdP_nilc_bx rfl rfl rfl)) rfl ?_; refine ADA.r 11 rfl (ARdP.a (rdP_faddr_bx rfl fo_95_1 rfl rfl ⟨_, _, rfl⟩)) rfl ?_; refine ADA.b ?_; refine ADB.all (is := [2, 8]) (by kernel_rfl) (by simp) ?_; intro i hi; simp only [List.mem_cons, List.not_mem_nil, or_false] at hi
   rcases hi with rfl | rfl
   ·refine ⟨_, rfl, rfl, AOpB.op (bs_own 3 rfl ap_29 ze_5 rfl rfl rfl ?_)⟩; refine ADB.n ?_; refine ADB.mv 8 rfl (AOpB.op (ARd.opB (rd_load_bx rfl ag_29 rfl rfl rfl) ?_)); refine ADB.n ?_; refine ADB.mv 9 rfl (op_append rfl ap_29 rfl rfl (src_owM rfl rfl) (by simp only [byA_len, List.length_nil]; omega) (by simp only [byA_len, List.length_nil]; omega) ?_); refine ADB.n ?_; refine ADB.r 12 rfl (rdP_iaddr_bx_ 2 rfl ar_37 rfl rfl rfl) rfl ?_; refine ADB.mv 13 rfl (op_storo rfl rfl rfl rfl rfl sz_29 ?_); refine ADB.n ?_; refine ADB.done (by kernel_rfl) ?_; exact ⟨rfl, rfl⟩
   ·refine ⟨_, rfl, rfl, AOpB.op (ARd.opB (rd_load_bx rfl ag_29 rfl rfl rfl) ?_)⟩; refine ADB.n ?_; refine ADB.mv 2 rfl (AOpB.op (bs_own 3 rfl ap_29 ze_5 rfl rfl rfl ?_)); refine ADB.n ?_; refine ADB.mv 9 rfl (op_append rfl ap_29 rfl rfl (src_owM rfl rfl) (by simp only [byA_len, List.length_nil]; omega) (by simp only [byA_len, List.length_nil]; omega) ?_); refine ADB.n ?_; refine ADB.r 12 rfl (rdP_iaddr_bx_ 2 rfl ar_37 rfl rfl rfl) rfl ?_; refine ADB.mv 13 rfl (op_storo rfl rfl rfl rfl rfl sz_29 ?_); refine ADB.n ?_; refine ADB.done (by kernel_rfl) ?_; exact ⟨rfl, rfl⟩
  skip
  change AW _ _ _ _ _; refine AW.region ?_; refine AL.r (rd_arith_add rfl rfl rfl (rfl : _ = (3 : Int))) ?_; refine AL.rm ?_; refine AL.nil ?_; change AW _ _ _ _ _; refine AW.seq ?_; refine AW.region ?_; refine AL.r (rd_bin rfl rfl rfl (fun _ => rfl)) ?_; refine AL.nil ?_; change AW _ _ _ _ _; refine AW.seq ?_; refine AW.cond_t rfl ?_; refine AW.skip ?_; change AW _ _ _ _ _; refine AW.seq ?_; refine AW.block ?_; refine AW.seq ?_; refine AW.region ?_; refine AL.rm ?_; refine AL.ra ?_; refine AL.nil ?_; change AW _ _ _ _ _; apply AW.drawS (by kernel_rfl)
  ·refine ADA.r 0 rfl (ARdP.a (rdP_move rfl rfl)) rfl ?_; refine ADA.r 1 rfl (ARdP.a (rdP_move rfl rfl)) rfl ?_; refine ADA.r 3 rfl (ARdP.a (rdP_move rfl rfl)) rfl ?_; refine ADA.r 4 rfl (ARdP.a (rdP_move rfl rfl)) rfl ?_; refine ADA.r 5 rfl (ARdP.a (rdP_nilc_bx rfl rfl rfl)) rfl ?_; refine ADA.r 6 rfl (ARdP.a (rdP_faddr_bx rfl fo_95_2 rfl rfl ⟨_, _, rfl⟩)) rfl ?_; refine ADA.r 7 rfl (ARdP.a (rdP_iaddr_bx_ 3 rfl ar_37 rfl rfl rfl)) rfl ?_; refine ADA.r 10 rfl (ARdP.a (rdP_nilc_bx rfl rfl rfl)) rfl ?_; refine ADA.r 11 rfl (ARdP.a (rdP_faddr_bx rfl fo_95_1 rfl rfl ⟨_, _, rfl⟩)) rfl ?_; refine ADA.b ?_; refine ADB.all (is := [2, 8]) (by kernel_rfl) (by simp) ?_; intro i hi; simp only [List.mem_cons, List.not_mem_nil, or_false] at hi
   rcases hi with rfl | rfl
   ·refine ⟨_, rfl, rfl, AOpB.op (bs_own 4 rfl ap_29 ze_5 rfl rfl rfl ?_)⟩; refine ADB.n ?_; refine ADB.mv 8 rfl (AOpB.op (ARd.opB (rd_load_bx rfl ag_29 rfl rfl rfl) ?_)); refine ADB.n ?_; refine ADB.mv 9 rfl (op_append rfl ap_29 rfl rfl (src_owM rfl rfl) (by simp only [byA_len, List.length_nil]; omega) (by simp only [byA_len, List.length_nil]; omega) ?_); refine ADB.n ?_; refine ADB.r 12 rfl (rdP_iaddr_bx_ 3 rfl ar_37 rfl rfl rfl) rfl ?_; refine ADB.mv 13 rfl (op_storo rfl rfl rfl rfl rfl sz_29 ?_); refine ADB.n ?_; refine ADB.done (by kernel_rfl) ?_; exact ⟨rfl, rfl⟩
   ·refine ⟨_, rfl, rfl, AOpB.op (ARd.opB (rd_load_bx rfl ag_29 rfl rfl rfl) ?_)⟩; refine ADB.n ?_; refine ADB.mv 2 rfl (AOpB.op (bs_own 4 rfl ap_29 ze_5 rfl rfl rfl ?_)); refine ADB.n ?_; refine ADB.mv 9 rfl (op_append rfl ap_29 rfl rfl (src_owM rfl rfl) (by simp only [byA_len, List.length_nil]; omega) (by simp only [byA_len, List.length_nil]; omega) ?_); refine ADB.n ?_; refine ADB.r 12 rfl (rdP_iaddr_bx_ 3 rfl ar_37 rfl rfl rfl) rfl ?_; refine ADB.mv 13 rfl (op_storo rfl rfl rfl rfl rfl sz_29 ?_); refine ADB.n ?_; refine ADB.done (by kernel_rfl) ?_; exact ⟨rfl, rfl⟩
  skip
  change AW _ _ _ _ _; refine AW.region ?_; refine AL.r (rd_arith_add rfl rfl rfl (rfl : _ = (4 : Int))) ?_; refine AL.rm ?_; refine AL.nil ?_; change AW _ _ _ _ _; refine AW.seq ?_; refine AW.region ?_; refine AL.r (rd_bin rfl rfl rfl (fun _ => rfl)) ?_; refine AL.nil ?_; change AW _ _ _ _ _; refine AW.seq ?_; refine AW.cond_f rfl ?_; refine AW.exit ?_; change AW _ _ _ _ _; refine AW.region ?_; refine AL.rm ?_; refine AL.rm ?_; refine AL.rm ?_; refine AL.r (rd_nilc_bx rfl rfl rfl) ?_; refine AL.r (rd_faddr_bx rfl fo_95_6 rfl rfl ⟨_, _, rfl⟩) ?_; refine AL.op rfl (op_store_ rfl rfl rfl rfl rfl sz_4 ?_); refine AL.no ?_; refine AL.r (rd_nilc_bx rfl rfl rfl) ?_; refine AL.r (rd_faddr_bx rfl fo_95_7 rfl rfl ⟨_, _, rfl⟩) ?_; refine AL.op rfl (op_store_ rfl rfl rfl rfl rfl sz_3 ?_); refine AL.no ?_; refine AL.r (rd_nilc_bx rfl rfl rfl) ?_; refine AL.r (rd_faddr_bx rfl fo_95_8 rfl rfl ⟨_, _, rfl⟩) ?_
  refine AL.op rfl (op_store_ rfl rfl rfl rfl rfl sz_4 ?_); refine AL.no ?_; refine AL.nil ?_
  repeat with_reducible first | refine thenA_ret ?_ | refine inBlockA_ret ?_
  with_reducible first | refine retO_ret ?_ | refine retO_normal ?_
  refine reso0D rfl  ?_; exact ⟨rfl, a1 + 1 + 1, a2 + 1 + 1, a3 + 1 + 1, a4 + 1 + 1, a5, a6, a7, a8, a9, by simp only [diskT, crashD, owM_f, List.take_succ_cons, List.take_zero]⟩
theorem dark_c : ACo Try.prog 46 [.bx 0 g 0] (diskT g g1 g2 g3 g4 g5 g6 g7 g8 g9 d) (fun y os' => y = .sc (.bool d.dark) ∧ os' = diskT g g1 g2 g3 g4 g5 g6 g7 g8 g9 d) := by
  refine ACo.of' (st0 := [⟨g, .box 95 [.sc (.int .i64 d.room), .ow 1 g1, .ow 2 g2, .ow 3 g3, .ow 4 g4, .ow 5 g5, .ow 6 g6, .ow 7 g7, .ow 8 g8, .ow 9 g9, .sc (.int .i64 d.waits), .sc (.int .i64 d.done), .sc (.bool d.fused), .sc (.int .i64 d.fuse), .sc (.bool d.dark)]⟩, ⟨g1, owM (d.nf 0) 5 1 (byA (d.n 0))⟩, ⟨g2, owM (d.nf 1) 5 1 (byA (d.n 1))⟩, ⟨g3, owM (d.nf 2) 5 1 (byA (d.n 2))⟩, ⟨g4, owM (d.nf 3) 5 1 (byA (d.n 3))⟩, ⟨g5, owM (d.lf 0) 5 1 (byA (d.l 0))⟩, ⟨g6, owM (d.lf 1) 5 1 (byA (d.l 1))⟩, ⟨g7, owM (d.lf 2) 5 1 (byA (d.l 2))⟩, ⟨g8, owM (d.lf 3) 5 1 (byA (d.l 3))⟩, ⟨g9, owM true 100 4 (d.q.map DeedD.cs)⟩]) 10 0 Try.func46 rfl 10 ?_; refine AW.seq ?_; refine AW.region ?_; refine AL.ra ?_; refine AL.nil ?_; change AW _ _ _ _ _; refine AW.seq ?_; refine AW.region ?_; refine AL.rm ?_; refine AL.r (rd_pne_bx rfl pt_25 rfl rfl rfl) ?_; refine AL.rm ?_; refine AL.ro (rd_move rfl rfl) ?_; refine AL.ro (rd_nilc_bx rfl rfl rfl) ?_
  refine AL.ro (rd_faddr_bx rfl fo_95_8 rfl rfl ⟨_, _, rfl⟩) ?_; refine AL.ro (rd_load_bx rfl ag_4 rfl rfl rfl) ?_; refine AL.r (rd_pick_t rfl rfl rfl) ?_; refine AL.ra ?_; refine AL.nil ?_; change AW _ _ _ _ _; refine AW.ret ?_
  repeat with_reducible first | refine thenA_ret ?_ | refine inBlockA_ret ?_
  with_reducible first | refine retO_ret ?_ | refine retO_normal ?_
  refine reso1S rfl (ResV.tmp rfl) rfl ?_; exact ⟨rfl, rfl⟩
def readR (d : DiskD) (i : Nat) : AV := if d.dark = true then .tu [.sl [], .sc (.int .i64 10)] else .tu [.sl (byA (d.n i)), .sc (.int .i64 0)]
theorem read_c0 (h : d.Fit) : ACo Try.prog 19 [.bx 0 g 0, .sc (.int .i64 0)] (diskT g g1 g2 g3 g4 g5 g6 g7 g8 g9 d)
    (fun y os' => y = readR d 0 ∧ os' = diskT g g1 g2 g3 g4 g5 g6 g7 g8 g9 d) := by
  have hnn := h.n 0
  refine ACo.of' (st0 := [⟨g, .box 95 [.sc (.int .i64 d.room), .ow 1 g1, .ow 2 g2, .ow 3 g3, .ow 4 g4, .ow 5 g5, .ow 6 g6, .ow 7 g7, .ow 8 g8, .ow 9 g9, .sc (.int .i64 d.waits), .sc (.int .i64 d.done), .sc (.bool d.fused), .sc (.int .i64 d.fuse), .sc (.bool d.dark)]⟩, ⟨g1, owM (d.nf 0) 5 1 (byA (d.n 0))⟩, ⟨g2, owM (d.nf 1) 5 1 (byA (d.n 1))⟩, ⟨g3, owM (d.nf 2) 5 1 (byA (d.n 2))⟩, ⟨g4, owM (d.nf 3) 5 1 (byA (d.n 3))⟩, ⟨g5, owM (d.lf 0) 5 1 (byA (d.l 0))⟩, ⟨g6, owM (d.lf 1) 5 1 (byA (d.l 1))⟩, ⟨g7, owM (d.lf 2) 5 1 (byA (d.l 2))⟩, ⟨g8, owM (d.lf 3) 5 1 (byA (d.l 3))⟩, ⟨g9, owM true 100 4 (d.q.map DeedD.cs)⟩, TK.mk 0 .off, TK.mk 0 .off]) 34 2 Try.func19 rfl 10 ?_; refine AW.seq ?_; refine AW.region ?_; refine AL.ra ?_; refine AL.ra ?_; refine AL.nil ?_; change AW _ _ _ _ _; refine AW.seq ?_; refine AW.seq ?_; refine AW.region ?_; refine AL.rm ?_; refine AL.r (rd_peq_bx rfl pt_25 rfl rfl rfl) ?_
  refine AL.nil ?_; change AW _ _ _ _ _; refine AW.cond_f rfl ?_; refine AW.skip ?_; change AW _ _ _ _ _; refine AW.seq ?_; refine AW.seq ?_; refine AW.region ?_; refine AL.rm ?_; refine AL.op rfl (AOpB.op (op_call (right_in (by decide)) rfl (by kernel_rfl) rfl (none) ?_)); rintro r rfl; refine AL.no ?_; refine AL.r (rd_un rfl rfl (fun _ => rfl)) ?_; refine AL.nil ?_; change AW _ _ _ _ _; refine AW.cond_f rfl ?_; refine AW.skip ?_; change AW _ _ _ _ _; refine AW.seq ?_; refine AW.seq ?_; refine AW.region ?_; refine AL.rm ?_; refine AL.r (rd_nilc_bx rfl rfl rfl) ?_; refine AL.r (rd_faddr_bx rfl fo_95_8 rfl rfl ⟨_, _, rfl⟩) ?_; refine AL.r (rd_load_bx rfl ag_4 rfl rfl rfl) ?_; refine AL.nil ?_; change AW _ _ _ _ _; refine AW.cd rfl (fun h16 => ?_) (fun h16 => ?_)
  ·refine AW.seq ?_; refine AW.region ?_; refine AL.ra ?_; refine AL.ra ?_; refine AL.nil ?_; change AW _ _ _ _ _; refine AW.ret ?_
   repeat with_reducible first | refine thenA_ret ?_ | refine inBlockA_ret ?_
   with_reducible first | refine retO_ret ?_ | refine retO_normal ?_
   refine reso2S rfl (ResV.tmp rfl) rfl (ResV.tmp rfl) rfl ?_; exact ⟨by simp [readR, h16, byA, List.take_of_length_le], rfl⟩
  ·refine AW.skip ?_; change AW _ _ _ _ _; refine AW.seq ?_; refine AW.region ?_; refine AL.rm ?_; refine AL.rm ?_; refine AL.r (rd_nilc_bx rfl rfl rfl) ?_; refine AL.r (rd_faddr_bx rfl fo_95_1 rfl rfl ⟨_, _, rfl⟩) ?_; refine AL.r (rd_iaddr_bx_ 0 rfl ar_37 rfl rfl rfl) ?_; refine AL.r (rd_load_bx rfl ag_29 rfl rfl rfl) ?_; refine AL.r (rd_len_owM rfl el_29 rfl rfl) ?_; refine AL.ra ?_; refine AL.nil ?_; change AW _ _ _ _ _; refine AW.seq ?_; refine AW.region ?_; refine AL.op rfl (AOpB.op (bs_own 10 rfl ap_29 ze_5 rfl rfl rfl ?_)); refine AL.no ?_; refine AL.rm ?_; refine AL.rm ?_; refine AL.r (rd_nilc_bx rfl rfl rfl) ?_; refine AL.r (rd_faddr_bx rfl fo_95_1 rfl rfl ⟨_, _, rfl⟩) ?_; refine AL.r (rd_iaddr_bx_ 0 rfl ar_37 rfl rfl rfl) ?_; refine AL.r (rd_load_bx rfl ag_29 rfl rfl rfl) ?_; refine AL.op rfl (op_append rfl ap_29 rfl rfl (src_owM rfl rfl) (by simp only [byA_len, List.length_nil]; omega) (by simp only [byA_len, List.length_nil]; omega) ?_)
   refine AL.no ?_; refine AL.ra ?_; refine AL.nil ?_; change AW _ _ _ _ _; refine AW.seq ?_; refine AW.region ?_; refine AL.settle 7 rfl rfl (by first | rfl | exact cont_owM _ _ _ _) ?_; refine AL.no ?_; refine AL.rm ?_; refine AL.rm ?_; refine AL.rm ?_; refine AL.r (rd_slice3_sl rfl el_29 rfl rfl rfl rfl rfl (by simp [byA_len])) ?_; refine AL.ra ?_; refine AL.ra ?_; refine AL.nil ?_; change AW _ _ _ _ _; refine AW.ret ?_
   repeat with_reducible first | refine thenA_ret ?_ | refine inBlockA_ret ?_
   with_reducible first | refine retO_ret ?_ | refine retO_normal ?_
   refine reso2S rfl (ResV.tmp rfl) rfl (ResV.tmp rfl) rfl ?_; exact ⟨by simp [readR, h16, byA, List.take_of_length_le], rfl⟩
theorem read_c1 (h : d.Fit) : ACo Try.prog 19 [.bx 0 g 0, .sc (.int .i64 1)] (diskT g g1 g2 g3 g4 g5 g6 g7 g8 g9 d)
    (fun y os' => y = readR d 1 ∧ os' = diskT g g1 g2 g3 g4 g5 g6 g7 g8 g9 d) := by
  have hnn := h.n 1
  refine ACo.of' (st0 := [⟨g, .box 95 [.sc (.int .i64 d.room), .ow 1 g1, .ow 2 g2, .ow 3 g3, .ow 4 g4, .ow 5 g5, .ow 6 g6, .ow 7 g7, .ow 8 g8, .ow 9 g9, .sc (.int .i64 d.waits), .sc (.int .i64 d.done), .sc (.bool d.fused), .sc (.int .i64 d.fuse), .sc (.bool d.dark)]⟩, ⟨g1, owM (d.nf 0) 5 1 (byA (d.n 0))⟩, ⟨g2, owM (d.nf 1) 5 1 (byA (d.n 1))⟩, ⟨g3, owM (d.nf 2) 5 1 (byA (d.n 2))⟩, ⟨g4, owM (d.nf 3) 5 1 (byA (d.n 3))⟩, ⟨g5, owM (d.lf 0) 5 1 (byA (d.l 0))⟩, ⟨g6, owM (d.lf 1) 5 1 (byA (d.l 1))⟩, ⟨g7, owM (d.lf 2) 5 1 (byA (d.l 2))⟩, ⟨g8, owM (d.lf 3) 5 1 (byA (d.l 3))⟩, ⟨g9, owM true 100 4 (d.q.map DeedD.cs)⟩, TK.mk 0 .off, TK.mk 0 .off]) 34 2 Try.func19 rfl 10 ?_; refine AW.seq ?_; refine AW.region ?_; refine AL.ra ?_; refine AL.ra ?_; refine AL.nil ?_; change AW _ _ _ _ _; refine AW.seq ?_; refine AW.seq ?_; refine AW.region ?_; refine AL.rm ?_; refine AL.r (rd_peq_bx rfl pt_25 rfl rfl rfl) ?_
  refine AL.nil ?_; change AW _ _ _ _ _; refine AW.cond_f rfl ?_; refine AW.skip ?_; change AW _ _ _ _ _; refine AW.seq ?_; refine AW.seq ?_; refine AW.region ?_; refine AL.rm ?_; refine AL.op rfl (AOpB.op (op_call (right_in (by decide)) rfl (by kernel_rfl) rfl (none) ?_)); rintro r rfl; refine AL.no ?_; refine AL.r (rd_un rfl rfl (fun _ => rfl)) ?_; refine AL.nil ?_; change AW _ _ _ _ _; refine AW.cond_f rfl ?_; refine AW.skip ?_; change AW _ _ _ _ _; refine AW.seq ?_; refine AW.seq ?_; refine AW.region ?_; refine AL.rm ?_; refine AL.r (rd_nilc_bx rfl rfl rfl) ?_; refine AL.r (rd_faddr_bx rfl fo_95_8 rfl rfl ⟨_, _, rfl⟩) ?_; refine AL.r (rd_load_bx rfl ag_4 rfl rfl rfl) ?_; refine AL.nil ?_; change AW _ _ _ _ _; refine AW.cd rfl (fun h16 => ?_) (fun h16 => ?_)
  ·refine AW.seq ?_; refine AW.region ?_; refine AL.ra ?_; refine AL.ra ?_; refine AL.nil ?_; change AW _ _ _ _ _; refine AW.ret ?_
   repeat with_reducible first | refine thenA_ret ?_ | refine inBlockA_ret ?_
   with_reducible first | refine retO_ret ?_ | refine retO_normal ?_
   refine reso2S rfl (ResV.tmp rfl) rfl (ResV.tmp rfl) rfl ?_; exact ⟨by simp [readR, h16, byA, List.take_of_length_le], rfl⟩
  ·refine AW.skip ?_; change AW _ _ _ _ _; refine AW.seq ?_; refine AW.region ?_; refine AL.rm ?_; refine AL.rm ?_; refine AL.r (rd_nilc_bx rfl rfl rfl) ?_; refine AL.r (rd_faddr_bx rfl fo_95_1 rfl rfl ⟨_, _, rfl⟩) ?_; refine AL.r (rd_iaddr_bx_ 1 rfl ar_37 rfl rfl rfl) ?_; refine AL.r (rd_load_bx rfl ag_29 rfl rfl rfl) ?_; refine AL.r (rd_len_owM rfl el_29 rfl rfl) ?_; refine AL.ra ?_; refine AL.nil ?_; change AW _ _ _ _ _; refine AW.seq ?_; refine AW.region ?_; refine AL.op rfl (AOpB.op (bs_own 10 rfl ap_29 ze_5 rfl rfl rfl ?_)); refine AL.no ?_; refine AL.rm ?_; refine AL.rm ?_; refine AL.r (rd_nilc_bx rfl rfl rfl) ?_; refine AL.r (rd_faddr_bx rfl fo_95_1 rfl rfl ⟨_, _, rfl⟩) ?_; refine AL.r (rd_iaddr_bx_ 1 rfl ar_37 rfl rfl rfl) ?_; refine AL.r (rd_load_bx rfl ag_29 rfl rfl rfl) ?_; refine AL.op rfl (op_append rfl ap_29 rfl rfl (src_owM rfl rfl) (by simp only [byA_len, List.length_nil]; omega) (by simp only [byA_len, List.length_nil]; omega) ?_)
   refine AL.no ?_; refine AL.ra ?_; refine AL.nil ?_; change AW _ _ _ _ _; refine AW.seq ?_; refine AW.region ?_; refine AL.settle 7 rfl rfl (by first | rfl | exact cont_owM _ _ _ _) ?_; refine AL.no ?_; refine AL.rm ?_; refine AL.rm ?_; refine AL.rm ?_; refine AL.r (rd_slice3_sl rfl el_29 rfl rfl rfl rfl rfl (by simp [byA_len])) ?_; refine AL.ra ?_; refine AL.ra ?_; refine AL.nil ?_; change AW _ _ _ _ _; refine AW.ret ?_
   repeat with_reducible first | refine thenA_ret ?_ | refine inBlockA_ret ?_
   with_reducible first | refine retO_ret ?_ | refine retO_normal ?_
   refine reso2S rfl (ResV.tmp rfl) rfl (ResV.tmp rfl) rfl ?_; exact ⟨by simp [readR, h16, byA, List.take_of_length_le], rfl⟩
theorem read_c2 (h : d.Fit) : ACo Try.prog 19 [.bx 0 g 0, .sc (.int .i64 2)] (diskT g g1 g2 g3 g4 g5 g6 g7 g8 g9 d)
    (fun y os' => y = readR d 2 ∧ os' = diskT g g1 g2 g3 g4 g5 g6 g7 g8 g9 d) := by
  have hnn := h.n 2
  refine ACo.of' (st0 := [⟨g, .box 95 [.sc (.int .i64 d.room), .ow 1 g1, .ow 2 g2, .ow 3 g3, .ow 4 g4, .ow 5 g5, .ow 6 g6, .ow 7 g7, .ow 8 g8, .ow 9 g9, .sc (.int .i64 d.waits), .sc (.int .i64 d.done), .sc (.bool d.fused), .sc (.int .i64 d.fuse), .sc (.bool d.dark)]⟩, ⟨g1, owM (d.nf 0) 5 1 (byA (d.n 0))⟩, ⟨g2, owM (d.nf 1) 5 1 (byA (d.n 1))⟩, ⟨g3, owM (d.nf 2) 5 1 (byA (d.n 2))⟩, ⟨g4, owM (d.nf 3) 5 1 (byA (d.n 3))⟩, ⟨g5, owM (d.lf 0) 5 1 (byA (d.l 0))⟩, ⟨g6, owM (d.lf 1) 5 1 (byA (d.l 1))⟩, ⟨g7, owM (d.lf 2) 5 1 (byA (d.l 2))⟩, ⟨g8, owM (d.lf 3) 5 1 (byA (d.l 3))⟩, ⟨g9, owM true 100 4 (d.q.map DeedD.cs)⟩, TK.mk 0 .off, TK.mk 0 .off]) 34 2 Try.func19 rfl 10 ?_; refine AW.seq ?_; refine AW.region ?_; refine AL.ra ?_; refine AL.ra ?_; refine AL.nil ?_; change AW _ _ _ _ _; refine AW.seq ?_; refine AW.seq ?_; refine AW.region ?_; refine AL.rm ?_; refine AL.r (rd_peq_bx rfl pt_25 rfl rfl rfl) ?_
  refine AL.nil ?_; change AW _ _ _ _ _; refine AW.cond_f rfl ?_; refine AW.skip ?_; change AW _ _ _ _ _; refine AW.seq ?_; refine AW.seq ?_; refine AW.region ?_; refine AL.rm ?_; refine AL.op rfl (AOpB.op (op_call (right_in (by decide)) rfl (by kernel_rfl) rfl (none) ?_)); rintro r rfl; refine AL.no ?_; refine AL.r (rd_un rfl rfl (fun _ => rfl)) ?_; refine AL.nil ?_; change AW _ _ _ _ _; refine AW.cond_f rfl ?_; refine AW.skip ?_; change AW _ _ _ _ _; refine AW.seq ?_; refine AW.seq ?_; refine AW.region ?_; refine AL.rm ?_; refine AL.r (rd_nilc_bx rfl rfl rfl) ?_; refine AL.r (rd_faddr_bx rfl fo_95_8 rfl rfl ⟨_, _, rfl⟩) ?_; refine AL.r (rd_load_bx rfl ag_4 rfl rfl rfl) ?_; refine AL.nil ?_; change AW _ _ _ _ _; refine AW.cd rfl (fun h16 => ?_) (fun h16 => ?_)
  ·refine AW.seq ?_; refine AW.region ?_; refine AL.ra ?_; refine AL.ra ?_; refine AL.nil ?_; change AW _ _ _ _ _; refine AW.ret ?_
   repeat with_reducible first | refine thenA_ret ?_ | refine inBlockA_ret ?_
   with_reducible first | refine retO_ret ?_ | refine retO_normal ?_
   refine reso2S rfl (ResV.tmp rfl) rfl (ResV.tmp rfl) rfl ?_; exact ⟨by simp [readR, h16, byA, List.take_of_length_le], rfl⟩
  ·refine AW.skip ?_; change AW _ _ _ _ _; refine AW.seq ?_; refine AW.region ?_; refine AL.rm ?_; refine AL.rm ?_; refine AL.r (rd_nilc_bx rfl rfl rfl) ?_; refine AL.r (rd_faddr_bx rfl fo_95_1 rfl rfl ⟨_, _, rfl⟩) ?_; refine AL.r (rd_iaddr_bx_ 2 rfl ar_37 rfl rfl rfl) ?_; refine AL.r (rd_load_bx rfl ag_29 rfl rfl rfl) ?_; refine AL.r (rd_len_owM rfl el_29 rfl rfl) ?_; refine AL.ra ?_; refine AL.nil ?_; change AW _ _ _ _ _; refine AW.seq ?_; refine AW.region ?_; refine AL.op rfl (AOpB.op (bs_own 10 rfl ap_29 ze_5 rfl rfl rfl ?_)); refine AL.no ?_; refine AL.rm ?_; refine AL.rm ?_; refine AL.r (rd_nilc_bx rfl rfl rfl) ?_; refine AL.r (rd_faddr_bx rfl fo_95_1 rfl rfl ⟨_, _, rfl⟩) ?_; refine AL.r (rd_iaddr_bx_ 2 rfl ar_37 rfl rfl rfl) ?_; refine AL.r (rd_load_bx rfl ag_29 rfl rfl rfl) ?_; refine AL.op rfl (op_append rfl ap_29 rfl rfl (src_owM rfl rfl) (by simp only [byA_len, List.length_nil]; omega) (by simp only [byA_len, List.length_nil]; omega) ?_)
   refine AL.no ?_; refine AL.ra ?_; refine AL.nil ?_; change AW _ _ _ _ _; refine AW.seq ?_; refine AW.region ?_; refine AL.settle 7 rfl rfl (by first | rfl | exact cont_owM _ _ _ _) ?_; refine AL.no ?_; refine AL.rm ?_; refine AL.rm ?_; refine AL.rm ?_; refine AL.r (rd_slice3_sl rfl el_29 rfl rfl rfl rfl rfl (by simp [byA_len])) ?_; refine AL.ra ?_; refine AL.ra ?_; refine AL.nil ?_; change AW _ _ _ _ _; refine AW.ret ?_
   repeat with_reducible first | refine thenA_ret ?_ | refine inBlockA_ret ?_
   with_reducible first | refine retO_ret ?_ | refine retO_normal ?_
   refine reso2S rfl (ResV.tmp rfl) rfl (ResV.tmp rfl) rfl ?_; exact ⟨by simp [readR, h16, byA, List.take_of_length_le], rfl⟩
theorem read_c3 (h : d.Fit) : ACo Try.prog 19 [.bx 0 g 0, .sc (.int .i64 3)] (diskT g g1 g2 g3 g4 g5 g6 g7 g8 g9 d)
    (fun y os' => y = readR d 3 ∧ os' = diskT g g1 g2 g3 g4 g5 g6 g7 g8 g9 d) := by
  have hnn := h.n 3
  refine ACo.of' (st0 := [⟨g, .box 95 [.sc (.int .i64 d.room), .ow 1 g1, .ow 2 g2, .ow 3 g3, .ow 4 g4, .ow 5 g5, .ow 6 g6, .ow 7 g7, .ow 8 g8, .ow 9 g9, .sc (.int .i64 d.waits), .sc (.int .i64 d.done), .sc (.bool d.fused), .sc (.int .i64 d.fuse), .sc (.bool d.dark)]⟩, ⟨g1, owM (d.nf 0) 5 1 (byA (d.n 0))⟩, ⟨g2, owM (d.nf 1) 5 1 (byA (d.n 1))⟩, ⟨g3, owM (d.nf 2) 5 1 (byA (d.n 2))⟩, ⟨g4, owM (d.nf 3) 5 1 (byA (d.n 3))⟩, ⟨g5, owM (d.lf 0) 5 1 (byA (d.l 0))⟩, ⟨g6, owM (d.lf 1) 5 1 (byA (d.l 1))⟩, ⟨g7, owM (d.lf 2) 5 1 (byA (d.l 2))⟩, ⟨g8, owM (d.lf 3) 5 1 (byA (d.l 3))⟩, ⟨g9, owM true 100 4 (d.q.map DeedD.cs)⟩, TK.mk 0 .off, TK.mk 0 .off]) 34 2 Try.func19 rfl 10 ?_; refine AW.seq ?_; refine AW.region ?_; refine AL.ra ?_; refine AL.ra ?_; refine AL.nil ?_; change AW _ _ _ _ _; refine AW.seq ?_; refine AW.seq ?_; refine AW.region ?_; refine AL.rm ?_; refine AL.r (rd_peq_bx rfl pt_25 rfl rfl rfl) ?_
  refine AL.nil ?_; change AW _ _ _ _ _; refine AW.cond_f rfl ?_; refine AW.skip ?_; change AW _ _ _ _ _; refine AW.seq ?_; refine AW.seq ?_; refine AW.region ?_; refine AL.rm ?_; refine AL.op rfl (AOpB.op (op_call (right_in (by decide)) rfl (by kernel_rfl) rfl (none) ?_)); rintro r rfl; refine AL.no ?_; refine AL.r (rd_un rfl rfl (fun _ => rfl)) ?_; refine AL.nil ?_; change AW _ _ _ _ _; refine AW.cond_f rfl ?_; refine AW.skip ?_; change AW _ _ _ _ _; refine AW.seq ?_; refine AW.seq ?_; refine AW.region ?_; refine AL.rm ?_; refine AL.r (rd_nilc_bx rfl rfl rfl) ?_; refine AL.r (rd_faddr_bx rfl fo_95_8 rfl rfl ⟨_, _, rfl⟩) ?_; refine AL.r (rd_load_bx rfl ag_4 rfl rfl rfl) ?_; refine AL.nil ?_; change AW _ _ _ _ _; refine AW.cd rfl (fun h16 => ?_) (fun h16 => ?_)
  ·refine AW.seq ?_; refine AW.region ?_; refine AL.ra ?_; refine AL.ra ?_; refine AL.nil ?_; change AW _ _ _ _ _; refine AW.ret ?_
   repeat with_reducible first | refine thenA_ret ?_ | refine inBlockA_ret ?_
   with_reducible first | refine retO_ret ?_ | refine retO_normal ?_
   refine reso2S rfl (ResV.tmp rfl) rfl (ResV.tmp rfl) rfl ?_; exact ⟨by simp [readR, h16, byA, List.take_of_length_le], rfl⟩
  ·refine AW.skip ?_; change AW _ _ _ _ _; refine AW.seq ?_; refine AW.region ?_; refine AL.rm ?_; refine AL.rm ?_; refine AL.r (rd_nilc_bx rfl rfl rfl) ?_; refine AL.r (rd_faddr_bx rfl fo_95_1 rfl rfl ⟨_, _, rfl⟩) ?_; refine AL.r (rd_iaddr_bx_ 3 rfl ar_37 rfl rfl rfl) ?_; refine AL.r (rd_load_bx rfl ag_29 rfl rfl rfl) ?_; refine AL.r (rd_len_owM rfl el_29 rfl rfl) ?_; refine AL.ra ?_; refine AL.nil ?_; change AW _ _ _ _ _; refine AW.seq ?_; refine AW.region ?_; refine AL.op rfl (AOpB.op (bs_own 10 rfl ap_29 ze_5 rfl rfl rfl ?_)); refine AL.no ?_; refine AL.rm ?_; refine AL.rm ?_; refine AL.r (rd_nilc_bx rfl rfl rfl) ?_; refine AL.r (rd_faddr_bx rfl fo_95_1 rfl rfl ⟨_, _, rfl⟩) ?_; refine AL.r (rd_iaddr_bx_ 3 rfl ar_37 rfl rfl rfl) ?_; refine AL.r (rd_load_bx rfl ag_29 rfl rfl rfl) ?_; refine AL.op rfl (op_append rfl ap_29 rfl rfl (src_owM rfl rfl) (by simp only [byA_len, List.length_nil]; omega) (by simp only [byA_len, List.length_nil]; omega) ?_)
   refine AL.no ?_; refine AL.ra ?_; refine AL.nil ?_; change AW _ _ _ _ _; refine AW.seq ?_; refine AW.region ?_; refine AL.settle 7 rfl rfl (by first | rfl | exact cont_owM _ _ _ _) ?_; refine AL.no ?_; refine AL.rm ?_; refine AL.rm ?_; refine AL.rm ?_; refine AL.r (rd_slice3_sl rfl el_29 rfl rfl rfl rfl rfl (by simp [byA_len])) ?_; refine AL.ra ?_; refine AL.ra ?_; refine AL.nil ?_; change AW _ _ _ _ _; refine AW.ret ?_
   repeat with_reducible first | refine thenA_ret ?_ | refine inBlockA_ret ?_
   with_reducible first | refine retO_ret ?_ | refine retO_normal ?_
   refine reso2S rfl (ResV.tmp rfl) rfl (ResV.tmp rfl) rfl ?_; exact ⟨by simp [readR, h16, byA, List.take_of_length_le], rfl⟩
end
-- a disk that isn't there
theorem nil_fuse (n : Int) : AC Try.prog 45 [.sc (.pointer none), .sc (.int .i64 n)] (fun r => r = .s (.tu [])) := by
  refine AC.of' 14 0 Try.func45 rfl ?_; change AW _ _ _ _ []; refine AW.seq ?_; refine AW.seq ?_; refine AW.region ?_; refine AL.rm ?_; refine AL.r (rd_peq_nil rfl pt_25 rfl rfl) ?_; refine AL.nil ?_; change AW _ _ _ _ _; refine AW.cond_t rfl ?_; refine AW.ret ?_; change ResA _ _ _ _ _; refine res0 rfl ?_; rfl
theorem nil_crash (n : Int) : AC Try.prog 17 [.sc (.pointer none), .sc (.int .i64 n)] (fun r => r = .s (.tu [])) := by
  refine AC.of' 34 2 Try.func17 rfl ?_; change AW _ _ _ _ [TK.mk 0 .off, TK.mk 0 .off]; refine AW.seq ?_; refine AW.seq ?_; refine AW.region ?_; refine AL.rm ?_; refine AL.r (rd_peq_nil rfl pt_25 rfl rfl) ?_; refine AL.nil ?_; change AW _ _ _ _ _; refine AW.cond_t rfl ?_; refine AW.ret ?_; change ResA _ _ _ _ _; refine res0 rfl ?_; rfl
theorem nil_read (f : Int) : AC Try.prog 19 [.sc (.pointer none), .sc (.int .i64 f)] (fun r => r = .s (.tu [.sl [], .sc (.int .i64 1)])) := by
  refine AC.of' 34 2 Try.func19 rfl ?_; change AW _ _ _ _ [TK.mk 0 .off, TK.mk 0 .off]; refine AW.seq ?_; refine AW.region ?_; refine AL.ra ?_; refine AL.ra ?_; refine AL.nil ?_; change AW _ _ _ _ _; refine AW.seq ?_; refine AW.seq ?_; refine AW.region ?_; refine AL.rm ?_; refine AL.r (rd_peq_nil rfl pt_25 rfl rfl) ?_; refine AL.nil ?_; change AW _ _ _ _ _; refine AW.cond_t rfl ?_; refine AW.seq ?_; refine AW.region ?_; refine AL.ra ?_; refine AL.ra ?_; refine AL.nil ?_; change AW _ _ _ _ _; refine AW.ret ?_; change ResA _ _ _ _ _; refine res2 rfl (ResV.tmp rfl) rfl (ResV.tmp rfl) rfl ?_; rfl
theorem nil_append (f : Int) (b : List UInt8) : AC Try.prog 13 [.sc (.pointer none), .sc (.int .i64 f), .sl (byA b)] (fun r => r = .s (.sc (.int .i64 1))) := by
  refine AC.of' 68 5 Try.func13 rfl ?_; change AW _ _ _ _ [TK.mk 0 .off, TK.mk 0 .off, TK.mk 0 .off, TK.mk 0 .off, TK.mk 0 .off]; refine AW.seq ?_; refine AW.region ?_; refine AL.ra ?_; refine AL.nil ?_; change AW _ _ _ _ _; refine AW.seq ?_; refine AW.seq ?_; refine AW.region ?_; refine AL.rm ?_; refine AL.r (rd_peq_nil rfl pt_25 rfl rfl) ?_; refine AL.nil ?_; change AW _ _ _ _ _; refine AW.cond_t rfl ?_; refine AW.seq ?_; refine AW.region ?_; refine AL.ra ?_; refine AL.nil ?_; change AW _ _ _ _ _; refine AW.ret ?_; change ResA _ _ _ _ _; refine res1 rfl (ResV.tmp rfl) rfl ?_; rfl
theorem nil_sync : AC Try.prog 14 [.sc (.pointer none)] (fun r => r = .s (.sc (.int .i64 1))) := by
  refine AC.of' 19 0 Try.func14 rfl ?_; change AW _ _ _ _ []; refine AW.seq ?_; refine AW.region ?_; refine AL.ra ?_; refine AL.nil ?_; change AW _ _ _ _ _; refine AW.seq ?_; refine AW.seq ?_; refine AW.region ?_; refine AL.rm ?_; refine AL.r (rd_peq_nil rfl pt_25 rfl rfl) ?_; refine AL.nil ?_; change AW _ _ _ _ _; refine AW.cond_t rfl ?_; refine AW.seq ?_; refine AW.region ?_; refine AL.ra ?_; refine AL.nil ?_; change AW _ _ _ _ _; refine AW.ret ?_; change ResA _ _ _ _ _; refine res1 rfl (ResV.tmp rfl) rfl ?_; rfl
theorem nil_dark : AC Try.prog 46 [.sc (.pointer none)] (fun r => r = .s (.sc (.bool false))) := by
  refine AC.of' 10 0 Try.func46 rfl ?_; change AW _ _ _ _ []; refine AW.seq ?_; refine AW.region ?_; refine AL.ra ?_; refine AL.nil ?_; change AW _ _ _ _ _; refine AW.seq ?_; refine AW.region ?_; refine AL.rm ?_; refine AL.r (rd_pne_nil rfl pt_25 rfl rfl) ?_; refine AL.rm ?_; refine AL.rf ?_; refine AL.rf ?_; refine AL.rf ?_; refine AL.rf ?_; refine AL.r (rd_pick_f rfl rfl rfl) ?_; refine AL.ra ?_; refine AL.nil ?_; change AW _ _ _ _ _; refine AW.ret ?_; change ResA _ _ _ _ _; refine res1 rfl (ResV.tmp rfl) rfl ?_; rfl
theorem nil_left : AC Try.prog 48 [.sc (.pointer none)] (fun r => r = .s (.sc (.int .i64 0))) := by
  refine AC.of' 24 0 Try.func48 rfl ?_; change AW _ _ _ _ []; refine AW.seq ?_; refine AW.region ?_; refine AL.ra ?_; refine AL.nil ?_; change AW _ _ _ _ _; refine AW.seq ?_; refine AW.seq ?_; refine AW.region ?_; refine AL.rm ?_; refine AL.r (rd_peq_nil rfl pt_25 rfl rfl) ?_; refine AL.nil ?_; change AW _ _ _ _ _; refine AW.cond_t rfl ?_; refine AW.seq ?_; refine AW.region ?_; refine AL.ra ?_; refine AL.nil ?_; change AW _ _ _ _ _; refine AW.ret ?_; change ResA _ _ _ _ _; refine res1 rfl (ResV.tmp rfl) rfl ?_; rfl
end Go.Proofs.Ytdgcbhihmnhnaaa
/- The disk as an object: its methods' contracts. -/
namespace Go.Proofs.Ytdgcbhihmnhnaaa
set_option linter.unusedSimpArgs false
set_option linter.unusedVariables false
set_option maxRecDepth 100000
open Go.RowKit

section
variable (d : DiskD) (g g1 g2 g3 g4 g5 g6 g7 g8 g9 : Nat)
theorem append_out (b : List UInt8) (f : Int) (hf : ¬(0 ≤ f ∧ f < 4)) : ACo Try.prog 13 [.bx 0 g 0, .sc (.int .i64 f), .sl (byA b)] (diskT g g1 g2 g3 g4 g5 g6 g7 g8 g9 d)
    (fun y os' => y = .sc (.int .i64 2) ∧ DiskAt g d os') := by
  refine ACo.of' (st0 := [⟨g, .box 95 [.sc (.int .i64 d.room), .ow 1 g1, .ow 2 g2, .ow 3 g3, .ow 4 g4, .ow 5 g5, .ow 6 g6, .ow 7 g7, .ow 8 g8, .ow 9 g9, .sc (.int .i64 d.waits), .sc (.int .i64 d.done), .sc (.bool d.fused), .sc (.int .i64 d.fuse), .sc (.bool d.dark)]⟩, ⟨g1, owM (d.nf 0) 5 1 (byA (d.n 0))⟩, ⟨g2, owM (d.nf 1) 5 1 (byA (d.n 1))⟩, ⟨g3, owM (d.nf 2) 5 1 (byA (d.n 2))⟩, ⟨g4, owM (d.nf 3) 5 1 (byA (d.n 3))⟩, ⟨g5, owM (d.lf 0) 5 1 (byA (d.l 0))⟩, ⟨g6, owM (d.lf 1) 5 1 (byA (d.l 1))⟩, ⟨g7, owM (d.lf 2) 5 1 (byA (d.l 2))⟩, ⟨g8, owM (d.lf 3) 5 1 (byA (d.l 3))⟩, ⟨g9, owM true 100 4 (d.q.map DeedD.cs)⟩, TK.mk 0 .off, TK.mk 0 .off, TK.mk 0 .off, TK.mk 0 .off, TK.mk 0 .off]) 68 5 Try.func13 rfl 10 ?_; refine AW.seq ?_; refine AW.region ?_; refine AL.ra ?_; refine AL.nil ?_; change AW _ _ _ _ _; refine AW.seq ?_; refine AW.seq ?_; refine AW.region ?_; refine AL.rm ?_; refine AL.r (rd_peq_bx rfl pt_25 rfl rfl rfl) ?_
  refine AL.nil ?_; change AW _ _ _ _ _; refine AW.cond_f rfl ?_; refine AW.skip ?_; change AW _ _ _ _ _; refine AW.seq ?_; refine AW.seq ?_; refine AW.region ?_; refine AL.rm ?_; refine AL.op rfl (AOpB.op (op_call (right_out hf) rfl (by kernel_rfl) rfl (none) ?_)); rintro r rfl; refine AL.no ?_; refine AL.r (rd_un rfl rfl (fun _ => rfl)) ?_; refine AL.nil ?_; change AW _ _ _ _ _; refine AW.cond_t rfl ?_; refine AW.seq ?_; refine AW.region ?_; refine AL.ra ?_; refine AL.nil ?_; change AW _ _ _ _ _; refine AW.ret ?_
  repeat with_reducible first | refine thenA_ret ?_ | refine inBlockA_ret ?_
  with_reducible first | refine retO_ret ?_ | refine retO_normal ?_
  refine reso1S rfl (ResV.tmp rfl) rfl ?_; exact ⟨rfl, g1, g2, g3, g4, g5, g6, g7, g8, g9, rfl⟩
theorem read_out (f : Int) (hf : ¬(0 ≤ f ∧ f < 4)) : ACo Try.prog 19 [.bx 0 g 0, .sc (.int .i64 f)] (diskT g g1 g2 g3 g4 g5 g6 g7 g8 g9 d)
    (fun y os' => y = .tu [.sl [], .sc (.int .i64 2)] ∧ DiskAt g d os') := by
  refine ACo.of' (st0 := [⟨g, .box 95 [.sc (.int .i64 d.room), .ow 1 g1, .ow 2 g2, .ow 3 g3, .ow 4 g4, .ow 5 g5, .ow 6 g6, .ow 7 g7, .ow 8 g8, .ow 9 g9, .sc (.int .i64 d.waits), .sc (.int .i64 d.done), .sc (.bool d.fused), .sc (.int .i64 d.fuse), .sc (.bool d.dark)]⟩, ⟨g1, owM (d.nf 0) 5 1 (byA (d.n 0))⟩, ⟨g2, owM (d.nf 1) 5 1 (byA (d.n 1))⟩, ⟨g3, owM (d.nf 2) 5 1 (byA (d.n 2))⟩, ⟨g4, owM (d.nf 3) 5 1 (byA (d.n 3))⟩, ⟨g5, owM (d.lf 0) 5 1 (byA (d.l 0))⟩, ⟨g6, owM (d.lf 1) 5 1 (byA (d.l 1))⟩, ⟨g7, owM (d.lf 2) 5 1 (byA (d.l 2))⟩, ⟨g8, owM (d.lf 3) 5 1 (byA (d.l 3))⟩, ⟨g9, owM true 100 4 (d.q.map DeedD.cs)⟩, TK.mk 0 .off, TK.mk 0 .off]) 34 2 Try.func19 rfl 10 ?_; refine AW.seq ?_; refine AW.region ?_; refine AL.ra ?_; refine AL.ra ?_; refine AL.nil ?_; change AW _ _ _ _ _; refine AW.seq ?_; refine AW.seq ?_; refine AW.region ?_; refine AL.rm ?_; refine AL.r (rd_peq_bx rfl pt_25 rfl rfl rfl) ?_
  refine AL.nil ?_; change AW _ _ _ _ _; refine AW.cond_f rfl ?_; refine AW.skip ?_; change AW _ _ _ _ _; refine AW.seq ?_; refine AW.seq ?_; refine AW.region ?_; refine AL.rm ?_; refine AL.op rfl (AOpB.op (op_call (right_out hf) rfl (by kernel_rfl) rfl (none) ?_)); rintro r rfl; refine AL.no ?_; refine AL.r (rd_un rfl rfl (fun _ => rfl)) ?_; refine AL.nil ?_; change AW _ _ _ _ _; refine AW.cond_t rfl ?_; refine AW.seq ?_; refine AW.region ?_; refine AL.ra ?_; refine AL.ra ?_; refine AL.nil ?_; change AW _ _ _ _ _; refine AW.ret ?_
  repeat with_reducible first | refine thenA_ret ?_ | refine inBlockA_ret ?_
  with_reducible first | refine retO_ret ?_ | refine retO_normal ?_
  refine reso2S rfl (ResV.tmp rfl) rfl (ResV.tmp rfl) rfl ?_; exact ⟨rfl, g1, g2, g3, g4, g5, g6, g7, g8, g9, rfl⟩
end
def DiskP (d : DiskD) : OP := CluP (fun os => ∃ g, DiskAt g d os)
theorem disk_obj {f : FuncId} {rest : List AV} {d d' : DiskD} {Y : AV} (h : ∀ g g1 g2 g3 g4 g5 g6 g7 g8 g9, ACo Try.prog f (.bx 0 g 0 :: rest) (diskT g g1 g2 g3 g4 g5 g6 g7 g8 g9 d) (fun y os' => y = Y ∧ DiskAt g d' os')) (G : Nat) (hr : rest.all clo1 = true := by rfl) (hY : clo2 Y = true := by rfl) :
    ACo Try.prog f (.bx 0 G 0 :: rest) [⟨G, .obj (DiskP d)⟩] (fun y os' => y = Y ∧ os' = [⟨G, .obj (DiskP d')⟩]) :=
  ACo.obj hr fun os hD => by
    obtain ⟨g, g1, g2, g3, g4, g5, g6, g7, g8, g9, rfl⟩ := hD
    refine ⟨g, _, _, rfl, rfl, h g g1 g2 g3 g4 g5 g6 g7 g8 g9, fun y os' ⟨hy, hd⟩ => ?_⟩; subst hy
    have hd' := hd
    obtain ⟨a1, a2, a3, a4, a5, a6, a7, a8, a9, rfl⟩ := hd
    exact ⟨fun os => ∃ g, DiskAt g d' os, _, hY, ⟨g, hd'⟩, rfl, rfl, rfl, rfl⟩
theorem diskAt_self (g g1 g2 g3 g4 g5 g6 g7 g8 g9 : Nat) (d : DiskD) : DiskAt g d (diskT g g1 g2 g3 g4 g5 g6 g7 g8 g9 d) := ⟨g1, g2, g3, g4, g5, g6, g7, g8, g9, rfl⟩
theorem disk_obj' {f : FuncId} {rest : List AV} {d d' : DiskD} {Y : AV} (h : ∀ g g1 g2 g3 g4 g5 g6 g7 g8 g9, ACo Try.prog f (.bx 0 g 0 :: rest) (diskT g g1 g2 g3 g4 g5 g6 g7 g8 g9 d) (fun y os' => y = Y ∧ os' = diskT g g1 g2 g3 g4 g5 g6 g7 g8 g9 d')) (G : Nat) (hr : rest.all clo1 = true := by rfl) (hY : clo2 Y = true := by rfl) :
    ACo Try.prog f (.bx 0 G 0 :: rest) [⟨G, .obj (DiskP d)⟩] (fun y os' => y = Y ∧ os' = [⟨G, .obj (DiskP d')⟩]) :=
  disk_obj (fun g g1 g2 g3 g4 g5 g6 g7 g8 g9 => (h g g1 g2 g3 g4 g5 g6 g7 g8 g9).mono fun y os' ⟨a, b⟩ => ⟨a, b ▸ diskAt_self g g1 g2 g3 g4 g5 g6 g7 g8 g9 d'⟩) G hr hY

/-! Any file's number. -/
def appDi (d : DiskD) (f : Int) (b : List UInt8) : DiskD := if 0 ≤ f ∧ f < 4 then appD d f.toNat b else d
def appRi (d : DiskD) (f : Int) (b : List UInt8) : Int := if 0 ≤ f ∧ f < 4 then appR d b else 2
def cutDi (d : DiskD) (f n : Int) : DiskD := if 0 ≤ f ∧ f < 4 then cutD d f.toNat n else d
def cutRi (d : DiskD) (f n : Int) : Int := if 0 ≤ f ∧ f < 4 then cutR d f.toNat n else 2
def readRi (d : DiskD) (f : Int) : AV := if 0 ≤ f ∧ f < 4 then readR d f.toNat else .tu [.sl [], .sc (.int .i64 2)]
theorem fourI {f : Int} (h : 0 ≤ f ∧ f < 4) : f = 0 ∨ f = 1 ∨ f = 2 ∨ f = 3 := by omega
section
variable (d : DiskD) (G : Nat)
theorem od_append (f : Int) (b : List UInt8) (h : d.Fit) (hb : b.length ≤ 1099511627776) : ACo Try.prog 13 [.bx 0 G 0, .sc (.int .i64 f), .sl (byA b)] [⟨G, .obj (DiskP d)⟩]
    (fun y os' => y = .sc (.int .i64 (appRi d f b)) ∧ os' = [⟨G, .obj (DiskP (appDi d f b))⟩]) := by
  unfold appRi appDi
  by_cases hf : 0 ≤ f ∧ f < 4
  · simp only [if_pos hf]
    rcases fourI hf with rfl | rfl | rfl | rfl
    · exact disk_obj (fun g g1 g2 g3 g4 g5 g6 g7 g8 g9 => append_c0 d g g1 g2 g3 g4 g5 g6 g7 g8 g9 b h hb) G
    · exact disk_obj (fun g g1 g2 g3 g4 g5 g6 g7 g8 g9 => append_c1 d g g1 g2 g3 g4 g5 g6 g7 g8 g9 b h hb) G
    · exact disk_obj (fun g g1 g2 g3 g4 g5 g6 g7 g8 g9 => append_c2 d g g1 g2 g3 g4 g5 g6 g7 g8 g9 b h hb) G
    · exact disk_obj (fun g g1 g2 g3 g4 g5 g6 g7 g8 g9 => append_c3 d g g1 g2 g3 g4 g5 g6 g7 g8 g9 b h hb) G
  · simp only [if_neg hf]
    exact disk_obj (fun g g1 g2 g3 g4 g5 g6 g7 g8 g9 => append_out d g g1 g2 g3 g4 g5 g6 g7 g8 g9 b f hf) G
theorem od_read (f : Int) (h : d.Fit) : ACo Try.prog 19 [.bx 0 G 0, .sc (.int .i64 f)] [⟨G, .obj (DiskP d)⟩]
    (fun y os' => y = readRi d f ∧ os' = [⟨G, .obj (DiskP d)⟩]) := by
  have hc : ∀ i, clo2 (readR d i) = true := fun i => by unfold readR; split <;> rfl
  unfold readRi
  by_cases hf : 0 ≤ f ∧ f < 4
  · simp only [if_pos hf]
    rcases fourI hf with rfl | rfl | rfl | rfl
    · exact disk_obj' (fun g g1 g2 g3 g4 g5 g6 g7 g8 g9 => read_c0 d g g1 g2 g3 g4 g5 g6 g7 g8 g9 h) G rfl (hc _)
    · exact disk_obj' (fun g g1 g2 g3 g4 g5 g6 g7 g8 g9 => read_c1 d g g1 g2 g3 g4 g5 g6 g7 g8 g9 h) G rfl (hc _)
    · exact disk_obj' (fun g g1 g2 g3 g4 g5 g6 g7 g8 g9 => read_c2 d g g1 g2 g3 g4 g5 g6 g7 g8 g9 h) G rfl (hc _)
    · exact disk_obj' (fun g g1 g2 g3 g4 g5 g6 g7 g8 g9 => read_c3 d g g1 g2 g3 g4 g5 g6 g7 g8 g9 h) G rfl (hc _)
  · simp only [if_neg hf]
    exact disk_obj (fun g g1 g2 g3 g4 g5 g6 g7 g8 g9 => read_out d g g1 g2 g3 g4 g5 g6 g7 g8 g9 f hf) G
theorem od_sync (h : d.Fit) (hok : okq d.q (d.l, d.lf)) (hb : ∀ i, (d.l i).length + qb d.q ≤ 1099511627776) : ACo Try.prog 14 [.bx 0 G 0] [⟨G, .obj (DiskP d)⟩] (fun y os' => y = .sc (.int .i64 (syncR d)) ∧ os' = [⟨G, .obj (DiskP (syncD d))⟩]) :=
  disk_obj (fun g g1 g2 g3 g4 g5 g6 g7 g8 g9 => sync_c d g g1 g2 g3 g4 g5 g6 g7 g8 g9 h hok hb) G
theorem od_fuse (n : Int) : ACo Try.prog 45 [.bx 0 G 0, .sc (.int .i64 n)] [⟨G, .obj (DiskP d)⟩] (fun y os' => y = .tu [] ∧ os' = [⟨G, .obj (DiskP (fuseD d n))⟩]) :=
  disk_obj' (fun g g1 g2 g3 g4 g5 g6 g7 g8 g9 => fuse_c d g g1 g2 g3 g4 g5 g6 g7 g8 g9 n) G
theorem od_crash (keep : Int) (hq : d.q.length ≤ 1099511627776) (hk : -9223372036854775808 ≤ keep ∧ keep < 9223372036854775808) (hok : okq d.q (d.l, d.lf)) (hb : ∀ i, (d.l i).length + qb d.q ≤ 1099511627776) (hs : ∀ i, ((settleD d keep).l i).length ≤ 1099511627776) : ACo Try.prog 17 [.bx 0 G 0, .sc (.int .i64 keep)] [⟨G, .obj (DiskP d)⟩] (fun y os' => y = .tu [] ∧ os' = [⟨G, .obj (DiskP (crashD d keep))⟩]) :=
  disk_obj (fun g g1 g2 g3 g4 g5 g6 g7 g8 g9 => crash_c d g g1 g2 g3 g4 g5 g6 g7 g8 g9 hq keep hk hok hb hs) G
theorem od_dark : ACo Try.prog 46 [.bx 0 G 0] [⟨G, .obj (DiskP d)⟩] (fun y os' => y = .sc (.bool d.dark) ∧ os' = [⟨G, .obj (DiskP d)⟩]) :=
  disk_obj' (fun g g1 g2 g3 g4 g5 g6 g7 g8 g9 => dark_c d g g1 g2 g3 g4 g5 g6 g7 g8 g9) G
theorem od_left (hr : 0 ≤ d.room ∧ d.room ≤ 200000) (hn : ∀ i, (d.n i).length ≤ 1099511627776) : ACo Try.prog 48 [.bx 0 G 0] [⟨G, .obj (DiskP d)⟩] (fun y os' => y = .sc (.int .i64 (leftD d)) ∧ os' = [⟨G, .obj (DiskP d)⟩]) :=
  disk_obj' (fun g g1 g2 g3 g4 g5 g6 g7 g8 g9 => left_c d g g1 g2 g3 g4 g5 g6 g7 g8 g9 hr hn) G
end
theorem od_new (room : Int) (hr : 1 ≤ room ∧ room ≤ 200000) (h : Nat) : ACo Try.prog 12 [.sc (.int .i64 room)] [⟨h, .off⟩] (fun y os' => y = .tu [.bx 0 (h + 1) 0, .sc (.int .i64 0)] ∧ os' = [⟨h + 1, .obj (DiskP (newD room))⟩]) :=
  ACo.newObj (h' := 0) rfl (by intro tk h; simp at h; rw [h]) (dnew_c room hr 0 0 0 0 0 0 0 0 0 0) fun y os' ⟨hy, hd⟩ => by
    have hd' := hd
    obtain ⟨a1, a2, a3, a4, a5, a6, a7, a8, a9, rfl⟩ := hd
    exact ⟨fun os => ∃ g, DiskAt g (newD room) os, _, _, _, hy, rfl, ⟨_, hd'⟩, rfl, rfl, rfl, rfl⟩
end Go.Proofs.Ytdgcbhihmnhnaaa
/- The disk, plain: what holds of it behind any calls. -/
namespace Go.Proofs.Ytdgcbhihmnhnaaa
set_option linter.unusedSimpArgs false
set_option linter.unusedVariables false
set_option maxRecDepth 100000
open Go.RowKit

abbrev Files := Nat → List UInt8
def tot (s : Files) : Nat := (s 0).length + (s 1).length + (s 2).length + (s 3).length
def stepF (w : DeedD) (n : Nat) (s : Files) : Files := if w.cut then upd s w.file ((s w.file).take w.size) else upd s w.file (s w.file ++ w.bytes.take n)
theorem stepL_fst (w : DeedD) (n : Nat) (s : LS) : (stepL w n s).1 = stepF w n s.1 := by unfold stepL stepF; split <;> rfl
def settleF : List DeedD → Int → Files → Files
  | [], _, s => s
  | w :: q, kp, s => if cntN w kp ≤ 0 then s else settleF q (kp - cntN w kp) (stepF w (cntN w kp).toNat s)
theorem settleL_fst : ∀ (q : List DeedD) (kp : Int) (s : LS), (settleL q kp s).1 = settleF q kp s.1
  | [], _, _ => rfl
  | w :: q, kp, s => by
    unfold settleL settleF
    split
    · rfl
    · rw [settleL_fst q, stepL_fst]
def allF : List DeedD → Files → Files
  | [], s => s
  | w :: q, s => allF q (stepF w w.count s)
def cntS : List DeedD → Nat
  | [] => 0
  | w :: q => w.count + cntS q
theorem allF_app (q : List DeedD) (w : DeedD) : ∀ s, allF (q ++ [w]) s = stepF w w.count (allF q s) := by
  induction q with
  | nil => intro s; rfl
  | cons x q ih => intro s; exact ih _
theorem cntS_app (q r : List DeedD) : cntS (q ++ r) = cntS q + cntS r := by
  induction q with
  | nil => simp [cntS]
  | cons x q ih => simp [cntS, ih]; omega
theorem qb_app (q r : List DeedD) : qb (q ++ r) = qb q + qb r := by
  induction q with
  | nil => simp [qb]
  | cons x q ih => simp [qb, ih]; omega
theorem cntS_le (q : List DeedD) : cntS q ≤ qb q + q.length := by
  induction q with
  | nil => simp [cntS]
  | cons x q ih =>
    have : x.count ≤ x.bytes.length + 1 := by unfold DeedD.count; split <;> omega
    simp [cntS, qb]; omega
def okR (room : Nat) : List DeedD → Files → Prop
  | [], s => tot s ≤ room
  | w :: q, s => tot s ≤ room ∧ w.file < 4 ∧ 0 < w.count ∧ (w.cut = true → w.size ≤ (s w.file).length) ∧ okR room q (stepF w w.count s)
theorem okR.tot {room : Nat} : ∀ {q : List DeedD} {s : Files}, okR room q s → Go.Proofs.Ytdgcbhihmnhnaaa.tot s ≤ room
  | [], _, h => h
  | _ :: _, _, h => h.1
theorem okR.all {room : Nat} : ∀ {q : List DeedD} {s : Files}, okR room q s → Go.Proofs.Ytdgcbhihmnhnaaa.tot (allF q s) ≤ room
  | [], _, h => h
  | _ :: q, _, h => okR.all (q := q) h.2.2.2.2
theorem okR.okq {room : Nat} : ∀ {q : List DeedD} {s : LS}, okR room q s.1 → Go.Proofs.Ytdgcbhihmnhnaaa.okq q s
  | [], _, _ => trivial
  | w :: q, s, h => ⟨h.2.1, h.2.2.2.1, okR.okq (by rw [stepL_fst]; exact h.2.2.2.2)⟩
theorem okR_app {room : Nat} {w : DeedD} : ∀ {q : List DeedD} {s : Files}, okR room q s → w.file < 4 → 0 < w.count → (w.cut = true → w.size ≤ (allF q s w.file).length) → Go.Proofs.Ytdgcbhihmnhnaaa.tot (stepF w w.count (allF q s)) ≤ room → okR room (q ++ [w]) s
  | [], s, h, h1, h2, h3, h4 => ⟨h, h1, h2, h3, h4⟩
  | x :: q, s, h, h1, h2, h3, h4 => ⟨h.1, h.2.1, h.2.2.1, h.2.2.2.1, okR_app (q := q) h.2.2.2.2 h1 h2 h3 h4⟩
theorem cntN_zero (w : DeedD) {kp : Int} (h : kp ≤ 0) : cntN w kp ≤ 0 := by unfold cntN; split <;> omega
theorem settleF_stop (q : List DeedD) (s : Files) {kp : Int} (h : kp ≤ 0) : settleF q kp s = s := by
  cases q with
  | nil => rfl
  | cons w q => unfold settleF; rw [if_pos (cntN_zero w h)]
theorem settleF_all {room : Nat} : ∀ {q : List DeedD} {s : Files} {kp : Int}, okR room q s → (cntS q : Int) ≤ kp → settleF q kp s = allF q s
  | [], _, _, _, _ => rfl
  | w :: q, s, kp, h, hk => by
    have hc : cntN w kp = w.count := by unfold cntN; rw [if_neg]; simp only [cntS] at hk; omega
    unfold settleF allF
    have := h.2.2.1
    rw [hc, if_neg (by omega), Int.toNat_natCast]
    exact settleF_all h.2.2.2.2 (by simp only [cntS] at hk; omega)
theorem tot_upd {s : Files} {i : Nat} (hi : i < 4) (x : List UInt8) : Go.Proofs.Ytdgcbhihmnhnaaa.tot (upd s i x) + (s i).length = Go.Proofs.Ytdgcbhihmnhnaaa.tot s + x.length := by
  unfold Go.Proofs.Ytdgcbhihmnhnaaa.tot upd
  rcases four hi with rfl | rfl | rfl | rfl <;> simp <;> omega
theorem settleF_tot {room : Nat} : ∀ {q : List DeedD} {s : Files} {kp : Int}, okR room q s → Go.Proofs.Ytdgcbhihmnhnaaa.tot (settleF q kp s) ≤ room
  | [], _, _, h => h
  | w :: q, s, kp, h => by
    unfold settleF
    split
    · exact h.1
    · rename_i h0
      rcases cntN_full (w := w) (kp := kp) (by omega) with e | e
      · rw [settleF_stop q _ e]
        have h5 := h.2.2.2.2.tot
        have h6 : Go.Proofs.Ytdgcbhihmnhnaaa.tot (stepF w (cntN w kp).toNat s) ≤ Go.Proofs.Ytdgcbhihmnhnaaa.tot (stepF w w.count s) := by
          unfold stepF
          split
          · exact Nat.le_refl _
          · rename_i hc
            have hcn : w.count = w.bytes.length := by unfold DeedD.count; rw [if_neg hc]
            have a := tot_upd (s := s) h.2.1 (s w.file ++ w.bytes.take (cntN w kp).toNat)
            have b := tot_upd (s := s) h.2.1 (s w.file ++ w.bytes.take w.count)
            simp only [List.length_append, List.length_take] at a b
            omega
        omega
      · rw [e]; exact settleF_tot h.2.2.2.2
theorem stepF_big {w : DeedD} (h : w.file < 4) {s : Files} (hs : ∀ i, 4 ≤ i → s i = []) (n : Nat) : ∀ i, 4 ≤ i → stepF w n s i = [] := by
  intro i hi
  unfold stepF upd
  split <;> (simp only; rw [if_neg (by omega)]; exact hs i hi)
theorem settleF_big {room : Nat} : ∀ {q : List DeedD} {s : Files} {kp : Int}, okR room q s → (∀ i, 4 ≤ i → s i = []) → ∀ i, 4 ≤ i → settleF q kp s i = []
  | [], _, _, _, hs => hs
  | w :: q, s, kp, h, hs => by
    unfold settleF
    split
    · exact hs
    · rename_i h0
      rcases cntN_full (w := w) (kp := kp) (by omega) with e | e
      · rw [settleF_stop q _ e]; exact stepF_big h.2.1 hs _
      · rw [e]; exact settleF_big h.2.2.2.2 (stepF_big h.2.1 hs _)
theorem len_le_tot {s : Files} (hs : ∀ i, 4 ≤ i → s i = []) (i : Nat) : (s i).length ≤ Go.Proofs.Ytdgcbhihmnhnaaa.tot s := by
  unfold Go.Proofs.Ytdgcbhihmnhnaaa.tot
  rcases Nat.lt_or_ge i 4 with h | h
  · rcases four h with rfl | rfl | rfl | rfl <;> omega
  · rw [hs i h]; simp
/-- What holds of a disk behind k calls. -/
structure DiskD.Ok (k : Nat) (d : DiskD) : Prop where
  room : 1 ≤ d.room ∧ d.room ≤ 200000
  fuse : 0 ≤ d.fuse ∧ d.fuse < 9223372036854775808
  now : d.n = allF d.q d.l
  okr : okR d.room.toNat d.q d.l
  w : d.waits = (cntS d.q : Nat)
  ql : d.q.length ≤ k
  qs : qb d.q + d.q.length ≤ 200001 * k
  big : ∀ i, 4 ≤ i → d.l i = []
section
variable {k : Nat} {d : DiskD}
theorem DiskD.Ok.nbig (h : d.Ok k) : ∀ i, 4 ≤ i → d.n i = [] := by
  rw [h.now, ← settleF_all h.okr (Int.le_refl _)]
  exact settleF_big h.okr h.big
theorem DiskD.Ok.ntot (h : d.Ok k) : Go.Proofs.Ytdgcbhihmnhnaaa.tot d.n ≤ d.room.toNat := by rw [h.now]; exact h.okr.all
theorem DiskD.Ok.nlen (h : d.Ok k) (i : Nat) : (d.n i).length ≤ 200000 := by
  have h1 := len_le_tot h.nbig i
  have h2 := h.ntot
  have := h.room
  omega
theorem DiskD.Ok.llen (h : d.Ok k) (i : Nat) : (d.l i).length ≤ 200000 := by
  have h1 := len_le_tot h.big i
  have h2 := h.okr.tot
  have := h.room
  omega
theorem DiskD.Ok.fit (h : d.Ok k) (hk : k ≤ 1000000) : d.Fit := by
  have h1 := h.qs
  have h2 := h.ql
  have h3 := cntS_le d.q
  refine ⟨by have := h.room; omega, h.fuse, fun i => by have := h.nlen i; omega, ?_, by omega⟩; rw [h.w]; omega
theorem DiskD.Ok.okq (h : d.Ok k) : Go.Proofs.Ytdgcbhihmnhnaaa.okq d.q (d.l, d.lf) := okR.okq (s := (d.l, d.lf)) h.okr
theorem DiskD.Ok.lb (h : d.Ok k) (hk : k ≤ 1000000) (i : Nat) : (d.l i).length + qb d.q ≤ 1099511627776 := by
  have := h.llen i
  have := h.qs
  omega
theorem DiskD.Ok.mono {m : Nat} (h : d.Ok k) (hk : k ≤ m) : d.Ok m := ⟨h.room, h.fuse, h.now, h.okr, h.w, Nat.le_trans h.ql hk, by have := h.qs; omega, h.big⟩
theorem DiskD.Ok.sl (h : d.Ok k) (keep : Int) : (settleD d keep).l = settleF d.q keep d.l := settleL_fst d.q keep (d.l, d.lf)
theorem DiskD.Ok.slen (h : d.Ok k) (keep : Int) (i : Nat) : ((settleD d keep).l i).length ≤ 1099511627776 := by
  rw [h.sl]
  have h1 := len_le_tot (settleF_big (kp := keep) h.okr h.big) i
  have h2 := settleF_tot (kp := keep) h.okr
  have := h.room
  omega
theorem okNew {room : Int} (hr : 1 ≤ room ∧ room ≤ 200000) : (newD room).Ok 0 := ⟨hr, ⟨Int.le_refl _, by show (0 : Int) < _; omega⟩, rfl, by show Go.Proofs.Ytdgcbhihmnhnaaa.tot (fun _ => []) ≤ _; simp [Go.Proofs.Ytdgcbhihmnhnaaa.tot], rfl, Nat.le_refl _, Nat.le_refl _, fun _ _ => rfl⟩
theorem DiskD.Ok.fuseD (h : d.Ok k) (n : Int) (hn : n < 9223372036854775808) : (Go.Proofs.Ytdgcbhihmnhnaaa.fuseD d n).Ok k := ⟨h.room, by unfold Go.Proofs.Ytdgcbhihmnhnaaa.fuseD; simp only; split <;> omega, h.now, h.okr, h.w, h.ql, h.qs, h.big⟩
theorem DiskD.Ok.burn (h : d.Ok k) (n : Int) (hn : 0 ≤ n) : (burnD d n).Ok k := by
  have hf := h.fuse
  refine ⟨h.room, ?_, h.now, h.okr, h.w, h.ql, h.qs, h.big⟩
  unfold burnD burnN
  simp only
  cases d.fused with
  | true => simp only [if_true, true_and]; split <;> omega
  | false => simpa using hf
theorem burnN_le' (h : d.Ok k) {n : Int} (hn : 0 ≤ n) : 0 ≤ burnN d n ∧ burnN d n ≤ n := by
  have := h.fuse
  unfold burnN
  split <;> omega
theorem leftD_eq (d : DiskD) : leftD d = d.room - Go.Proofs.Ytdgcbhihmnhnaaa.tot d.n := by unfold leftD Go.Proofs.Ytdgcbhihmnhnaaa.tot; omega
theorem okPush (h : d.Ok k) {i : Nat} (hi : i < 4) {x : List UInt8} (hx : 0 < x.length) (hl : Go.Proofs.Ytdgcbhihmnhnaaa.tot d.n + x.length ≤ d.room.toNat) {n : Int} (hn : n = (x.length : Nat)) : (pushD d i x n).Ok (k + 1) := by
  have hc : (DeedD.mk i false 0 x).count = x.length := rfl
  have hb : ([DeedD.mk i false 0 x] : List DeedD).length = 1 := rfl
  have hs : stepF ⟨i, false, 0, x⟩ x.length d.n = upd d.n i (d.n i ++ x) := by simp [stepF]
  have hxl : x.length ≤ 200000 := by have := h.room; omega
  refine ⟨h.room, h.fuse, ?_, ?_, ?_, ?_, ?_, h.big⟩
  · show upd d.n i (d.n i ++ x) = allF (d.q ++ [⟨i, false, 0, x⟩]) d.l
    rw [allF_app, ← h.now, hc, hs]
  · show okR d.room.toNat (d.q ++ [⟨i, false, 0, x⟩]) d.l
    refine okR_app h.okr hi (by rw [hc]; exact hx) (fun e => by cases e) ?_; rw [← h.now, hc, hs]
    have := tot_upd (s := d.n) hi (d.n i ++ x)
    simp only [List.length_append] at this
    show _ ≤ d.room.toNat
    omega
  · show d.waits + n = _
    rw [h.w, hn]
    show _ = ((cntS (d.q ++ [⟨i, false, 0, x⟩]) : Nat) : Int)
    rw [cntS_app]
    simp [cntS, hc]
  · show (d.q ++ [(⟨i, false, 0, x⟩ : DeedD)]).length ≤ _
    have := h.ql
    simp; omega
  · show qb (d.q ++ [⟨i, false, 0, x⟩]) + (d.q ++ [(⟨i, false, 0, x⟩ : DeedD)]).length ≤ _
    have := h.qs
    rw [qb_app]
    simp [qb]; omega
theorem DiskD.Ok.app (h : d.Ok k) (f : Int) (b : List UInt8) : (appDi d f b).Ok (k + 1) := by
  unfold appDi
  split
  · rename_i hf
    unfold appD
    split
    · exact h.mono (by omega)
    · split
      · exact h.mono (by omega)
      · rename_i hl
        have hb := burnN_le' h (n := b.length) (by omega)
        split
        · rename_i h0
          have hbl : (b.take (burnN d b.length).toNat).length = (burnN d b.length).toNat := by rw [List.length_take]; omega
          refine okPush (h.burn _ (by omega)) (by omega) (by omega) ?_ (by omega); rw [leftD_eq] at hl
          show Go.Proofs.Ytdgcbhihmnhnaaa.tot d.n + _ ≤ d.room.toNat
          omega
        · exact (h.burn _ (by omega)).mono (by omega)
  · exact h.mono (by omega)
theorem okCut1 (h : d.Ok k) {i n : Nat} (hi : i < 4) (hn : n ≤ (d.n i).length) : (cutD1 d i n).Ok (k + 1) := by
  have hc : (DeedD.mk i true n []).count = 1 := rfl
  have hs : ∀ m, stepF ⟨i, true, n, []⟩ m d.n = upd d.n i ((d.n i).take n) := fun m => by simp [stepF]
  refine ⟨h.room, h.fuse, ?_, ?_, ?_, ?_, ?_, h.big⟩
  · show upd d.n i ((d.n i).take n) = allF (d.q ++ [⟨i, true, n, []⟩]) d.l
    rw [allF_app, ← h.now, hs]
  · show okR d.room.toNat (d.q ++ [⟨i, true, n, []⟩]) d.l
    refine okR_app h.okr hi (by rw [hc]; omega) (fun _ => by rw [← h.now]; exact hn) ?_; rw [← h.now, hs]
    have := tot_upd (s := d.n) hi ((d.n i).take n)
    have h2 := h.ntot
    simp only [List.length_take] at this
    show _ ≤ d.room.toNat
    omega
  · show d.waits + 1 = _
    rw [h.w]
    show _ = ((cntS (d.q ++ [⟨i, true, n, []⟩]) : Nat) : Int)
    rw [cntS_app]
    simp [cntS, hc]
  · show (d.q ++ [(⟨i, true, n, []⟩ : DeedD)]).length ≤ _
    have := h.ql
    simp; omega
  · show qb (d.q ++ [⟨i, true, n, []⟩]) + (d.q ++ [(⟨i, true, n, []⟩ : DeedD)]).length ≤ _
    have := h.qs
    rw [qb_app]
    simp [qb]; omega
theorem DiskD.Ok.cut (h : d.Ok k) (f n : Int) : (cutDi d f n).Ok (k + 1) := by
  unfold cutDi
  split
  · rename_i hf
    unfold cutD
    split
    · exact h.mono (by omega)
    · rename_i hn
      split
      · exact h.mono (by omega)
      · split
        · exact (h.burn _ (by omega)).mono (by omega)
        · refine okCut1 (h.burn _ (by omega)) (by omega) ?_
          show n.toNat ≤ (d.n f.toNat).length
          omega
  · exact h.mono (by omega)
theorem okSettle (h : d.Ok k) (keep : Int) : Go.Proofs.Ytdgcbhihmnhnaaa.tot (settleD d keep).l ≤ d.room.toNat ∧ ∀ i, 4 ≤ i → (settleD d keep).l i = [] := by
  rw [h.sl]
  exact ⟨settleF_tot h.okr, settleF_big h.okr h.big⟩
theorem settle_waits (h : d.Ok k) : (settleD d d.waits).l = d.n := by
  rw [h.sl, h.w, settleF_all h.okr (Int.le_refl _), h.now]
theorem DiskD.Ok.sync (h : d.Ok k) : (syncD d).Ok k := by
  unfold syncD
  split
  · exact h
  · have hb := h.burn 1 (by omega)
    split
    · exact hb
    · have e := settle_waits hb
      have e2 : (burnD d 1).waits = d.waits := rfl
      rw [e2] at e
      refine ⟨hb.room, hb.fuse, e.symm, ?_, rfl, by simp [settleD], by simp [settleD, qb], ?_⟩
      · show Go.Proofs.Ytdgcbhihmnhnaaa.tot (settleD (burnD d 1) d.waits).l ≤ _
        rw [e]; exact hb.ntot
      · rw [e]; exact hb.nbig
theorem DiskD.Ok.crash (h : d.Ok k) (keep : Int) : (crashD d keep).Ok k := by
  obtain ⟨h1, h2⟩ := okSettle h keep
  exact ⟨h.room, ⟨Int.le_refl _, by show (0 : Int) < _; omega⟩, rfl, h1, rfl, by simp [crashD, settleD], by simp [crashD, settleD, qb], h2⟩
end
section
variable {k : Nat} {d : DiskD} (h : d.Ok k) (hk : k ≤ 1000000) (G : Nat)
include h hk
theorem ok_append (f : Int) (b : List UInt8) (hb : b.length ≤ 1099511627776) : ACo Try.prog 13 [.bx 0 G 0, .sc (.int .i64 f), .sl (byA b)] [⟨G, .obj (DiskP d)⟩] (fun y os' => y = .sc (.int .i64 (appRi d f b)) ∧ os' = [⟨G, .obj (DiskP (appDi d f b))⟩]) := od_append d G f b (h.fit hk) hb
theorem ok_read (f : Int) : ACo Try.prog 19 [.bx 0 G 0, .sc (.int .i64 f)] [⟨G, .obj (DiskP d)⟩] (fun y os' => y = readRi d f ∧ os' = [⟨G, .obj (DiskP d)⟩]) := od_read d G f (h.fit hk)
theorem ok_sync : ACo Try.prog 14 [.bx 0 G 0] [⟨G, .obj (DiskP d)⟩] (fun y os' => y = .sc (.int .i64 (syncR d)) ∧ os' = [⟨G, .obj (DiskP (syncD d))⟩]) := od_sync d G (h.fit hk) h.okq (h.lb hk)
theorem ok_crash (keep : Int) (hk' : -9223372036854775808 ≤ keep ∧ keep < 9223372036854775808) : ACo Try.prog 17 [.bx 0 G 0, .sc (.int .i64 keep)] [⟨G, .obj (DiskP d)⟩] (fun y os' => y = .tu [] ∧ os' = [⟨G, .obj (DiskP (crashD d keep))⟩]) := od_crash d G keep (h.fit hk).q hk' h.okq (h.lb hk) (h.slen keep)
theorem ok_left : ACo Try.prog 48 [.bx 0 G 0] [⟨G, .obj (DiskP d)⟩] (fun y os' => y = .sc (.int .i64 (leftD d)) ∧ os' = [⟨G, .obj (DiskP d)⟩]) := od_left d G (h.fit hk).room (h.fit hk).n
end
end Go.Proofs.Ytdgcbhihmnhnaaa
